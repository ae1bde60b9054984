import Derived.Test.YtpdcejallbbncaaProg
import Derived.Test.YtpdcejallbbncaaActW1
import Derived.Test.YtpdcejallbbncaaUmSub
namespace Go.Um
open Go.Proofs
open GoT (sz ag rdc)
open KeyT (kv)

theorem el_Bool_4_ActParts1 : ElT Try.prog Bool 4 := ⟨Try.isAgg4, Try.sizeOf4⟩
theorem el_Int_3_ActParts1 : ElT Try.prog Int 3 := ⟨Try.isAgg3, Try.sizeOf3⟩
theorem em_Int_3_ActParts1 : ElemOk Try.prog Int 3 := ⟨Try.t3, (.int .i64 0), by kernel_rfl, by kernel_rfl, by kernel_rfl, by kernel_rfl, by kernel_rfl⟩

set_option maxRecDepth 100000 in
theorem quest_L {H0 : Heap} {S : Nat → Prop}  : CallsH Try.prog 31 #[] H0 (fun rv_ H' => Ext NoB H0 H' ∧ ∃ w0_ w1_ w2_, rv_ = Value.agg #[I (questQ : Quest).Facts, w0_, w1_, w2_] ∧ Rd (fun b => S b ∧ b < H0.size) H' w0_ (questQ : Quest).First ∧ Rd (fun b => S b ∧ b < H0.size) H' w1_ (questQ : Quest).Goal ∧ Rd (fun b => S b ∧ b < H0.size) H' w2_ (questQ : Quest).Acts) := by
  have hS0 : St H0 NoB (fun b => S b ∧ b < H0.size) [] H0 := St.start (fun _ h => h.2)
  refine callsH_of_wpF (args := []) (rs := [.cell 0 25]) Try.func31 rfl Try.ntmps31 Try.results31 (by kernel_rfl) (Nat.le_of_ble_eq_true rfl) ?_
  generalize argF [] = f0 at *
  refine wpF_seq ?_
  refine wpF_cut (fun f H => ∃ (g1 : Nat), f 0 = PT g1 0 ∧ St H0 NoB (fun b => S b ∧ b < H0.size) [blkE g1 (.cells #[I (0), (Value.slice none 0 0), (Value.slice none 0 0), (Value.slice none 0 0)] 25)] H) ?_ ?_
  · refine wpF_region ?_
    refine wpL_o rfl ?_
    refine e_alloc rfl Try.zeroValue25 hS0 (fun g1 H2 hS3 hxx => ?_)
    replace hS3 : St H0 NoB (fun b => S b ∧ b < H0.size) [blkE g1 (.cells #[I (0), (Value.slice none 0 0), (Value.slice none 0 0), (Value.slice none 0 0)] 25)] H2 := hS3
    exact ⟨g1, rfl, hS3⟩
  rintro f4 H4 ⟨g1, a4_0, hS4⟩
  refine wpF_seq ?_
  refine wpF_cut (fun f H => ∃ (v5 : Value), ∃ (v12 : Value), f 0 = PT g1 0 ∧ St H0 NoB (fun b => S b ∧ b < H0.size) [blkE g1 (.cells #[I (1), (Value.slice none 0 0), v5, v12] 25), rowE 37 v12 ([(Act.mk ([]) ([]) ([0]) ([]))] : List Act), rowE 3 v5 ([0] : List Int)] H) ?_ ?_
  · refine wpF_region ?_
    refine wpL_o rfl ?_
    refine e_buildSlice (vs := [I (0)]) (xs := ([0] : List Int)) rfl Try.underlying22 Try.zeroValue3 rfl Try.sizeOf3 (par1 (v0 := I (0)) rfl) rfl hS4 (RdVs.cons (Rd.int.2 ⟨rfl, by constructor <;> omega⟩) (RdVs.nil)) (by decide) (by decide) (fun v5 H6 hS7 hxx hvv5 => ?_)
    replace hS7 : St H0 NoB (fun b => S b ∧ b < H0.size) [rowE 3 v5 ([0] : List Int), blkE g1 (.cells #[I (0), (Value.slice none 0 0), (Value.slice none 0 0), (Value.slice none 0 0)] 25)] H6 := hS7
    refine wpL_o rfl ?_
    refine e_buildSlice (vs := [I (0)]) (xs := ([0] : List Int)) rfl Try.underlying22 Try.zeroValue3 rfl Try.sizeOf3 (par1 (v0 := I (0)) rfl) rfl hS7 (RdVs.cons (Rd.int.2 ⟨rfl, by constructor <;> omega⟩) (RdVs.nil)) (by decide) (by decide) (fun v8 H9 hS10 hxx hvv8 => ?_)
    replace hS10 : St H0 NoB (fun b => S b ∧ b < H0.size) [rowE 3 v8 ([0] : List Int), rowE 3 v5 ([0] : List Int), blkE g1 (.cells #[I (0), (Value.slice none 0 0), (Value.slice none 0 0), (Value.slice none 0 0)] 25)] H9 := hS10
    refine wpL_q (U := NoB) rfl (q_build (v := Value.agg #[(Value.slice none 0 0), (Value.slice none 0 0), v8, (Value.slice none 0 0)]) rfl (par1 (v0 := v8) rfl) ((hS10.rowl 0 rfl).slc (fun zz0 => ∀ w, (Instr.build 37 #[(2, zz0)]).run Try.prog w = .ok (Value.agg #[(Value.slice none 0 0), (Value.slice none 0 0), zz0, (Value.slice none 0 0)]) w) (fun a0 n0 c0 => (fun w => by kernel_rfl)))) ?_
    have hS11 : St H0 NoB (fun b => S b ∧ b < H0.size) [rdE v8 ([0] : List Int), rowE 3 v5 ([0] : List Int), blkE g1 (.cells #[I (0), (Value.slice none 0 0), (Value.slice none 0 0), (Value.slice none 0 0)] 25)] H9 := St.fin hS10
    refine wpL_o rfl ?_
    refine e_buildSlice (vs := [Value.agg #[(Value.slice none 0 0), (Value.slice none 0 0), v8, (Value.slice none 0 0)]]) (xs := ([(Act.mk ([]) ([]) ([0]) ([]))] : List Act)) rfl Try.underlying23 Try.zeroValue37 rfl Try.sizeOf37 (par1 (v0 := Value.agg #[(Value.slice none 0 0), (Value.slice none 0 0), v8, (Value.slice none 0 0)]) rfl) rfl hS11 (RdVs.cons (Rd.act.2 ⟨_, _, _, _, rfl, rdNil, rdNil, (hS11.rdS 0 rfl), rdNil⟩) (RdVs.nil)) (by decide) (by decide) (fun v12 H13 hS14 hxx hvv12 => ?_)
    replace hS14 : St H0 NoB (fun b => S b ∧ b < H0.size) [rowE 37 v12 ([(Act.mk ([]) ([]) ([0]) ([]))] : List Act), rdE v8 ([0] : List Int), rowE 3 v5 ([0] : List Int), blkE g1 (.cells #[I (0), (Value.slice none 0 0), (Value.slice none 0 0), (Value.slice none 0 0)] 25)] H13 := hS14
    refine wpL_q (U := NoB) rfl (q_build (v := Value.agg #[I (1), (Value.slice none 0 0), v5, v12]) rfl (par3 (v0 := I (1)) (v1 := v5) (v2 := v12) rfl rfl rfl) ((hS14.rowl 2 rfl).slc (fun zz0 => ∀ w, (Instr.build 25 #[(0, I (1)), (2, zz0), (3, v12)]).run Try.prog w = .ok (Value.agg #[I (1), (Value.slice none 0 0), zz0, v12]) w) (fun a0 n0 c0 => ((hS14.rowl 0 rfl).slc (fun zz1 => ∀ w, (Instr.build 25 #[(0, I (1)), (2, (.slice a0 n0 c0)), (3, zz1)]).run Try.prog w = .ok (Value.agg #[I (1), (Value.slice none 0 0), (.slice a0 n0 c0), zz1]) w) (fun a1 n1 c1 => (fun w => by kernel_rfl)))))) ?_
    refine wpL_o rfl ?_
    refine e_storeBlkA (cs' := #[I (1), (Value.slice none 0 0), v5, v12]) rfl a4_0 rfl Try.sizeOf25 rfl rfl (List.forall_mem_cons.2 ⟨rfl, List.forall_mem_cons.2 ⟨rfl, List.forall_mem_cons.2 ⟨(oneCell_rdL (hS14.rowl 2 rfl)), List.forall_mem_cons.2 ⟨(oneCell_rdL (hS14.rowl 0 rfl)), List.forall_mem_nil _⟩⟩⟩⟩) (hS14.front 3 rfl) (fun H15 hS16 hxx => ?_)
    replace hS16 : St H0 NoB (fun b => S b ∧ b < H0.size) [blkE g1 (.cells #[I (1), (Value.slice none 0 0), v5, v12] 25), rowE 37 v12 ([(Act.mk ([]) ([]) ([0]) ([]))] : List Act), rdE v8 ([0] : List Int), rowE 3 v5 ([0] : List Int)] H15 := hS16
    exact ⟨v5, v12, a4_0, (hS16.drop (sk (sk (sn (sk (List.Sublist.slnil))))))⟩
  rintro f17 H17 ⟨v5, v12, a17_0, hS17⟩
  clear a4_0
  refine wpF_ret ?_
  refine ⟨_, resC a17_0 (loadV_blkA Try.isAgg25 Try.sizeOf25 rfl (hS17.blk 0 rfl)) (resN), hS17.frame, ?_⟩
  show ∃ w0_ w1_ w2_, (Value.agg #[I (1), (Value.slice none 0 0), v5, v12]) = Value.agg #[I (questQ : Quest).Facts, w0_, w1_, w2_] ∧ Rd (fun b => S b ∧ b < H0.size) H17 w0_ (questQ : Quest).First ∧ Rd (fun b => S b ∧ b < H0.size) H17 w1_ (questQ : Quest).Goal ∧ Rd (fun b => S b ∧ b < H0.size) H17 w2_ (questQ : Quest).Acts
  have hS18 : St H0 NoB (fun b => S b ∧ b < H0.size) [rdE v5 ([0] : List Int), blkE g1 (.cells #[I (1), (Value.slice none 0 0), v5, v12] 25), rowE 37 v12 ([(Act.mk ([]) ([]) ([0]) ([]))] : List Act)] H17 := St.fin (hS17.front 2 rfl)
  have hS19 : St H0 NoB (fun b => S b ∧ b < H0.size) [rdE v12 ([(Act.mk ([]) ([]) ([0]) ([]))] : List Act), rdE v5 ([0] : List Int), blkE g1 (.cells #[I (1), (Value.slice none 0 0), v5, v12] 25)] H17 := St.fin (hS18.front 2 rfl)
  exact ⟨(Value.slice none 0 0), v5, v12, rfl, rdNil, (hS19.result (hS19.rdS 1 rfl)), (hS19.result (hS19.rdS 0 rfl))⟩

set_option maxRecDepth 100000 in
theorem actFact {H0 : Heap}   : CallsH Try.prog 22 #[] H0 (fun rv_ H' => Ext NoB H0 H' ∧ rv_ = B true) := by
  have h6qq : In64 questQ.Facts := by decide
  have hS0 : St H0 NoB NoB [] H0 := St.start (fun _ h => h.elim)
  refine callsH_of_wpF (args := []) (rs := [.tmp 0]) Try.func22 rfl Try.ntmps22 Try.results22 (by kernel_rfl) (Nat.le_of_ble_eq_true rfl) ?_
  generalize argF [] = f0 at *
  refine wpF_seq ?_
  refine wpF_cut (fun f H => H0 = H) ?_ ?_
  · refine wpF_region ?_
    refine wpL_q (U := NoB) rfl (q_assign (v := B (false)) rfl rfl) ?_
    exact rfl
  rintro f1 _ rfl
  refine wpF_seq ?_
  refine wpF_cut (fun f H => ∃ (r12 : Value), ∃ (g16 : Nat), f 1 = r12 ∧ f 2 = B (walkOk questQ ([0])) ∧ f 3 = PT g16 0 ∧ St H0 NoB NoB [blkE g16 (.cells #[I (((walkFault questQ ([0]))).1), I (((walkFault questQ ([0]))).2)] 27), rdE r12 (walkNow questQ ([0]))] H) ?_ ?_
  · refine wpF_region ?_
    refine wpL_o rfl ?_
    refine e_call rfl Try.call31 arr0 (quest_L (S := SL NoB [])) ?_
    rintro _ H5 ⟨hxx, r2, r3, r4, rfl, hrr2, hrr3, hrr4⟩
    have hS6 : St H0 NoB NoB [rdE r2 questQ.First, rdE r3 questQ.Goal, rdE r4 questQ.Acts] H5 := ((((hS0.ext hxx).rd (hrr4.sub fun b hb => ⟨hb, SL.lt hS0 hb⟩)).rd (hrr3.sub fun b hb => ⟨(SL_rd hb), SL.lt hS0 (SL_rd hb)⟩)).rd (hrr2.sub fun b hb => ⟨(SL_rd (SL_rd hb)), SL.lt hS0 (SL_rd (SL_rd hb))⟩))
    refine wpL_o rfl ?_
    refine e_buildSlice (vs := [I (0)]) (xs := ([0] : List Int)) rfl Try.underlying22 Try.zeroValue3 rfl Try.sizeOf3 (par1 (v0 := I (0)) rfl) rfl hS6 (RdVs.cons (Rd.int.2 ⟨rfl, by constructor <;> omega⟩) (RdVs.nil)) (by decide) (by decide) (fun v8 H9 hS10 hxx hvv8 => ?_)
    replace hS10 : St H0 NoB NoB [rowE 3 v8 ([0] : List Int), rdE r2 questQ.First, rdE r3 questQ.Goal, rdE r4 questQ.Acts] H9 := hS10
    have hS11 : St H0 NoB NoB [rdE v8 ([0] : List Int), rdE r2 questQ.First, rdE r3 questQ.Goal, rdE r4 questQ.Acts] H9 := St.fin hS10
    refine wpL_o rfl ?_
    refine e_call rfl Try.call14 (arr2 (v0 := Value.agg #[I (questQ.Facts), r2, r3, r4]) (v1 := v8) rfl rfl) (Walk_L r2 r3 r4 v8 questQ ([0]) (by first | assumption | (constructor <;> omega)) (hS11.rdS 1 rfl) (hS11.rdS 2 rfl) (hS11.rdS 3 rfl) (hS11.rdS 0 rfl) ) ?_
    rintro _ H13 ⟨hxx, r12, rfl, hrr12⟩
    have hS14 : St H0 NoB NoB [rdE r12 (walkNow questQ ([0])), rdE v8 ([0] : List Int), rdE r2 questQ.First, rdE r3 questQ.Goal, rdE r4 questQ.Acts] H13 := hS11.res hxx hrr12
    refine wpL_q (U := NoB) rfl (q_move (v := Value.tuple #[r12, B (walkOk questQ ([0])), Value.agg #[I (((walkFault questQ ([0]))).1), I (((walkFault questQ ([0]))).2)]]) rfl rfl) ?_
    refine wpL_q (U := NoB) rfl (q_extract (vs := #[r12, B (walkOk questQ ([0])), Value.agg #[I (((walkFault questQ ([0]))).1), I (((walkFault questQ ([0]))).2)]]) (v := r12) rfl rfl rfl) ?_
    refine wpL_q (U := NoB) rfl (q_extract (vs := #[r12, B (walkOk questQ ([0])), Value.agg #[I (((walkFault questQ ([0]))).1), I (((walkFault questQ ([0]))).2)]]) (v := B (walkOk questQ ([0]))) rfl rfl rfl) ?_
    refine wpL_q (U := NoB) rfl (q_extract (vs := #[r12, B (walkOk questQ ([0])), Value.agg #[I (((walkFault questQ ([0]))).1), I (((walkFault questQ ([0]))).2)]]) (v := Value.agg #[I (((walkFault questQ ([0]))).1), I (((walkFault questQ ([0]))).2)]) rfl rfl rfl) ?_
    refine wpL_o rfl ?_
    refine e_alloc rfl Try.zeroValue27 hS14 (fun g16 H17 hS18 hxx => ?_)
    replace hS18 : St H0 NoB NoB [blkE g16 (.cells #[I (0), I (0)] 27), rdE r12 (walkNow questQ ([0])), rdE v8 ([0] : List Int), rdE r2 questQ.First, rdE r3 questQ.Goal, rdE r4 questQ.Acts] H17 := hS18
    refine wpL_q (U := NoB) rfl (q_assign (v := r12) rfl rfl) ?_
    refine wpL_q (U := NoB) rfl (q_assign (v := B (walkOk questQ ([0]))) rfl rfl) ?_
    refine wpL_o rfl ?_
    refine e_storeBlkA (cs' := #[I (((walkFault questQ ([0]))).1), I (((walkFault questQ ([0]))).2)]) rfl rfl rfl Try.sizeOf27 rfl rfl (List.forall_mem_cons.2 ⟨rfl, List.forall_mem_cons.2 ⟨rfl, List.forall_mem_nil _⟩⟩) hS18 (fun H19 hS20 hxx => ?_)
    replace hS20 : St H0 NoB NoB [blkE g16 (.cells #[I (((walkFault questQ ([0]))).1), I (((walkFault questQ ([0]))).2)] 27), rdE r12 (walkNow questQ ([0])), rdE v8 ([0] : List Int), rdE r2 questQ.First, rdE r3 questQ.Goal, rdE r4 questQ.Acts] H19 := hS20
    exact ⟨r12, g16, rfl, rfl, rfl, (hS20.drop (sk (sk (sn (sn (sn (sn (List.Sublist.slnil))))))))⟩
  rintro f21 H21 ⟨r12, g16, a21_1, a21_2, a21_3, hS21⟩
  refine wpF_seq ?_
  refine wpF_cut (fun f H => ∃ (g32 : Nat), f 1 = r12 ∧ f 2 = B (walkOk questQ ([0])) ∧ f 3 = PT g16 0 ∧ f 5 = B (walkOk questQ []) ∧ f 6 = PT g32 0 ∧ St H0 NoB NoB [blkE g32 (.cells #[I (((walkFault questQ [])).1), I (((walkFault questQ [])).2)] 27), blkE g16 (.cells #[I (((walkFault questQ ([0]))).1), I (((walkFault questQ ([0]))).2)] 27), rdE r12 (walkNow questQ ([0]))] H) ?_ ?_
  · refine wpF_region ?_
    refine wpL_o rfl ?_
    refine e_call rfl Try.call31 arr0 (quest_L (S := SL NoB [blkE g16 (.cells #[I (((walkFault questQ ([0]))).1), I (((walkFault questQ ([0]))).2)] 27), rdE r12 (walkNow questQ ([0]))])) ?_
    rintro _ H25 ⟨hxx, r22, r23, r24, rfl, hrr22, hrr23, hrr24⟩
    have hS26 : St H0 NoB NoB [rdE r22 questQ.First, rdE r23 questQ.Goal, rdE r24 questQ.Acts, blkE g16 (.cells #[I (((walkFault questQ ([0]))).1), I (((walkFault questQ ([0]))).2)] 27), rdE r12 (walkNow questQ ([0]))] H25 := ((((hS21.ext hxx).rd (hrr24.sub fun b hb => ⟨hb, SL.lt hS21 hb⟩)).rd (hrr23.sub fun b hb => ⟨(SL_rd hb), SL.lt hS21 (SL_rd hb)⟩)).rd (hrr22.sub fun b hb => ⟨(SL_rd (SL_rd hb)), SL.lt hS21 (SL_rd (SL_rd hb))⟩))
    refine wpL_o rfl ?_
    refine e_call rfl Try.call14 (arr2 (v0 := Value.agg #[I (questQ.Facts), r22, r23, r24]) (v1 := (Value.slice none 0 0)) rfl rfl) (Walk_L r22 r23 r24 ((Value.slice none 0 0)) questQ [] (by first | assumption | (constructor <;> omega)) (hS26.rdS 0 rfl) (hS26.rdS 1 rfl) (hS26.rdS 2 rfl) rdNil ) ?_
    rintro _ H29 ⟨hxx, r28, rfl, hrr28⟩
    have hS30 : St H0 NoB NoB [rdE r28 (walkNow questQ [] : List Bool), rdE r22 questQ.First, rdE r23 questQ.Goal, rdE r24 questQ.Acts, blkE g16 (.cells #[I (((walkFault questQ ([0]))).1), I (((walkFault questQ ([0]))).2)] 27), rdE r12 (walkNow questQ ([0]))] H29 := hS26.res hxx hrr28
    refine wpL_q (U := NoB) rfl (q_move (v := Value.tuple #[r28, B (walkOk questQ []), Value.agg #[I (((walkFault questQ [])).1), I (((walkFault questQ [])).2)]]) rfl rfl) ?_
    refine wpL_q (U := NoB) rfl (q_extract (vs := #[r28, B (walkOk questQ []), Value.agg #[I (((walkFault questQ [])).1), I (((walkFault questQ [])).2)]]) (v := r28) rfl rfl rfl) ?_
    refine wpL_q (U := NoB) rfl (q_extract (vs := #[r28, B (walkOk questQ []), Value.agg #[I (((walkFault questQ [])).1), I (((walkFault questQ [])).2)]]) (v := B (walkOk questQ [])) rfl rfl rfl) ?_
    refine wpL_q (U := NoB) rfl (q_extract (vs := #[r28, B (walkOk questQ []), Value.agg #[I (((walkFault questQ [])).1), I (((walkFault questQ [])).2)]]) (v := Value.agg #[I (((walkFault questQ [])).1), I (((walkFault questQ [])).2)]) rfl rfl rfl) ?_
    refine wpL_o rfl ?_
    refine e_alloc rfl Try.zeroValue27 hS30 (fun g32 H33 hS34 hxx => ?_)
    replace hS34 : St H0 NoB NoB [blkE g32 (.cells #[I (0), I (0)] 27), rdE r28 (walkNow questQ [] : List Bool), rdE r22 questQ.First, rdE r23 questQ.Goal, rdE r24 questQ.Acts, blkE g16 (.cells #[I (((walkFault questQ ([0]))).1), I (((walkFault questQ ([0]))).2)] 27), rdE r12 (walkNow questQ ([0]))] H33 := hS34
    refine wpL_q (U := NoB) rfl (q_assign (v := r28) rfl rfl) ?_
    refine wpL_q (U := NoB) rfl (q_assign (v := B (walkOk questQ [])) rfl rfl) ?_
    refine wpL_o rfl ?_
    refine e_storeBlkA (cs' := #[I (((walkFault questQ [])).1), I (((walkFault questQ [])).2)]) rfl rfl rfl Try.sizeOf27 rfl rfl (List.forall_mem_cons.2 ⟨rfl, List.forall_mem_cons.2 ⟨rfl, List.forall_mem_nil _⟩⟩) hS34 (fun H35 hS36 hxx => ?_)
    replace hS36 : St H0 NoB NoB [blkE g32 (.cells #[I (((walkFault questQ [])).1), I (((walkFault questQ [])).2)] 27), rdE r28 (walkNow questQ [] : List Bool), rdE r22 questQ.First, rdE r23 questQ.Goal, rdE r24 questQ.Acts, blkE g16 (.cells #[I (((walkFault questQ ([0]))).1), I (((walkFault questQ ([0]))).2)] 27), rdE r12 (walkNow questQ ([0]))] H35 := hS36
    exact ⟨g32, a21_1, a21_2, a21_3, rfl, rfl, (hS36.drop (sk (sn (sn (sn (sn (sk (sk (List.Sublist.slnil)))))))))⟩
  rintro f37 H37 ⟨g32, a37_1, a37_2, a37_3, a37_5, a37_6, hS37⟩
  clear a21_1 a21_2 a21_3
  refine wpF_seq ?_
  refine wpF_cut (fun f H => f 0 = B (decide ((((((((walkFault questQ ([0]))).1) = 0) ∧ ((((walkFault questQ [])).1) = 0)) ∧ ((walkOk questQ ([0])) = true)) ∧ ((!(walkOk questQ [])) = true)) ∧ ((walkNow questQ ([0])) = ([true])))) ∧ St H0 NoB NoB [blkE g32 (.cells #[I (((walkFault questQ [])).1), I (((walkFault questQ [])).2)] 27), blkE g16 (.cells #[I (((walkFault questQ ([0]))).1), I (((walkFault questQ ([0]))).2)] 27)] H) ?_ ?_
  · refine wpF_region ?_
    refine wpL_q (U := NoB) rfl (q_fieldAddr rfl Try.underlying27 rfl Try.sizeOf3 a37_3) ?_
    refine wpL_q (U := NoB) rfl (q_loadBlk rfl rfl Try.isAgg3 (hS37.blk 1 rfl) rfl (fun h => h)) ?_
    refine wpL_q (U := NoB) rfl (q_eql rfl rfl rfl) ?_
    refine wpL_q (U := NoB) rfl (q_move (v := B (decide ((((walkFault questQ ([0]))).1) = 0))) rfl rfl) ?_
    by_cases hg38 : (((walkFault questQ ([0]))).1) = 0
    · have hb39 := Eq.trans rfl (congrArg B (decide_eq_true hg38))
      refine wpL_gq (U := NoB) rfl rfl rfl hb39 (q_fieldAddr rfl Try.underlying27 rfl Try.sizeOf3 a37_6) ?_
      refine wpL_gq (U := NoB) rfl rfl rfl hb39 (q_loadBlk rfl rfl Try.isAgg3 (hS37.blk 0 rfl) rfl (fun h => h)) ?_
      refine wpL_gq (U := NoB) rfl rfl rfl hb39 (q_eql rfl rfl rfl) ?_
      refine wpL_q (U := NoB) rfl (q_pickT (v := B (decide ((((walkFault questQ [])).1) = 0))) rfl hb39 rfl) ?_
      refine wpL_q (U := NoB) rfl (q_move (v := B (decide ((((walkFault questQ [])).1) = 0))) rfl rfl) ?_
      by_cases hg41 : (((walkFault questQ [])).1) = 0
      · have hb42 := Eq.trans rfl (congrArg B (decide_eq_true hg41))
        refine wpL_gq (U := NoB) rfl rfl rfl hb42 (q_move (v := B (walkOk questQ ([0]))) rfl a37_2) ?_
        refine wpL_q (U := NoB) rfl (q_pickT (v := B (walkOk questQ ([0]))) rfl hb42 rfl) ?_
        refine wpL_q (U := NoB) rfl (q_move (v := B (walkOk questQ ([0]))) rfl rfl) ?_
        by_cases hg44 : (walkOk questQ ([0])) = true
        · have hb45 := Eq.trans rfl (congrArg B hg44)
          refine wpL_gq (U := NoB) rfl rfl rfl hb45 (q_move (v := B (walkOk questQ [])) rfl a37_5) ?_
          refine wpL_gq (U := NoB) rfl rfl rfl hb45 (q_not rfl rfl) ?_
          refine wpL_q (U := NoB) rfl (q_pickT (v := B (!(walkOk questQ []))) rfl hb45 rfl) ?_
          refine wpL_q (U := NoB) rfl (q_move (v := B (!(walkOk questQ []))) rfl rfl) ?_
          by_cases hg47 : (!(walkOk questQ [])) = true
          · have hb48 := Eq.trans rfl (congrArg B hg47)
            refine wpL_gq (U := NoB) rfl rfl rfl hb48 (q_move (v := r12) rfl a37_1) ?_
            refine wpL_go rfl rfl rfl hb48 ?_
            refine e_buildSlice (vs := [B (true)]) (xs := ([true] : List Bool)) rfl Try.underlying29 Try.zeroValue4 rfl Try.sizeOf4 (par1 (v0 := B (true)) rfl) rfl hS37 (RdVs.cons (Rd.bool.2 rfl) (RdVs.nil)) (by decide) (by decide) (fun v50 H51 hS52 hxx hvv50 => ?_)
            replace hS52 : St H0 NoB NoB [rowE 4 v50 ([true] : List Bool), blkE g32 (.cells #[I (((walkFault questQ [])).1), I (((walkFault questQ [])).2)] 27), blkE g16 (.cells #[I (((walkFault questQ ([0]))).1), I (((walkFault questQ ([0]))).2)] 27), rdE r12 (walkNow questQ ([0]))] H51 := hS52
            refine wpL_go rfl rfl rfl hb48 ?_
            refine e_call rfl Try.call20 (arr2 (v0 := r12) (v1 := v50) rfl rfl) (bools_L r12 v50 _ _ (hS52.rdN 3 rfl) (hS52.rowN 0 rfl)) ?_
            rintro _ H53 ⟨hxx, rfl⟩
            have hS54 : St H0 NoB NoB [rowE 4 v50 ([true] : List Bool), blkE g32 (.cells #[I (((walkFault questQ [])).1), I (((walkFault questQ [])).2)] 27), blkE g16 (.cells #[I (((walkFault questQ ([0]))).1), I (((walkFault questQ ([0]))).2)] 27), rdE r12 (walkNow questQ ([0]))] H53 := hS52.ext hxx
            refine wpL_q (U := NoB) rfl (q_pickT (v := B (decide ((walkNow questQ ([0])) = ([true])))) rfl hb48 rfl) ?_
            refine wpL_q (U := NoB) rfl (q_assign (v := B (decide ((walkNow questQ ([0])) = ([true])))) rfl rfl) ?_
            exact ⟨(Eq.trans rfl (congrArg B (decide_congr_of ((Iff.rfl).trans (((and_iff_right ⟨⟨⟨hg38, hg41⟩, hg44⟩, hg47⟩).trans Iff.rfl)).symm)))), (hS54.drop (sn (sk (sk (sn (List.Sublist.slnil))))))⟩
          · have hb49 := Eq.trans rfl (congrArg B (Bool.eq_false_iff.2 hg47))
            refine wpL_gs rfl rfl rfl hb49 rfl ?_
            refine wpL_gs rfl rfl rfl hb49 rfl ?_
            refine wpL_gs rfl rfl rfl hb49 rfl ?_
            refine wpL_q (U := NoB) rfl (q_pickF (v := B (false)) rfl hb49 rfl) ?_
            refine wpL_q (U := NoB) rfl (q_assign (v := B (false)) rfl rfl) ?_
            exact ⟨(Eq.trans rfl (congrArg B ((decide_eq_false (fun h => (fun h => hg47 h.2) h.1)).symm))), (hS37.drop (sk (sk (sn (List.Sublist.slnil)))))⟩
        · have hb46 := Eq.trans rfl (congrArg B (Bool.eq_false_iff.2 hg44))
          refine wpL_gs rfl rfl rfl hb46 rfl ?_
          refine wpL_gs rfl rfl rfl hb46 rfl ?_
          refine wpL_q (U := NoB) rfl (q_pickF (v := B (false)) rfl hb46 rfl) ?_
          refine wpL_q (U := NoB) rfl (q_move (v := B (false)) rfl rfl) ?_
          refine wpL_gs rfl rfl rfl rfl rfl ?_
          refine wpL_gs rfl rfl rfl rfl rfl ?_
          refine wpL_gs rfl rfl rfl rfl rfl ?_
          refine wpL_q (U := NoB) rfl (q_pickF (v := B (false)) rfl rfl rfl) ?_
          refine wpL_q (U := NoB) rfl (q_assign (v := B (false)) rfl rfl) ?_
          exact ⟨(Eq.trans rfl (congrArg B ((decide_eq_false (fun h => (fun h => (fun h => hg44 h.2) h.1) h.1)).symm))), (hS37.drop (sk (sk (sn (List.Sublist.slnil)))))⟩
      · have hb43 := Eq.trans rfl (congrArg B (decide_eq_false hg41))
        refine wpL_gs rfl rfl rfl hb43 rfl ?_
        refine wpL_q (U := NoB) rfl (q_pickF (v := B (false)) rfl hb43 rfl) ?_
        refine wpL_q (U := NoB) rfl (q_move (v := B (false)) rfl rfl) ?_
        refine wpL_gs rfl rfl rfl rfl rfl ?_
        refine wpL_gs rfl rfl rfl rfl rfl ?_
        refine wpL_q (U := NoB) rfl (q_pickF (v := B (false)) rfl rfl rfl) ?_
        refine wpL_q (U := NoB) rfl (q_move (v := B (false)) rfl rfl) ?_
        refine wpL_gs rfl rfl rfl rfl rfl ?_
        refine wpL_gs rfl rfl rfl rfl rfl ?_
        refine wpL_gs rfl rfl rfl rfl rfl ?_
        refine wpL_q (U := NoB) rfl (q_pickF (v := B (false)) rfl rfl rfl) ?_
        refine wpL_q (U := NoB) rfl (q_assign (v := B (false)) rfl rfl) ?_
        exact ⟨(Eq.trans rfl (congrArg B ((decide_eq_false (fun h => (fun h => (fun h => (fun h => hg41 h.2) h.1) h.1) h.1)).symm))), (hS37.drop (sk (sk (sn (List.Sublist.slnil)))))⟩
    · have hb40 := Eq.trans rfl (congrArg B (decide_eq_false hg38))
      refine wpL_gs rfl rfl rfl hb40 rfl ?_
      refine wpL_gs rfl rfl rfl hb40 rfl ?_
      refine wpL_gs rfl rfl rfl hb40 rfl ?_
      refine wpL_q (U := NoB) rfl (q_pickF (v := B (false)) rfl hb40 rfl) ?_
      refine wpL_q (U := NoB) rfl (q_move (v := B (false)) rfl rfl) ?_
      refine wpL_gs rfl rfl rfl rfl rfl ?_
      refine wpL_q (U := NoB) rfl (q_pickF (v := B (false)) rfl rfl rfl) ?_
      refine wpL_q (U := NoB) rfl (q_move (v := B (false)) rfl rfl) ?_
      refine wpL_gs rfl rfl rfl rfl rfl ?_
      refine wpL_gs rfl rfl rfl rfl rfl ?_
      refine wpL_q (U := NoB) rfl (q_pickF (v := B (false)) rfl rfl rfl) ?_
      refine wpL_q (U := NoB) rfl (q_move (v := B (false)) rfl rfl) ?_
      refine wpL_gs rfl rfl rfl rfl rfl ?_
      refine wpL_gs rfl rfl rfl rfl rfl ?_
      refine wpL_gs rfl rfl rfl rfl rfl ?_
      refine wpL_q (U := NoB) rfl (q_pickF (v := B (false)) rfl rfl rfl) ?_
      refine wpL_q (U := NoB) rfl (q_assign (v := B (false)) rfl rfl) ?_
      exact ⟨(Eq.trans rfl (congrArg B ((decide_eq_false (fun h => (fun h => (fun h => (fun h => hg38 h.1) h.1) h.1) h.1)).symm))), (hS37.drop (sk (sk (sn (List.Sublist.slnil)))))⟩
  rintro f56 H56 ⟨a56_0, hS56⟩
  clear a37_1 a37_2 a37_3 a37_5 a37_6
  refine wpF_ret ?_
  refine ⟨_, resT a56_0 resN, hS56.frame, ?_⟩
  show (B (decide ((((((((walkFault questQ ([0]))).1) = 0) ∧ ((((walkFault questQ [])).1) = 0)) ∧ ((walkOk questQ ([0])) = true)) ∧ ((!(walkOk questQ [])) = true)) ∧ ((walkNow questQ ([0])) = ([true]))))) = B true
  exact congrArg B (decide_eq_true (by rw [questQ_1.1, questQ_1.2.1, questQ_1.2.2, questQ_2.1, questQ_2.2]; decide))

set_option maxHeartbeats 1000000 in
set_option maxRecDepth 100000 in
theorem ActParts_L {H0 : Heap} (vf vg va vl : Value) (q : Quest) (plan : List Int) (n : Int) (h6qFacts : In64 q.Facts) (rvf : Rd NoB H0 vf q.First) (rvg : Rd NoB H0 vg q.Goal) (rva : Rd NoB H0 va q.Acts) (rl : Rd NoB H0 vl plan) : CallsH Try.prog 4 #[Value.agg #[I (q.Facts), vf, vg, va], vl, I (n)] H0 (fun rv_ H' => Ext NoB H0 H' ∧ rv_ = B true) := by
  have hsl := (Rd.list.1 rl).small
  have hsa := (Rd.list.1 rva).small
  have hS0 : St H0 NoB NoB [rdE vf q.First, rdE vg q.Goal, rdE va q.Acts, rdE vl plan] H0 := St.arg (St.arg (St.arg (St.arg (St.start (fun _ h => h.elim)) (Bl0.nil) rl (fun _ h => h)) (Bl0.cons (Bl0.nil)) rva (fun _ h => h)) (Bl0.cons (Bl0.cons (Bl0.nil))) rvg (fun _ h => h)) (Bl0.cons (Bl0.cons (Bl0.cons (Bl0.nil)))) rvf (fun _ h => h)
  refine callsH_of_wpF (args := [Value.agg #[I (q.Facts), vf, vg, va], vl, I (n)]) (rs := [.tmp 6]) Try.func4 rfl Try.ntmps4 Try.results4 (by kernel_rfl) (Nat.le_of_ble_eq_true rfl) ?_
  have a0_0 : argF [Value.agg #[I (q.Facts), vf, vg, va], vl, I (n)] 0 = Value.agg #[I (q.Facts), vf, vg, va] := rfl
  have a0_1 : argF [Value.agg #[I (q.Facts), vf, vg, va], vl, I (n)] 1 = vl := rfl
  have a0_2 : argF [Value.agg #[I (q.Facts), vf, vg, va], vl, I (n)] 2 = I (n) := rfl
  generalize argF [Value.agg #[I (q.Facts), vf, vg, va], vl, I (n)] = f0 at *
  refine wpF_seq ?_
  refine wpF_cut (fun f H => ∃ (g1 : Nat), f 1 = vl ∧ f 2 = I (n) ∧ f 3 = PT g1 0 ∧ St H0 NoB NoB [blkE g1 (.cells #[I (q.Facts), vf, vg, va] 25), rdE vf q.First, rdE vg q.Goal, rdE va q.Acts, rdE vl plan] H) ?_ ?_
  · refine wpF_region ?_
    refine wpL_o rfl ?_
    refine e_box (v := Value.agg #[I (q.Facts), vf, vg, va]) rfl a0_0 hS0 (fun g1 H2 hS3 hxx => ?_)
    replace hS3 : St H0 NoB NoB [blkE g1 (.cells #[I (q.Facts), vf, vg, va] 25), rdE vf q.First, rdE vg q.Goal, rdE va q.Acts, rdE vl plan] H2 := hS3
    refine wpL_q (U := NoB) rfl (q_assign (v := B (false)) rfl rfl) ?_
    exact ⟨g1, a0_1, a0_2, rfl, hS3⟩
  rintro f4 H4 ⟨g1, a4_1, a4_2, a4_3, hS4⟩
  clear a0_0 a0_1 a0_2
  refine wpF_seq ?_
  refine wpF_cut (fun f H => f 1 = vl ∧ f 2 = I (n) ∧ f 3 = PT g1 0 ∧ f 7 = B (true) ∧ St H0 NoB NoB [blkE g1 (.cells #[I (q.Facts), vf, vg, va] 25), rdE vf q.First, rdE vg q.Goal, rdE va q.Acts, rdE vl plan] H) ?_ ?_
  · refine wpF_region ?_
    refine wpL_o rfl ?_
    refine e_call rfl Try.call22 arr0 (actFact) ?_
    rintro _ H5 ⟨hxx, rfl⟩
    have hS6 : St H0 NoB NoB [blkE g1 (.cells #[I (q.Facts), vf, vg, va] 25), rdE vf q.First, rdE vg q.Goal, rdE va q.Acts, rdE vl plan] H5 := hS4.ext hxx
    refine wpL_q (U := NoB) rfl (q_assign (v := B (true)) rfl rfl) ?_
    exact ⟨a4_1, a4_2, a4_3, rfl, hS6⟩
  rintro f8 H8 ⟨a8_1, a8_2, a8_3, a8_7, hS8⟩
  clear a4_1 a4_2 a4_3
  refine wpF_seq ?_
  refine wpF_seq ?_
  refine wpF_cut (fun f H => f 1 = vl ∧ f 2 = I (n) ∧ f 3 = PT g1 0 ∧ f 19 = B (false) ∧ H8 = H) ?_ ?_
  · refine wpF_region ?_
    refine wpL_q (U := NoB) rfl (q_move (v := B (true)) rfl a8_7) ?_
    refine wpL_q (U := NoB) rfl (q_not rfl rfl) ?_
    exact ⟨a8_1, a8_2, a8_3, rfl, rfl⟩
  rintro f9 _ ⟨a9_1, a9_2, a9_3, a9_19, rfl⟩
  clear a8_1 a8_2 a8_3 a8_7
  refine wpF_condF a9_19 ?_
  refine wpF_skip ?_
  refine wpF_seq ?_
  refine wpF_cut (fun f H => ∃ (r10 : Value), ∃ (g14 : Nat), f 1 = vl ∧ f 2 = I (n) ∧ f 3 = PT g1 0 ∧ f 8 = r10 ∧ f 9 = B (walkOk q plan) ∧ f 10 = PT g14 0 ∧ St H0 NoB NoB [blkE g14 (.cells #[I (((walkFault q plan)).1), I (((walkFault q plan)).2)] 27), rdE r10 (walkNow q plan), blkE g1 (.cells #[I (q.Facts), vf, vg, va] 25), rdE vf q.First, rdE vg q.Goal, rdE va q.Acts, rdE vl plan] H) ?_ ?_
  · refine wpF_region ?_
    refine wpL_q (U := NoB) rfl (q_loadBlkA rfl a9_3 Try.isAgg25 Try.sizeOf25 rfl (hS8.blk 0 rfl) (fun h => h)) ?_
    refine wpL_q (U := NoB) rfl (q_move (v := vl) rfl a9_1) ?_
    refine wpL_o rfl ?_
    refine e_call rfl Try.call14 (arr2 (v0 := Value.agg #[I (q.Facts), vf, vg, va]) (v1 := vl) rfl rfl) (Walk_L vf vg va vl q plan (by first | assumption | (constructor <;> omega)) (hS8.rdS 1 rfl) (hS8.rdS 2 rfl) (hS8.rdS 3 rfl) (hS8.rdS 4 rfl) ) ?_
    rintro _ H11 ⟨hxx, r10, rfl, hrr10⟩
    have hS12 : St H0 NoB NoB [rdE r10 (walkNow q plan), blkE g1 (.cells #[I (q.Facts), vf, vg, va] 25), rdE vf q.First, rdE vg q.Goal, rdE va q.Acts, rdE vl plan] H11 := hS8.res hxx hrr10
    refine wpL_q (U := NoB) rfl (q_move (v := Value.tuple #[r10, B (walkOk q plan), Value.agg #[I (((walkFault q plan)).1), I (((walkFault q plan)).2)]]) rfl rfl) ?_
    refine wpL_q (U := NoB) rfl (q_extract (vs := #[r10, B (walkOk q plan), Value.agg #[I (((walkFault q plan)).1), I (((walkFault q plan)).2)]]) (v := r10) rfl rfl rfl) ?_
    refine wpL_q (U := NoB) rfl (q_extract (vs := #[r10, B (walkOk q plan), Value.agg #[I (((walkFault q plan)).1), I (((walkFault q plan)).2)]]) (v := B (walkOk q plan)) rfl rfl rfl) ?_
    refine wpL_q (U := NoB) rfl (q_extract (vs := #[r10, B (walkOk q plan), Value.agg #[I (((walkFault q plan)).1), I (((walkFault q plan)).2)]]) (v := Value.agg #[I (((walkFault q plan)).1), I (((walkFault q plan)).2)]) rfl rfl rfl) ?_
    refine wpL_o rfl ?_
    refine e_alloc rfl Try.zeroValue27 hS12 (fun g14 H15 hS16 hxx => ?_)
    replace hS16 : St H0 NoB NoB [blkE g14 (.cells #[I (0), I (0)] 27), rdE r10 (walkNow q plan), blkE g1 (.cells #[I (q.Facts), vf, vg, va] 25), rdE vf q.First, rdE vg q.Goal, rdE va q.Acts, rdE vl plan] H15 := hS16
    refine wpL_q (U := NoB) rfl (q_assign (v := r10) rfl rfl) ?_
    refine wpL_q (U := NoB) rfl (q_assign (v := B (walkOk q plan)) rfl rfl) ?_
    refine wpL_o rfl ?_
    refine e_storeBlkA (cs' := #[I (((walkFault q plan)).1), I (((walkFault q plan)).2)]) rfl rfl rfl Try.sizeOf27 rfl rfl (List.forall_mem_cons.2 ⟨rfl, List.forall_mem_cons.2 ⟨rfl, List.forall_mem_nil _⟩⟩) hS16 (fun H17 hS18 hxx => ?_)
    replace hS18 : St H0 NoB NoB [blkE g14 (.cells #[I (((walkFault q plan)).1), I (((walkFault q plan)).2)] 27), rdE r10 (walkNow q plan), blkE g1 (.cells #[I (q.Facts), vf, vg, va] 25), rdE vf q.First, rdE vg q.Goal, rdE va q.Acts, rdE vl plan] H17 := hS18
    exact ⟨r10, g14, a9_1, a9_2, a9_3, rfl, rfl, rfl, hS18⟩
  rintro f19 H19 ⟨r10, g14, a19_1, a19_2, a19_3, a19_8, a19_9, a19_10, hS19⟩
  clear a9_1 a9_19 a9_2 a9_3
  refine wpF_seq ?_
  refine wpF_seq ?_
  refine wpF_cut (fun f H => f 1 = vl ∧ f 2 = I (n) ∧ f 3 = PT g1 0 ∧ f 8 = r10 ∧ f 9 = B (walkOk q plan) ∧ f 10 = PT g14 0 ∧ f 36 = B (decide (((((walkFault q plan)).1) ≠ 0) ∨ (¬ (0 ≤ n ∧ n ≤ (plan.length : Int))))) ∧ St H0 NoB NoB [blkE g14 (.cells #[I (((walkFault q plan)).1), I (((walkFault q plan)).2)] 27), rdE r10 (walkNow q plan), blkE g1 (.cells #[I (q.Facts), vf, vg, va] 25), rdE vf q.First, rdE vg q.Goal, rdE va q.Acts, rdE vl plan] H) ?_ ?_
  · refine wpF_region ?_
    refine wpL_q (U := NoB) rfl (q_fieldAddr rfl Try.underlying27 rfl Try.sizeOf3 a19_10) ?_
    refine wpL_q (U := NoB) rfl (q_loadBlk rfl rfl Try.isAgg3 (hS19.blk 0 rfl) rfl (fun h => h)) ?_
    refine wpL_q (U := NoB) rfl (q_neq rfl rfl rfl) ?_
    refine wpL_q (U := NoB) rfl (q_move (v := B (decide ((((walkFault q plan)).1) ≠ 0))) rfl rfl) ?_
    by_cases hg20 : (((walkFault q plan)).1) ≠ 0
    · have hb21 := Eq.trans rfl (congrArg B (decide_eq_true hg20))
      refine wpL_gs rfl rfl rfl hb21 rfl ?_
      refine wpL_gs rfl rfl rfl hb21 rfl ?_
      refine wpL_gs rfl rfl rfl hb21 rfl ?_
      refine wpL_gs rfl rfl rfl hb21 rfl ?_
      refine wpL_gs rfl rfl rfl hb21 rfl ?_
      refine wpL_q (U := NoB) rfl (q_pickT (v := B (true)) rfl hb21 rfl) ?_
      exact ⟨a19_1, a19_2, a19_3, a19_8, a19_9, a19_10, (Eq.trans rfl (congrArg B ((decide_eq_true (Or.inl hg20)).symm))), hS19⟩
    · have hb22 := Eq.trans rfl (congrArg B (decide_eq_false hg20))
      refine wpL_gq (U := NoB) rfl rfl rfl hb22 (q_move (v := I (n)) rfl a19_2) ?_
      refine wpL_gq (U := NoB) rfl rfl rfl hb22 (q_move (v := vl) rfl a19_1) ?_
      refine wpL_gq (U := NoB) rfl rfl rfl hb22 (q_lenRd rfl Try.underlying22 rfl (hS19.rdl 6 rfl)) ?_
      refine wpL_go rfl rfl rfl hb22 ?_
      refine e_call rfl Try.call17 (arr3 (v0 := I (n)) (v1 := I (0)) (v2 := I ((plan.length : Int))) rfl rfl rfl) (in_L n 0 (plan.length : Int)) ?_
      rintro _ H23 ⟨hxx, rfl⟩
      have hS24 : St H0 NoB NoB [blkE g14 (.cells #[I (((walkFault q plan)).1), I (((walkFault q plan)).2)] 27), rdE r10 (walkNow q plan), blkE g1 (.cells #[I (q.Facts), vf, vg, va] 25), rdE vf q.First, rdE vg q.Goal, rdE va q.Acts, rdE vl plan] H23 := hS19.ext hxx
      refine wpL_gq (U := NoB) rfl rfl rfl hb22 (q_notP rfl rfl) ?_
      refine wpL_q (U := NoB) rfl (q_pickF (v := B (decide (¬ (0 ≤ n ∧ n ≤ (plan.length : Int))))) rfl hb22 rfl) ?_
      exact ⟨a19_1, a19_2, a19_3, a19_8, a19_9, a19_10, (Eq.trans rfl (congrArg B (decide_congr_of (((not_congr Iff.rfl)).trans (((or_iff_right hg20).trans (not_congr Iff.rfl))).symm)))), hS24⟩
  rintro f26 H26 ⟨a26_1, a26_2, a26_3, a26_8, a26_9, a26_10, a26_36, hS26⟩
  clear a19_1 a19_10 a19_2 a19_3 a19_8 a19_9
  refine wpF_condP a26_36 (fun hout => ?t77) (fun hout => ?e77)
  case t77 =>
    refine wpF_seq ?_
    refine wpF_cut (fun f H => f 6 = B (decide (((((walkFault q plan)).1) = 0) ∨ (((walkNow q plan).length : Int) = 0))) ∧ H26 = H) ?_ ?_
    · refine wpF_region ?_
      refine wpL_q (U := NoB) rfl (q_fieldAddr rfl Try.underlying27 rfl Try.sizeOf3 a26_10) ?_
      refine wpL_q (U := NoB) rfl (q_loadBlk rfl rfl Try.isAgg3 (hS26.blk 0 rfl) rfl (fun h => h)) ?_
      refine wpL_q (U := NoB) rfl (q_eql rfl rfl rfl) ?_
      refine wpL_q (U := NoB) rfl (q_move (v := B (decide ((((walkFault q plan)).1) = 0))) rfl rfl) ?_
      by_cases hg28 : (((walkFault q plan)).1) = 0
      · have hb29 := Eq.trans rfl (congrArg B (decide_eq_true hg28))
        refine wpL_gs rfl rfl rfl hb29 rfl ?_
        refine wpL_gs rfl rfl rfl hb29 rfl ?_
        refine wpL_gs rfl rfl rfl hb29 rfl ?_
        refine wpL_q (U := NoB) rfl (q_pickT (v := B (true)) rfl hb29 rfl) ?_
        refine wpL_q (U := NoB) rfl (q_assign (v := B (true)) rfl rfl) ?_
        exact ⟨(Eq.trans rfl (congrArg B ((decide_eq_true (Or.inl hg28)).symm))), rfl⟩
      · have hb30 := Eq.trans rfl (congrArg B (decide_eq_false hg28))
        refine wpL_gq (U := NoB) rfl rfl rfl hb30 (q_move (v := r10) rfl a26_8) ?_
        refine wpL_gq (U := NoB) rfl rfl rfl hb30 (q_lenRd rfl Try.underlying29 rfl (hS26.rdl 1 rfl)) ?_
        refine wpL_gq (U := NoB) rfl rfl rfl hb30 (q_eql rfl rfl rfl) ?_
        refine wpL_q (U := NoB) rfl (q_pickF (v := B (decide (((walkNow q plan).length : Int) = 0))) rfl hb30 rfl) ?_
        refine wpL_q (U := NoB) rfl (q_assign (v := B (decide (((walkNow q plan).length : Int) = 0))) rfl rfl) ?_
        exact ⟨(Eq.trans rfl (congrArg B (decide_congr_of ((Iff.rfl).trans (((or_iff_right hg28).trans Iff.rfl)).symm)))), rfl⟩
    rintro f31 _ ⟨a31_6, rfl⟩
    clear a26_1 a26_10 a26_2 a26_3 a26_36 a26_8 a26_9
    refine wpF_ret ?_
    refine ⟨_, resT a31_6 resN, hS26.frame, ?_⟩
    show (B (decide (((((walkFault q plan)).1) = 0) ∨ (((walkNow q plan).length : Int) = 0)))) = B true
    by_cases hz : (walkFault q plan).1 = 0
    · exact congrArg B (decide_eq_true (.inl hz))
    · exact congrArg B (decide_eq_true (.inr (by rw [(walk_bad hz).1]; rfl)))
  have hz : (walkFault q plan).1 = 0 := Decidable.of_not_not fun h => hout (.inl h)
  have hn0 : 0 ≤ n ∧ n ≤ (plan.length : Int) := Decidable.of_not_not fun h => hout (.inr h)
  have hpf := parts_first (n := n.toNat) hz
  have hpr := parts_rest (n := n.toNat) hz
  have hQf := (walkFault_zero hz).1.facts
  refine wpF_skip ?_
  refine wpF_seq ?_
  refine wpF_cut (fun f H => ∃ (r32o4 : Value), f 1 = vl ∧ f 2 = I (n) ∧ f 3 = PT g1 0 ∧ f 8 = r10 ∧ f 9 = B (walkOk q plan) ∧ f 10 = PT g14 0 ∧ f 11 = r32o4 ∧ St H0 NoB NoB [blkE g14 (.cells #[I (((walkFault q (plan.take ((n).toNat)))).1), I (((walkFault q (plan.take ((n).toNat)))).2)] 27), rdE r32o4 (walkNow q (plan.take ((n).toNat))), rdE r10 (walkNow q plan), blkE g1 (.cells #[I (q.Facts), vf, vg, va] 25), rdE vf q.First, rdE vg q.Goal, rdE va q.Acts, rdE vl plan] H) ?_ ?_
  · refine wpF_drawn [none, none, none, none, none, none, none, none, none, none, none, some 0] [[], [], [], [], [], [], [], [], [], [], [], []] (fun l b => match l with | 0 => True | _ => False) (by kernel_rfl) (by kernel_rfl) ?_
    refine wpR_q 0 (by kernel_rfl) rfl (quietAt rfl rfl (q_loadBlkA rfl a26_3 Try.isAgg25 Try.sizeOf25 rfl (hS26.blk 2 rfl) (labU_not [] rfl (List.forall_mem_nil _)))) ?_
    refine wpR_q 1 (by kernel_rfl) rfl (quietAt rfl rfl (q_move (v := vl) rfl a26_1)) ?_
    refine wpR_q 2 (by kernel_rfl) rfl (quietAt rfl rfl (q_move (v := I (n)) rfl a26_2)) ?_
    have hS32o3 : St H0 NoB NoB [rdE (sliceV 1 vl 0 ((n).toNat)) (plan.take ((n).toNat) : List Int), blkE g14 (.cells #[I (((walkFault q plan)).1), I (((walkFault q plan)).2)] 27), rdE r10 (walkNow q plan), blkE g1 (.cells #[I (q.Facts), vf, vg, va] 25), rdE vf q.First, rdE vg q.Goal, rdE va q.Acts, rdE vl plan] H26 := hS26.rd (Rd.list.2 (sliceV_hi (m := (n).toNat) (Rd.list.1 (hS26.rdS 6 rfl)) (by omega)))
    refine wpR_q 3 (by kernel_rfl) rfl (quietAt rfl rfl (q_sliceRd (k := 0) (m := (n).toNat) rfl Try.underlying22 el_Int_3_ActParts1 rfl (hS26.rdl 6 rfl) lo0 (lo1 rfl (by omega)) (by omega) (by omega))) ?_
    refine wpR_n [4] (by kernel_rfl) ?_
    refine List.forall_mem_cons.2 ⟨?_, List.forall_mem_nil _⟩
    refine exE rfl rfl ?_
    refine e_call rfl Try.call14 (arr2 (v0 := Value.agg #[I (q.Facts), vf, vg, va]) (v1 := (sliceV 1 vl 0 ((n).toNat))) rfl rfl) (Walk_L vf vg va ((sliceV 1 vl 0 ((n).toNat))) q (plan.take ((n).toNat)) (by first | assumption | (constructor <;> omega)) (hS32o3.rdS 4 rfl) (hS32o3.rdS 5 rfl) (hS32o3.rdS 6 rfl) (hS32o3.rdS 0 rfl) ) ?_
    rintro _ H32o4 ⟨hxx, r32o4, rfl, hrr32o4⟩
    have hS32o4 : St H0 NoB NoB [rdE r32o4 (walkNow q (plan.take ((n).toNat))), rdE (sliceV 1 vl 0 ((n).toNat)) (plan.take ((n).toNat) : List Int), blkE g14 (.cells #[I (((walkFault q plan)).1), I (((walkFault q plan)).2)] 27), rdE r10 (walkNow q plan), blkE g1 (.cells #[I (q.Facts), vf, vg, va] 25), rdE vf q.First, rdE vg q.Goal, rdE va q.Acts, rdE vl plan] H32o4 := hS32o3.res hxx hrr32o4
    refine ⟨Ext.mono hxx (fun _ h => h.elim), ?_⟩
    refine wpR_q 5 (by kernel_rfl) rfl (quietAt rfl rfl (q_move (v := Value.tuple #[r32o4, B (walkOk q (plan.take ((n).toNat))), Value.agg #[I (((walkFault q (plan.take ((n).toNat)))).1), I (((walkFault q (plan.take ((n).toNat)))).2)]]) rfl rfl)) ?_
    refine wpR_q 6 (by kernel_rfl) rfl (quietAt rfl rfl (q_extract (vs := #[r32o4, B (walkOk q (plan.take ((n).toNat))), Value.agg #[I (((walkFault q (plan.take ((n).toNat)))).1), I (((walkFault q (plan.take ((n).toNat)))).2)]]) (v := r32o4) rfl rfl rfl)) ?_
    refine wpR_q 7 (by kernel_rfl) rfl (quietAt rfl rfl (q_extract (vs := #[r32o4, B (walkOk q (plan.take ((n).toNat))), Value.agg #[I (((walkFault q (plan.take ((n).toNat)))).1), I (((walkFault q (plan.take ((n).toNat)))).2)]]) (v := B (walkOk q (plan.take ((n).toNat)))) rfl rfl rfl)) ?_
    refine wpR_q 8 (by kernel_rfl) rfl (quietAt rfl rfl (q_extract (vs := #[r32o4, B (walkOk q (plan.take ((n).toNat))), Value.agg #[I (((walkFault q (plan.take ((n).toNat)))).1), I (((walkFault q (plan.take ((n).toNat)))).2)]]) (v := Value.agg #[I (((walkFault q (plan.take ((n).toNat)))).1), I (((walkFault q (plan.take ((n).toNat)))).2)]) rfl rfl rfl)) ?_
    refine wpR_q 9 (by kernel_rfl) rfl (quietAt rfl rfl (q_assign (v := r32o4) rfl rfl)) ?_
    refine wpR_q 10 (by kernel_rfl) rfl (quietAt rfl rfl (q_assign (v := B (walkOk q (plan.take ((n).toNat)))) rfl rfl)) ?_
    refine wpR_n [11] (by kernel_rfl) ?_
    refine List.forall_mem_cons.2 ⟨?_, List.forall_mem_nil _⟩
    refine exE rfl rfl ?_
    refine e_storeBlkA (cs' := #[I (((walkFault q (plan.take ((n).toNat)))).1), I (((walkFault q (plan.take ((n).toNat)))).2)]) rfl a26_10 rfl Try.sizeOf27 rfl rfl (List.forall_mem_cons.2 ⟨rfl, List.forall_mem_cons.2 ⟨rfl, List.forall_mem_nil _⟩⟩) (hS32o4.front 2 rfl) (fun H32o11 hS32o11 hxx => ?_)
    replace hS32o11 : St H0 NoB NoB [blkE g14 (.cells #[I (((walkFault q (plan.take ((n).toNat)))).1), I (((walkFault q (plan.take ((n).toNat)))).2)] 27), rdE r32o4 (walkNow q (plan.take ((n).toNat))), rdE (sliceV 1 vl 0 ((n).toNat)) (plan.take ((n).toNat) : List Int), rdE r10 (walkNow q plan), blkE g1 (.cells #[I (q.Facts), vf, vg, va] 25), rdE vf q.First, rdE vg q.Goal, rdE va q.Acts, rdE vl plan] H32o11 := hS32o11
    refine ⟨Ext.mono hxx (labS_of 0 rfl (fun _ _ => trivial)), ?_⟩
    refine wpR_end (by kernel_rfl) ?_
    exact ⟨r32o4, a26_1, a26_2, a26_3, a26_8, a26_9, a26_10, rfl, (hS32o11.drop (sk (sk (sn (sk (sk (sk (sk (sk (sk (List.Sublist.slnil)))))))))))⟩
  rintro f33 H33 ⟨r32o4, a33_1, a33_2, a33_3, a33_8, a33_9, a33_10, a33_11, hS33⟩
  clear a26_1 a26_10 a26_2 a26_3 a26_36 a26_8 a26_9
  refine wpF_seq ?_
  refine wpF_seq ?_
  refine wpF_cut (fun f H => f 1 = vl ∧ f 2 = I (n) ∧ f 3 = PT g1 0 ∧ f 8 = r10 ∧ f 9 = B (walkOk q plan) ∧ f 10 = PT g14 0 ∧ f 11 = r32o4 ∧ f 63 = B (decide (((((walkFault q (plan.take ((n).toNat)))).1) ≠ 0) ∨ (((walkNow q (plan.take ((n).toNat))).length : Int) ≠ q.Facts))) ∧ H33 = H) ?_ ?_
  · refine wpF_region ?_
    refine wpL_q (U := NoB) rfl (q_fieldAddr rfl Try.underlying27 rfl Try.sizeOf3 a33_10) ?_
    refine wpL_q (U := NoB) rfl (q_loadBlk rfl rfl Try.isAgg3 (hS33.blk 0 rfl) rfl (fun h => h)) ?_
    refine wpL_q (U := NoB) rfl (q_neq rfl rfl rfl) ?_
    refine wpL_q (U := NoB) rfl (q_move (v := B (decide ((((walkFault q (plan.take ((n).toNat)))).1) ≠ 0))) rfl rfl) ?_
    by_cases hg34 : (((walkFault q (plan.take ((n).toNat)))).1) ≠ 0
    · have hb35 := Eq.trans rfl (congrArg B (decide_eq_true hg34))
      refine wpL_gs rfl rfl rfl hb35 rfl ?_
      refine wpL_gs rfl rfl rfl hb35 rfl ?_
      refine wpL_gs rfl rfl rfl hb35 rfl ?_
      refine wpL_gs rfl rfl rfl hb35 rfl ?_
      refine wpL_gs rfl rfl rfl hb35 rfl ?_
      refine wpL_q (U := NoB) rfl (q_pickT (v := B (true)) rfl hb35 rfl) ?_
      exact ⟨a33_1, a33_2, a33_3, a33_8, a33_9, a33_10, a33_11, (Eq.trans rfl (congrArg B ((decide_eq_true (Or.inl hg34)).symm))), rfl⟩
    · have hb36 := Eq.trans rfl (congrArg B (decide_eq_false hg34))
      refine wpL_gq (U := NoB) rfl rfl rfl hb36 (q_move (v := r32o4) rfl a33_11) ?_
      refine wpL_gq (U := NoB) rfl rfl rfl hb36 (q_lenRd rfl Try.underlying29 rfl (hS33.rdl 1 rfl)) ?_
      refine wpL_gq (U := NoB) rfl rfl rfl hb36 (q_fieldAddr rfl Try.underlying25 rfl Try.sizeOf3 a33_3) ?_
      refine wpL_gq (U := NoB) rfl rfl rfl hb36 (q_loadBlk rfl rfl Try.isAgg3 (hS33.blk 3 rfl) rfl (fun h => h)) ?_
      refine wpL_gq (U := NoB) rfl rfl rfl hb36 (q_neq rfl rfl rfl) ?_
      refine wpL_q (U := NoB) rfl (q_pickF (v := B (decide (((walkNow q (plan.take ((n).toNat))).length : Int) ≠ q.Facts))) rfl hb36 rfl) ?_
      exact ⟨a33_1, a33_2, a33_3, a33_8, a33_9, a33_10, a33_11, (Eq.trans rfl (congrArg B (decide_congr_of ((Iff.rfl).trans (((or_iff_right hg34).trans Iff.rfl)).symm)))), rfl⟩
  rintro f37 _ ⟨a37_1, a37_2, a37_3, a37_8, a37_9, a37_10, a37_11, a37_63, rfl⟩
  clear a33_1 a33_10 a33_11 a33_2 a33_3 a33_8 a33_9
  refine wpF_condP a37_63 (fun hmid => ?t76) (fun hmid => ?e76)
  case t76 =>
    refine wpF_seq ?_
    refine wpF_cut (fun f H => f 6 = B (false) ∧ H33 = H) ?_ ?_
    · refine wpF_region ?_
      refine wpL_q (U := NoB) rfl (q_assign (v := B (false)) rfl rfl) ?_
      exact ⟨rfl, rfl⟩
    rintro f39 _ ⟨a39_6, rfl⟩
    clear a37_1 a37_10 a37_11 a37_2 a37_3 a37_63 a37_8 a37_9
    refine wpF_ret ?_
    refine ⟨_, resT a39_6 resN, hS33.frame, ?_⟩
    show (B (false)) = B true
    exfalso
    omega
  refine wpF_skip ?_
  refine wpF_seq ?_
  refine wpF_cut (fun f H => f 1 = vl ∧ f 2 = I (n) ∧ f 3 = PT g1 0 ∧ f 8 = r10 ∧ f 9 = B (walkOk q plan) ∧ f 10 = PT g14 0 ∧ f 11 = r32o4 ∧ f 13 = (Value.slice none 0 0) ∧ H33 = H) ?_ ?_
  · refine wpF_region ?_
    refine wpL_q (U := NoB) rfl (q_assign (v := (Value.slice none 0 0)) rfl rfl) ?_
    exact ⟨a37_1, a37_2, a37_3, a37_8, a37_9, a37_10, a37_11, rfl, rfl⟩
  rintro f40 _ ⟨a40_1, a40_2, a40_3, a40_8, a40_9, a40_10, a40_11, a40_13, rfl⟩
  clear a37_1 a37_10 a37_11 a37_2 a37_3 a37_63 a37_8 a37_9
  have hS41 : St H0 NoB NoB [rowE 3 (Value.slice none 0 0) ([] : List Int), blkE g14 (.cells #[I (((walkFault q (plan.take ((n).toNat)))).1), I (((walkFault q (plan.take ((n).toNat)))).2)] 27), rdE r32o4 (walkNow q (plan.take ((n).toNat))), rdE r10 (walkNow q plan), blkE g1 (.cells #[I (q.Facts), vf, vg, va] 25), rdE vf q.First, rdE vg q.Goal, rdE va q.Acts, rdE vl plan] H33 := hS33.row0 3
  refine wpF_seq ?_
  refine wpF_seq ?_
  refine wpF_cut (fun f H => f 1 = vl ∧ f 2 = I (n) ∧ f 3 = PT g1 0 ∧ f 8 = r10 ∧ f 9 = B (walkOk q plan) ∧ f 10 = PT g14 0 ∧ f 11 = r32o4 ∧ f 13 = (Value.slice none 0 0) ∧ f 14 = I (0) ∧ H33 = H) ?_ ?_
  · refine wpF_region ?_
    refine wpL_q (U := NoB) rfl (q_assign (v := I (0)) rfl rfl) ?_
    exact ⟨a40_1, a40_2, a40_3, a40_8, a40_9, a40_10, a40_11, a40_13, rfl, rfl⟩
  rintro f42 _ ⟨a42_1, a42_2, a42_3, a42_8, a42_9, a42_10, a42_11, a42_13, a42_14, rfl⟩
  clear a40_1 a40_10 a40_11 a40_13 a40_2 a40_3 a40_8 a40_9
  refine wpF_block ?_
  refine wpF_loop (fun mz f H => ∃ (i : Nat), ∃ (vo : Value), ∃ (fs : List Int), mz = (walkNow q (plan.take n.toNat)).length - i ∧ (i ≤ (walkNow q (plan.take n.toNat)).length) ∧ (fs = idxTo (walkNow q (plan.take n.toNat)) i) ∧ f 1 = vl ∧ f 2 = I (n) ∧ f 3 = PT g1 0 ∧ f 8 = r10 ∧ f 9 = B (walkOk q plan) ∧ f 10 = PT g14 0 ∧ f 11 = r32o4 ∧ f 13 = vo ∧ f 14 = I ((i : Int)) ∧ St H0 NoB NoB [rowE 3 vo (fs : List Int), blkE g14 (.cells #[I (((walkFault q (plan.take ((n).toNat)))).1), I (((walkFault q (plan.take ((n).toNat)))).2)] 27), rdE r32o4 (walkNow q (plan.take ((n).toNat))), rdE r10 (walkNow q plan), blkE g1 (.cells #[I (q.Facts), vf, vg, va] 25), rdE vf q.First, rdE vg q.Goal, rdE va q.Acts, rdE vl plan] H) ((walkNow q (plan.take n.toNat)).length - 0) ?_ ?_
  · exact ⟨0, (Value.slice none 0 0), [], rfl, Nat.zero_le _, rfl, a42_1, a42_2, a42_3, a42_8, a42_9, a42_10, a42_11, a42_13, (Eq.trans a42_14 (congrArg I (by omega))), (show St H0 NoB NoB [rowE 3 (Value.slice none 0 0) (([]) : List Int), blkE g14 (.cells #[I (((walkFault q (plan.take ((n).toNat)))).1), I (((walkFault q (plan.take ((n).toNat)))).2)] 27), rdE r32o4 (walkNow q (plan.take ((n).toNat))), rdE r10 (walkNow q plan), blkE g1 (.cells #[I (q.Facts), vf, vg, va] 25), rdE vf q.First, rdE vg q.Goal, rdE va q.Acts, rdE vl plan] H33 from hS41)⟩
  intro m43 f43 H43 hI43
  obtain ⟨i, vo, fs, hm43, hi, hfs, a43_1, a43_2, a43_3, a43_8, a43_9, a43_10, a43_11, a43_13, a43_14, hS43⟩ := hI43
  clear a42_1 a42_10 a42_11 a42_13 a42_14 a42_2 a42_3 a42_8 a42_9
  refine wpF_seq ?_
  refine wpF_seq ?_
  refine wpF_cut (fun f H => f 1 = vl ∧ f 2 = I (n) ∧ f 3 = PT g1 0 ∧ f 8 = r10 ∧ f 9 = B (walkOk q plan) ∧ f 10 = PT g14 0 ∧ f 11 = r32o4 ∧ f 13 = vo ∧ f 14 = I ((i : Int)) ∧ f 67 = B (decide ((i : Int) < ((walkNow q (plan.take ((n).toNat))).length : Int))) ∧ H43 = H) ?_ ?_
  · refine wpF_region ?_
    refine wpL_q (U := NoB) rfl (q_move (v := I ((i : Int))) rfl a43_14) ?_
    refine wpL_q (U := NoB) rfl (q_move (v := r32o4) rfl a43_11) ?_
    refine wpL_q (U := NoB) rfl (q_lenRd rfl Try.underlying29 rfl (hS43.rdl 2 rfl)) ?_
    refine wpL_q (U := NoB) rfl (q_lss rfl rfl rfl) ?_
    exact ⟨a43_1, a43_2, a43_3, a43_8, a43_9, a43_10, a43_11, a43_13, a43_14, rfl, rfl⟩
  rintro f44 _ ⟨a44_1, a44_2, a44_3, a44_8, a44_9, a44_10, a44_11, a44_13, a44_14, a44_67, rfl⟩
  clear a43_1 a43_10 a43_11 a43_13 a43_14 a43_2 a43_3 a43_8 a43_9
  refine wpF_condP a44_67 (fun hlt => ?t75) (fun hlt => ?e75)
  case t75 =>
    refine wpF_skip ?_
    refine wpF_seq ?_
    refine wpF_block ?_
    refine wpF_seq ?_
    refine wpF_cut (fun f H => f 1 = vl ∧ f 2 = I (n) ∧ f 3 = PT g1 0 ∧ f 8 = r10 ∧ f 9 = B (walkOk q plan) ∧ f 10 = PT g14 0 ∧ f 11 = r32o4 ∧ f 13 = vo ∧ f 14 = I ((i : Int)) ∧ f 73 = B (nth (walkNow q (plan.take ((n).toNat))) i) ∧ H43 = H) ?_ ?_
    · refine wpF_region ?_
      refine wpL_q (U := NoB) rfl (q_move (v := r32o4) rfl a44_11) ?_
      refine wpL_q (U := NoB) rfl (q_move (v := I ((i : Int))) rfl a44_14) ?_
      refine wpL_q (U := NoB) rfl (q_indexRd (k := i) rfl Try.underlying29 el_Bool_4_ActParts1 rfl rfl (hS43.rdl 2 rfl) (by omega) (by omega)) ?_
      refine wpL_q (U := NoB) rfl (q_loadBool (k := i) rfl rfl el_Bool_4_ActParts1 (hS43.rdl 2 rfl) (by omega) (fun _ h => h)) ?_
      exact ⟨a44_1, a44_2, a44_3, a44_8, a44_9, a44_10, a44_11, a44_13, a44_14, rfl, rfl⟩
    rintro f46 _ ⟨a46_1, a46_2, a46_3, a46_8, a46_9, a46_10, a46_11, a46_13, a46_14, a46_73, rfl⟩
    clear a44_1 a44_10 a44_11 a44_13 a44_14 a44_2 a44_3 a44_67 a44_8 a44_9
    refine wpF_cut (fun f H => ∃ (vN : Value), ∃ (fN : List Int), (fN = idxTo (walkNow q (plan.take n.toNat)) (i + 1)) ∧ f 1 = vl ∧ f 2 = I (n) ∧ f 3 = PT g1 0 ∧ f 8 = r10 ∧ f 9 = B (walkOk q plan) ∧ f 10 = PT g14 0 ∧ f 11 = r32o4 ∧ f 13 = vN ∧ f 14 = I ((i : Int)) ∧ St H0 NoB NoB [rowE 3 vN (fN : List Int), blkE g14 (.cells #[I (((walkFault q (plan.take ((n).toNat)))).1), I (((walkFault q (plan.take ((n).toNat)))).2)] 27), rdE r32o4 (walkNow q (plan.take ((n).toNat))), rdE r10 (walkNow q plan), blkE g1 (.cells #[I (q.Facts), vf, vg, va] 25), rdE vf q.First, rdE vg q.Goal, rdE va q.Acts, rdE vl plan] H) ?_ ?_
    · refine wpF_cond a46_73 (fun hyes => ?t58) (fun hyes => ?e58)
      case e58 =>
        refine wpF_skip ?_
        exact ⟨vo, fs, (by rw [idxTo_no hyes, ← hfs]), a46_1, a46_2, a46_3, a46_8, a46_9, a46_10, a46_11, a46_13, a46_14, hS43⟩
      refine wpF_cut (fun f H => ∃ (v54 : Value), f 1 = vl ∧ f 2 = I (n) ∧ f 3 = PT g1 0 ∧ f 8 = r10 ∧ f 9 = B (walkOk q plan) ∧ f 10 = PT g14 0 ∧ f 11 = r32o4 ∧ f 13 = v54 ∧ f 14 = I ((i : Int)) ∧ St H0 NoB NoB [rowE 3 v54 (fs ++ ([(i : Int)]) : List Int), blkE g14 (.cells #[I (((walkFault q (plan.take ((n).toNat)))).1), I (((walkFault q (plan.take ((n).toNat)))).2)] 27), rdE r32o4 (walkNow q (plan.take ((n).toNat))), rdE r10 (walkNow q plan), blkE g1 (.cells #[I (q.Facts), vf, vg, va] 25), rdE vf q.First, rdE vg q.Goal, rdE va q.Acts, rdE vl plan] H) ?_ ?_
      · refine wpF_region ?_
        refine wpL_q (U := NoB) rfl (q_move (v := vo) rfl a46_13) ?_
        refine wpL_q (U := NoB) rfl (q_move (v := I ((i : Int))) rfl a46_14) ?_
        refine wpL_o rfl ?_
        refine e_buildSlice (vs := [I ((i : Int))]) (xs := ([(i : Int)] : List Int)) rfl Try.underlying22 Try.zeroValue3 rfl Try.sizeOf3 (par1 (v0 := I ((i : Int))) rfl) rfl hS43 (RdVs.cons (Rd.int.2 ⟨rfl, by constructor <;> omega⟩) (RdVs.nil)) (by decide) (by decide) (fun v49 H50 hS51 hxx hvv49 => ?_)
        replace hS51 : St H0 NoB NoB [rowE 3 v49 ([(i : Int)] : List Int), rowE 3 vo (fs : List Int), blkE g14 (.cells #[I (((walkFault q (plan.take ((n).toNat)))).1), I (((walkFault q (plan.take ((n).toNat)))).2)] 27), rdE r32o4 (walkNow q (plan.take ((n).toNat))), rdE r10 (walkNow q plan), blkE g1 (.cells #[I (q.Facts), vf, vg, va] 25), rdE vf q.First, rdE vg q.Goal, rdE va q.Acts, rdE vl plan] H50 := hS51
        have hS52 : St H0 NoB NoB [rdE v49 ([(i : Int)] : List Int), rowE 3 vo (fs : List Int), blkE g14 (.cells #[I (((walkFault q (plan.take ((n).toNat)))).1), I (((walkFault q (plan.take ((n).toNat)))).2)] 27), rdE r32o4 (walkNow q (plan.take ((n).toNat))), rdE r10 (walkNow q plan), blkE g1 (.cells #[I (q.Facts), vf, vg, va] 25), rdE vf q.First, rdE vg q.Goal, rdE va q.Acts, rdE vl plan] H50 := St.fin hS51
        have hS53 : St H0 NoB NoB [rowE 3 vo (fs : List Int), rdE v49 ([(i : Int)] : List Int), blkE g14 (.cells #[I (((walkFault q (plan.take ((n).toNat)))).1), I (((walkFault q (plan.take ((n).toNat)))).2)] 27), rdE r32o4 (walkNow q (plan.take ((n).toNat))), rdE r10 (walkNow q plan), blkE g1 (.cells #[I (q.Facts), vf, vg, va] 25), rdE vf q.First, rdE vg q.Goal, rdE va q.Acts, rdE vl plan] H50 := (hS52.front 1 rfl)
        refine wpL_o rfl ?_
        refine e_append rfl Try.underlying22 em_Int_3_ActParts1 rfl rfl hS53 (hS53.rdS 1 rfl) (fun _ h => h) (by have hb : GoT.bytes Int = 8 := rfl; have := idxTo_len (mid := walkNow q (plan.take n.toNat)) (m := i); rw [← hfs] at this; simp [hb]; omega) (by decide) (fun v54 H55 hS56 hxx => ?_)
        replace hS56 : St H0 NoB NoB [rowE 3 v54 (fs ++ ([(i : Int)]) : List Int), rdE v49 ([(i : Int)] : List Int), blkE g14 (.cells #[I (((walkFault q (plan.take ((n).toNat)))).1), I (((walkFault q (plan.take ((n).toNat)))).2)] 27), rdE r32o4 (walkNow q (plan.take ((n).toNat))), rdE r10 (walkNow q plan), blkE g1 (.cells #[I (q.Facts), vf, vg, va] 25), rdE vf q.First, rdE vg q.Goal, rdE va q.Acts, rdE vl plan] H55 := hS56
        refine wpL_q (U := NoB) rfl (q_assign (v := v54) rfl rfl) ?_
        exact ⟨v54, a46_1, a46_2, a46_3, a46_8, a46_9, a46_10, a46_11, rfl, a46_14, (hS56.drop (sk (sn (sk (sk (sk (sk (sk (sk (sk (sk (List.Sublist.slnil))))))))))))⟩
      rintro f57 H57 ⟨v54, a57_1, a57_2, a57_3, a57_8, a57_9, a57_10, a57_11, a57_13, a57_14, hS57⟩
      clear a46_1 a46_10 a46_11 a46_13 a46_14 a46_2 a46_3 a46_73 a46_8 a46_9
      exact ⟨v54, fs ++ ([(i : Int)]), (by rw [idxTo_yes hyes, ← hfs]), a57_1, a57_2, a57_3, a57_8, a57_9, a57_10, a57_11, a57_13, a57_14, hS57⟩
    rintro f47 H47 ⟨vN, fN, hfN, a47_1, a47_2, a47_3, a47_8, a47_9, a47_10, a47_11, a47_13, a47_14, hS47⟩
    clear a46_1 a46_10 a46_11 a46_13 a46_14 a46_2 a46_3 a46_73 a46_8 a46_9
    refine wpF_cut (fun f H => f 1 = vl ∧ f 2 = I (n) ∧ f 3 = PT g1 0 ∧ f 8 = r10 ∧ f 9 = B (walkOk q plan) ∧ f 10 = PT g14 0 ∧ f 11 = r32o4 ∧ f 13 = vN ∧ f 14 = I ((i : Int) + 1) ∧ H47 = H) ?_ ?_
    · refine wpF_region ?_
      refine wpL_q (U := NoB) rfl (q_move (v := I ((i : Int))) rfl a47_14) ?_
      refine wpL_q (U := NoB) rfl (q_add rfl rfl rfl (by constructor <;> omega)) ?_
      refine wpL_q (U := NoB) rfl (q_assign (v := I ((i : Int) + 1)) rfl rfl) ?_
      exact ⟨a47_1, a47_2, a47_3, a47_8, a47_9, a47_10, a47_11, a47_13, rfl, rfl⟩
    rintro f59 _ ⟨a59_1, a59_2, a59_3, a59_8, a59_9, a59_10, a59_11, a59_13, a59_14, rfl⟩
    clear a47_1 a47_10 a47_11 a47_13 a47_14 a47_2 a47_3 a47_8 a47_9
    refine ⟨_, ?_, i + 1, vN, fN, rfl, (by omega), hfN, a59_1, a59_2, a59_3, a59_8, a59_9, a59_10, a59_11, a59_13, (Eq.trans a59_14 (congrArg I (by omega))), hS47⟩
    omega
  have hie : i = q.Facts.toNat := by omega
  refine wpF_exit ?_
  refine atX_here ?_
  refine wpF_seq ?_
  refine wpF_cut (fun f H => f 1 = vl ∧ f 2 = I (n) ∧ f 3 = PT g1 0 ∧ f 8 = r10 ∧ f 9 = B (walkOk q plan) ∧ f 10 = PT g14 0 ∧ St H0 NoB NoB [blkE g1 (.cells #[I (q.Facts), vo, vg, va] 25), rowE 3 vo (fs : List Int), blkE g14 (.cells #[I (((walkFault q (plan.take ((n).toNat)))).1), I (((walkFault q (plan.take ((n).toNat)))).2)] 27), rdE r10 (walkNow q plan), rdE vf q.First, rdE vg q.Goal, rdE va q.Acts, rdE vl plan] H) ?_ ?_
  · refine wpF_region ?_
    refine wpL_q (U := NoB) rfl (q_move (v := vo) rfl a44_13) ?_
    refine wpL_q (U := NoB) rfl (q_fieldAddr rfl Try.underlying25 rfl Try.sizeOf22 a44_3) ?_
    refine wpL_o rfl ?_
    refine e_storeBlk (v := vo) rfl rfl rfl (oneCell_rdL (hS43.rowl 0 rfl)) Try.sizeOf22 (by show _ < 4; decide) (hS43.front 4 rfl) (fun H60 hS61 hxx => ?_)
    replace hS61 : St H0 NoB NoB [blkE g1 (.cells #[I (q.Facts), vo, vg, va] 25), rowE 3 vo (fs : List Int), blkE g14 (.cells #[I (((walkFault q (plan.take ((n).toNat)))).1), I (((walkFault q (plan.take ((n).toNat)))).2)] 27), rdE r32o4 (walkNow q (plan.take ((n).toNat))), rdE r10 (walkNow q plan), rdE vf q.First, rdE vg q.Goal, rdE va q.Acts, rdE vl plan] H60 := hS61
    exact ⟨a44_1, a44_2, a44_3, a44_8, a44_9, a44_10, (hS61.drop (sk (sk (sk (sn (sk (sk (sk (sk (sk (List.Sublist.slnil)))))))))))⟩
  rintro f62 H62 ⟨a62_1, a62_2, a62_3, a62_8, a62_9, a62_10, hS62⟩
  clear a44_1 a44_10 a44_11 a44_13 a44_14 a44_2 a44_3 a44_67 a44_8 a44_9
  refine wpF_seq ?_
  refine wpF_cut (fun f H => ∃ (r63o4 : Value), f 8 = r10 ∧ f 9 = B (walkOk q plan) ∧ f 10 = PT g14 0 ∧ f 15 = r63o4 ∧ f 16 = B (walkOk (Quest.mk q.Facts fs q.Goal q.Acts) (plan.drop ((n).toNat))) ∧ St H0 NoB NoB [blkE g14 (.cells #[I (((walkFault (Quest.mk q.Facts fs q.Goal q.Acts) (plan.drop ((n).toNat)))).1), I (((walkFault (Quest.mk q.Facts fs q.Goal q.Acts) (plan.drop ((n).toNat)))).2)] 27), rdE r63o4 (walkNow (Quest.mk q.Facts fs q.Goal q.Acts) (plan.drop ((n).toNat))), rdE vo fs, blkE g1 (.cells #[I (q.Facts), vo, vg, va] 25), rdE r10 (walkNow q plan), rdE vf q.First, rdE vg q.Goal, rdE va q.Acts, rdE vl plan] H) ?_ ?_
  · refine wpF_drawn [none, none, none, none, none, none, none, none, none, none, none, some 0] [[], [], [], [], [], [], [], [], [], [], [], []] (fun l b => match l with | 0 => True | _ => False) (by kernel_rfl) (by kernel_rfl) ?_
    refine wpR_q 0 (by kernel_rfl) rfl (quietAt rfl rfl (q_loadBlkA rfl a62_3 Try.isAgg25 Try.sizeOf25 rfl (hS62.blk 0 rfl) (labU_not [] rfl (List.forall_mem_nil _)))) ?_
    refine wpR_q 1 (by kernel_rfl) rfl (quietAt rfl rfl (q_move (v := vl) rfl a62_1)) ?_
    refine wpR_q 2 (by kernel_rfl) rfl (quietAt rfl rfl (q_move (v := I (n)) rfl a62_2)) ?_
    have hS63o3 : St H0 NoB NoB [rdE (sliceV 1 vl ((n).toNat) plan.length) (plan.drop ((n).toNat) : List Int), blkE g1 (.cells #[I (q.Facts), vo, vg, va] 25), rowE 3 vo (fs : List Int), blkE g14 (.cells #[I (((walkFault q (plan.take ((n).toNat)))).1), I (((walkFault q (plan.take ((n).toNat)))).2)] 27), rdE r10 (walkNow q plan), rdE vf q.First, rdE vg q.Goal, rdE va q.Acts, rdE vl plan] H62 := hS62.rd (Rd.list.2 (sliceV_lo (k := (n).toNat) (Rd.list.1 (hS62.rdS 7 rfl)) (by omega)))
    refine wpR_q 3 (by kernel_rfl) rfl (quietAt rfl rfl (q_sliceRd (k := (n).toNat) (m := plan.length) rfl Try.underlying22 el_Int_3_ActParts1 rfl (hS62.rdl 7 rfl) (lo1 rfl (by omega)) hi0 (by omega) (by omega))) ?_
    refine wpR_n [4] (by kernel_rfl) ?_
    refine List.forall_mem_cons.2 ⟨?_, List.forall_mem_nil _⟩
    have hS63o4 : St H0 NoB NoB [rdE vo fs, rdE (sliceV 1 vl ((n).toNat) plan.length) (plan.drop ((n).toNat) : List Int), blkE g1 (.cells #[I (q.Facts), vo, vg, va] 25), blkE g14 (.cells #[I (((walkFault q (plan.take ((n).toNat)))).1), I (((walkFault q (plan.take ((n).toNat)))).2)] 27), rdE r10 (walkNow q plan), rdE vf q.First, rdE vg q.Goal, rdE va q.Acts, rdE vl plan] H62 := St.fin (hS63o3.front 2 rfl)
    refine exE rfl rfl ?_
    refine e_call rfl Try.call14 (arr2 (v0 := Value.agg #[I (q.Facts), vo, vg, va]) (v1 := (sliceV 1 vl ((n).toNat) plan.length)) rfl rfl) (Walk_L vo vg va ((sliceV 1 vl ((n).toNat) plan.length)) (Quest.mk q.Facts fs q.Goal q.Acts) (plan.drop ((n).toNat)) (by first | assumption | (constructor <;> omega)) (hS63o4.rdS 0 rfl) (hS63o4.rdS 6 rfl) (hS63o4.rdS 7 rfl) (hS63o4.rdS 1 rfl) ) ?_
    rintro _ H63o4 ⟨hxx, r63o4, rfl, hrr63o4⟩
    have hS63o4x2 : St H0 NoB NoB [rdE r63o4 (walkNow (Quest.mk q.Facts fs q.Goal q.Acts) (plan.drop ((n).toNat))), rdE vo fs, rdE (sliceV 1 vl ((n).toNat) plan.length) (plan.drop ((n).toNat) : List Int), blkE g1 (.cells #[I (q.Facts), vo, vg, va] 25), blkE g14 (.cells #[I (((walkFault q (plan.take ((n).toNat)))).1), I (((walkFault q (plan.take ((n).toNat)))).2)] 27), rdE r10 (walkNow q plan), rdE vf q.First, rdE vg q.Goal, rdE va q.Acts, rdE vl plan] H63o4 := hS63o4.res hxx hrr63o4
    refine ⟨Ext.mono hxx (fun _ h => h.elim), ?_⟩
    refine wpR_q 5 (by kernel_rfl) rfl (quietAt rfl rfl (q_move (v := Value.tuple #[r63o4, B (walkOk (Quest.mk q.Facts fs q.Goal q.Acts) (plan.drop ((n).toNat))), Value.agg #[I (((walkFault (Quest.mk q.Facts fs q.Goal q.Acts) (plan.drop ((n).toNat)))).1), I (((walkFault (Quest.mk q.Facts fs q.Goal q.Acts) (plan.drop ((n).toNat)))).2)]]) rfl rfl)) ?_
    refine wpR_q 6 (by kernel_rfl) rfl (quietAt rfl rfl (q_extract (vs := #[r63o4, B (walkOk (Quest.mk q.Facts fs q.Goal q.Acts) (plan.drop ((n).toNat))), Value.agg #[I (((walkFault (Quest.mk q.Facts fs q.Goal q.Acts) (plan.drop ((n).toNat)))).1), I (((walkFault (Quest.mk q.Facts fs q.Goal q.Acts) (plan.drop ((n).toNat)))).2)]]) (v := r63o4) rfl rfl rfl)) ?_
    refine wpR_q 7 (by kernel_rfl) rfl (quietAt rfl rfl (q_extract (vs := #[r63o4, B (walkOk (Quest.mk q.Facts fs q.Goal q.Acts) (plan.drop ((n).toNat))), Value.agg #[I (((walkFault (Quest.mk q.Facts fs q.Goal q.Acts) (plan.drop ((n).toNat)))).1), I (((walkFault (Quest.mk q.Facts fs q.Goal q.Acts) (plan.drop ((n).toNat)))).2)]]) (v := B (walkOk (Quest.mk q.Facts fs q.Goal q.Acts) (plan.drop ((n).toNat)))) rfl rfl rfl)) ?_
    refine wpR_q 8 (by kernel_rfl) rfl (quietAt rfl rfl (q_extract (vs := #[r63o4, B (walkOk (Quest.mk q.Facts fs q.Goal q.Acts) (plan.drop ((n).toNat))), Value.agg #[I (((walkFault (Quest.mk q.Facts fs q.Goal q.Acts) (plan.drop ((n).toNat)))).1), I (((walkFault (Quest.mk q.Facts fs q.Goal q.Acts) (plan.drop ((n).toNat)))).2)]]) (v := Value.agg #[I (((walkFault (Quest.mk q.Facts fs q.Goal q.Acts) (plan.drop ((n).toNat)))).1), I (((walkFault (Quest.mk q.Facts fs q.Goal q.Acts) (plan.drop ((n).toNat)))).2)]) rfl rfl rfl)) ?_
    refine wpR_q 9 (by kernel_rfl) rfl (quietAt rfl rfl (q_assign (v := r63o4) rfl rfl)) ?_
    refine wpR_q 10 (by kernel_rfl) rfl (quietAt rfl rfl (q_assign (v := B (walkOk (Quest.mk q.Facts fs q.Goal q.Acts) (plan.drop ((n).toNat)))) rfl rfl)) ?_
    refine wpR_n [11] (by kernel_rfl) ?_
    refine List.forall_mem_cons.2 ⟨?_, List.forall_mem_nil _⟩
    refine exE rfl rfl ?_
    refine e_storeBlkA (cs' := #[I (((walkFault (Quest.mk q.Facts fs q.Goal q.Acts) (plan.drop ((n).toNat)))).1), I (((walkFault (Quest.mk q.Facts fs q.Goal q.Acts) (plan.drop ((n).toNat)))).2)]) rfl a62_10 rfl Try.sizeOf27 rfl rfl (List.forall_mem_cons.2 ⟨rfl, List.forall_mem_cons.2 ⟨rfl, List.forall_mem_nil _⟩⟩) (hS63o4x2.front 4 rfl) (fun H63o11 hS63o11 hxx => ?_)
    replace hS63o11 : St H0 NoB NoB [blkE g14 (.cells #[I (((walkFault (Quest.mk q.Facts fs q.Goal q.Acts) (plan.drop ((n).toNat)))).1), I (((walkFault (Quest.mk q.Facts fs q.Goal q.Acts) (plan.drop ((n).toNat)))).2)] 27), rdE r63o4 (walkNow (Quest.mk q.Facts fs q.Goal q.Acts) (plan.drop ((n).toNat))), rdE vo fs, rdE (sliceV 1 vl ((n).toNat) plan.length) (plan.drop ((n).toNat) : List Int), blkE g1 (.cells #[I (q.Facts), vo, vg, va] 25), rdE r10 (walkNow q plan), rdE vf q.First, rdE vg q.Goal, rdE va q.Acts, rdE vl plan] H63o11 := hS63o11
    refine ⟨Ext.mono hxx (labS_of 0 rfl (fun _ _ => trivial)), ?_⟩
    refine wpR_end (by kernel_rfl) ?_
    exact ⟨r63o4, a62_8, a62_9, a62_10, rfl, rfl, (hS63o11.drop (sk (sk (sk (sn (sk (sk (sk (sk (sk (sk (List.Sublist.slnil))))))))))))⟩
  rintro f64 H64 ⟨r63o4, a64_8, a64_9, a64_10, a64_15, a64_16, hS64⟩
  clear a62_1 a62_10 a62_2 a62_3 a62_8 a62_9
  refine wpF_seq ?_
  refine wpF_cut (fun f H => f 6 = B (decide ((((((walkFault (Quest.mk q.Facts fs q.Goal q.Acts) (plan.drop ((n).toNat)))).1) = 0) ∧ ((walkNow (Quest.mk q.Facts fs q.Goal q.Acts) (plan.drop ((n).toNat))) = (walkNow q plan))) ∧ ((walkOk (Quest.mk q.Facts fs q.Goal q.Acts) (plan.drop ((n).toNat))) = (walkOk q plan)))) ∧ St H0 NoB NoB [blkE g14 (.cells #[I (((walkFault (Quest.mk q.Facts fs q.Goal q.Acts) (plan.drop ((n).toNat)))).1), I (((walkFault (Quest.mk q.Facts fs q.Goal q.Acts) (plan.drop ((n).toNat)))).2)] 27), rdE vo fs, blkE g1 (.cells #[I (q.Facts), vo, vg, va] 25), rdE vf q.First, rdE vg q.Goal, rdE va q.Acts, rdE vl plan] H) ?_ ?_
  · refine wpF_region ?_
    refine wpL_q (U := NoB) rfl (q_fieldAddr rfl Try.underlying27 rfl Try.sizeOf3 a64_10) ?_
    refine wpL_q (U := NoB) rfl (q_loadBlk rfl rfl Try.isAgg3 (hS64.blk 0 rfl) rfl (fun h => h)) ?_
    refine wpL_q (U := NoB) rfl (q_eql rfl rfl rfl) ?_
    refine wpL_q (U := NoB) rfl (q_move (v := B (decide ((((walkFault (Quest.mk q.Facts fs q.Goal q.Acts) (plan.drop ((n).toNat)))).1) = 0))) rfl rfl) ?_
    by_cases hg65 : (((walkFault (Quest.mk q.Facts fs q.Goal q.Acts) (plan.drop ((n).toNat)))).1) = 0
    · have hb66 := Eq.trans rfl (congrArg B (decide_eq_true hg65))
      refine wpL_gq (U := NoB) rfl rfl rfl hb66 (q_move (v := r63o4) rfl a64_15) ?_
      refine wpL_gq (U := NoB) rfl rfl rfl hb66 (q_move (v := r10) rfl a64_8) ?_
      refine wpL_go rfl rfl rfl hb66 ?_
      refine e_call rfl Try.call20 (arr2 (v0 := r63o4) (v1 := r10) rfl rfl) (bools_L r63o4 r10 _ _ (hS64.rdN 1 rfl) (hS64.rdN 4 rfl)) ?_
      rintro _ H68 ⟨hxx, rfl⟩
      have hS69 : St H0 NoB NoB [blkE g14 (.cells #[I (((walkFault (Quest.mk q.Facts fs q.Goal q.Acts) (plan.drop ((n).toNat)))).1), I (((walkFault (Quest.mk q.Facts fs q.Goal q.Acts) (plan.drop ((n).toNat)))).2)] 27), rdE r63o4 (walkNow (Quest.mk q.Facts fs q.Goal q.Acts) (plan.drop ((n).toNat))), rdE vo fs, blkE g1 (.cells #[I (q.Facts), vo, vg, va] 25), rdE r10 (walkNow q plan), rdE vf q.First, rdE vg q.Goal, rdE va q.Acts, rdE vl plan] H68 := hS64.ext hxx
      refine wpL_q (U := NoB) rfl (q_pickT (v := B (decide ((walkNow (Quest.mk q.Facts fs q.Goal q.Acts) (plan.drop ((n).toNat))) = (walkNow q plan)))) rfl hb66 rfl) ?_
      refine wpL_q (U := NoB) rfl (q_move (v := B (decide ((walkNow (Quest.mk q.Facts fs q.Goal q.Acts) (plan.drop ((n).toNat))) = (walkNow q plan)))) rfl rfl) ?_
      by_cases hg71 : (walkNow (Quest.mk q.Facts fs q.Goal q.Acts) (plan.drop ((n).toNat))) = (walkNow q plan)
      · have hb72 := Eq.trans rfl (congrArg B (decide_eq_true hg71))
        refine wpL_gq (U := NoB) rfl rfl rfl hb72 (q_move (v := B (walkOk (Quest.mk q.Facts fs q.Goal q.Acts) (plan.drop ((n).toNat)))) rfl a64_16) ?_
        refine wpL_gq (U := NoB) rfl rfl rfl hb72 (q_move (v := B (walkOk q plan)) rfl a64_9) ?_
        refine wpL_gq (U := NoB) rfl rfl rfl hb72 (q_eqlB rfl Try.underlying4 rfl rfl) ?_
        refine wpL_q (U := NoB) rfl (q_pickT (v := B (decide ((walkOk (Quest.mk q.Facts fs q.Goal q.Acts) (plan.drop ((n).toNat))) = (walkOk q plan)))) rfl hb72 rfl) ?_
        refine wpL_q (U := NoB) rfl (q_assign (v := B (decide ((walkOk (Quest.mk q.Facts fs q.Goal q.Acts) (plan.drop ((n).toNat))) = (walkOk q plan)))) rfl rfl) ?_
        exact ⟨(Eq.trans rfl (congrArg B (decide_congr_of ((Iff.rfl).trans (((and_iff_right ⟨hg65, hg71⟩).trans Iff.rfl)).symm)))), (hS69.drop (sk (sn (sk (sk (sn (sk (sk (sk (sk (List.Sublist.slnil)))))))))))⟩
      · have hb73 := Eq.trans rfl (congrArg B (decide_eq_false hg71))
        refine wpL_gs rfl rfl rfl hb73 rfl ?_
        refine wpL_gs rfl rfl rfl hb73 rfl ?_
        refine wpL_gs rfl rfl rfl hb73 rfl ?_
        refine wpL_q (U := NoB) rfl (q_pickF (v := B (false)) rfl hb73 rfl) ?_
        refine wpL_q (U := NoB) rfl (q_assign (v := B (false)) rfl rfl) ?_
        exact ⟨(Eq.trans rfl (congrArg B ((decide_eq_false (fun h => (fun h => hg71 h.2) h.1)).symm))), (hS69.drop (sk (sn (sk (sk (sn (sk (sk (sk (sk (List.Sublist.slnil)))))))))))⟩
    · have hb67 := Eq.trans rfl (congrArg B (decide_eq_false hg65))
      refine wpL_gs rfl rfl rfl hb67 rfl ?_
      refine wpL_gs rfl rfl rfl hb67 rfl ?_
      refine wpL_gs rfl rfl rfl hb67 rfl ?_
      refine wpL_q (U := NoB) rfl (q_pickF (v := B (false)) rfl hb67 rfl) ?_
      refine wpL_q (U := NoB) rfl (q_move (v := B (false)) rfl rfl) ?_
      refine wpL_gs rfl rfl rfl rfl rfl ?_
      refine wpL_gs rfl rfl rfl rfl rfl ?_
      refine wpL_gs rfl rfl rfl rfl rfl ?_
      refine wpL_q (U := NoB) rfl (q_pickF (v := B (false)) rfl rfl rfl) ?_
      refine wpL_q (U := NoB) rfl (q_assign (v := B (false)) rfl rfl) ?_
      exact ⟨(Eq.trans rfl (congrArg B ((decide_eq_false (fun h => (fun h => hg65 h.1) h.1)).symm))), (hS64.drop (sk (sn (sk (sk (sn (sk (sk (sk (sk (List.Sublist.slnil)))))))))))⟩
  rintro f74 H74 ⟨a74_6, hS74⟩
  clear a64_10 a64_15 a64_16 a64_8 a64_9
  refine wpF_ret ?_
  refine ⟨_, resT a74_6 resN, hS74.frame, ?_⟩
  show (B (decide ((((((walkFault (Quest.mk q.Facts fs q.Goal q.Acts) (plan.drop ((n).toNat)))).1) = 0) ∧ ((walkNow (Quest.mk q.Facts fs q.Goal q.Acts) (plan.drop ((n).toNat))) = (walkNow q plan))) ∧ ((walkOk (Quest.mk q.Facts fs q.Goal q.Acts) (plan.drop ((n).toNat))) = (walkOk q plan))))) = B true
  have hfs2 : fs = idxTo (walkNow q (plan.take n.toNat)) q.Facts.toNat := by rw [hfs, hie]
  rw [hfs2]
  exact congrArg B (decide_eq_true ⟨⟨hpr.1, hpr.2.1⟩, hpr.2.2⟩)

end Go.Um
