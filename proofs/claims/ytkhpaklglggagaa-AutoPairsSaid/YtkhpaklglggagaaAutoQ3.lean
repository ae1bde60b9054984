import Derived.Test.YtkhpaklglggagaaProg
import Derived.Test.YtkhpaklglggagaaAutoA3
import Derived.Test.YtkhpaklglggagaaAutoBo
import Derived.Test.YtkhpaklglggagaaUmRowEl
import Derived.Test.YtkhpaklglggagaaUmSub
namespace Go.Um
open Go.Proofs
open GoT (sz ag rdc)
open KeyT (kv)

theorem el_Bool_4_AutoQ3 : ElT Try.prog Bool 4 := ⟨Try.isAgg4, Try.sizeOf4⟩
theorem el_Int_3_AutoQ3 : ElT Try.prog Int 3 := ⟨Try.isAgg3, Try.sizeOf3⟩
theorem el_LInt_22_AutoQ3 : ElT Try.prog (List Int) 22 := ⟨Try.isAgg22, Try.sizeOf22⟩
theorem em_Bool_4_AutoQ3 : ElemOk Try.prog Bool 4 := ⟨Try.t4, (.bool false), by kernel_rfl, by kernel_rfl, by kernel_rfl, by kernel_rfl, by kernel_rfl⟩
theorem em_Int_3_AutoQ3 : ElemOk Try.prog Int 3 := ⟨Try.t3, (.int .i64 0), by kernel_rfl, by kernel_rfl, by kernel_rfl, by kernel_rfl, by kernel_rfl⟩
theorem em_LInt_22_AutoQ3 : ElemOk Try.prog (List Int) 22 := ⟨Try.t22, (.slice none 0 0), by kernel_rfl, by kernel_rfl, by kernel_rfl, by kernel_rfl, by kernel_rfl⟩

set_option maxHeartbeats 4000000 in
set_option maxRecDepth 100000 in
theorem Both_R {H0 : Heap} {S : Nat → Prop} (vn vt wn wt : Value) (a b : Auto) (d : Bool) (rn : Rd S H0 vn a.Next) (rt : Rd S H0 vt a.Takes) (hsg : In64 a.Signs) (sw : Rd S H0 wn b.Next) (st : Rd S H0 wt b.Takes) (hsgb : In64 b.Signs) (hWa : WF a) (hWb : WF b) (hss : a.Signs = b.Signs) : CallsH Try.prog 38 #[Value.agg #[I (a.Signs), vn, vt], Value.agg #[I (b.Signs), wn, wt], B (d)] H0 (fun rv_ H' => Ext NoB H0 H' ∧ ∃ w1_ w2_, rv_ = Value.agg #[I (prodA a b (opB d)).Signs, w1_, w2_] ∧ Rd (fun b => S b ∧ b < H0.size) H' w1_ (prodA a b (opB d)).Next ∧ Rd (fun b => S b ∧ b < H0.size) H' w2_ (prodA a b (opB d)).Takes) := by
  have hsn := (Rd.list.1 rn).small
  have hst := (Rd.list.1 rt).small
  have hma := hWa.takes
  have hmb := hWb.takes
  have hmy := hWa.many
  have hmz := hWb.many
  have hsgw := hWa.signs
  have hS0 : St H0 NoB (fun b => S b ∧ b < H0.size) [rdE vn a.Next, rdE vt a.Takes, rdE wn b.Next, rdE wt b.Takes] H0 := St.arg (St.arg (St.arg (St.arg (St.start (fun _ h => h.2)) (Bl0.nil) st (fun _ h => h.1)) (Bl0.cons (Bl0.nil)) sw (fun _ h => h.1)) (Bl0.cons (Bl0.cons (Bl0.nil))) rt (fun _ h => h.1)) (Bl0.cons (Bl0.cons (Bl0.cons (Bl0.nil)))) rn (fun _ h => h.1)
  refine callsH_of_wpF (args := [Value.agg #[I (a.Signs), vn, vt], Value.agg #[I (b.Signs), wn, wt], B (d)]) (rs := [.cell 6 36]) Try.func38 rfl Try.ntmps38 Try.results38 (by kernel_rfl) (Nat.le_of_ble_eq_true rfl) ?_
  have a0_0 : argF [Value.agg #[I (a.Signs), vn, vt], Value.agg #[I (b.Signs), wn, wt], B (d)] 0 = Value.agg #[I (a.Signs), vn, vt] := rfl
  have a0_1 : argF [Value.agg #[I (a.Signs), vn, vt], Value.agg #[I (b.Signs), wn, wt], B (d)] 1 = Value.agg #[I (b.Signs), wn, wt] := rfl
  have a0_2 : argF [Value.agg #[I (a.Signs), vn, vt], Value.agg #[I (b.Signs), wn, wt], B (d)] 2 = B (d) := rfl
  generalize argF [Value.agg #[I (a.Signs), vn, vt], Value.agg #[I (b.Signs), wn, wt], B (d)] = f0 at *
  refine wpF_seq ?_
  refine wpF_cut (fun f H => ∃ (g1 : Nat), ∃ (g4 : Nat), ∃ (g7 : Nat), f 2 = B (d) ∧ f 3 = PT g1 0 ∧ f 4 = PT g4 0 ∧ f 6 = PT g7 0 ∧ St H0 NoB (fun b => S b ∧ b < H0.size) [blkE g7 (.cells #[I (0), (Value.slice none 0 0), (Value.slice none 0 0)] 36), blkE g4 (.cells #[I (b.Signs), wn, wt] 36), blkE g1 (.cells #[I (a.Signs), vn, vt] 36), rdE vn a.Next, rdE vt a.Takes, rdE wn b.Next, rdE wt b.Takes] H) ?_ ?_
  · refine wpF_region ?_
    refine wpL_o rfl ?_
    refine e_box (v := Value.agg #[I (a.Signs), vn, vt]) rfl a0_0 hS0 (fun g1 H2 hS3 hxx => ?_)
    replace hS3 : St H0 NoB (fun b => S b ∧ b < H0.size) [blkE g1 (.cells #[I (a.Signs), vn, vt] 36), rdE vn a.Next, rdE vt a.Takes, rdE wn b.Next, rdE wt b.Takes] H2 := hS3
    refine wpL_o rfl ?_
    refine e_box (v := Value.agg #[I (b.Signs), wn, wt]) rfl a0_1 hS3 (fun g4 H5 hS6 hxx => ?_)
    replace hS6 : St H0 NoB (fun b => S b ∧ b < H0.size) [blkE g4 (.cells #[I (b.Signs), wn, wt] 36), blkE g1 (.cells #[I (a.Signs), vn, vt] 36), rdE vn a.Next, rdE vt a.Takes, rdE wn b.Next, rdE wt b.Takes] H5 := hS6
    refine wpL_o rfl ?_
    refine e_alloc rfl Try.zeroValue36 hS6 (fun g7 H8 hS9 hxx => ?_)
    replace hS9 : St H0 NoB (fun b => S b ∧ b < H0.size) [blkE g7 (.cells #[I (0), (Value.slice none 0 0), (Value.slice none 0 0)] 36), blkE g4 (.cells #[I (b.Signs), wn, wt] 36), blkE g1 (.cells #[I (a.Signs), vn, vt] 36), rdE vn a.Next, rdE vt a.Takes, rdE wn b.Next, rdE wt b.Takes] H8 := hS9
    exact ⟨g1, g4, g7, a0_2, rfl, rfl, rfl, hS9⟩
  rintro f10 H10 ⟨g1, g4, g7, a10_2, a10_3, a10_4, a10_6, hS10⟩
  clear a0_0 a0_1 a0_2
  refine wpF_seq ?_
  refine wpF_cut (fun f H => f 2 = B (d) ∧ f 3 = PT g1 0 ∧ f 4 = PT g4 0 ∧ f 6 = PT g7 0 ∧ f 7 = (Value.slice none 0 0) ∧ f 8 = (Value.slice none 0 0) ∧ H10 = H) ?_ ?_
  · refine wpF_region ?_
    refine wpL_q (U := NoB) rfl (q_assign (v := (Value.slice none 0 0)) rfl rfl) ?_
    refine wpL_q (U := NoB) rfl (q_assign (v := (Value.slice none 0 0)) rfl rfl) ?_
    exact ⟨a10_2, a10_3, a10_4, a10_6, rfl, rfl, rfl⟩
  rintro f11 _ ⟨a11_2, a11_3, a11_4, a11_6, a11_7, a11_8, rfl⟩
  clear a10_2 a10_3 a10_4 a10_6
  refine wpF_seq ?_
  refine wpF_cut (fun f H => ∃ (v18 : Value), f 2 = B (d) ∧ f 3 = PT g1 0 ∧ f 4 = PT g4 0 ∧ f 6 = PT g7 0 ∧ f 7 = v18 ∧ f 8 = (Value.slice none 0 0) ∧ St H0 NoB (fun b => S b ∧ b < H0.size) [rowE 3 v18 ([0] : List Int), blkE g7 (.cells #[I (0), (Value.slice none 0 0), (Value.slice none 0 0)] 36), blkE g4 (.cells #[I (b.Signs), wn, wt] 36), blkE g1 (.cells #[I (a.Signs), vn, vt] 36), rdE vn a.Next, rdE vt a.Takes, rdE wn b.Next, rdE wt b.Takes] H) ?_ ?_
  · refine wpF_region ?_
    refine wpL_q (U := NoB) rfl (q_move (v := (Value.slice none 0 0)) rfl a11_7) ?_
    refine wpL_o rfl ?_
    refine e_buildSlice (vs := [I (0)]) (xs := ([0] : List Int)) rfl Try.underlying22 Try.zeroValue3 rfl Try.sizeOf3 (par1 (v0 := I (0)) rfl) rfl hS10 (RdVs.cons (Rd.int.2 ⟨rfl, by first | assumption | (constructor <;> omega)⟩) (RdVs.nil)) (by decide) (by decide) (fun v12 H13 hS14 hxx hvv12 => ?_)
    replace hS14 : St H0 NoB (fun b => S b ∧ b < H0.size) [rowE 3 v12 ([0] : List Int), blkE g7 (.cells #[I (0), (Value.slice none 0 0), (Value.slice none 0 0)] 36), blkE g4 (.cells #[I (b.Signs), wn, wt] 36), blkE g1 (.cells #[I (a.Signs), vn, vt] 36), rdE vn a.Next, rdE vt a.Takes, rdE wn b.Next, rdE wt b.Takes] H13 := hS14
    have hS15 : St H0 NoB (fun b => S b ∧ b < H0.size) [rdE v12 ([0] : List Int), blkE g7 (.cells #[I (0), (Value.slice none 0 0), (Value.slice none 0 0)] 36), blkE g4 (.cells #[I (b.Signs), wn, wt] 36), blkE g1 (.cells #[I (a.Signs), vn, vt] 36), rdE vn a.Next, rdE vt a.Takes, rdE wn b.Next, rdE wt b.Takes] H13 := St.fin hS14
    have hS16 : St H0 NoB (fun b => S b ∧ b < H0.size) [rowE 3 (Value.slice none 0 0) ([] : List Int), rdE v12 ([0] : List Int), blkE g7 (.cells #[I (0), (Value.slice none 0 0), (Value.slice none 0 0)] 36), blkE g4 (.cells #[I (b.Signs), wn, wt] 36), blkE g1 (.cells #[I (a.Signs), vn, vt] 36), rdE vn a.Next, rdE vt a.Takes, rdE wn b.Next, rdE wt b.Takes] H13 := hS15.row0 3
    have hS17 : St H0 NoB (fun b => S b ∧ b < H0.size) [rowE 3 (Value.slice none 0 0) ([] : List Int), rdE v12 ([0] : List Int), blkE g7 (.cells #[I (0), (Value.slice none 0 0), (Value.slice none 0 0)] 36), blkE g4 (.cells #[I (b.Signs), wn, wt] 36), blkE g1 (.cells #[I (a.Signs), vn, vt] 36), rdE vn a.Next, rdE vt a.Takes, rdE wn b.Next, rdE wt b.Takes] H13 := hS16
    refine wpL_o rfl ?_
    refine e_append rfl Try.underlying22 em_Int_3_AutoQ3 rfl rfl hS17 (hS17.rdS 1 rfl) (fun _ h => h) (by decide) (by decide) (fun v18 H19 hS20 hxx => ?_)
    replace hS20 : St H0 NoB (fun b => S b ∧ b < H0.size) [rowE 3 v18 ([0] : List Int), rdE v12 ([0] : List Int), blkE g7 (.cells #[I (0), (Value.slice none 0 0), (Value.slice none 0 0)] 36), blkE g4 (.cells #[I (b.Signs), wn, wt] 36), blkE g1 (.cells #[I (a.Signs), vn, vt] 36), rdE vn a.Next, rdE vt a.Takes, rdE wn b.Next, rdE wt b.Takes] H19 := by simpa using hS20
    refine wpL_q (U := NoB) rfl (q_assign (v := v18) rfl rfl) ?_
    exact ⟨v18, a11_2, a11_3, a11_4, a11_6, rfl, a11_8, (hS20.drop (sk (sn (sk (sk (sk (sk (sk (sk (sk (List.Sublist.slnil)))))))))))⟩
  rintro f21 H21 ⟨v18, a21_2, a21_3, a21_4, a21_6, a21_7, a21_8, hS21⟩
  clear a11_2 a11_3 a11_4 a11_6 a11_7 a11_8
  refine wpF_seq ?_
  refine wpF_cut (fun f H => ∃ (v28 : Value), f 2 = B (d) ∧ f 3 = PT g1 0 ∧ f 4 = PT g4 0 ∧ f 6 = PT g7 0 ∧ f 7 = v18 ∧ f 8 = v28 ∧ St H0 NoB (fun b => S b ∧ b < H0.size) [rowE 3 v28 ([0] : List Int), rowE 3 v18 ([0] : List Int), blkE g7 (.cells #[I (0), (Value.slice none 0 0), (Value.slice none 0 0)] 36), blkE g4 (.cells #[I (b.Signs), wn, wt] 36), blkE g1 (.cells #[I (a.Signs), vn, vt] 36), rdE vn a.Next, rdE vt a.Takes, rdE wn b.Next, rdE wt b.Takes] H) ?_ ?_
  · refine wpF_region ?_
    refine wpL_q (U := NoB) rfl (q_move (v := (Value.slice none 0 0)) rfl a21_8) ?_
    refine wpL_o rfl ?_
    refine e_buildSlice (vs := [I (0)]) (xs := ([0] : List Int)) rfl Try.underlying22 Try.zeroValue3 rfl Try.sizeOf3 (par1 (v0 := I (0)) rfl) rfl hS21 (RdVs.cons (Rd.int.2 ⟨rfl, by first | assumption | (constructor <;> omega)⟩) (RdVs.nil)) (by decide) (by decide) (fun v22 H23 hS24 hxx hvv22 => ?_)
    replace hS24 : St H0 NoB (fun b => S b ∧ b < H0.size) [rowE 3 v22 ([0] : List Int), rowE 3 v18 ([0] : List Int), blkE g7 (.cells #[I (0), (Value.slice none 0 0), (Value.slice none 0 0)] 36), blkE g4 (.cells #[I (b.Signs), wn, wt] 36), blkE g1 (.cells #[I (a.Signs), vn, vt] 36), rdE vn a.Next, rdE vt a.Takes, rdE wn b.Next, rdE wt b.Takes] H23 := hS24
    have hS25 : St H0 NoB (fun b => S b ∧ b < H0.size) [rdE v22 ([0] : List Int), rowE 3 v18 ([0] : List Int), blkE g7 (.cells #[I (0), (Value.slice none 0 0), (Value.slice none 0 0)] 36), blkE g4 (.cells #[I (b.Signs), wn, wt] 36), blkE g1 (.cells #[I (a.Signs), vn, vt] 36), rdE vn a.Next, rdE vt a.Takes, rdE wn b.Next, rdE wt b.Takes] H23 := St.fin hS24
    have hS26 : St H0 NoB (fun b => S b ∧ b < H0.size) [rowE 3 (Value.slice none 0 0) ([] : List Int), rdE v22 ([0] : List Int), rowE 3 v18 ([0] : List Int), blkE g7 (.cells #[I (0), (Value.slice none 0 0), (Value.slice none 0 0)] 36), blkE g4 (.cells #[I (b.Signs), wn, wt] 36), blkE g1 (.cells #[I (a.Signs), vn, vt] 36), rdE vn a.Next, rdE vt a.Takes, rdE wn b.Next, rdE wt b.Takes] H23 := hS25.row0 3
    have hS27 : St H0 NoB (fun b => S b ∧ b < H0.size) [rowE 3 (Value.slice none 0 0) ([] : List Int), rdE v22 ([0] : List Int), rowE 3 v18 ([0] : List Int), blkE g7 (.cells #[I (0), (Value.slice none 0 0), (Value.slice none 0 0)] 36), blkE g4 (.cells #[I (b.Signs), wn, wt] 36), blkE g1 (.cells #[I (a.Signs), vn, vt] 36), rdE vn a.Next, rdE vt a.Takes, rdE wn b.Next, rdE wt b.Takes] H23 := hS26
    refine wpL_o rfl ?_
    refine e_append rfl Try.underlying22 em_Int_3_AutoQ3 rfl rfl hS27 (hS27.rdS 1 rfl) (fun _ h => h) (by decide) (by decide) (fun v28 H29 hS30 hxx => ?_)
    replace hS30 : St H0 NoB (fun b => S b ∧ b < H0.size) [rowE 3 v28 ([0] : List Int), rdE v22 ([0] : List Int), rowE 3 v18 ([0] : List Int), blkE g7 (.cells #[I (0), (Value.slice none 0 0), (Value.slice none 0 0)] 36), blkE g4 (.cells #[I (b.Signs), wn, wt] 36), blkE g1 (.cells #[I (a.Signs), vn, vt] 36), rdE vn a.Next, rdE vt a.Takes, rdE wn b.Next, rdE wt b.Takes] H29 := by simpa using hS30
    refine wpL_q (U := NoB) rfl (q_assign (v := v28) rfl rfl) ?_
    exact ⟨v28, a21_2, a21_3, a21_4, a21_6, a21_7, rfl, (hS30.drop (sk (sn (sk (sk (sk (sk (sk (sk (sk (sk (List.Sublist.slnil))))))))))))⟩
  rintro f31 H31 ⟨v28, a31_2, a31_3, a31_4, a31_6, a31_7, a31_8, hS31⟩
  clear a21_2 a21_3 a21_4 a21_6 a21_7 a21_8
  refine wpF_seq ?_
  refine wpF_cut (fun f H => ∃ (g32 : Nat), f 2 = B (d) ∧ f 3 = PT g1 0 ∧ f 4 = PT g4 0 ∧ f 6 = PT g7 0 ∧ f 7 = v18 ∧ f 8 = v28 ∧ f 9 = PT g32 0 ∧ St H0 NoB (fun b => S b ∧ b < H0.size) [blkE g32 (.cells #[I (a.Signs), (Value.slice none 0 0), (Value.slice none 0 0)] 36), rowE 3 v28 ([0] : List Int), rowE 3 v18 ([0] : List Int), blkE g7 (.cells #[I (0), (Value.slice none 0 0), (Value.slice none 0 0)] 36), blkE g4 (.cells #[I (b.Signs), wn, wt] 36), blkE g1 (.cells #[I (a.Signs), vn, vt] 36), rdE vn a.Next, rdE vt a.Takes, rdE wn b.Next, rdE wt b.Takes] H) ?_ ?_
  · refine wpF_region ?_
    refine wpL_q (U := NoB) rfl (q_fieldAddr rfl Try.underlying36 rfl Try.sizeOf3 a31_3) ?_
    refine wpL_q (U := NoB) rfl (q_loadBlk rfl rfl Try.isAgg3 (hS31.blk 4 rfl) rfl (fun h => h)) ?_
    refine wpL_q (U := NoB) rfl (q_build (v := Value.agg #[I (a.Signs), (Value.slice none 0 0), (Value.slice none 0 0)]) rfl (par1 (v0 := I (a.Signs)) rfl) (fun w => by kernel_rfl)) ?_
    refine wpL_o rfl ?_
    refine e_alloc rfl Try.zeroValue36 hS31 (fun g32 H33 hS34 hxx => ?_)
    replace hS34 : St H0 NoB (fun b => S b ∧ b < H0.size) [blkE g32 (.cells #[I (0), (Value.slice none 0 0), (Value.slice none 0 0)] 36), rowE 3 v28 ([0] : List Int), rowE 3 v18 ([0] : List Int), blkE g7 (.cells #[I (0), (Value.slice none 0 0), (Value.slice none 0 0)] 36), blkE g4 (.cells #[I (b.Signs), wn, wt] 36), blkE g1 (.cells #[I (a.Signs), vn, vt] 36), rdE vn a.Next, rdE vt a.Takes, rdE wn b.Next, rdE wt b.Takes] H33 := hS34
    refine wpL_o rfl ?_
    refine e_storeBlkA (cs' := #[I (a.Signs), (Value.slice none 0 0), (Value.slice none 0 0)]) rfl rfl rfl Try.sizeOf36 rfl rfl (List.forall_mem_cons.2 ⟨rfl, List.forall_mem_cons.2 ⟨rfl, List.forall_mem_cons.2 ⟨rfl, List.forall_mem_nil _⟩⟩⟩) hS34 (fun H35 hS36 hxx => ?_)
    replace hS36 : St H0 NoB (fun b => S b ∧ b < H0.size) [blkE g32 (.cells #[I (a.Signs), (Value.slice none 0 0), (Value.slice none 0 0)] 36), rowE 3 v28 ([0] : List Int), rowE 3 v18 ([0] : List Int), blkE g7 (.cells #[I (0), (Value.slice none 0 0), (Value.slice none 0 0)] 36), blkE g4 (.cells #[I (b.Signs), wn, wt] 36), blkE g1 (.cells #[I (a.Signs), vn, vt] 36), rdE vn a.Next, rdE vt a.Takes, rdE wn b.Next, rdE wt b.Takes] H35 := hS36
    exact ⟨g32, a31_2, a31_3, a31_4, a31_6, a31_7, a31_8, rfl, hS36⟩
  rintro f37 H37 ⟨g32, a37_2, a37_3, a37_4, a37_6, a37_7, a37_8, a37_9, hS37⟩
  clear a31_2 a31_3 a31_4 a31_6 a31_7 a31_8
  refine wpF_seq ?_
  refine wpF_seq ?_
  refine wpF_cut (fun f H => f 2 = B (d) ∧ f 3 = PT g1 0 ∧ f 4 = PT g4 0 ∧ f 6 = PT g7 0 ∧ f 7 = v18 ∧ f 8 = v28 ∧ f 9 = PT g32 0 ∧ f 10 = I (0) ∧ H37 = H) ?_ ?_
  · refine wpF_region ?_
    refine wpL_q (U := NoB) rfl (q_assign (v := I (0)) rfl rfl) ?_
    exact ⟨a37_2, a37_3, a37_4, a37_6, a37_7, a37_8, a37_9, rfl, rfl⟩
  rintro f38 _ ⟨a38_2, a38_3, a38_4, a38_6, a38_7, a38_8, a38_9, a38_10, rfl⟩
  clear a37_2 a37_3 a37_4 a37_6 a37_7 a37_8 a37_9
  have hS39 : St H0 NoB (fun b => S b ∧ b < H0.size) [rowE 22 (Value.slice none 0 0) ([] : List (List Int)), blkE g32 (.cells #[I (a.Signs), (Value.slice none 0 0), (Value.slice none 0 0)] 36), rowE 3 v28 ([0] : List Int), rowE 3 v18 ([0] : List Int), blkE g7 (.cells #[I (0), (Value.slice none 0 0), (Value.slice none 0 0)] 36), blkE g4 (.cells #[I (b.Signs), wn, wt] 36), blkE g1 (.cells #[I (a.Signs), vn, vt] 36), rdE vn a.Next, rdE vt a.Takes, rdE wn b.Next, rdE wt b.Takes] H37 := hS37.row0 22
  have hS40 : St H0 NoB (fun b => S b ∧ b < H0.size) [rowE 4 (Value.slice none 0 0) ([] : List Bool), rowE 22 (Value.slice none 0 0) ([] : List (List Int)), blkE g32 (.cells #[I (a.Signs), (Value.slice none 0 0), (Value.slice none 0 0)] 36), rowE 3 v28 ([0] : List Int), rowE 3 v18 ([0] : List Int), blkE g7 (.cells #[I (0), (Value.slice none 0 0), (Value.slice none 0 0)] 36), blkE g4 (.cells #[I (b.Signs), wn, wt] 36), blkE g1 (.cells #[I (a.Signs), vn, vt] 36), rdE vn a.Next, rdE vt a.Takes, rdE wn b.Next, rdE wt b.Takes] H37 := hS39.row0 4
  have hS41 : St H0 NoB (fun b => S b ∧ b < H0.size) [rowE 4 (Value.slice none 0 0) ([] : List Bool), rowE 22 (Value.slice none 0 0) ([] : List (List Int)), blkE g32 (.cells #[I (a.Signs), (Value.slice none 0 0), (Value.slice none 0 0)] 36), rowE 3 v28 (sndL ([(0, 0)]) : List Int), rowE 3 v18 (fstL ([(0, 0)]) : List Int), blkE g7 (.cells #[I (0), (Value.slice none 0 0), (Value.slice none 0 0)] 36), blkE g4 (.cells #[I (b.Signs), wn, wt] 36), blkE g1 (.cells #[I (a.Signs), vn, vt] 36), rdE vn a.Next, rdE vt a.Takes, rdE wn b.Next, rdE wt b.Takes] H37 := by have h__ := hS40; skip; exact h__
  refine wpF_block ?_
  refine wpF_loop (fun mz f H => ∃ (i : Nat), ∃ (P : List (Int × Int)), ∃ (vx : Value), ∃ (vy : Value), ∃ (v1 : Value), ∃ (v2 : Value), mz = 2001 - i ∧ (i ≤ P.length) ∧ (BothS a b P i 0) ∧ f 2 = B (d) ∧ f 3 = PT g1 0 ∧ f 4 = PT g4 0 ∧ f 6 = PT g7 0 ∧ f 7 = vx ∧ f 8 = vy ∧ f 9 = PT g32 0 ∧ f 10 = I ((i : Int)) ∧ St H0 NoB (fun b => S b ∧ b < H0.size) [rowE 3 vx (fstL P : List Int), rowE 3 vy (sndL P : List Int), rowE 22 v1 (boNext a b i : List (List Int)), rowE 4 v2 (boTakes a b d i : List Bool), blkE g32 (.cells #[I (a.Signs), v1, v2] 36), blkE g7 (.cells #[I (0), (Value.slice none 0 0), (Value.slice none 0 0)] 36), blkE g4 (.cells #[I (b.Signs), wn, wt] 36), blkE g1 (.cells #[I (a.Signs), vn, vt] 36), rdE vn a.Next, rdE vt a.Takes, rdE wn b.Next, rdE wt b.Takes] H) (2001 - 0) ?_ ?_
  · exact ⟨0, [(0, 0)], v18, v28, (Value.slice none 0 0), (Value.slice none 0 0), rfl, Nat.zero_le _, (BothS.start hWa hWb), a38_2, a38_3, a38_4, a38_6, a38_7, a38_8, a38_9, (Eq.trans a38_10 (congrArg I (by omega))), (show St H0 NoB (fun b => S b ∧ b < H0.size) [rowE 3 v18 (fstL ([(0, 0)]) : List Int), rowE 3 v28 (sndL ([(0, 0)]) : List Int), rowE 22 (Value.slice none 0 0) (boNext a b 0 : List (List Int)), rowE 4 (Value.slice none 0 0) (boTakes a b d 0 : List Bool), blkE g32 (.cells #[I (a.Signs), (Value.slice none 0 0), (Value.slice none 0 0)] 36), blkE g7 (.cells #[I (0), (Value.slice none 0 0), (Value.slice none 0 0)] 36), blkE g4 (.cells #[I (b.Signs), wn, wt] 36), blkE g1 (.cells #[I (a.Signs), vn, vt] 36), rdE vn a.Next, rdE vt a.Takes, rdE wn b.Next, rdE wt b.Takes] H37 from (St.drop (show St H0 NoB (fun b => S b ∧ b < H0.size) [rowE 3 v18 (fstL ([(0, 0)]) : List Int), rowE 3 v28 (sndL ([(0, 0)]) : List Int), rowE 22 (Value.slice none 0 0) ([] : List (List Int)), rowE 4 (Value.slice none 0 0) ([] : List Bool), blkE g32 (.cells #[I (a.Signs), (Value.slice none 0 0), (Value.slice none 0 0)] 36), blkE g7 (.cells #[I (0), (Value.slice none 0 0), (Value.slice none 0 0)] 36), blkE g4 (.cells #[I (b.Signs), wn, wt] 36), blkE g1 (.cells #[I (a.Signs), vn, vt] 36), rdE vn a.Next, rdE vt a.Takes, rdE wn b.Next, rdE wt b.Takes] H37 from (((hS41.front 1 rfl).front 3 rfl).front 4 rfl)) (sk (sk (sk (sk (sk (sk (sk (sk (sk (sk (sk (sk (List.Sublist.slnil)))))))))))))))⟩
  intro m42 f42 H42 hI42
  obtain ⟨i, P, vx, vy, v1, v2, hm42, hi, hB, a42_2, a42_3, a42_4, a42_6, a42_7, a42_8, a42_9, a42_10, hS42⟩ := hI42
  clear a38_10 a38_2 a38_3 a38_4 a38_6 a38_7 a38_8 a38_9
  refine wpF_seq ?_
  refine wpF_seq ?_
  refine wpF_cut (fun f H => f 2 = B (d) ∧ f 3 = PT g1 0 ∧ f 4 = PT g4 0 ∧ f 6 = PT g7 0 ∧ f 7 = vx ∧ f 8 = vy ∧ f 9 = PT g32 0 ∧ f 10 = I ((i : Int)) ∧ f 32 = B (decide (((i : Int) < ((fstL P).length : Int)) ∧ ((i : Int) < 2000))) ∧ H42 = H) ?_ ?_
  · refine wpF_region ?_
    refine wpL_q (U := NoB) rfl (q_move (v := I ((i : Int))) rfl a42_10) ?_
    refine wpL_q (U := NoB) rfl (q_move (v := vx) rfl a42_7) ?_
    refine wpL_q (U := NoB) rfl (q_lenRd rfl Try.underlying22 rfl (hS42.rowl 0 rfl)) ?_
    refine wpL_q (U := NoB) rfl (q_lss rfl rfl rfl) ?_
    refine wpL_q (U := NoB) rfl (q_move (v := B (decide ((i : Int) < ((fstL P).length : Int)))) rfl rfl) ?_
    by_cases hg43 : (i : Int) < ((fstL P).length : Int)
    · have hb44 := Eq.trans rfl (congrArg B (decide_eq_true hg43))
      refine wpL_gq (U := NoB) rfl rfl rfl hb44 (q_move (v := I ((i : Int))) rfl a42_10) ?_
      refine wpL_gq (U := NoB) rfl rfl rfl hb44 (q_lss rfl rfl rfl) ?_
      refine wpL_q (U := NoB) rfl (q_pickT (v := B (decide ((i : Int) < 2000))) rfl hb44 rfl) ?_
      exact ⟨a42_2, a42_3, a42_4, a42_6, a42_7, a42_8, a42_9, a42_10, (Eq.trans rfl (congrArg B (decide_congr_of ((Iff.rfl).trans (((and_iff_right hg43).trans Iff.rfl)).symm)))), rfl⟩
    · have hb45 := Eq.trans rfl (congrArg B (decide_eq_false hg43))
      refine wpL_gs rfl rfl rfl hb45 rfl ?_
      refine wpL_gs rfl rfl rfl hb45 rfl ?_
      refine wpL_q (U := NoB) rfl (q_pickF (v := B (false)) rfl hb45 rfl) ?_
      exact ⟨a42_2, a42_3, a42_4, a42_6, a42_7, a42_8, a42_9, a42_10, (Eq.trans rfl (congrArg B ((decide_eq_false (fun h => hg43 h.1)).symm))), rfl⟩
  rintro f46 _ ⟨a46_2, a46_3, a46_4, a46_6, a46_7, a46_8, a46_9, a46_10, a46_32, rfl⟩
  clear a42_10 a42_2 a42_3 a42_4 a42_6 a42_7 a42_8 a42_9
  refine wpF_condP a46_32 (fun hlt => ?t141) (fun hlt => ?e141)
  case e141 =>
    have hfl := fstL_len (P := P)
    refine wpF_exit ?_
    refine atX_here ?_
    refine wpF_seq ?_
    refine wpF_cut (fun f H => f 6 = PT g7 0 ∧ St H0 NoB (fun b => S b ∧ b < H0.size) [blkE g7 (.cells #[I (a.Signs), v1, v2] 36), rowE 3 vx (fstL P : List Int), rowE 3 vy (sndL P : List Int), rowE 22 v1 (boNext a b i : List (List Int)), rowE 4 v2 (boTakes a b d i : List Bool), blkE g32 (.cells #[I (a.Signs), v1, v2] 36), blkE g4 (.cells #[I (b.Signs), wn, wt] 36), blkE g1 (.cells #[I (a.Signs), vn, vt] 36), rdE vn a.Next, rdE vt a.Takes, rdE wn b.Next, rdE wt b.Takes] H) ?_ ?_
    · refine wpF_region ?_
      refine wpL_q (U := NoB) rfl (q_loadBlkA rfl a46_9 Try.isAgg36 Try.sizeOf36 rfl (hS42.blk 4 rfl) (fun h => h)) ?_
      refine wpL_o rfl ?_
      refine e_storeBlkA (cs' := #[I (a.Signs), v1, v2]) rfl a46_6 rfl Try.sizeOf36 rfl rfl (List.forall_mem_cons.2 ⟨rfl, List.forall_mem_cons.2 ⟨(oneCell_rdL (hS42.rowl 2 rfl)), List.forall_mem_cons.2 ⟨(oneCell_rdL (hS42.rowl 3 rfl)), List.forall_mem_nil _⟩⟩⟩) (hS42.front 5 rfl) (fun H136 hS137 hxx => ?_)
      replace hS137 : St H0 NoB (fun b => S b ∧ b < H0.size) [blkE g7 (.cells #[I (a.Signs), v1, v2] 36), rowE 3 vx (fstL P : List Int), rowE 3 vy (sndL P : List Int), rowE 22 v1 (boNext a b i : List (List Int)), rowE 4 v2 (boTakes a b d i : List Bool), blkE g32 (.cells #[I (a.Signs), v1, v2] 36), blkE g4 (.cells #[I (b.Signs), wn, wt] 36), blkE g1 (.cells #[I (a.Signs), vn, vt] 36), rdE vn a.Next, rdE vt a.Takes, rdE wn b.Next, rdE wt b.Takes] H136 := hS137
      exact ⟨a46_6, hS137⟩
    rintro f138 H138 ⟨a138_6, hS138⟩
    clear a46_10 a46_2 a46_3 a46_32 a46_4 a46_6 a46_7 a46_8 a46_9
    refine wpF_ret ?_
    refine ⟨_, resC a138_6 (loadV_blkA Try.isAgg36 Try.sizeOf36 rfl (hS138.blk 0 rfl)) (resN), hS138.frame, ?_⟩
    show ∃ w1_ w2_, (Value.agg #[I (a.Signs), v1, v2]) = Value.agg #[I (prodA a b (opB d)).Signs, w1_, w2_] ∧ Rd (fun b => S b ∧ b < H0.size) H138 w1_ (prodA a b (opB d)).Next ∧ Rd (fun b => S b ∧ b < H0.size) H138 w2_ (prodA a b (opB d)).Takes
    have hS139 : St H0 NoB (fun b => S b ∧ b < H0.size) [rdE v1 (boNext a b i), blkE g7 (.cells #[I (a.Signs), v1, v2] 36), rowE 3 vx (fstL P : List Int), rowE 3 vy (sndL P : List Int), rowE 4 v2 (boTakes a b d i : List Bool), blkE g32 (.cells #[I (a.Signs), v1, v2] 36), blkE g4 (.cells #[I (b.Signs), wn, wt] 36), blkE g1 (.cells #[I (a.Signs), vn, vt] 36), rdE vn a.Next, rdE vt a.Takes, rdE wn b.Next, rdE wt b.Takes] H138 := St.fin (hS138.front 3 rfl)
    have hS140 : St H0 NoB (fun b => S b ∧ b < H0.size) [rdE v2 (boTakes a b d i), rdE v1 (boNext a b i), blkE g7 (.cells #[I (a.Signs), v1, v2] 36), rowE 3 vx (fstL P : List Int), rowE 3 vy (sndL P : List Int), blkE g32 (.cells #[I (a.Signs), v1, v2] 36), blkE g4 (.cells #[I (b.Signs), wn, wt] 36), blkE g1 (.cells #[I (a.Signs), vn, vt] 36), rdE vn a.Next, rdE vt a.Takes, rdE wn b.Next, rdE wt b.Takes] H138 := St.fin (hS139.front 4 rfl)
    have hne : P.length ≤ 1600 := pairs_1600 hB hWa hWb
    have hie := hB.fin hi (by omega)
    have hq : prodA a b (opB d) = _ := bo_made
    have hss2 : (prodA a b (opB d)).Signs = a.Signs := (by show ((a.Signs.toNat : Nat) : Int) = a.Signs; omega)
    exact ⟨v1, v2, by rw [hss2], by rw [hq, ← hie]; exact (hS140.result (hS140.rdS 1 rfl)), by rw [hq, ← hie]; exact (hS140.result (hS140.rdS 0 rfl))⟩
  have hfl := fstL_len (P := P)
  have hsl := sndL_len (P := P)
  have hil : i < P.length := by omega
  have hbl : i < (bfs (stepP a b) a.Signs.toNat (0, 0) i).length := by rw [hB.len]; exact hil
  have hln := boNext_len (a := a) (b := b) (i := i)
  have hlk := boTakes_len (a := a) (b := b) (d := d) (i := i)
  refine wpF_skip ?_
  refine wpF_seq ?_
  refine wpF_block ?_
  refine wpF_seq ?_
  refine wpF_cut (fun f H => f 2 = B (d) ∧ f 3 = PT g1 0 ∧ f 4 = PT g4 0 ∧ f 6 = PT g7 0 ∧ f 7 = vx ∧ f 8 = vy ∧ f 9 = PT g32 0 ∧ f 10 = I ((i : Int)) ∧ f 11 = (Value.slice none 0 0) ∧ H42 = H) ?_ ?_
  · refine wpF_region ?_
    refine wpL_q (U := NoB) rfl (q_assign (v := (Value.slice none 0 0)) rfl rfl) ?_
    exact ⟨a46_2, a46_3, a46_4, a46_6, a46_7, a46_8, a46_9, a46_10, rfl, rfl⟩
  rintro f48 _ ⟨a48_2, a48_3, a48_4, a48_6, a48_7, a48_8, a48_9, a48_10, a48_11, rfl⟩
  clear a46_10 a46_2 a46_3 a46_32 a46_4 a46_6 a46_7 a46_8 a46_9
  have hS49 : St H0 NoB (fun b => S b ∧ b < H0.size) [rowE 3 (Value.slice none 0 0) ([] : List Int), rowE 3 vx (fstL P : List Int), rowE 3 vy (sndL P : List Int), rowE 22 v1 (boNext a b i : List (List Int)), rowE 4 v2 (boTakes a b d i : List Bool), blkE g32 (.cells #[I (a.Signs), v1, v2] 36), blkE g7 (.cells #[I (0), (Value.slice none 0 0), (Value.slice none 0 0)] 36), blkE g4 (.cells #[I (b.Signs), wn, wt] 36), blkE g1 (.cells #[I (a.Signs), vn, vt] 36), rdE vn a.Next, rdE vt a.Takes, rdE wn b.Next, rdE wt b.Takes] H42 := hS42.row0 3
  refine wpF_seq ?_
  refine wpF_seq ?_
  refine wpF_cut (fun f H => f 2 = B (d) ∧ f 3 = PT g1 0 ∧ f 4 = PT g4 0 ∧ f 6 = PT g7 0 ∧ f 7 = vx ∧ f 8 = vy ∧ f 9 = PT g32 0 ∧ f 10 = I ((i : Int)) ∧ f 11 = (Value.slice none 0 0) ∧ f 12 = I (0) ∧ H42 = H) ?_ ?_
  · refine wpF_region ?_
    refine wpL_q (U := NoB) rfl (q_assign (v := I (0)) rfl rfl) ?_
    exact ⟨a48_2, a48_3, a48_4, a48_6, a48_7, a48_8, a48_9, a48_10, a48_11, rfl, rfl⟩
  rintro f50 _ ⟨a50_2, a50_3, a50_4, a50_6, a50_7, a50_8, a50_9, a50_10, a50_11, a50_12, rfl⟩
  clear a48_10 a48_11 a48_2 a48_3 a48_4 a48_6 a48_7 a48_8 a48_9
  refine wpF_block ?_
  refine wpF_loop (fun mz f H => ∃ (c : Nat), ∃ (P2 : List (Int × Int)), ∃ (vx2 : Value), ∃ (vy2 : Value), ∃ (vr : Value), mz = a.Signs.toNat - c ∧ (c ≤ a.Signs.toNat) ∧ (i < P2.length) ∧ (nth P2 i = nth P i) ∧ (BothS a b P2 i c) ∧ f 2 = B (d) ∧ f 3 = PT g1 0 ∧ f 4 = PT g4 0 ∧ f 6 = PT g7 0 ∧ f 7 = vx2 ∧ f 8 = vy2 ∧ f 9 = PT g32 0 ∧ f 10 = I ((i : Int)) ∧ f 11 = vr ∧ f 12 = I ((c : Int)) ∧ St H0 NoB (fun b => S b ∧ b < H0.size) [rowE 3 vr (boRow a b (pairsL a b) i c : List Int), rowE 3 vx2 (fstL P2 : List Int), rowE 3 vy2 (sndL P2 : List Int), rowE 22 v1 (boNext a b i : List (List Int)), rowE 4 v2 (boTakes a b d i : List Bool), blkE g32 (.cells #[I (a.Signs), v1, v2] 36), blkE g7 (.cells #[I (0), (Value.slice none 0 0), (Value.slice none 0 0)] 36), blkE g4 (.cells #[I (b.Signs), wn, wt] 36), blkE g1 (.cells #[I (a.Signs), vn, vt] 36), rdE vn a.Next, rdE vt a.Takes, rdE wn b.Next, rdE wt b.Takes] H) (a.Signs.toNat - 0) ?_ ?_
  · exact ⟨0, P, vx, vy, (Value.slice none 0 0), rfl, Nat.zero_le _, (by omega), rfl, hB, a50_2, a50_3, a50_4, a50_6, a50_7, a50_8, a50_9, a50_10, a50_11, (Eq.trans a50_12 (congrArg I (by omega))), (show St H0 NoB (fun b => S b ∧ b < H0.size) [rowE 3 (Value.slice none 0 0) (boRow a b (pairsL a b) i 0 : List Int), rowE 3 vx (fstL P : List Int), rowE 3 vy (sndL P : List Int), rowE 22 v1 (boNext a b i : List (List Int)), rowE 4 v2 (boTakes a b d i : List Bool), blkE g32 (.cells #[I (a.Signs), v1, v2] 36), blkE g7 (.cells #[I (0), (Value.slice none 0 0), (Value.slice none 0 0)] 36), blkE g4 (.cells #[I (b.Signs), wn, wt] 36), blkE g1 (.cells #[I (a.Signs), vn, vt] 36), rdE vn a.Next, rdE vt a.Takes, rdE wn b.Next, rdE wt b.Takes] H42 from hS49)⟩
  intro m51 f51 H51 hI51
  obtain ⟨c, P2, vx2, vy2, vr, hm51, hc, hil2, hnth, hB2, a51_2, a51_3, a51_4, a51_6, a51_7, a51_8, a51_9, a51_10, a51_11, a51_12, hS51⟩ := hI51
  clear a50_10 a50_11 a50_12 a50_2 a50_3 a50_4 a50_6 a50_7 a50_8 a50_9
  refine wpF_seq ?_
  refine wpF_seq ?_
  refine wpF_cut (fun f H => f 2 = B (d) ∧ f 3 = PT g1 0 ∧ f 4 = PT g4 0 ∧ f 6 = PT g7 0 ∧ f 7 = vx2 ∧ f 8 = vy2 ∧ f 9 = PT g32 0 ∧ f 10 = I ((i : Int)) ∧ f 11 = vr ∧ f 12 = I ((c : Int)) ∧ f 38 = B (decide ((c : Int) < a.Signs)) ∧ H51 = H) ?_ ?_
  · refine wpF_region ?_
    refine wpL_q (U := NoB) rfl (q_move (v := I ((c : Int))) rfl a51_12) ?_
    refine wpL_q (U := NoB) rfl (q_fieldAddr rfl Try.underlying36 rfl Try.sizeOf3 a51_3) ?_
    refine wpL_q (U := NoB) rfl (q_loadBlk rfl rfl Try.isAgg3 (hS51.blk 8 rfl) rfl (fun h => h)) ?_
    refine wpL_q (U := NoB) rfl (q_lss rfl rfl rfl) ?_
    exact ⟨a51_2, a51_3, a51_4, a51_6, a51_7, a51_8, a51_9, a51_10, a51_11, a51_12, rfl, rfl⟩
  rintro f52 _ ⟨a52_2, a52_3, a52_4, a52_6, a52_7, a52_8, a52_9, a52_10, a52_11, a52_12, a52_38, rfl⟩
  clear a51_10 a51_11 a51_12 a51_2 a51_3 a51_4 a51_6 a51_7 a51_8 a51_9
  refine wpF_condP a52_38 (fun hlt2 => ?t135) (fun hlt2 => ?e135)
  case e135 =>
    have hce : c = a.Signs.toNat := by omega
    have hBt := hB2.turn hce hbl
    have hie := (hB2.pos hWa hWb hss hil2).1
    have hfl2 := fstL_len (P := P2)
    have hsl2 := sndL_len (P := P2)
    have hnx := (hB2.pos hWa hWb hss hil2).2
    have hfx := fstL_nth hil2
    have hsx := sndL_nth hil2
    refine wpF_exit ?_
    refine atX_here ?_
    refine wpF_seq ?_
    refine wpF_cut (fun f H => ∃ (v113 : Value), f 2 = B (d) ∧ f 3 = PT g1 0 ∧ f 4 = PT g4 0 ∧ f 6 = PT g7 0 ∧ f 7 = vx2 ∧ f 8 = vy2 ∧ f 9 = PT g32 0 ∧ f 10 = I ((i : Int)) ∧ St H0 NoB (fun b => S b ∧ b < H0.size) [blkE g32 (.cells #[I (a.Signs), v113, v2] 36), rowE 22 v113 (boNext a b (i + 1) : List (List Int)), rowE 3 vx2 (fstL P2 : List Int), rowE 3 vy2 (sndL P2 : List Int), rowE 4 v2 (boTakes a b d i : List Bool), blkE g7 (.cells #[I (0), (Value.slice none 0 0), (Value.slice none 0 0)] 36), blkE g4 (.cells #[I (b.Signs), wn, wt] 36), blkE g1 (.cells #[I (a.Signs), vn, vt] 36), rdE vn a.Next, rdE vt a.Takes, rdE wn b.Next, rdE wt b.Takes] H) ?_ ?_
    · refine wpF_region ?_
      refine wpL_q (U := NoB) rfl (q_fieldAddr rfl Try.underlying36 rfl Try.sizeOf27 a52_9) ?_
      refine wpL_q (U := NoB) rfl (q_loadBlk rfl rfl Try.isAgg27 (hS51.blk 5 rfl) rfl (fun h => h)) ?_
      refine wpL_q (U := NoB) rfl (q_move (v := vr) rfl a52_11) ?_
      have hS107 : St H0 NoB (fun b => S b ∧ b < H0.size) [rdE vr (boRow a b (pairsL a b) i c), rowE 3 vx2 (fstL P2 : List Int), rowE 3 vy2 (sndL P2 : List Int), rowE 22 v1 (boNext a b i : List (List Int)), rowE 4 v2 (boTakes a b d i : List Bool), blkE g32 (.cells #[I (a.Signs), v1, v2] 36), blkE g7 (.cells #[I (0), (Value.slice none 0 0), (Value.slice none 0 0)] 36), blkE g4 (.cells #[I (b.Signs), wn, wt] 36), blkE g1 (.cells #[I (a.Signs), vn, vt] 36), rdE vn a.Next, rdE vt a.Takes, rdE wn b.Next, rdE wt b.Takes] H51 := St.fin hS51
      refine wpL_o rfl ?_
      refine e_buildSlice (vs := [vr]) (xs := ([boRow a b (pairsL a b) i c] : List (List Int))) rfl Try.underlying27 Try.zeroValue22 rfl Try.sizeOf22 (par1 (v0 := vr) rfl) rfl hS107 (RdVs.cons (hS107.rdS 0 rfl) (RdVs.nil)) (by decide) (by decide) (fun v108 H109 hS110 hxx hvv108 => ?_)
      replace hS110 : St H0 NoB (fun b => S b ∧ b < H0.size) [rowE 22 v108 ([boRow a b (pairsL a b) i c] : List (List Int)), rdE vr (boRow a b (pairsL a b) i c), rowE 3 vx2 (fstL P2 : List Int), rowE 3 vy2 (sndL P2 : List Int), rowE 22 v1 (boNext a b i : List (List Int)), rowE 4 v2 (boTakes a b d i : List Bool), blkE g32 (.cells #[I (a.Signs), v1, v2] 36), blkE g7 (.cells #[I (0), (Value.slice none 0 0), (Value.slice none 0 0)] 36), blkE g4 (.cells #[I (b.Signs), wn, wt] 36), blkE g1 (.cells #[I (a.Signs), vn, vt] 36), rdE vn a.Next, rdE vt a.Takes, rdE wn b.Next, rdE wt b.Takes] H109 := hS110
      have hS111 : St H0 NoB (fun b => S b ∧ b < H0.size) [rdE v108 ([boRow a b (pairsL a b) i c] : List (List Int)), rdE vr (boRow a b (pairsL a b) i c), rowE 3 vx2 (fstL P2 : List Int), rowE 3 vy2 (sndL P2 : List Int), rowE 22 v1 (boNext a b i : List (List Int)), rowE 4 v2 (boTakes a b d i : List Bool), blkE g32 (.cells #[I (a.Signs), v1, v2] 36), blkE g7 (.cells #[I (0), (Value.slice none 0 0), (Value.slice none 0 0)] 36), blkE g4 (.cells #[I (b.Signs), wn, wt] 36), blkE g1 (.cells #[I (a.Signs), vn, vt] 36), rdE vn a.Next, rdE vt a.Takes, rdE wn b.Next, rdE wt b.Takes] H109 := St.fin hS110
      have hS112 : St H0 NoB (fun b => S b ∧ b < H0.size) [rowE 22 v1 (boNext a b i : List (List Int)), rdE v108 ([boRow a b (pairsL a b) i c] : List (List Int)), rdE vr (boRow a b (pairsL a b) i c), rowE 3 vx2 (fstL P2 : List Int), rowE 3 vy2 (sndL P2 : List Int), rowE 4 v2 (boTakes a b d i : List Bool), blkE g32 (.cells #[I (a.Signs), v1, v2] 36), blkE g7 (.cells #[I (0), (Value.slice none 0 0), (Value.slice none 0 0)] 36), blkE g4 (.cells #[I (b.Signs), wn, wt] 36), blkE g1 (.cells #[I (a.Signs), vn, vt] 36), rdE vn a.Next, rdE vt a.Takes, rdE wn b.Next, rdE wt b.Takes] H109 := (hS111.front 4 rfl)
      refine wpL_o rfl ?_
      refine e_append rfl Try.underlying27 em_LInt_22_AutoQ3 rfl rfl hS112 (hS112.rdS 1 rfl) (fun _ h => h) (by have hb : GoT.bytes (List Int) = 24 := rfl; simp [hb]; omega) (by decide) (fun v113 H114 hS115 hxx => ?_)
      replace hS115 : St H0 NoB (fun b => S b ∧ b < H0.size) [rowE 22 v113 ((boNext a b i) ++ ([boRow a b (pairsL a b) i c]) : List (List Int)), rdE v108 ([boRow a b (pairsL a b) i c] : List (List Int)), rdE vr (boRow a b (pairsL a b) i c), rowE 3 vx2 (fstL P2 : List Int), rowE 3 vy2 (sndL P2 : List Int), rowE 4 v2 (boTakes a b d i : List Bool), blkE g32 (.cells #[I (a.Signs), v1, v2] 36), blkE g7 (.cells #[I (0), (Value.slice none 0 0), (Value.slice none 0 0)] 36), blkE g4 (.cells #[I (b.Signs), wn, wt] 36), blkE g1 (.cells #[I (a.Signs), vn, vt] 36), rdE vn a.Next, rdE vt a.Takes, rdE wn b.Next, rdE wt b.Takes] H114 := hS115
      have hS116 : St H0 NoB (fun b => S b ∧ b < H0.size) [rowE 22 v113 (boNext a b (i + 1) : List (List Int)), rdE v108 ([boRow a b (pairsL a b) i c] : List (List Int)), rdE vr (boRow a b (pairsL a b) i c), rowE 3 vx2 (fstL P2 : List Int), rowE 3 vy2 (sndL P2 : List Int), rowE 4 v2 (boTakes a b d i : List Bool), blkE g32 (.cells #[I (a.Signs), v1, v2] 36), blkE g7 (.cells #[I (0), (Value.slice none 0 0), (Value.slice none 0 0)] 36), blkE g4 (.cells #[I (b.Signs), wn, wt] 36), blkE g1 (.cells #[I (a.Signs), vn, vt] 36), rdE vn a.Next, rdE vt a.Takes, rdE wn b.Next, rdE wt b.Takes] H114 := by rw [show (boNext a b (i + 1)) = ((boNext a b i) ++ ([boRow a b (pairsL a b) i c])) from (by rw [boNext_next hie, hce])]; exact hS115
      refine wpL_q (U := NoB) rfl (q_fieldAddr rfl Try.underlying36 rfl Try.sizeOf27 a52_9) ?_
      refine wpL_o rfl ?_
      refine e_storeBlk (v := v113) rfl rfl rfl (oneCell_rdL (hS116.rowl 0 rfl)) Try.sizeOf27 (by show _ < 3; decide) (hS116.front 6 rfl) (fun H117 hS118 hxx => ?_)
      replace hS118 : St H0 NoB (fun b => S b ∧ b < H0.size) [blkE g32 (.cells #[I (a.Signs), v113, v2] 36), rowE 22 v113 (boNext a b (i + 1) : List (List Int)), rdE v108 ([boRow a b (pairsL a b) i c] : List (List Int)), rdE vr (boRow a b (pairsL a b) i c), rowE 3 vx2 (fstL P2 : List Int), rowE 3 vy2 (sndL P2 : List Int), rowE 4 v2 (boTakes a b d i : List Bool), blkE g7 (.cells #[I (0), (Value.slice none 0 0), (Value.slice none 0 0)] 36), blkE g4 (.cells #[I (b.Signs), wn, wt] 36), blkE g1 (.cells #[I (a.Signs), vn, vt] 36), rdE vn a.Next, rdE vt a.Takes, rdE wn b.Next, rdE wt b.Takes] H117 := hS118
      exact ⟨v113, a52_2, a52_3, a52_4, a52_6, a52_7, a52_8, a52_9, a52_10, (hS118.drop (sk (sk (sn (sn (sk (sk (sk (sk (sk (sk (sk (sk (sk (sk (List.Sublist.slnil))))))))))))))))⟩
    rintro f119 H119 ⟨v113, a119_2, a119_3, a119_4, a119_6, a119_7, a119_8, a119_9, a119_10, hS119⟩
    clear a52_10 a52_11 a52_12 a52_2 a52_3 a52_38 a52_4 a52_6 a52_7 a52_8 a52_9
    refine wpF_seq ?_
    have hmi := hBt.any hWa hWb i
    refine wpF_cut (fun f H => f 2 = B (d) ∧ f 3 = PT g1 0 ∧ f 4 = PT g4 0 ∧ f 6 = PT g7 0 ∧ f 7 = vx2 ∧ f 8 = vy2 ∧ f 9 = PT g32 0 ∧ f 10 = I ((i : Int)) ∧ f 107 = B (d) ∧ H119 = H) ?_ ?_
    · refine wpF_region ?_
      refine wpL_q (U := NoB) rfl (q_move (v := B (d)) rfl a119_2) ?_
      exact ⟨a119_2, a119_3, a119_4, a119_6, a119_7, a119_8, a119_9, a119_10, rfl, rfl⟩
    rintro f120 _ ⟨a120_2, a120_3, a120_4, a120_6, a120_7, a120_8, a120_9, a120_10, a120_107, rfl⟩
    clear a119_10 a119_2 a119_3 a119_4 a119_6 a119_7 a119_8 a119_9
    refine wpF_cut (fun f H => ∃ (vK : Value), f 2 = B (d) ∧ f 3 = PT g1 0 ∧ f 4 = PT g4 0 ∧ f 6 = PT g7 0 ∧ f 7 = vx2 ∧ f 8 = vy2 ∧ f 9 = PT g32 0 ∧ f 10 = I ((i : Int)) ∧ St H0 NoB (fun b => S b ∧ b < H0.size) [rowE 4 vK (boTakes a b d (i + 1) : List Bool), blkE g32 (.cells #[I (a.Signs), v113, vK] 36), rowE 22 v113 (boNext a b (i + 1) : List (List Int)), rowE 3 vx2 (fstL P2 : List Int), rowE 3 vy2 (sndL P2 : List Int), blkE g7 (.cells #[I (0), (Value.slice none 0 0), (Value.slice none 0 0)] 36), blkE g4 (.cells #[I (b.Signs), wn, wt] 36), blkE g1 (.cells #[I (a.Signs), vn, vt] 36), rdE vn a.Next, rdE vt a.Takes, rdE wn b.Next, rdE wt b.Takes] H) ?_ ?_
    · refine wpF_cond a120_107 (fun hd => ?t133) (fun hd => ?e133)
      case t133 =>
        refine wpF_cut (fun f H => ∃ (v123o21 : Value), f 2 = B (d) ∧ f 3 = PT g1 0 ∧ f 4 = PT g4 0 ∧ f 6 = PT g7 0 ∧ f 7 = vx2 ∧ f 8 = vy2 ∧ f 9 = PT g32 0 ∧ f 10 = I ((i : Int)) ∧ St H0 NoB (fun b => S b ∧ b < H0.size) [blkE g32 (.cells #[I (a.Signs), v113, v123o21] 36), rowE 4 v123o21 (boTakes a b d (i + 1) : List Bool), rowE 22 v113 (boNext a b (i + 1) : List (List Int)), rowE 3 vx2 (fstL P2 : List Int), rowE 3 vy2 (sndL P2 : List Int), blkE g7 (.cells #[I (0), (Value.slice none 0 0), (Value.slice none 0 0)] 36), blkE g4 (.cells #[I (b.Signs), wn, wt] 36), blkE g1 (.cells #[I (a.Signs), vn, vt] 36), rdE vn a.Next, rdE vt a.Takes, rdE wn b.Next, rdE wt b.Takes] H) ?_ ?_
        · refine wpF_drawn [none, none, none, none, none, none, none, none, none, none, none, none, none, none, none, none, none, none, none, none, none, some 0, none, some 1] [[], [], [], [], [], [], [], [], [], [], [], [], [], [], [], [], [], [], [], [], [], [], [], []] (fun l b => match l with | 0 => True | 1 => True | _ => False) (by kernel_rfl) (by kernel_rfl) ?_
          refine wpR_q 0 (by kernel_rfl) rfl (quietAt rfl rfl (q_fieldAddr rfl Try.underlying36 rfl Try.sizeOf32 a120_9)) ?_
          refine wpR_q 1 (by kernel_rfl) rfl (quietAt rfl rfl (q_loadBlk rfl rfl Try.isAgg32 (hS119.blk 0 rfl) rfl (labU_not [] rfl (List.forall_mem_nil _)))) ?_
          refine wpR_q 2 (by kernel_rfl) rfl (quietAt rfl rfl (q_fieldAddr rfl Try.underlying36 rfl Try.sizeOf32 a120_3)) ?_
          refine wpR_q 3 (by kernel_rfl) rfl (quietAt rfl rfl (q_loadBlk rfl rfl Try.isAgg32 (hS119.blk 7 rfl) rfl (labU_not [] rfl (List.forall_mem_nil _)))) ?_
          refine wpR_q 4 (by kernel_rfl) rfl (quietAt rfl rfl (q_move (v := vx2) rfl a120_7)) ?_
          refine wpR_q 5 (by kernel_rfl) rfl (quietAt rfl rfl (q_move (v := I ((i : Int))) rfl a120_10)) ?_
          refine wpR_q 6 (by kernel_rfl) rfl (quietAt rfl rfl (q_indexRd (k := i) rfl Try.underlying22 el_Int_3_AutoQ3 rfl rfl (hS119.rowl 2 rfl) (by omega) (by omega))) ?_
          refine wpR_q 7 (by kernel_rfl) rfl (quietAt rfl rfl (q_loadInt (k := i) rfl rfl el_Int_3_AutoQ3 (hS119.rowl 2 rfl) (by omega) (labU_sub [] rfl (List.forall_mem_nil _)))) ?_
          refine wpR_q 8 (by kernel_rfl) rfl (quietAt rfl rfl (q_indexRd (k := (nth (fstL P2) i).toNat) rfl Try.underlying32 el_Bool_4_AutoQ3 rfl rfl (hS119.rdl 9 rfl) (by omega) (by omega))) ?_
          refine wpR_q 9 (by kernel_rfl) rfl (quietAt rfl rfl (q_loadBool (k := (nth (fstL P2) i).toNat) rfl rfl el_Bool_4_AutoQ3 (hS119.rdl 9 rfl) (by omega) (labU_sub [] rfl (List.forall_mem_nil _)))) ?_
          refine wpR_q 10 (by kernel_rfl) rfl (quietAt rfl rfl (q_move (v := B (nth a.Takes ((nth (fstL P2) i).toNat))) rfl rfl)) ?_
          by_cases hg124 : (nth a.Takes ((nth (fstL P2) i).toNat)) = true
          · have hb125 := Eq.trans rfl (congrArg B hg124)
            refine wpR_q 11 (by kernel_rfl) rfl (quietAt_g rfl rfl rfl rfl hb125 (q_fieldAddr rfl Try.underlying36 rfl Try.sizeOf32 a120_4)) ?_
            refine wpR_q 12 (by kernel_rfl) rfl (quietAt_g rfl rfl rfl rfl hb125 (q_loadBlk rfl rfl Try.isAgg32 (hS119.blk 6 rfl) rfl (labU_not [] rfl (List.forall_mem_nil _)))) ?_
            refine wpR_q 13 (by kernel_rfl) rfl (quietAt_g rfl rfl rfl rfl hb125 (q_move (v := vy2) rfl a120_8)) ?_
            refine wpR_q 14 (by kernel_rfl) rfl (quietAt_g rfl rfl rfl rfl hb125 (q_move (v := I ((i : Int))) rfl a120_10)) ?_
            refine wpR_q 15 (by kernel_rfl) rfl (quietAt_g rfl rfl rfl rfl hb125 (q_indexRd (k := i) rfl Try.underlying22 el_Int_3_AutoQ3 rfl rfl (hS119.rowl 3 rfl) (by omega) (by omega))) ?_
            refine wpR_q 16 (by kernel_rfl) rfl (quietAt_g rfl rfl rfl rfl hb125 (q_loadInt (k := i) rfl rfl el_Int_3_AutoQ3 (hS119.rowl 3 rfl) (by omega) (labU_sub [] rfl (List.forall_mem_nil _)))) ?_
            refine wpR_q 17 (by kernel_rfl) rfl (quietAt_g rfl rfl rfl rfl hb125 (q_indexRd (k := (nth (sndL P2) i).toNat) rfl Try.underlying32 el_Bool_4_AutoQ3 rfl rfl (hS119.rdl 11 rfl) (by omega) (by omega))) ?_
            refine wpR_q 18 (by kernel_rfl) rfl (quietAt_g rfl rfl rfl rfl hb125 (q_loadBool (k := (nth (sndL P2) i).toNat) rfl rfl el_Bool_4_AutoQ3 (hS119.rdl 11 rfl) (by omega) (labU_sub [] rfl (List.forall_mem_nil _)))) ?_
            refine wpR_q 19 (by kernel_rfl) rfl (quietAt rfl rfl (q_pickT (v := B (nth b.Takes ((nth (sndL P2) i).toNat))) rfl hb125 rfl)) ?_
            refine wpR_n [20] (by kernel_rfl) ?_
            refine List.forall_mem_cons.2 ⟨?_, List.forall_mem_nil _⟩
            refine exE rfl rfl ?_
            refine e_buildSlice (vs := [B (nth b.Takes ((nth (sndL P2) i).toNat))]) (xs := ([nth b.Takes ((nth (sndL P2) i).toNat)] : List Bool)) rfl Try.underlying32 Try.zeroValue4 rfl Try.sizeOf4 (par1 (v0 := B (nth b.Takes ((nth (sndL P2) i).toNat))) rfl) rfl hS119 (RdVs.cons (Rd.bool.2 rfl) (RdVs.nil)) (by decide) (by decide) (fun v123o20 H123o20 hS123o20 hxx hvv123o20 => ?_)
            replace hS123o20 : St H0 NoB (fun b => S b ∧ b < H0.size) [rowE 4 v123o20 ([nth b.Takes ((nth (sndL P2) i).toNat)] : List Bool), blkE g32 (.cells #[I (a.Signs), v113, v2] 36), rowE 22 v113 (boNext a b (i + 1) : List (List Int)), rowE 3 vx2 (fstL P2 : List Int), rowE 3 vy2 (sndL P2 : List Int), rowE 4 v2 (boTakes a b d i : List Bool), blkE g7 (.cells #[I (0), (Value.slice none 0 0), (Value.slice none 0 0)] 36), blkE g4 (.cells #[I (b.Signs), wn, wt] 36), blkE g1 (.cells #[I (a.Signs), vn, vt] 36), rdE vn a.Next, rdE vt a.Takes, rdE wn b.Next, rdE wt b.Takes] H123o20 := hS123o20
            refine ⟨Ext.mono hxx (fun _ h => h.elim), ?_⟩
            refine wpR_n [21] (by kernel_rfl) ?_
            refine List.forall_mem_cons.2 ⟨?_, List.forall_mem_nil _⟩
            have hS123o21 : St H0 NoB (fun b => S b ∧ b < H0.size) [rdE v123o20 ([nth b.Takes ((nth (sndL P2) i).toNat)] : List Bool), blkE g32 (.cells #[I (a.Signs), v113, v2] 36), rowE 22 v113 (boNext a b (i + 1) : List (List Int)), rowE 3 vx2 (fstL P2 : List Int), rowE 3 vy2 (sndL P2 : List Int), rowE 4 v2 (boTakes a b d i : List Bool), blkE g7 (.cells #[I (0), (Value.slice none 0 0), (Value.slice none 0 0)] 36), blkE g4 (.cells #[I (b.Signs), wn, wt] 36), blkE g1 (.cells #[I (a.Signs), vn, vt] 36), rdE vn a.Next, rdE vt a.Takes, rdE wn b.Next, rdE wt b.Takes] H123o20 := St.fin hS123o20
            have hS123o21x2 : St H0 NoB (fun b => S b ∧ b < H0.size) [rowE 4 v2 (boTakes a b d i : List Bool), rdE v123o20 ([nth b.Takes ((nth (sndL P2) i).toNat)] : List Bool), blkE g32 (.cells #[I (a.Signs), v113, v2] 36), rowE 22 v113 (boNext a b (i + 1) : List (List Int)), rowE 3 vx2 (fstL P2 : List Int), rowE 3 vy2 (sndL P2 : List Int), blkE g7 (.cells #[I (0), (Value.slice none 0 0), (Value.slice none 0 0)] 36), blkE g4 (.cells #[I (b.Signs), wn, wt] 36), blkE g1 (.cells #[I (a.Signs), vn, vt] 36), rdE vn a.Next, rdE vt a.Takes, rdE wn b.Next, rdE wt b.Takes] H123o20 := (hS123o21.front 5 rfl)
            refine exE rfl rfl ?_
            refine e_append rfl Try.underlying32 em_Bool_4_AutoQ3 rfl rfl hS123o21x2 (hS123o21x2.rdS 1 rfl) (fun _ h => h) (by have hb : GoT.bytes Bool = 1 := rfl; simp [hb]; omega) (by decide) (fun v123o21 H123o21 hS123o21x3 hxx => ?_)
            replace hS123o21x3 : St H0 NoB (fun b => S b ∧ b < H0.size) [rowE 4 v123o21 ((boTakes a b d i) ++ ([nth b.Takes ((nth (sndL P2) i).toNat)]) : List Bool), rdE v123o20 ([nth b.Takes ((nth (sndL P2) i).toNat)] : List Bool), blkE g32 (.cells #[I (a.Signs), v113, v2] 36), rowE 22 v113 (boNext a b (i + 1) : List (List Int)), rowE 3 vx2 (fstL P2 : List Int), rowE 3 vy2 (sndL P2 : List Int), blkE g7 (.cells #[I (0), (Value.slice none 0 0), (Value.slice none 0 0)] 36), blkE g4 (.cells #[I (b.Signs), wn, wt] 36), blkE g1 (.cells #[I (a.Signs), vn, vt] 36), rdE vn a.Next, rdE vt a.Takes, rdE wn b.Next, rdE wt b.Takes] H123o21 := hS123o21x3
            have hS123o21x4 : St H0 NoB (fun b => S b ∧ b < H0.size) [rowE 4 v123o21 (boTakes a b d (i + 1) : List Bool), rdE v123o20 ([nth b.Takes ((nth (sndL P2) i).toNat)] : List Bool), blkE g32 (.cells #[I (a.Signs), v113, v2] 36), rowE 22 v113 (boNext a b (i + 1) : List (List Int)), rowE 3 vx2 (fstL P2 : List Int), rowE 3 vy2 (sndL P2 : List Int), blkE g7 (.cells #[I (0), (Value.slice none 0 0), (Value.slice none 0 0)] 36), blkE g4 (.cells #[I (b.Signs), wn, wt] 36), blkE g1 (.cells #[I (a.Signs), vn, vt] 36), rdE vn a.Next, rdE vt a.Takes, rdE wn b.Next, rdE wt b.Takes] H123o21 := by rw [show (boTakes a b d (i + 1)) = ((boTakes a b d i) ++ ([nth b.Takes ((nth (sndL P2) i).toNat)])) from (by rw [boTakes_next hie, hnx, ← hfx, ← hsx]; first | rw [opB_1 hd (by assumption)] | rw [opB_2 hd (by assumption)] | rw [opB_3 hd (by assumption)] | rw [opB_4 hd (by assumption)])]; exact hS123o21x3
            refine ⟨Ext.mono hxx (labS_of 0 rfl (fun _ _ => trivial)), ?_⟩
            refine wpR_q 22 (by kernel_rfl) rfl (quietAt rfl rfl (q_fieldAddr rfl Try.underlying36 rfl Try.sizeOf32 a120_9)) ?_
            refine wpR_n [23] (by kernel_rfl) ?_
            refine List.forall_mem_cons.2 ⟨?_, List.forall_mem_nil _⟩
            refine exE rfl rfl ?_
            refine e_storeBlk (v := v123o21) rfl rfl rfl (oneCell_rdL (hS123o21x4.rowl 0 rfl)) Try.sizeOf32 (by show _ < 3; decide) (hS123o21x4.front 2 rfl) (fun H123o23 hS123o23 hxx => ?_)
            replace hS123o23 : St H0 NoB (fun b => S b ∧ b < H0.size) [blkE g32 (.cells #[I (a.Signs), v113, v123o21] 36), rowE 4 v123o21 (boTakes a b d (i + 1) : List Bool), rdE v123o20 ([nth b.Takes ((nth (sndL P2) i).toNat)] : List Bool), rowE 22 v113 (boNext a b (i + 1) : List (List Int)), rowE 3 vx2 (fstL P2 : List Int), rowE 3 vy2 (sndL P2 : List Int), blkE g7 (.cells #[I (0), (Value.slice none 0 0), (Value.slice none 0 0)] 36), blkE g4 (.cells #[I (b.Signs), wn, wt] 36), blkE g1 (.cells #[I (a.Signs), vn, vt] 36), rdE vn a.Next, rdE vt a.Takes, rdE wn b.Next, rdE wt b.Takes] H123o23 := hS123o23
            refine ⟨Ext.mono hxx (labS_of 1 rfl (fun _ _ => trivial)), ?_⟩
            refine wpR_end (by kernel_rfl) ?_
            exact ⟨v123o21, a120_2, a120_3, a120_4, a120_6, a120_7, a120_8, a120_9, a120_10, (hS123o23.drop (sk (sk (sn (sk (sk (sk (sk (sk (sk (sk (sk (sk (sk (List.Sublist.slnil)))))))))))))))⟩
          · have hb126 := Eq.trans rfl (congrArg B (Bool.eq_false_iff.2 hg124))
            refine wpR_q 11 (by kernel_rfl) rfl (quietAt_s rfl rfl rfl rfl hb126 rfl) ?_
            refine wpR_q 12 (by kernel_rfl) rfl (quietAt_s rfl rfl rfl rfl hb126 rfl) ?_
            refine wpR_q 13 (by kernel_rfl) rfl (quietAt_s rfl rfl rfl rfl hb126 rfl) ?_
            refine wpR_q 14 (by kernel_rfl) rfl (quietAt_s rfl rfl rfl rfl hb126 rfl) ?_
            refine wpR_q 15 (by kernel_rfl) rfl (quietAt_s rfl rfl rfl rfl hb126 rfl) ?_
            refine wpR_q 16 (by kernel_rfl) rfl (quietAt_s rfl rfl rfl rfl hb126 rfl) ?_
            refine wpR_q 17 (by kernel_rfl) rfl (quietAt_s rfl rfl rfl rfl hb126 rfl) ?_
            refine wpR_q 18 (by kernel_rfl) rfl (quietAt_s rfl rfl rfl rfl hb126 rfl) ?_
            refine wpR_q 19 (by kernel_rfl) rfl (quietAt rfl rfl (q_pickF (v := B (false)) rfl hb126 rfl)) ?_
            refine wpR_n [20] (by kernel_rfl) ?_
            refine List.forall_mem_cons.2 ⟨?_, List.forall_mem_nil _⟩
            refine exE rfl rfl ?_
            refine e_buildSlice (vs := [B (false)]) (xs := ([false] : List Bool)) rfl Try.underlying32 Try.zeroValue4 rfl Try.sizeOf4 (par1 (v0 := B (false)) rfl) rfl hS119 (RdVs.cons (Rd.bool.2 rfl) (RdVs.nil)) (by decide) (by decide) (fun v123o20 H123o20 hS123o20 hxx hvv123o20 => ?_)
            replace hS123o20 : St H0 NoB (fun b => S b ∧ b < H0.size) [rowE 4 v123o20 ([false] : List Bool), blkE g32 (.cells #[I (a.Signs), v113, v2] 36), rowE 22 v113 (boNext a b (i + 1) : List (List Int)), rowE 3 vx2 (fstL P2 : List Int), rowE 3 vy2 (sndL P2 : List Int), rowE 4 v2 (boTakes a b d i : List Bool), blkE g7 (.cells #[I (0), (Value.slice none 0 0), (Value.slice none 0 0)] 36), blkE g4 (.cells #[I (b.Signs), wn, wt] 36), blkE g1 (.cells #[I (a.Signs), vn, vt] 36), rdE vn a.Next, rdE vt a.Takes, rdE wn b.Next, rdE wt b.Takes] H123o20 := hS123o20
            refine ⟨Ext.mono hxx (fun _ h => h.elim), ?_⟩
            refine wpR_n [21] (by kernel_rfl) ?_
            refine List.forall_mem_cons.2 ⟨?_, List.forall_mem_nil _⟩
            have hS123o21 : St H0 NoB (fun b => S b ∧ b < H0.size) [rdE v123o20 ([false] : List Bool), blkE g32 (.cells #[I (a.Signs), v113, v2] 36), rowE 22 v113 (boNext a b (i + 1) : List (List Int)), rowE 3 vx2 (fstL P2 : List Int), rowE 3 vy2 (sndL P2 : List Int), rowE 4 v2 (boTakes a b d i : List Bool), blkE g7 (.cells #[I (0), (Value.slice none 0 0), (Value.slice none 0 0)] 36), blkE g4 (.cells #[I (b.Signs), wn, wt] 36), blkE g1 (.cells #[I (a.Signs), vn, vt] 36), rdE vn a.Next, rdE vt a.Takes, rdE wn b.Next, rdE wt b.Takes] H123o20 := St.fin hS123o20
            have hS123o21x2 : St H0 NoB (fun b => S b ∧ b < H0.size) [rowE 4 v2 (boTakes a b d i : List Bool), rdE v123o20 ([false] : List Bool), blkE g32 (.cells #[I (a.Signs), v113, v2] 36), rowE 22 v113 (boNext a b (i + 1) : List (List Int)), rowE 3 vx2 (fstL P2 : List Int), rowE 3 vy2 (sndL P2 : List Int), blkE g7 (.cells #[I (0), (Value.slice none 0 0), (Value.slice none 0 0)] 36), blkE g4 (.cells #[I (b.Signs), wn, wt] 36), blkE g1 (.cells #[I (a.Signs), vn, vt] 36), rdE vn a.Next, rdE vt a.Takes, rdE wn b.Next, rdE wt b.Takes] H123o20 := (hS123o21.front 5 rfl)
            refine exE rfl rfl ?_
            refine e_append rfl Try.underlying32 em_Bool_4_AutoQ3 rfl rfl hS123o21x2 (hS123o21x2.rdS 1 rfl) (fun _ h => h) (by have hb : GoT.bytes Bool = 1 := rfl; simp [hb]; omega) (by decide) (fun v123o21 H123o21 hS123o21x3 hxx => ?_)
            replace hS123o21x3 : St H0 NoB (fun b => S b ∧ b < H0.size) [rowE 4 v123o21 ((boTakes a b d i) ++ ([false]) : List Bool), rdE v123o20 ([false] : List Bool), blkE g32 (.cells #[I (a.Signs), v113, v2] 36), rowE 22 v113 (boNext a b (i + 1) : List (List Int)), rowE 3 vx2 (fstL P2 : List Int), rowE 3 vy2 (sndL P2 : List Int), blkE g7 (.cells #[I (0), (Value.slice none 0 0), (Value.slice none 0 0)] 36), blkE g4 (.cells #[I (b.Signs), wn, wt] 36), blkE g1 (.cells #[I (a.Signs), vn, vt] 36), rdE vn a.Next, rdE vt a.Takes, rdE wn b.Next, rdE wt b.Takes] H123o21 := hS123o21x3
            have hS123o21x4 : St H0 NoB (fun b => S b ∧ b < H0.size) [rowE 4 v123o21 (boTakes a b d (i + 1) : List Bool), rdE v123o20 ([false] : List Bool), blkE g32 (.cells #[I (a.Signs), v113, v2] 36), rowE 22 v113 (boNext a b (i + 1) : List (List Int)), rowE 3 vx2 (fstL P2 : List Int), rowE 3 vy2 (sndL P2 : List Int), blkE g7 (.cells #[I (0), (Value.slice none 0 0), (Value.slice none 0 0)] 36), blkE g4 (.cells #[I (b.Signs), wn, wt] 36), blkE g1 (.cells #[I (a.Signs), vn, vt] 36), rdE vn a.Next, rdE vt a.Takes, rdE wn b.Next, rdE wt b.Takes] H123o21 := by rw [show (boTakes a b d (i + 1)) = ((boTakes a b d i) ++ ([false])) from (by rw [boTakes_next hie, hnx, ← hfx, ← hsx]; first | rw [opB_1 hd (by assumption)] | rw [opB_2 hd (by assumption)] | rw [opB_3 hd (by assumption)] | rw [opB_4 hd (by assumption)])]; exact hS123o21x3
            refine ⟨Ext.mono hxx (labS_of 0 rfl (fun _ _ => trivial)), ?_⟩
            refine wpR_q 22 (by kernel_rfl) rfl (quietAt rfl rfl (q_fieldAddr rfl Try.underlying36 rfl Try.sizeOf32 a120_9)) ?_
            refine wpR_n [23] (by kernel_rfl) ?_
            refine List.forall_mem_cons.2 ⟨?_, List.forall_mem_nil _⟩
            refine exE rfl rfl ?_
            refine e_storeBlk (v := v123o21) rfl rfl rfl (oneCell_rdL (hS123o21x4.rowl 0 rfl)) Try.sizeOf32 (by show _ < 3; decide) (hS123o21x4.front 2 rfl) (fun H123o23 hS123o23 hxx => ?_)
            replace hS123o23 : St H0 NoB (fun b => S b ∧ b < H0.size) [blkE g32 (.cells #[I (a.Signs), v113, v123o21] 36), rowE 4 v123o21 (boTakes a b d (i + 1) : List Bool), rdE v123o20 ([false] : List Bool), rowE 22 v113 (boNext a b (i + 1) : List (List Int)), rowE 3 vx2 (fstL P2 : List Int), rowE 3 vy2 (sndL P2 : List Int), blkE g7 (.cells #[I (0), (Value.slice none 0 0), (Value.slice none 0 0)] 36), blkE g4 (.cells #[I (b.Signs), wn, wt] 36), blkE g1 (.cells #[I (a.Signs), vn, vt] 36), rdE vn a.Next, rdE vt a.Takes, rdE wn b.Next, rdE wt b.Takes] H123o23 := hS123o23
            refine ⟨Ext.mono hxx (labS_of 1 rfl (fun _ _ => trivial)), ?_⟩
            refine wpR_end (by kernel_rfl) ?_
            exact ⟨v123o21, a120_2, a120_3, a120_4, a120_6, a120_7, a120_8, a120_9, a120_10, (hS123o23.drop (sk (sk (sn (sk (sk (sk (sk (sk (sk (sk (sk (sk (sk (List.Sublist.slnil)))))))))))))))⟩
        rintro f127 H127 ⟨v123o21, a127_2, a127_3, a127_4, a127_6, a127_7, a127_8, a127_9, a127_10, hS127⟩
        clear a120_10 a120_107 a120_2 a120_3 a120_4 a120_6 a120_7 a120_8 a120_9
        exact ⟨v123o21, a127_2, a127_3, a127_4, a127_6, a127_7, a127_8, a127_9, a127_10, (St.drop (show St H0 NoB (fun b => S b ∧ b < H0.size) [rowE 4 v123o21 (boTakes a b d (i + 1) : List Bool), blkE g32 (.cells #[I (a.Signs), v113, v123o21] 36), rowE 22 v113 (boNext a b (i + 1) : List (List Int)), rowE 3 vx2 (fstL P2 : List Int), rowE 3 vy2 (sndL P2 : List Int), blkE g7 (.cells #[I (0), (Value.slice none 0 0), (Value.slice none 0 0)] 36), blkE g4 (.cells #[I (b.Signs), wn, wt] 36), blkE g1 (.cells #[I (a.Signs), vn, vt] 36), rdE vn a.Next, rdE vt a.Takes, rdE wn b.Next, rdE wt b.Takes] H127 from (hS127.front 1 rfl)) (sk (sk (sk (sk (sk (sk (sk (sk (sk (sk (sk (sk (List.Sublist.slnil))))))))))))))⟩
      refine wpF_cut (fun f H => ∃ (v128o21 : Value), f 2 = B (d) ∧ f 3 = PT g1 0 ∧ f 4 = PT g4 0 ∧ f 6 = PT g7 0 ∧ f 7 = vx2 ∧ f 8 = vy2 ∧ f 9 = PT g32 0 ∧ f 10 = I ((i : Int)) ∧ St H0 NoB (fun b => S b ∧ b < H0.size) [blkE g32 (.cells #[I (a.Signs), v113, v128o21] 36), rowE 4 v128o21 (boTakes a b d (i + 1) : List Bool), rowE 22 v113 (boNext a b (i + 1) : List (List Int)), rowE 3 vx2 (fstL P2 : List Int), rowE 3 vy2 (sndL P2 : List Int), blkE g7 (.cells #[I (0), (Value.slice none 0 0), (Value.slice none 0 0)] 36), blkE g4 (.cells #[I (b.Signs), wn, wt] 36), blkE g1 (.cells #[I (a.Signs), vn, vt] 36), rdE vn a.Next, rdE vt a.Takes, rdE wn b.Next, rdE wt b.Takes] H) ?_ ?_
      · refine wpF_drawn [none, none, none, none, none, none, none, none, none, none, none, none, none, none, none, none, none, none, none, none, none, some 0, none, some 1] [[], [], [], [], [], [], [], [], [], [], [], [], [], [], [], [], [], [], [], [], [], [], [], []] (fun l b => match l with | 0 => True | 1 => True | _ => False) (by kernel_rfl) (by kernel_rfl) ?_
        refine wpR_q 0 (by kernel_rfl) rfl (quietAt rfl rfl (q_fieldAddr rfl Try.underlying36 rfl Try.sizeOf32 a120_9)) ?_
        refine wpR_q 1 (by kernel_rfl) rfl (quietAt rfl rfl (q_loadBlk rfl rfl Try.isAgg32 (hS119.blk 0 rfl) rfl (labU_not [] rfl (List.forall_mem_nil _)))) ?_
        refine wpR_q 2 (by kernel_rfl) rfl (quietAt rfl rfl (q_fieldAddr rfl Try.underlying36 rfl Try.sizeOf32 a120_3)) ?_
        refine wpR_q 3 (by kernel_rfl) rfl (quietAt rfl rfl (q_loadBlk rfl rfl Try.isAgg32 (hS119.blk 7 rfl) rfl (labU_not [] rfl (List.forall_mem_nil _)))) ?_
        refine wpR_q 4 (by kernel_rfl) rfl (quietAt rfl rfl (q_move (v := vx2) rfl a120_7)) ?_
        refine wpR_q 5 (by kernel_rfl) rfl (quietAt rfl rfl (q_move (v := I ((i : Int))) rfl a120_10)) ?_
        refine wpR_q 6 (by kernel_rfl) rfl (quietAt rfl rfl (q_indexRd (k := i) rfl Try.underlying22 el_Int_3_AutoQ3 rfl rfl (hS119.rowl 2 rfl) (by omega) (by omega))) ?_
        refine wpR_q 7 (by kernel_rfl) rfl (quietAt rfl rfl (q_loadInt (k := i) rfl rfl el_Int_3_AutoQ3 (hS119.rowl 2 rfl) (by omega) (labU_sub [] rfl (List.forall_mem_nil _)))) ?_
        refine wpR_q 8 (by kernel_rfl) rfl (quietAt rfl rfl (q_indexRd (k := (nth (fstL P2) i).toNat) rfl Try.underlying32 el_Bool_4_AutoQ3 rfl rfl (hS119.rdl 9 rfl) (by omega) (by omega))) ?_
        refine wpR_q 9 (by kernel_rfl) rfl (quietAt rfl rfl (q_loadBool (k := (nth (fstL P2) i).toNat) rfl rfl el_Bool_4_AutoQ3 (hS119.rdl 9 rfl) (by omega) (labU_sub [] rfl (List.forall_mem_nil _)))) ?_
        refine wpR_q 10 (by kernel_rfl) rfl (quietAt rfl rfl (q_move (v := B (nth a.Takes ((nth (fstL P2) i).toNat))) rfl rfl)) ?_
        by_cases hg129 : (nth a.Takes ((nth (fstL P2) i).toNat)) = true
        · have hb130 := Eq.trans rfl (congrArg B hg129)
          refine wpR_q 11 (by kernel_rfl) rfl (quietAt_s rfl rfl rfl rfl hb130 rfl) ?_
          refine wpR_q 12 (by kernel_rfl) rfl (quietAt_s rfl rfl rfl rfl hb130 rfl) ?_
          refine wpR_q 13 (by kernel_rfl) rfl (quietAt_s rfl rfl rfl rfl hb130 rfl) ?_
          refine wpR_q 14 (by kernel_rfl) rfl (quietAt_s rfl rfl rfl rfl hb130 rfl) ?_
          refine wpR_q 15 (by kernel_rfl) rfl (quietAt_s rfl rfl rfl rfl hb130 rfl) ?_
          refine wpR_q 16 (by kernel_rfl) rfl (quietAt_s rfl rfl rfl rfl hb130 rfl) ?_
          refine wpR_q 17 (by kernel_rfl) rfl (quietAt_s rfl rfl rfl rfl hb130 rfl) ?_
          refine wpR_q 18 (by kernel_rfl) rfl (quietAt_s rfl rfl rfl rfl hb130 rfl) ?_
          refine wpR_q 19 (by kernel_rfl) rfl (quietAt rfl rfl (q_pickT (v := B (true)) rfl hb130 rfl)) ?_
          refine wpR_n [20] (by kernel_rfl) ?_
          refine List.forall_mem_cons.2 ⟨?_, List.forall_mem_nil _⟩
          refine exE rfl rfl ?_
          refine e_buildSlice (vs := [B (true)]) (xs := ([true] : List Bool)) rfl Try.underlying32 Try.zeroValue4 rfl Try.sizeOf4 (par1 (v0 := B (true)) rfl) rfl hS119 (RdVs.cons (Rd.bool.2 rfl) (RdVs.nil)) (by decide) (by decide) (fun v128o20 H128o20 hS128o20 hxx hvv128o20 => ?_)
          replace hS128o20 : St H0 NoB (fun b => S b ∧ b < H0.size) [rowE 4 v128o20 ([true] : List Bool), blkE g32 (.cells #[I (a.Signs), v113, v2] 36), rowE 22 v113 (boNext a b (i + 1) : List (List Int)), rowE 3 vx2 (fstL P2 : List Int), rowE 3 vy2 (sndL P2 : List Int), rowE 4 v2 (boTakes a b d i : List Bool), blkE g7 (.cells #[I (0), (Value.slice none 0 0), (Value.slice none 0 0)] 36), blkE g4 (.cells #[I (b.Signs), wn, wt] 36), blkE g1 (.cells #[I (a.Signs), vn, vt] 36), rdE vn a.Next, rdE vt a.Takes, rdE wn b.Next, rdE wt b.Takes] H128o20 := hS128o20
          refine ⟨Ext.mono hxx (fun _ h => h.elim), ?_⟩
          refine wpR_n [21] (by kernel_rfl) ?_
          refine List.forall_mem_cons.2 ⟨?_, List.forall_mem_nil _⟩
          have hS128o21 : St H0 NoB (fun b => S b ∧ b < H0.size) [rdE v128o20 ([true] : List Bool), blkE g32 (.cells #[I (a.Signs), v113, v2] 36), rowE 22 v113 (boNext a b (i + 1) : List (List Int)), rowE 3 vx2 (fstL P2 : List Int), rowE 3 vy2 (sndL P2 : List Int), rowE 4 v2 (boTakes a b d i : List Bool), blkE g7 (.cells #[I (0), (Value.slice none 0 0), (Value.slice none 0 0)] 36), blkE g4 (.cells #[I (b.Signs), wn, wt] 36), blkE g1 (.cells #[I (a.Signs), vn, vt] 36), rdE vn a.Next, rdE vt a.Takes, rdE wn b.Next, rdE wt b.Takes] H128o20 := St.fin hS128o20
          have hS128o21x2 : St H0 NoB (fun b => S b ∧ b < H0.size) [rowE 4 v2 (boTakes a b d i : List Bool), rdE v128o20 ([true] : List Bool), blkE g32 (.cells #[I (a.Signs), v113, v2] 36), rowE 22 v113 (boNext a b (i + 1) : List (List Int)), rowE 3 vx2 (fstL P2 : List Int), rowE 3 vy2 (sndL P2 : List Int), blkE g7 (.cells #[I (0), (Value.slice none 0 0), (Value.slice none 0 0)] 36), blkE g4 (.cells #[I (b.Signs), wn, wt] 36), blkE g1 (.cells #[I (a.Signs), vn, vt] 36), rdE vn a.Next, rdE vt a.Takes, rdE wn b.Next, rdE wt b.Takes] H128o20 := (hS128o21.front 5 rfl)
          refine exE rfl rfl ?_
          refine e_append rfl Try.underlying32 em_Bool_4_AutoQ3 rfl rfl hS128o21x2 (hS128o21x2.rdS 1 rfl) (fun _ h => h) (by have hb : GoT.bytes Bool = 1 := rfl; simp [hb]; omega) (by decide) (fun v128o21 H128o21 hS128o21x3 hxx => ?_)
          replace hS128o21x3 : St H0 NoB (fun b => S b ∧ b < H0.size) [rowE 4 v128o21 ((boTakes a b d i) ++ ([true]) : List Bool), rdE v128o20 ([true] : List Bool), blkE g32 (.cells #[I (a.Signs), v113, v2] 36), rowE 22 v113 (boNext a b (i + 1) : List (List Int)), rowE 3 vx2 (fstL P2 : List Int), rowE 3 vy2 (sndL P2 : List Int), blkE g7 (.cells #[I (0), (Value.slice none 0 0), (Value.slice none 0 0)] 36), blkE g4 (.cells #[I (b.Signs), wn, wt] 36), blkE g1 (.cells #[I (a.Signs), vn, vt] 36), rdE vn a.Next, rdE vt a.Takes, rdE wn b.Next, rdE wt b.Takes] H128o21 := hS128o21x3
          have hS128o21x4 : St H0 NoB (fun b => S b ∧ b < H0.size) [rowE 4 v128o21 (boTakes a b d (i + 1) : List Bool), rdE v128o20 ([true] : List Bool), blkE g32 (.cells #[I (a.Signs), v113, v2] 36), rowE 22 v113 (boNext a b (i + 1) : List (List Int)), rowE 3 vx2 (fstL P2 : List Int), rowE 3 vy2 (sndL P2 : List Int), blkE g7 (.cells #[I (0), (Value.slice none 0 0), (Value.slice none 0 0)] 36), blkE g4 (.cells #[I (b.Signs), wn, wt] 36), blkE g1 (.cells #[I (a.Signs), vn, vt] 36), rdE vn a.Next, rdE vt a.Takes, rdE wn b.Next, rdE wt b.Takes] H128o21 := by rw [show (boTakes a b d (i + 1)) = ((boTakes a b d i) ++ ([true])) from (by rw [boTakes_next hie, hnx, ← hfx, ← hsx]; first | rw [opB_1 hd (by assumption)] | rw [opB_2 hd (by assumption)] | rw [opB_3 hd (by assumption)] | rw [opB_4 hd (by assumption)])]; exact hS128o21x3
          refine ⟨Ext.mono hxx (labS_of 0 rfl (fun _ _ => trivial)), ?_⟩
          refine wpR_q 22 (by kernel_rfl) rfl (quietAt rfl rfl (q_fieldAddr rfl Try.underlying36 rfl Try.sizeOf32 a120_9)) ?_
          refine wpR_n [23] (by kernel_rfl) ?_
          refine List.forall_mem_cons.2 ⟨?_, List.forall_mem_nil _⟩
          refine exE rfl rfl ?_
          refine e_storeBlk (v := v128o21) rfl rfl rfl (oneCell_rdL (hS128o21x4.rowl 0 rfl)) Try.sizeOf32 (by show _ < 3; decide) (hS128o21x4.front 2 rfl) (fun H128o23 hS128o23 hxx => ?_)
          replace hS128o23 : St H0 NoB (fun b => S b ∧ b < H0.size) [blkE g32 (.cells #[I (a.Signs), v113, v128o21] 36), rowE 4 v128o21 (boTakes a b d (i + 1) : List Bool), rdE v128o20 ([true] : List Bool), rowE 22 v113 (boNext a b (i + 1) : List (List Int)), rowE 3 vx2 (fstL P2 : List Int), rowE 3 vy2 (sndL P2 : List Int), blkE g7 (.cells #[I (0), (Value.slice none 0 0), (Value.slice none 0 0)] 36), blkE g4 (.cells #[I (b.Signs), wn, wt] 36), blkE g1 (.cells #[I (a.Signs), vn, vt] 36), rdE vn a.Next, rdE vt a.Takes, rdE wn b.Next, rdE wt b.Takes] H128o23 := hS128o23
          refine ⟨Ext.mono hxx (labS_of 1 rfl (fun _ _ => trivial)), ?_⟩
          refine wpR_end (by kernel_rfl) ?_
          exact ⟨v128o21, a120_2, a120_3, a120_4, a120_6, a120_7, a120_8, a120_9, a120_10, (hS128o23.drop (sk (sk (sn (sk (sk (sk (sk (sk (sk (sk (sk (sk (sk (List.Sublist.slnil)))))))))))))))⟩
        · have hb131 := Eq.trans rfl (congrArg B (Bool.eq_false_iff.2 hg129))
          refine wpR_q 11 (by kernel_rfl) rfl (quietAt_g rfl rfl rfl rfl hb131 (q_fieldAddr rfl Try.underlying36 rfl Try.sizeOf32 a120_4)) ?_
          refine wpR_q 12 (by kernel_rfl) rfl (quietAt_g rfl rfl rfl rfl hb131 (q_loadBlk rfl rfl Try.isAgg32 (hS119.blk 6 rfl) rfl (labU_not [] rfl (List.forall_mem_nil _)))) ?_
          refine wpR_q 13 (by kernel_rfl) rfl (quietAt_g rfl rfl rfl rfl hb131 (q_move (v := vy2) rfl a120_8)) ?_
          refine wpR_q 14 (by kernel_rfl) rfl (quietAt_g rfl rfl rfl rfl hb131 (q_move (v := I ((i : Int))) rfl a120_10)) ?_
          refine wpR_q 15 (by kernel_rfl) rfl (quietAt_g rfl rfl rfl rfl hb131 (q_indexRd (k := i) rfl Try.underlying22 el_Int_3_AutoQ3 rfl rfl (hS119.rowl 3 rfl) (by omega) (by omega))) ?_
          refine wpR_q 16 (by kernel_rfl) rfl (quietAt_g rfl rfl rfl rfl hb131 (q_loadInt (k := i) rfl rfl el_Int_3_AutoQ3 (hS119.rowl 3 rfl) (by omega) (labU_sub [] rfl (List.forall_mem_nil _)))) ?_
          refine wpR_q 17 (by kernel_rfl) rfl (quietAt_g rfl rfl rfl rfl hb131 (q_indexRd (k := (nth (sndL P2) i).toNat) rfl Try.underlying32 el_Bool_4_AutoQ3 rfl rfl (hS119.rdl 11 rfl) (by omega) (by omega))) ?_
          refine wpR_q 18 (by kernel_rfl) rfl (quietAt_g rfl rfl rfl rfl hb131 (q_loadBool (k := (nth (sndL P2) i).toNat) rfl rfl el_Bool_4_AutoQ3 (hS119.rdl 11 rfl) (by omega) (labU_sub [] rfl (List.forall_mem_nil _)))) ?_
          refine wpR_q 19 (by kernel_rfl) rfl (quietAt rfl rfl (q_pickF (v := B (nth b.Takes ((nth (sndL P2) i).toNat))) rfl hb131 rfl)) ?_
          refine wpR_n [20] (by kernel_rfl) ?_
          refine List.forall_mem_cons.2 ⟨?_, List.forall_mem_nil _⟩
          refine exE rfl rfl ?_
          refine e_buildSlice (vs := [B (nth b.Takes ((nth (sndL P2) i).toNat))]) (xs := ([nth b.Takes ((nth (sndL P2) i).toNat)] : List Bool)) rfl Try.underlying32 Try.zeroValue4 rfl Try.sizeOf4 (par1 (v0 := B (nth b.Takes ((nth (sndL P2) i).toNat))) rfl) rfl hS119 (RdVs.cons (Rd.bool.2 rfl) (RdVs.nil)) (by decide) (by decide) (fun v128o20 H128o20 hS128o20 hxx hvv128o20 => ?_)
          replace hS128o20 : St H0 NoB (fun b => S b ∧ b < H0.size) [rowE 4 v128o20 ([nth b.Takes ((nth (sndL P2) i).toNat)] : List Bool), blkE g32 (.cells #[I (a.Signs), v113, v2] 36), rowE 22 v113 (boNext a b (i + 1) : List (List Int)), rowE 3 vx2 (fstL P2 : List Int), rowE 3 vy2 (sndL P2 : List Int), rowE 4 v2 (boTakes a b d i : List Bool), blkE g7 (.cells #[I (0), (Value.slice none 0 0), (Value.slice none 0 0)] 36), blkE g4 (.cells #[I (b.Signs), wn, wt] 36), blkE g1 (.cells #[I (a.Signs), vn, vt] 36), rdE vn a.Next, rdE vt a.Takes, rdE wn b.Next, rdE wt b.Takes] H128o20 := hS128o20
          refine ⟨Ext.mono hxx (fun _ h => h.elim), ?_⟩
          refine wpR_n [21] (by kernel_rfl) ?_
          refine List.forall_mem_cons.2 ⟨?_, List.forall_mem_nil _⟩
          have hS128o21 : St H0 NoB (fun b => S b ∧ b < H0.size) [rdE v128o20 ([nth b.Takes ((nth (sndL P2) i).toNat)] : List Bool), blkE g32 (.cells #[I (a.Signs), v113, v2] 36), rowE 22 v113 (boNext a b (i + 1) : List (List Int)), rowE 3 vx2 (fstL P2 : List Int), rowE 3 vy2 (sndL P2 : List Int), rowE 4 v2 (boTakes a b d i : List Bool), blkE g7 (.cells #[I (0), (Value.slice none 0 0), (Value.slice none 0 0)] 36), blkE g4 (.cells #[I (b.Signs), wn, wt] 36), blkE g1 (.cells #[I (a.Signs), vn, vt] 36), rdE vn a.Next, rdE vt a.Takes, rdE wn b.Next, rdE wt b.Takes] H128o20 := St.fin hS128o20
          have hS128o21x2 : St H0 NoB (fun b => S b ∧ b < H0.size) [rowE 4 v2 (boTakes a b d i : List Bool), rdE v128o20 ([nth b.Takes ((nth (sndL P2) i).toNat)] : List Bool), blkE g32 (.cells #[I (a.Signs), v113, v2] 36), rowE 22 v113 (boNext a b (i + 1) : List (List Int)), rowE 3 vx2 (fstL P2 : List Int), rowE 3 vy2 (sndL P2 : List Int), blkE g7 (.cells #[I (0), (Value.slice none 0 0), (Value.slice none 0 0)] 36), blkE g4 (.cells #[I (b.Signs), wn, wt] 36), blkE g1 (.cells #[I (a.Signs), vn, vt] 36), rdE vn a.Next, rdE vt a.Takes, rdE wn b.Next, rdE wt b.Takes] H128o20 := (hS128o21.front 5 rfl)
          refine exE rfl rfl ?_
          refine e_append rfl Try.underlying32 em_Bool_4_AutoQ3 rfl rfl hS128o21x2 (hS128o21x2.rdS 1 rfl) (fun _ h => h) (by have hb : GoT.bytes Bool = 1 := rfl; simp [hb]; omega) (by decide) (fun v128o21 H128o21 hS128o21x3 hxx => ?_)
          replace hS128o21x3 : St H0 NoB (fun b => S b ∧ b < H0.size) [rowE 4 v128o21 ((boTakes a b d i) ++ ([nth b.Takes ((nth (sndL P2) i).toNat)]) : List Bool), rdE v128o20 ([nth b.Takes ((nth (sndL P2) i).toNat)] : List Bool), blkE g32 (.cells #[I (a.Signs), v113, v2] 36), rowE 22 v113 (boNext a b (i + 1) : List (List Int)), rowE 3 vx2 (fstL P2 : List Int), rowE 3 vy2 (sndL P2 : List Int), blkE g7 (.cells #[I (0), (Value.slice none 0 0), (Value.slice none 0 0)] 36), blkE g4 (.cells #[I (b.Signs), wn, wt] 36), blkE g1 (.cells #[I (a.Signs), vn, vt] 36), rdE vn a.Next, rdE vt a.Takes, rdE wn b.Next, rdE wt b.Takes] H128o21 := hS128o21x3
          have hS128o21x4 : St H0 NoB (fun b => S b ∧ b < H0.size) [rowE 4 v128o21 (boTakes a b d (i + 1) : List Bool), rdE v128o20 ([nth b.Takes ((nth (sndL P2) i).toNat)] : List Bool), blkE g32 (.cells #[I (a.Signs), v113, v2] 36), rowE 22 v113 (boNext a b (i + 1) : List (List Int)), rowE 3 vx2 (fstL P2 : List Int), rowE 3 vy2 (sndL P2 : List Int), blkE g7 (.cells #[I (0), (Value.slice none 0 0), (Value.slice none 0 0)] 36), blkE g4 (.cells #[I (b.Signs), wn, wt] 36), blkE g1 (.cells #[I (a.Signs), vn, vt] 36), rdE vn a.Next, rdE vt a.Takes, rdE wn b.Next, rdE wt b.Takes] H128o21 := by rw [show (boTakes a b d (i + 1)) = ((boTakes a b d i) ++ ([nth b.Takes ((nth (sndL P2) i).toNat)])) from (by rw [boTakes_next hie, hnx, ← hfx, ← hsx]; first | rw [opB_1 hd (by assumption)] | rw [opB_2 hd (by assumption)] | rw [opB_3 hd (by assumption)] | rw [opB_4 hd (by assumption)])]; exact hS128o21x3
          refine ⟨Ext.mono hxx (labS_of 0 rfl (fun _ _ => trivial)), ?_⟩
          refine wpR_q 22 (by kernel_rfl) rfl (quietAt rfl rfl (q_fieldAddr rfl Try.underlying36 rfl Try.sizeOf32 a120_9)) ?_
          refine wpR_n [23] (by kernel_rfl) ?_
          refine List.forall_mem_cons.2 ⟨?_, List.forall_mem_nil _⟩
          refine exE rfl rfl ?_
          refine e_storeBlk (v := v128o21) rfl rfl rfl (oneCell_rdL (hS128o21x4.rowl 0 rfl)) Try.sizeOf32 (by show _ < 3; decide) (hS128o21x4.front 2 rfl) (fun H128o23 hS128o23 hxx => ?_)
          replace hS128o23 : St H0 NoB (fun b => S b ∧ b < H0.size) [blkE g32 (.cells #[I (a.Signs), v113, v128o21] 36), rowE 4 v128o21 (boTakes a b d (i + 1) : List Bool), rdE v128o20 ([nth b.Takes ((nth (sndL P2) i).toNat)] : List Bool), rowE 22 v113 (boNext a b (i + 1) : List (List Int)), rowE 3 vx2 (fstL P2 : List Int), rowE 3 vy2 (sndL P2 : List Int), blkE g7 (.cells #[I (0), (Value.slice none 0 0), (Value.slice none 0 0)] 36), blkE g4 (.cells #[I (b.Signs), wn, wt] 36), blkE g1 (.cells #[I (a.Signs), vn, vt] 36), rdE vn a.Next, rdE vt a.Takes, rdE wn b.Next, rdE wt b.Takes] H128o23 := hS128o23
          refine ⟨Ext.mono hxx (labS_of 1 rfl (fun _ _ => trivial)), ?_⟩
          refine wpR_end (by kernel_rfl) ?_
          exact ⟨v128o21, a120_2, a120_3, a120_4, a120_6, a120_7, a120_8, a120_9, a120_10, (hS128o23.drop (sk (sk (sn (sk (sk (sk (sk (sk (sk (sk (sk (sk (sk (List.Sublist.slnil)))))))))))))))⟩
      rintro f132 H132 ⟨v128o21, a132_2, a132_3, a132_4, a132_6, a132_7, a132_8, a132_9, a132_10, hS132⟩
      clear a120_10 a120_107 a120_2 a120_3 a120_4 a120_6 a120_7 a120_8 a120_9
      exact ⟨v128o21, a132_2, a132_3, a132_4, a132_6, a132_7, a132_8, a132_9, a132_10, (St.drop (show St H0 NoB (fun b => S b ∧ b < H0.size) [rowE 4 v128o21 (boTakes a b d (i + 1) : List Bool), blkE g32 (.cells #[I (a.Signs), v113, v128o21] 36), rowE 22 v113 (boNext a b (i + 1) : List (List Int)), rowE 3 vx2 (fstL P2 : List Int), rowE 3 vy2 (sndL P2 : List Int), blkE g7 (.cells #[I (0), (Value.slice none 0 0), (Value.slice none 0 0)] 36), blkE g4 (.cells #[I (b.Signs), wn, wt] 36), blkE g1 (.cells #[I (a.Signs), vn, vt] 36), rdE vn a.Next, rdE vt a.Takes, rdE wn b.Next, rdE wt b.Takes] H132 from (hS132.front 1 rfl)) (sk (sk (sk (sk (sk (sk (sk (sk (sk (sk (sk (sk (List.Sublist.slnil))))))))))))))⟩
    rintro f121 H121 ⟨vK, a121_2, a121_3, a121_4, a121_6, a121_7, a121_8, a121_9, a121_10, hS121⟩
    clear a120_10 a120_107 a120_2 a120_3 a120_4 a120_6 a120_7 a120_8 a120_9
    refine wpF_cut (fun f H => f 2 = B (d) ∧ f 3 = PT g1 0 ∧ f 4 = PT g4 0 ∧ f 6 = PT g7 0 ∧ f 7 = vx2 ∧ f 8 = vy2 ∧ f 9 = PT g32 0 ∧ f 10 = I ((i : Int) + 1) ∧ H121 = H) ?_ ?_
    · refine wpF_region ?_
      refine wpL_q (U := NoB) rfl (q_move (v := I ((i : Int))) rfl a121_10) ?_
      refine wpL_q (U := NoB) rfl (q_add rfl rfl rfl (by constructor <;> omega)) ?_
      refine wpL_q (U := NoB) rfl (q_assign (v := I ((i : Int) + 1)) rfl rfl) ?_
      exact ⟨a121_2, a121_3, a121_4, a121_6, a121_7, a121_8, a121_9, rfl, rfl⟩
    rintro f134 _ ⟨a134_2, a134_3, a134_4, a134_6, a134_7, a134_8, a134_9, a134_10, rfl⟩
    clear a121_10 a121_2 a121_3 a121_4 a121_6 a121_7 a121_8 a121_9
    refine ⟨_, ?_, i + 1, P2, vx2, vy2, v113, vK, rfl, (by omega), hBt, a134_2, a134_3, a134_4, a134_6, a134_7, a134_8, a134_9, (Eq.trans a134_10 (congrArg I (by omega))), (St.drop (show St H0 NoB (fun b => S b ∧ b < H0.size) [rowE 3 vx2 (fstL P2 : List Int), rowE 3 vy2 (sndL P2 : List Int), rowE 22 v113 (boNext a b (i + 1) : List (List Int)), rowE 4 vK (boTakes a b d (i + 1) : List Bool), blkE g32 (.cells #[I (a.Signs), v113, vK] 36), blkE g7 (.cells #[I (0), (Value.slice none 0 0), (Value.slice none 0 0)] 36), blkE g4 (.cells #[I (b.Signs), wn, wt] 36), blkE g1 (.cells #[I (a.Signs), vn, vt] 36), rdE vn a.Next, rdE vt a.Takes, rdE wn b.Next, rdE wt b.Takes] H121 from (((hS121.front 2 rfl).front 4 rfl).front 4 rfl)) (sk (sk (sk (sk (sk (sk (sk (sk (sk (sk (sk (sk (List.Sublist.slnil))))))))))))))⟩
    omega
  have hcs : c < a.Signs.toNat := by omega
  have hf2 := hB2.few hWa hWb
  have hrl := boRow_len (a := a) (b := b) (L := pairsL a b) (i := i) (c := c)
  have hfl2 := fstL_len (P := P2)
  have hsl2 := sndL_len (P := P2)
  refine wpF_skip ?_
  refine wpF_seq ?_
  refine wpF_block ?_
  refine wpF_seq ?_
  have hmi := hB2.any hWa hWb i
  have hrw := hWa.rows (nth (fstL P2) i).toNat (by omega)
  have hrw2 := hWb.rows (nth (sndL P2) i).toNat (by omega)
  obtain ⟨u54o7, huu54o7, hlu54o7⟩ := (Rd.list.1 (hS51.rdS 9 rfl)).elem ((nth (fstL P2) i).toNat) (by omega)
  have hS54o7 : St H0 NoB (fun b => S b ∧ b < H0.size) [rdE u54o7 (nth a.Next ((nth (fstL P2) i).toNat)), rowE 3 vr (boRow a b (pairsL a b) i c : List Int), rowE 3 vx2 (fstL P2 : List Int), rowE 3 vy2 (sndL P2 : List Int), rowE 22 v1 (boNext a b i : List (List Int)), rowE 4 v2 (boTakes a b d i : List Bool), blkE g32 (.cells #[I (a.Signs), v1, v2] 36), blkE g7 (.cells #[I (0), (Value.slice none 0 0), (Value.slice none 0 0)] 36), blkE g4 (.cells #[I (b.Signs), wn, wt] 36), blkE g1 (.cells #[I (a.Signs), vn, vt] 36), rdE vn a.Next, rdE vt a.Takes, rdE wn b.Next, rdE wt b.Takes] H51 := hS51.rd huu54o7
  refine wpF_cut (fun f H => f 2 = B (d) ∧ f 3 = PT g1 0 ∧ f 4 = PT g4 0 ∧ f 6 = PT g7 0 ∧ f 7 = vx2 ∧ f 8 = vy2 ∧ f 9 = PT g32 0 ∧ f 10 = I ((i : Int)) ∧ f 11 = vr ∧ f 12 = I ((c : Int)) ∧ f 13 = I (nth (nth a.Next ((nth (fstL P2) i).toNat)) c) ∧ H51 = H) ?_ ?_
  · refine wpF_drawn [] [] (fun _ _ => False) (by kernel_rfl) (by kernel_rfl) ?_
    refine wpR_q 0 (by kernel_rfl) rfl (quietAt rfl rfl (q_fieldAddr rfl Try.underlying36 rfl Try.sizeOf27 a52_3)) ?_
    refine wpR_q 1 (by kernel_rfl) rfl (quietAt rfl rfl (q_loadBlk rfl rfl Try.isAgg27 (hS51.blk 8 rfl) rfl (labU_not [] rfl (List.forall_mem_nil _)))) ?_
    refine wpR_q 2 (by kernel_rfl) rfl (quietAt rfl rfl (q_move (v := vx2) rfl a52_7)) ?_
    refine wpR_q 3 (by kernel_rfl) rfl (quietAt rfl rfl (q_move (v := I ((i : Int))) rfl a52_10)) ?_
    refine wpR_q 4 (by kernel_rfl) rfl (quietAt rfl rfl (q_indexRd (k := i) rfl Try.underlying22 el_Int_3_AutoQ3 rfl rfl (hS51.rowl 1 rfl) (by omega) (by omega))) ?_
    refine wpR_q 5 (by kernel_rfl) rfl (quietAt rfl rfl (q_loadInt (k := i) rfl rfl el_Int_3_AutoQ3 (hS51.rowl 1 rfl) (by omega) (labU_sub [] rfl (List.forall_mem_nil _)))) ?_
    refine wpR_q 6 (by kernel_rfl) rfl (quietAt rfl rfl (q_indexRd (k := (nth (fstL P2) i).toNat) rfl Try.underlying27 el_LInt_22_AutoQ3 rfl rfl (hS51.rdl 9 rfl) (by omega) (by omega))) ?_
    refine wpR_q 7 (by kernel_rfl) rfl (quietAt rfl rfl (q_loadE rfl rfl (hlu54o7 Try.prog 22 _ el_LInt_22_AutoQ3 (labU_sub [] rfl (List.forall_mem_nil _))))) ?_
    refine wpR_q 8 (by kernel_rfl) rfl (quietAt rfl rfl (q_move (v := I ((c : Int))) rfl a52_12)) ?_
    refine wpR_q 9 (by kernel_rfl) rfl (quietAt rfl rfl (q_indexRd (k := c) rfl Try.underlying22 el_Int_3_AutoQ3 rfl rfl (hS54o7.rdl 0 rfl) (by omega) (by omega))) ?_
    refine wpR_q 10 (by kernel_rfl) rfl (quietAt rfl rfl (q_loadInt (k := c) rfl rfl el_Int_3_AutoQ3 (hS54o7.rdl 0 rfl) (by omega) (labU_sub [] rfl (List.forall_mem_nil _)))) ?_
    refine wpR_q 11 (by kernel_rfl) rfl (quietAt rfl rfl (q_assign (v := I (nth (nth a.Next ((nth (fstL P2) i).toNat)) c)) rfl rfl)) ?_
    refine wpR_end (by kernel_rfl) ?_
    exact ⟨a52_2, a52_3, a52_4, a52_6, a52_7, a52_8, a52_9, a52_10, a52_11, a52_12, rfl, rfl⟩
  rintro f55 _ ⟨a55_2, a55_3, a55_4, a55_6, a55_7, a55_8, a55_9, a55_10, a55_11, a55_12, a55_13, rfl⟩
  clear a52_10 a52_11 a52_12 a52_2 a52_3 a52_38 a52_4 a52_6 a52_7 a52_8 a52_9
  have b56 := Eq.trans a55_13 (congrArg I (by rw [fstL_nth hil2]; first | done | rfl))
  refine wpF_seq ?_
  obtain ⟨u57o7, huu57o7, hlu57o7⟩ := (Rd.list.1 (hS51.rdS 11 rfl)).elem ((nth (sndL P2) i).toNat) (by omega)
  have hS57o7 : St H0 NoB (fun b => S b ∧ b < H0.size) [rdE u57o7 (nth b.Next ((nth (sndL P2) i).toNat)), rowE 3 vr (boRow a b (pairsL a b) i c : List Int), rowE 3 vx2 (fstL P2 : List Int), rowE 3 vy2 (sndL P2 : List Int), rowE 22 v1 (boNext a b i : List (List Int)), rowE 4 v2 (boTakes a b d i : List Bool), blkE g32 (.cells #[I (a.Signs), v1, v2] 36), blkE g7 (.cells #[I (0), (Value.slice none 0 0), (Value.slice none 0 0)] 36), blkE g4 (.cells #[I (b.Signs), wn, wt] 36), blkE g1 (.cells #[I (a.Signs), vn, vt] 36), rdE vn a.Next, rdE vt a.Takes, rdE wn b.Next, rdE wt b.Takes] H51 := hS51.rd huu57o7
  refine wpF_cut (fun f H => f 2 = B (d) ∧ f 3 = PT g1 0 ∧ f 4 = PT g4 0 ∧ f 6 = PT g7 0 ∧ f 7 = vx2 ∧ f 8 = vy2 ∧ f 9 = PT g32 0 ∧ f 10 = I ((i : Int)) ∧ f 11 = vr ∧ f 12 = I ((c : Int)) ∧ f 13 = I (stepA a (nth P2 i).1 (c : Int)) ∧ f 14 = I (nth (nth b.Next ((nth (sndL P2) i).toNat)) c) ∧ H51 = H) ?_ ?_
  · refine wpF_drawn [] [] (fun _ _ => False) (by kernel_rfl) (by kernel_rfl) ?_
    refine wpR_q 0 (by kernel_rfl) rfl (quietAt rfl rfl (q_fieldAddr rfl Try.underlying36 rfl Try.sizeOf27 a55_4)) ?_
    refine wpR_q 1 (by kernel_rfl) rfl (quietAt rfl rfl (q_loadBlk rfl rfl Try.isAgg27 (hS51.blk 7 rfl) rfl (labU_not [] rfl (List.forall_mem_nil _)))) ?_
    refine wpR_q 2 (by kernel_rfl) rfl (quietAt rfl rfl (q_move (v := vy2) rfl a55_8)) ?_
    refine wpR_q 3 (by kernel_rfl) rfl (quietAt rfl rfl (q_move (v := I ((i : Int))) rfl a55_10)) ?_
    refine wpR_q 4 (by kernel_rfl) rfl (quietAt rfl rfl (q_indexRd (k := i) rfl Try.underlying22 el_Int_3_AutoQ3 rfl rfl (hS51.rowl 2 rfl) (by omega) (by omega))) ?_
    refine wpR_q 5 (by kernel_rfl) rfl (quietAt rfl rfl (q_loadInt (k := i) rfl rfl el_Int_3_AutoQ3 (hS51.rowl 2 rfl) (by omega) (labU_sub [] rfl (List.forall_mem_nil _)))) ?_
    refine wpR_q 6 (by kernel_rfl) rfl (quietAt rfl rfl (q_indexRd (k := (nth (sndL P2) i).toNat) rfl Try.underlying27 el_LInt_22_AutoQ3 rfl rfl (hS51.rdl 11 rfl) (by omega) (by omega))) ?_
    refine wpR_q 7 (by kernel_rfl) rfl (quietAt rfl rfl (q_loadE rfl rfl (hlu57o7 Try.prog 22 _ el_LInt_22_AutoQ3 (labU_sub [] rfl (List.forall_mem_nil _))))) ?_
    refine wpR_q 8 (by kernel_rfl) rfl (quietAt rfl rfl (q_move (v := I ((c : Int))) rfl a55_12)) ?_
    refine wpR_q 9 (by kernel_rfl) rfl (quietAt rfl rfl (q_indexRd (k := c) rfl Try.underlying22 el_Int_3_AutoQ3 rfl rfl (hS57o7.rdl 0 rfl) (by omega) (by omega))) ?_
    refine wpR_q 10 (by kernel_rfl) rfl (quietAt rfl rfl (q_loadInt (k := c) rfl rfl el_Int_3_AutoQ3 (hS57o7.rdl 0 rfl) (by omega) (labU_sub [] rfl (List.forall_mem_nil _)))) ?_
    refine wpR_q 11 (by kernel_rfl) rfl (quietAt rfl rfl (q_assign (v := I (nth (nth b.Next ((nth (sndL P2) i).toNat)) c)) rfl rfl)) ?_
    refine wpR_end (by kernel_rfl) ?_
    exact ⟨a55_2, a55_3, a55_4, a55_6, a55_7, a55_8, a55_9, a55_10, a55_11, a55_12, b56, rfl, rfl⟩
  rintro f58 _ ⟨a58_2, a58_3, a58_4, a58_6, a58_7, a58_8, a58_9, a58_10, a58_11, a58_12, a58_13, a58_14, rfl⟩
  clear a55_10 a55_11 a55_12 a55_2 a55_3 a55_4 a55_6 a55_7 a55_8 a55_9
  have b59 := Eq.trans a58_14 (congrArg I (by rw [sndL_nth hil2]; first | done | rfl))
  refine wpF_seq ?_
  have hpr := hB2.pr _ (nth_mem hil2)
  have hto := InA.step (a := a) hWa hpr.1 (c := (c : Int)) ⟨by omega, by omega⟩
  have hto2 := InA.step (a := b) hWb hpr.2 (c := (c : Int)) ⟨by omega, by omega⟩
  have ht1 := hto.1
  have ht2 := hto.2
  have ht3 := hto2.1
  have ht4 := hto2.2
  refine wpF_cut (fun f H => f 2 = B (d) ∧ f 3 = PT g1 0 ∧ f 4 = PT g4 0 ∧ f 6 = PT g7 0 ∧ f 7 = vx2 ∧ f 8 = vy2 ∧ f 9 = PT g32 0 ∧ f 10 = I ((i : Int)) ∧ f 11 = vr ∧ f 12 = I ((c : Int)) ∧ f 13 = I (stepA a (nth P2 i).1 (c : Int)) ∧ f 14 = I (stepA b (nth P2 i).2 (c : Int)) ∧ f 15 = I (0) ∧ H51 = H) ?_ ?_
  · refine wpF_region ?_
    refine wpL_q (U := NoB) rfl (q_assign (v := I (0)) rfl rfl) ?_
    exact ⟨a58_2, a58_3, a58_4, a58_6, a58_7, a58_8, a58_9, a58_10, a58_11, a58_12, a58_13, b59, rfl, rfl⟩
  rintro f60 _ ⟨a60_2, a60_3, a60_4, a60_6, a60_7, a60_8, a60_9, a60_10, a60_11, a60_12, a60_13, a60_14, a60_15, rfl⟩
  clear a58_10 a58_11 a58_12 a58_13 a58_2 a58_3 a58_4 a58_6 a58_7 a58_8 a58_9
  refine wpF_seq ?_
  refine wpF_block ?_
  refine wpF_loop (fun mz f H => ∃ (k : Nat), mz = P2.length - k ∧ (k ≤ P2.length) ∧ (∀ j, j < k → nth P2 j ≠ (stepP a b (nth P2 i) (c : Int))) ∧ f 2 = B (d) ∧ f 3 = PT g1 0 ∧ f 4 = PT g4 0 ∧ f 6 = PT g7 0 ∧ f 7 = vx2 ∧ f 8 = vy2 ∧ f 9 = PT g32 0 ∧ f 10 = I ((i : Int)) ∧ f 11 = vr ∧ f 12 = I ((c : Int)) ∧ f 13 = I (stepA a (nth P2 i).1 (c : Int)) ∧ f 14 = I (stepA b (nth P2 i).2 (c : Int)) ∧ f 15 = I ((k : Int)) ∧ St H0 NoB (fun b => S b ∧ b < H0.size) [rowE 3 vr (boRow a b (pairsL a b) i c : List Int), rowE 3 vx2 (fstL P2 : List Int), rowE 3 vy2 (sndL P2 : List Int), rowE 22 v1 (boNext a b i : List (List Int)), rowE 4 v2 (boTakes a b d i : List Bool), blkE g32 (.cells #[I (a.Signs), v1, v2] 36), blkE g7 (.cells #[I (0), (Value.slice none 0 0), (Value.slice none 0 0)] 36), blkE g4 (.cells #[I (b.Signs), wn, wt] 36), blkE g1 (.cells #[I (a.Signs), vn, vt] 36), rdE vn a.Next, rdE vt a.Takes, rdE wn b.Next, rdE wt b.Takes] H) (P2.length - 0) ?_ ?_
  · exact ⟨0, rfl, Nat.zero_le _, (fun j hj => absurd hj (Nat.not_lt_zero j)), a60_2, a60_3, a60_4, a60_6, a60_7, a60_8, a60_9, a60_10, a60_11, a60_12, a60_13, a60_14, (Eq.trans a60_15 (congrArg I (by omega))), hS51⟩
  intro m61 f61 H61 hI61
  obtain ⟨k, hm61, hk, hno, a61_2, a61_3, a61_4, a61_6, a61_7, a61_8, a61_9, a61_10, a61_11, a61_12, a61_13, a61_14, a61_15, hS61⟩ := hI61
  clear a60_10 a60_11 a60_12 a60_13 a60_14 a60_15 a60_2 a60_3 a60_4 a60_6 a60_7 a60_8 a60_9
  refine wpF_seq ?_
  refine wpF_seq ?_
  refine wpF_cut (fun f H => f 2 = B (d) ∧ f 3 = PT g1 0 ∧ f 4 = PT g4 0 ∧ f 6 = PT g7 0 ∧ f 7 = vx2 ∧ f 8 = vy2 ∧ f 9 = PT g32 0 ∧ f 10 = I ((i : Int)) ∧ f 11 = vr ∧ f 12 = I ((c : Int)) ∧ f 13 = I (stepA a (nth P2 i).1 (c : Int)) ∧ f 14 = I (stepA b (nth P2 i).2 (c : Int)) ∧ f 15 = I ((k : Int)) ∧ f 82 = B (decide (((k : Int) < ((fstL P2).length : Int)) ∧ (((nth (fstL P2) k) ≠ (stepA a (nth P2 i).1 (c : Int))) ∨ ((nth (sndL P2) k) ≠ (stepA b (nth P2 i).2 (c : Int)))))) ∧ H61 = H) ?_ ?_
  · refine wpF_region ?_
    refine wpL_q (U := NoB) rfl (q_move (v := I ((k : Int))) rfl a61_15) ?_
    refine wpL_q (U := NoB) rfl (q_move (v := vx2) rfl a61_7) ?_
    refine wpL_q (U := NoB) rfl (q_lenRd rfl Try.underlying22 rfl (hS61.rowl 1 rfl)) ?_
    refine wpL_q (U := NoB) rfl (q_lss rfl rfl rfl) ?_
    refine wpL_q (U := NoB) rfl (q_move (v := B (decide ((k : Int) < ((fstL P2).length : Int)))) rfl rfl) ?_
    by_cases hg62 : (k : Int) < ((fstL P2).length : Int)
    · have hb63 := Eq.trans rfl (congrArg B (decide_eq_true hg62))
      refine wpL_gq (U := NoB) rfl rfl rfl hb63 (q_move (v := vx2) rfl a61_7) ?_
      refine wpL_gq (U := NoB) rfl rfl rfl hb63 (q_move (v := I ((k : Int))) rfl a61_15) ?_
      refine wpL_gq (U := NoB) rfl rfl rfl hb63 (q_indexRd (k := k) rfl Try.underlying22 el_Int_3_AutoQ3 rfl rfl (hS61.rowl 1 rfl) (by omega) (by omega)) ?_
      refine wpL_gq (U := NoB) rfl rfl rfl hb63 (q_loadInt (k := k) rfl rfl el_Int_3_AutoQ3 (hS61.rowl 1 rfl) (by omega) (fun _ h => h)) ?_
      refine wpL_gq (U := NoB) rfl rfl rfl hb63 (q_move (v := I (stepA a (nth P2 i).1 (c : Int))) rfl a61_13) ?_
      refine wpL_gq (U := NoB) rfl rfl rfl hb63 (q_neq rfl rfl rfl) ?_
      refine wpL_gq (U := NoB) rfl rfl rfl hb63 (q_move (v := B (decide ((nth (fstL P2) k) ≠ (stepA a (nth P2 i).1 (c : Int))))) rfl rfl) ?_
      by_cases hg65 : (nth (fstL P2) k) ≠ (stepA a (nth P2 i).1 (c : Int))
      · have hb66 := Eq.trans rfl (congrArg B (decide_eq_true hg65))
        refine wpL_gs rfl rfl rfl hb66 rfl ?_
        refine wpL_gs rfl rfl rfl hb66 rfl ?_
        refine wpL_gs rfl rfl rfl hb66 rfl ?_
        refine wpL_gs rfl rfl rfl hb66 rfl ?_
        refine wpL_gs rfl rfl rfl hb66 rfl ?_
        refine wpL_gs rfl rfl rfl hb66 rfl ?_
        refine wpL_gq (U := NoB) rfl rfl rfl hb63 (q_pickT (v := B (true)) rfl hb66 rfl) ?_
        refine wpL_q (U := NoB) rfl (q_pickT (v := B (true)) rfl hb63 rfl) ?_
        exact ⟨a61_2, a61_3, a61_4, a61_6, a61_7, a61_8, a61_9, a61_10, a61_11, a61_12, a61_13, a61_14, a61_15, (Eq.trans rfl (congrArg B ((decide_eq_true ⟨hg62, (Or.inl hg65)⟩).symm))), rfl⟩
      · have hb67 := Eq.trans rfl (congrArg B (decide_eq_false hg65))
        refine wpL_gq (U := NoB) rfl rfl rfl hb67 (q_move (v := vy2) rfl a61_8) ?_
        refine wpL_gq (U := NoB) rfl rfl rfl hb67 (q_move (v := I ((k : Int))) rfl a61_15) ?_
        refine wpL_gq (U := NoB) rfl rfl rfl hb67 (q_indexRd (k := k) rfl Try.underlying22 el_Int_3_AutoQ3 rfl rfl (hS61.rowl 2 rfl) (by omega) (by omega)) ?_
        refine wpL_gq (U := NoB) rfl rfl rfl hb67 (q_loadInt (k := k) rfl rfl el_Int_3_AutoQ3 (hS61.rowl 2 rfl) (by omega) (fun _ h => h)) ?_
        refine wpL_gq (U := NoB) rfl rfl rfl hb67 (q_move (v := I (stepA b (nth P2 i).2 (c : Int))) rfl a61_14) ?_
        refine wpL_gq (U := NoB) rfl rfl rfl hb67 (q_neq rfl rfl rfl) ?_
        refine wpL_gq (U := NoB) rfl rfl rfl hb63 (q_pickF (v := B (decide ((nth (sndL P2) k) ≠ (stepA b (nth P2 i).2 (c : Int))))) rfl hb67 rfl) ?_
        refine wpL_q (U := NoB) rfl (q_pickT (v := B (decide ((nth (sndL P2) k) ≠ (stepA b (nth P2 i).2 (c : Int))))) rfl hb63 rfl) ?_
        exact ⟨a61_2, a61_3, a61_4, a61_6, a61_7, a61_8, a61_9, a61_10, a61_11, a61_12, a61_13, a61_14, a61_15, (Eq.trans rfl (congrArg B (decide_congr_of ((Iff.rfl).trans (((and_iff_right hg62).trans ((or_iff_right hg65).trans Iff.rfl))).symm)))), rfl⟩
    · have hb64 := Eq.trans rfl (congrArg B (decide_eq_false hg62))
      refine wpL_gs rfl rfl rfl hb64 rfl ?_
      refine wpL_gs rfl rfl rfl hb64 rfl ?_
      refine wpL_gs rfl rfl rfl hb64 rfl ?_
      refine wpL_gs rfl rfl rfl hb64 rfl ?_
      refine wpL_gs rfl rfl rfl hb64 rfl ?_
      refine wpL_gs rfl rfl rfl hb64 rfl ?_
      refine wpL_gs rfl rfl rfl hb64 rfl ?_
      refine wpL_gs' rfl rfl rfl rfl ?_
      refine wpL_gs' rfl rfl rfl rfl ?_
      refine wpL_gs' rfl rfl rfl rfl ?_
      refine wpL_gs' rfl rfl rfl rfl ?_
      refine wpL_gs' rfl rfl rfl rfl ?_
      refine wpL_gs' rfl rfl rfl rfl ?_
      refine wpL_gs rfl rfl rfl hb64 rfl ?_
      refine wpL_q (U := NoB) rfl (q_pickF (v := B (false)) rfl hb64 rfl) ?_
      exact ⟨a61_2, a61_3, a61_4, a61_6, a61_7, a61_8, a61_9, a61_10, a61_11, a61_12, a61_13, a61_14, a61_15, (Eq.trans rfl (congrArg B ((decide_eq_false (fun h => hg62 h.1)).symm))), rfl⟩
  rintro f68 _ ⟨a68_2, a68_3, a68_4, a68_6, a68_7, a68_8, a68_9, a68_10, a68_11, a68_12, a68_13, a68_14, a68_15, a68_82, rfl⟩
  clear a61_10 a61_11 a61_12 a61_13 a61_14 a61_15 a61_2 a61_3 a61_4 a61_6 a61_7 a61_8 a61_9
  refine wpF_condP a68_82 (fun h82 => ?t106) (fun h82 => ?e106)
  case t106 =>
    have hnE : nth P2 k ≠ (stepP a b (nth P2 i) (c : Int)) := fun e => by have h9 := h82.2; rw [fstL_nth (by omega), sndL_nth (by omega), e] at h9; exact h9.elim (fun h => h rfl) (fun h => h rfl)
    refine wpF_skip ?_
    refine wpF_block ?_
    refine wpF_cut (fun f H => f 2 = B (d) ∧ f 3 = PT g1 0 ∧ f 4 = PT g4 0 ∧ f 6 = PT g7 0 ∧ f 7 = vx2 ∧ f 8 = vy2 ∧ f 9 = PT g32 0 ∧ f 10 = I ((i : Int)) ∧ f 11 = vr ∧ f 12 = I ((c : Int)) ∧ f 13 = I (stepA a (nth P2 i).1 (c : Int)) ∧ f 14 = I (stepA b (nth P2 i).2 (c : Int)) ∧ f 15 = I ((k : Int) + 1) ∧ H61 = H) ?_ ?_
    · refine wpF_region ?_
      refine wpL_q (U := NoB) rfl (q_move (v := I ((k : Int))) rfl a68_15) ?_
      refine wpL_q (U := NoB) rfl (q_add rfl rfl rfl (by constructor <;> omega)) ?_
      refine wpL_q (U := NoB) rfl (q_assign (v := I ((k : Int) + 1)) rfl rfl) ?_
      exact ⟨a68_2, a68_3, a68_4, a68_6, a68_7, a68_8, a68_9, a68_10, a68_11, a68_12, a68_13, a68_14, rfl, rfl⟩
    rintro f70 _ ⟨a70_2, a70_3, a70_4, a70_6, a70_7, a70_8, a70_9, a70_10, a70_11, a70_12, a70_13, a70_14, a70_15, rfl⟩
    clear a68_10 a68_11 a68_12 a68_13 a68_14 a68_15 a68_2 a68_3 a68_4 a68_6 a68_7 a68_8 a68_82 a68_9
    refine ⟨_, ?_, k + 1, rfl, (by omega), (all_succ hno hnE), a70_2, a70_3, a70_4, a70_6, a70_7, a70_8, a70_9, a70_10, a70_11, a70_12, a70_13, a70_14, (Eq.trans a70_15 (congrArg I (by omega))), hS61⟩
    omega
  have hap : k < P2.length → nth P2 k = (stepP a b (nth P2 i) (c : Int)) := fun hkl => Classical.byContradiction fun hne => h82 ⟨by omega, by rw [fstL_nth hkl, sndL_nth hkl]; exact Classical.byContradiction fun h => hne (Prod.ext (Classical.byContradiction fun h2 => h (.inl h2)) (Classical.byContradiction fun h2 => h (.inr h2)))⟩
  refine wpF_exit ?_
  refine atX_here ?_
  refine wpF_seq ?_
  refine wpF_seq ?_
  refine wpF_cut (fun f H => f 2 = B (d) ∧ f 3 = PT g1 0 ∧ f 4 = PT g4 0 ∧ f 6 = PT g7 0 ∧ f 7 = vx2 ∧ f 8 = vy2 ∧ f 9 = PT g32 0 ∧ f 10 = I ((i : Int)) ∧ f 11 = vr ∧ f 12 = I ((c : Int)) ∧ f 13 = I (stepA a (nth P2 i).1 (c : Int)) ∧ f 14 = I (stepA b (nth P2 i).2 (c : Int)) ∧ f 15 = I ((k : Int)) ∧ f 88 = B (decide ((k : Int) = ((fstL P2).length : Int))) ∧ H61 = H) ?_ ?_
  · refine wpF_region ?_
    refine wpL_q (U := NoB) rfl (q_move (v := I ((k : Int))) rfl a68_15) ?_
    refine wpL_q (U := NoB) rfl (q_move (v := vx2) rfl a68_7) ?_
    refine wpL_q (U := NoB) rfl (q_lenRd rfl Try.underlying22 rfl (hS61.rowl 1 rfl)) ?_
    refine wpL_q (U := NoB) rfl (q_eql rfl rfl rfl) ?_
    exact ⟨a68_2, a68_3, a68_4, a68_6, a68_7, a68_8, a68_9, a68_10, a68_11, a68_12, a68_13, a68_14, a68_15, rfl, rfl⟩
  rintro f71 _ ⟨a71_2, a71_3, a71_4, a71_6, a71_7, a71_8, a71_9, a71_10, a71_11, a71_12, a71_13, a71_14, a71_15, a71_88, rfl⟩
  clear a68_10 a68_11 a68_12 a68_13 a68_14 a68_15 a68_2 a68_3 a68_4 a68_6 a68_7 a68_8 a68_82 a68_9
  refine wpF_cut (fun f H => ∃ (xN : Value), ∃ (yN : Value), ∃ (P3 : List (Int × Int)), (BothS a b P3 i (c + 1)) ∧ (k < P3.length) ∧ (i < P3.length) ∧ (nth P3 i = nth P2 i) ∧ (nth P3 k = (stepP a b (nth P2 i) (c : Int))) ∧ f 2 = B (d) ∧ f 3 = PT g1 0 ∧ f 4 = PT g4 0 ∧ f 6 = PT g7 0 ∧ f 7 = xN ∧ f 8 = yN ∧ f 9 = PT g32 0 ∧ f 10 = I ((i : Int)) ∧ f 11 = vr ∧ f 12 = I ((c : Int)) ∧ f 15 = I ((k : Int)) ∧ St H0 NoB (fun b => S b ∧ b < H0.size) [rowE 3 xN (fstL P3 : List Int), rowE 3 yN (sndL P3 : List Int), rowE 3 vr (boRow a b (pairsL a b) i c : List Int), rowE 22 v1 (boNext a b i : List (List Int)), rowE 4 v2 (boTakes a b d i : List Bool), blkE g32 (.cells #[I (a.Signs), v1, v2] 36), blkE g7 (.cells #[I (0), (Value.slice none 0 0), (Value.slice none 0 0)] 36), blkE g4 (.cells #[I (b.Signs), wn, wt] 36), blkE g1 (.cells #[I (a.Signs), vn, vt] 36), rdE vn a.Next, rdE vt a.Takes, rdE wn b.Next, rdE wt b.Takes] H) ?_ ?_
  · refine wpF_condP a71_88 (fun h88 => ?t94) (fun h88 => ?e94)
    case e94 =>
      refine wpF_skip ?_
      exact ⟨vx2, vy2, P2, (hB2.old hbl hcs (by omega) (hap (by omega))), (by omega), hil2, rfl, (hap (by omega)), a71_2, a71_3, a71_4, a71_6, a71_7, a71_8, a71_9, a71_10, a71_11, a71_12, a71_15, (St.drop (show St H0 NoB (fun b => S b ∧ b < H0.size) [rowE 3 vx2 (fstL P2 : List Int), rowE 3 vy2 (sndL P2 : List Int), rowE 3 vr (boRow a b (pairsL a b) i c : List Int), rowE 22 v1 (boNext a b i : List (List Int)), rowE 4 v2 (boTakes a b d i : List Bool), blkE g32 (.cells #[I (a.Signs), v1, v2] 36), blkE g7 (.cells #[I (0), (Value.slice none 0 0), (Value.slice none 0 0)] 36), blkE g4 (.cells #[I (b.Signs), wn, wt] 36), blkE g1 (.cells #[I (a.Signs), vn, vt] 36), rdE vn a.Next, rdE vt a.Takes, rdE wn b.Next, rdE wt b.Takes] H61 from ((hS61.front 2 rfl).front 2 rfl)) (sk (sk (sk (sk (sk (sk (sk (sk (sk (sk (sk (sk (sk (List.Sublist.slnil)))))))))))))))⟩
    refine wpF_seq ?_
    refine wpF_cut (fun f H => ∃ (v79 : Value), f 2 = B (d) ∧ f 3 = PT g1 0 ∧ f 4 = PT g4 0 ∧ f 6 = PT g7 0 ∧ f 7 = v79 ∧ f 8 = vy2 ∧ f 9 = PT g32 0 ∧ f 10 = I ((i : Int)) ∧ f 11 = vr ∧ f 12 = I ((c : Int)) ∧ f 14 = I (stepA b (nth P2 i).2 (c : Int)) ∧ f 15 = I ((k : Int)) ∧ St H0 NoB (fun b => S b ∧ b < H0.size) [rowE 3 v79 (fstL (P2 ++ [(stepP a b (nth P2 i) (c : Int))]) : List Int), rowE 3 vr (boRow a b (pairsL a b) i c : List Int), rowE 3 vy2 (sndL P2 : List Int), rowE 22 v1 (boNext a b i : List (List Int)), rowE 4 v2 (boTakes a b d i : List Bool), blkE g32 (.cells #[I (a.Signs), v1, v2] 36), blkE g7 (.cells #[I (0), (Value.slice none 0 0), (Value.slice none 0 0)] 36), blkE g4 (.cells #[I (b.Signs), wn, wt] 36), blkE g1 (.cells #[I (a.Signs), vn, vt] 36), rdE vn a.Next, rdE vt a.Takes, rdE wn b.Next, rdE wt b.Takes] H) ?_ ?_
    · refine wpF_region ?_
      refine wpL_q (U := NoB) rfl (q_move (v := vx2) rfl a71_7) ?_
      refine wpL_q (U := NoB) rfl (q_move (v := I (stepA a (nth P2 i).1 (c : Int))) rfl a71_13) ?_
      refine wpL_o rfl ?_
      refine e_buildSlice (vs := [I (stepA a (nth P2 i).1 (c : Int))]) (xs := ([stepA a (nth P2 i).1 (c : Int)] : List Int)) rfl Try.underlying22 Try.zeroValue3 rfl Try.sizeOf3 (par1 (v0 := I (stepA a (nth P2 i).1 (c : Int))) rfl) rfl hS61 (RdVs.cons (Rd.int.2 ⟨rfl, by first | assumption | (constructor <;> omega)⟩) (RdVs.nil)) (by decide) (by decide) (fun v74 H75 hS76 hxx hvv74 => ?_)
      replace hS76 : St H0 NoB (fun b => S b ∧ b < H0.size) [rowE 3 v74 ([stepA a (nth P2 i).1 (c : Int)] : List Int), rowE 3 vr (boRow a b (pairsL a b) i c : List Int), rowE 3 vx2 (fstL P2 : List Int), rowE 3 vy2 (sndL P2 : List Int), rowE 22 v1 (boNext a b i : List (List Int)), rowE 4 v2 (boTakes a b d i : List Bool), blkE g32 (.cells #[I (a.Signs), v1, v2] 36), blkE g7 (.cells #[I (0), (Value.slice none 0 0), (Value.slice none 0 0)] 36), blkE g4 (.cells #[I (b.Signs), wn, wt] 36), blkE g1 (.cells #[I (a.Signs), vn, vt] 36), rdE vn a.Next, rdE vt a.Takes, rdE wn b.Next, rdE wt b.Takes] H75 := hS76
      have hS77 : St H0 NoB (fun b => S b ∧ b < H0.size) [rdE v74 ([stepA a (nth P2 i).1 (c : Int)] : List Int), rowE 3 vr (boRow a b (pairsL a b) i c : List Int), rowE 3 vx2 (fstL P2 : List Int), rowE 3 vy2 (sndL P2 : List Int), rowE 22 v1 (boNext a b i : List (List Int)), rowE 4 v2 (boTakes a b d i : List Bool), blkE g32 (.cells #[I (a.Signs), v1, v2] 36), blkE g7 (.cells #[I (0), (Value.slice none 0 0), (Value.slice none 0 0)] 36), blkE g4 (.cells #[I (b.Signs), wn, wt] 36), blkE g1 (.cells #[I (a.Signs), vn, vt] 36), rdE vn a.Next, rdE vt a.Takes, rdE wn b.Next, rdE wt b.Takes] H75 := St.fin hS76
      have hS78 : St H0 NoB (fun b => S b ∧ b < H0.size) [rowE 3 vx2 (fstL P2 : List Int), rdE v74 ([stepA a (nth P2 i).1 (c : Int)] : List Int), rowE 3 vr (boRow a b (pairsL a b) i c : List Int), rowE 3 vy2 (sndL P2 : List Int), rowE 22 v1 (boNext a b i : List (List Int)), rowE 4 v2 (boTakes a b d i : List Bool), blkE g32 (.cells #[I (a.Signs), v1, v2] 36), blkE g7 (.cells #[I (0), (Value.slice none 0 0), (Value.slice none 0 0)] 36), blkE g4 (.cells #[I (b.Signs), wn, wt] 36), blkE g1 (.cells #[I (a.Signs), vn, vt] 36), rdE vn a.Next, rdE vt a.Takes, rdE wn b.Next, rdE wt b.Takes] H75 := (hS77.front 2 rfl)
      refine wpL_o rfl ?_
      refine e_append rfl Try.underlying22 em_Int_3_AutoQ3 rfl rfl hS78 (hS78.rdS 1 rfl) (fun _ h => h) (by have hb : GoT.bytes Int = 8 := rfl; simp [hb]; omega) (by decide) (fun v79 H80 hS81 hxx => ?_)
      replace hS81 : St H0 NoB (fun b => S b ∧ b < H0.size) [rowE 3 v79 ((fstL P2) ++ ([stepA a (nth P2 i).1 (c : Int)]) : List Int), rdE v74 ([stepA a (nth P2 i).1 (c : Int)] : List Int), rowE 3 vr (boRow a b (pairsL a b) i c : List Int), rowE 3 vy2 (sndL P2 : List Int), rowE 22 v1 (boNext a b i : List (List Int)), rowE 4 v2 (boTakes a b d i : List Bool), blkE g32 (.cells #[I (a.Signs), v1, v2] 36), blkE g7 (.cells #[I (0), (Value.slice none 0 0), (Value.slice none 0 0)] 36), blkE g4 (.cells #[I (b.Signs), wn, wt] 36), blkE g1 (.cells #[I (a.Signs), vn, vt] 36), rdE vn a.Next, rdE vt a.Takes, rdE wn b.Next, rdE wt b.Takes] H80 := hS81
      have hS82 : St H0 NoB (fun b => S b ∧ b < H0.size) [rowE 3 v79 (fstL (P2 ++ [(stepP a b (nth P2 i) (c : Int))]) : List Int), rdE v74 ([stepA a (nth P2 i).1 (c : Int)] : List Int), rowE 3 vr (boRow a b (pairsL a b) i c : List Int), rowE 3 vy2 (sndL P2 : List Int), rowE 22 v1 (boNext a b i : List (List Int)), rowE 4 v2 (boTakes a b d i : List Bool), blkE g32 (.cells #[I (a.Signs), v1, v2] 36), blkE g7 (.cells #[I (0), (Value.slice none 0 0), (Value.slice none 0 0)] 36), blkE g4 (.cells #[I (b.Signs), wn, wt] 36), blkE g1 (.cells #[I (a.Signs), vn, vt] 36), rdE vn a.Next, rdE vt a.Takes, rdE wn b.Next, rdE wt b.Takes] H80 := by rw [show (fstL (P2 ++ [(stepP a b (nth P2 i) (c : Int))])) = ((fstL P2) ++ ([stepA a (nth P2 i).1 (c : Int)])) from (by rw [fstL_app]; rfl)]; exact hS81
      refine wpL_q (U := NoB) rfl (q_assign (v := v79) rfl rfl) ?_
      exact ⟨v79, a71_2, a71_3, a71_4, a71_6, rfl, a71_8, a71_9, a71_10, a71_11, a71_12, a71_14, a71_15, (hS82.drop (sk (sn (sk (sk (sk (sk (sk (sk (sk (sk (sk (sk (sk (sk (List.Sublist.slnil))))))))))))))))⟩
    rintro f83 H83 ⟨v79, a83_2, a83_3, a83_4, a83_6, a83_7, a83_8, a83_9, a83_10, a83_11, a83_12, a83_14, a83_15, hS83⟩
    clear a71_10 a71_11 a71_12 a71_13 a71_14 a71_15 a71_2 a71_3 a71_4 a71_6 a71_7 a71_8 a71_88 a71_9
    refine wpF_cut (fun f H => ∃ (v89 : Value), f 2 = B (d) ∧ f 3 = PT g1 0 ∧ f 4 = PT g4 0 ∧ f 6 = PT g7 0 ∧ f 7 = v79 ∧ f 8 = v89 ∧ f 9 = PT g32 0 ∧ f 10 = I ((i : Int)) ∧ f 11 = vr ∧ f 12 = I ((c : Int)) ∧ f 15 = I ((k : Int)) ∧ St H0 NoB (fun b => S b ∧ b < H0.size) [rowE 3 v89 (sndL (P2 ++ [(stepP a b (nth P2 i) (c : Int))]) : List Int), rowE 3 v79 (fstL (P2 ++ [(stepP a b (nth P2 i) (c : Int))]) : List Int), rowE 3 vr (boRow a b (pairsL a b) i c : List Int), rowE 22 v1 (boNext a b i : List (List Int)), rowE 4 v2 (boTakes a b d i : List Bool), blkE g32 (.cells #[I (a.Signs), v1, v2] 36), blkE g7 (.cells #[I (0), (Value.slice none 0 0), (Value.slice none 0 0)] 36), blkE g4 (.cells #[I (b.Signs), wn, wt] 36), blkE g1 (.cells #[I (a.Signs), vn, vt] 36), rdE vn a.Next, rdE vt a.Takes, rdE wn b.Next, rdE wt b.Takes] H) ?_ ?_
    · refine wpF_region ?_
      refine wpL_q (U := NoB) rfl (q_move (v := vy2) rfl a83_8) ?_
      refine wpL_q (U := NoB) rfl (q_move (v := I (stepA b (nth P2 i).2 (c : Int))) rfl a83_14) ?_
      refine wpL_o rfl ?_
      refine e_buildSlice (vs := [I (stepA b (nth P2 i).2 (c : Int))]) (xs := ([stepA b (nth P2 i).2 (c : Int)] : List Int)) rfl Try.underlying22 Try.zeroValue3 rfl Try.sizeOf3 (par1 (v0 := I (stepA b (nth P2 i).2 (c : Int))) rfl) rfl hS83 (RdVs.cons (Rd.int.2 ⟨rfl, by first | assumption | (constructor <;> omega)⟩) (RdVs.nil)) (by decide) (by decide) (fun v84 H85 hS86 hxx hvv84 => ?_)
      replace hS86 : St H0 NoB (fun b => S b ∧ b < H0.size) [rowE 3 v84 ([stepA b (nth P2 i).2 (c : Int)] : List Int), rowE 3 v79 (fstL (P2 ++ [(stepP a b (nth P2 i) (c : Int))]) : List Int), rowE 3 vr (boRow a b (pairsL a b) i c : List Int), rowE 3 vy2 (sndL P2 : List Int), rowE 22 v1 (boNext a b i : List (List Int)), rowE 4 v2 (boTakes a b d i : List Bool), blkE g32 (.cells #[I (a.Signs), v1, v2] 36), blkE g7 (.cells #[I (0), (Value.slice none 0 0), (Value.slice none 0 0)] 36), blkE g4 (.cells #[I (b.Signs), wn, wt] 36), blkE g1 (.cells #[I (a.Signs), vn, vt] 36), rdE vn a.Next, rdE vt a.Takes, rdE wn b.Next, rdE wt b.Takes] H85 := hS86
      have hS87 : St H0 NoB (fun b => S b ∧ b < H0.size) [rdE v84 ([stepA b (nth P2 i).2 (c : Int)] : List Int), rowE 3 v79 (fstL (P2 ++ [(stepP a b (nth P2 i) (c : Int))]) : List Int), rowE 3 vr (boRow a b (pairsL a b) i c : List Int), rowE 3 vy2 (sndL P2 : List Int), rowE 22 v1 (boNext a b i : List (List Int)), rowE 4 v2 (boTakes a b d i : List Bool), blkE g32 (.cells #[I (a.Signs), v1, v2] 36), blkE g7 (.cells #[I (0), (Value.slice none 0 0), (Value.slice none 0 0)] 36), blkE g4 (.cells #[I (b.Signs), wn, wt] 36), blkE g1 (.cells #[I (a.Signs), vn, vt] 36), rdE vn a.Next, rdE vt a.Takes, rdE wn b.Next, rdE wt b.Takes] H85 := St.fin hS86
      have hS88 : St H0 NoB (fun b => S b ∧ b < H0.size) [rowE 3 vy2 (sndL P2 : List Int), rdE v84 ([stepA b (nth P2 i).2 (c : Int)] : List Int), rowE 3 v79 (fstL (P2 ++ [(stepP a b (nth P2 i) (c : Int))]) : List Int), rowE 3 vr (boRow a b (pairsL a b) i c : List Int), rowE 22 v1 (boNext a b i : List (List Int)), rowE 4 v2 (boTakes a b d i : List Bool), blkE g32 (.cells #[I (a.Signs), v1, v2] 36), blkE g7 (.cells #[I (0), (Value.slice none 0 0), (Value.slice none 0 0)] 36), blkE g4 (.cells #[I (b.Signs), wn, wt] 36), blkE g1 (.cells #[I (a.Signs), vn, vt] 36), rdE vn a.Next, rdE vt a.Takes, rdE wn b.Next, rdE wt b.Takes] H85 := (hS87.front 3 rfl)
      refine wpL_o rfl ?_
      refine e_append rfl Try.underlying22 em_Int_3_AutoQ3 rfl rfl hS88 (hS88.rdS 1 rfl) (fun _ h => h) (by have hb : GoT.bytes Int = 8 := rfl; simp [hb]; omega) (by decide) (fun v89 H90 hS91 hxx => ?_)
      replace hS91 : St H0 NoB (fun b => S b ∧ b < H0.size) [rowE 3 v89 ((sndL P2) ++ ([stepA b (nth P2 i).2 (c : Int)]) : List Int), rdE v84 ([stepA b (nth P2 i).2 (c : Int)] : List Int), rowE 3 v79 (fstL (P2 ++ [(stepP a b (nth P2 i) (c : Int))]) : List Int), rowE 3 vr (boRow a b (pairsL a b) i c : List Int), rowE 22 v1 (boNext a b i : List (List Int)), rowE 4 v2 (boTakes a b d i : List Bool), blkE g32 (.cells #[I (a.Signs), v1, v2] 36), blkE g7 (.cells #[I (0), (Value.slice none 0 0), (Value.slice none 0 0)] 36), blkE g4 (.cells #[I (b.Signs), wn, wt] 36), blkE g1 (.cells #[I (a.Signs), vn, vt] 36), rdE vn a.Next, rdE vt a.Takes, rdE wn b.Next, rdE wt b.Takes] H90 := hS91
      have hS92 : St H0 NoB (fun b => S b ∧ b < H0.size) [rowE 3 v89 (sndL (P2 ++ [(stepP a b (nth P2 i) (c : Int))]) : List Int), rdE v84 ([stepA b (nth P2 i).2 (c : Int)] : List Int), rowE 3 v79 (fstL (P2 ++ [(stepP a b (nth P2 i) (c : Int))]) : List Int), rowE 3 vr (boRow a b (pairsL a b) i c : List Int), rowE 22 v1 (boNext a b i : List (List Int)), rowE 4 v2 (boTakes a b d i : List Bool), blkE g32 (.cells #[I (a.Signs), v1, v2] 36), blkE g7 (.cells #[I (0), (Value.slice none 0 0), (Value.slice none 0 0)] 36), blkE g4 (.cells #[I (b.Signs), wn, wt] 36), blkE g1 (.cells #[I (a.Signs), vn, vt] 36), rdE vn a.Next, rdE vt a.Takes, rdE wn b.Next, rdE wt b.Takes] H90 := by rw [show (sndL (P2 ++ [(stepP a b (nth P2 i) (c : Int))])) = ((sndL P2) ++ ([stepA b (nth P2 i).2 (c : Int)])) from (by rw [sndL_app]; rfl)]; exact hS91
      refine wpL_q (U := NoB) rfl (q_assign (v := v89) rfl rfl) ?_
      exact ⟨v89, a83_2, a83_3, a83_4, a83_6, a83_7, rfl, a83_9, a83_10, a83_11, a83_12, a83_15, (hS92.drop (sk (sn (sk (sk (sk (sk (sk (sk (sk (sk (sk (sk (sk (sk (List.Sublist.slnil))))))))))))))))⟩
    rintro f93 H93 ⟨v89, a93_2, a93_3, a93_4, a93_6, a93_7, a93_8, a93_9, a93_10, a93_11, a93_12, a93_15, hS93⟩
    clear a83_10 a83_11 a83_12 a83_14 a83_15 a83_2 a83_3 a83_4 a83_6 a83_7 a83_8 a83_9
    exact ⟨v79, v89, P2 ++ [(stepP a b (nth P2 i) (c : Int))], (hB2.new hWa hWb hss hbl hil2 hcs (fun j hj => hno j (by omega))), (by rw [List.length_append, List.length_singleton]; omega), (by rw [List.length_append]; omega), (nth_app_left hil2), (by rw [show k = P2.length by omega, nth_app_last]), a93_2, a93_3, a93_4, a93_6, a93_7, a93_8, a93_9, a93_10, a93_11, a93_12, a93_15, (St.drop (show St H0 NoB (fun b => S b ∧ b < H0.size) [rowE 3 v79 (fstL (P2 ++ [(stepP a b (nth P2 i) (c : Int))]) : List Int), rowE 3 v89 (sndL (P2 ++ [(stepP a b (nth P2 i) (c : Int))]) : List Int), rowE 3 vr (boRow a b (pairsL a b) i c : List Int), rowE 22 v1 (boNext a b i : List (List Int)), rowE 4 v2 (boTakes a b d i : List Bool), blkE g32 (.cells #[I (a.Signs), v1, v2] 36), blkE g7 (.cells #[I (0), (Value.slice none 0 0), (Value.slice none 0 0)] 36), blkE g4 (.cells #[I (b.Signs), wn, wt] 36), blkE g1 (.cells #[I (a.Signs), vn, vt] 36), rdE vn a.Next, rdE vt a.Takes, rdE wn b.Next, rdE wt b.Takes] H93 from (hS93.front 1 rfl)) (sk (sk (sk (sk (sk (sk (sk (sk (sk (sk (sk (sk (sk (List.Sublist.slnil)))))))))))))))⟩
  rintro f72 H72 ⟨xN, yN, P3, hB3, hk3, hi3, hn3, he3, a72_2, a72_3, a72_4, a72_6, a72_7, a72_8, a72_9, a72_10, a72_11, a72_12, a72_15, hS72⟩
  clear a71_10 a71_11 a71_12 a71_13 a71_14 a71_15 a71_2 a71_3 a71_4 a71_6 a71_7 a71_8 a71_88 a71_9
  refine wpF_cut (fun f H => ∃ (v100 : Value), f 2 = B (d) ∧ f 3 = PT g1 0 ∧ f 4 = PT g4 0 ∧ f 6 = PT g7 0 ∧ f 7 = xN ∧ f 8 = yN ∧ f 9 = PT g32 0 ∧ f 10 = I ((i : Int)) ∧ f 11 = v100 ∧ f 12 = I ((c : Int)) ∧ St H0 NoB (fun b => S b ∧ b < H0.size) [rowE 3 v100 (boRow a b (pairsL a b) i (c + 1) : List Int), rowE 3 xN (fstL P3 : List Int), rowE 3 yN (sndL P3 : List Int), rowE 22 v1 (boNext a b i : List (List Int)), rowE 4 v2 (boTakes a b d i : List Bool), blkE g32 (.cells #[I (a.Signs), v1, v2] 36), blkE g7 (.cells #[I (0), (Value.slice none 0 0), (Value.slice none 0 0)] 36), blkE g4 (.cells #[I (b.Signs), wn, wt] 36), blkE g1 (.cells #[I (a.Signs), vn, vt] 36), rdE vn a.Next, rdE vt a.Takes, rdE wn b.Next, rdE wt b.Takes] H) ?_ ?_
  · refine wpF_region ?_
    refine wpL_q (U := NoB) rfl (q_move (v := vr) rfl a72_11) ?_
    refine wpL_q (U := NoB) rfl (q_move (v := I ((k : Int))) rfl a72_15) ?_
    refine wpL_o rfl ?_
    refine e_buildSlice (vs := [I ((k : Int))]) (xs := ([(k : Int)] : List Int)) rfl Try.underlying22 Try.zeroValue3 rfl Try.sizeOf3 (par1 (v0 := I ((k : Int))) rfl) rfl hS72 (RdVs.cons (Rd.int.2 ⟨rfl, by first | assumption | (constructor <;> omega)⟩) (RdVs.nil)) (by decide) (by decide) (fun v95 H96 hS97 hxx hvv95 => ?_)
    replace hS97 : St H0 NoB (fun b => S b ∧ b < H0.size) [rowE 3 v95 ([(k : Int)] : List Int), rowE 3 xN (fstL P3 : List Int), rowE 3 yN (sndL P3 : List Int), rowE 3 vr (boRow a b (pairsL a b) i c : List Int), rowE 22 v1 (boNext a b i : List (List Int)), rowE 4 v2 (boTakes a b d i : List Bool), blkE g32 (.cells #[I (a.Signs), v1, v2] 36), blkE g7 (.cells #[I (0), (Value.slice none 0 0), (Value.slice none 0 0)] 36), blkE g4 (.cells #[I (b.Signs), wn, wt] 36), blkE g1 (.cells #[I (a.Signs), vn, vt] 36), rdE vn a.Next, rdE vt a.Takes, rdE wn b.Next, rdE wt b.Takes] H96 := hS97
    have hS98 : St H0 NoB (fun b => S b ∧ b < H0.size) [rdE v95 ([(k : Int)] : List Int), rowE 3 xN (fstL P3 : List Int), rowE 3 yN (sndL P3 : List Int), rowE 3 vr (boRow a b (pairsL a b) i c : List Int), rowE 22 v1 (boNext a b i : List (List Int)), rowE 4 v2 (boTakes a b d i : List Bool), blkE g32 (.cells #[I (a.Signs), v1, v2] 36), blkE g7 (.cells #[I (0), (Value.slice none 0 0), (Value.slice none 0 0)] 36), blkE g4 (.cells #[I (b.Signs), wn, wt] 36), blkE g1 (.cells #[I (a.Signs), vn, vt] 36), rdE vn a.Next, rdE vt a.Takes, rdE wn b.Next, rdE wt b.Takes] H96 := St.fin hS97
    have hS99 : St H0 NoB (fun b => S b ∧ b < H0.size) [rowE 3 vr (boRow a b (pairsL a b) i c : List Int), rdE v95 ([(k : Int)] : List Int), rowE 3 xN (fstL P3 : List Int), rowE 3 yN (sndL P3 : List Int), rowE 22 v1 (boNext a b i : List (List Int)), rowE 4 v2 (boTakes a b d i : List Bool), blkE g32 (.cells #[I (a.Signs), v1, v2] 36), blkE g7 (.cells #[I (0), (Value.slice none 0 0), (Value.slice none 0 0)] 36), blkE g4 (.cells #[I (b.Signs), wn, wt] 36), blkE g1 (.cells #[I (a.Signs), vn, vt] 36), rdE vn a.Next, rdE vt a.Takes, rdE wn b.Next, rdE wt b.Takes] H96 := (hS98.front 3 rfl)
    refine wpL_o rfl ?_
    refine e_append rfl Try.underlying22 em_Int_3_AutoQ3 rfl rfl hS99 (hS99.rdS 1 rfl) (fun _ h => h) (by have hb : GoT.bytes Int = 8 := rfl; simp [hb]; omega) (by decide) (fun v100 H101 hS102 hxx => ?_)
    replace hS102 : St H0 NoB (fun b => S b ∧ b < H0.size) [rowE 3 v100 ((boRow a b (pairsL a b) i c) ++ ([(k : Int)]) : List Int), rdE v95 ([(k : Int)] : List Int), rowE 3 xN (fstL P3 : List Int), rowE 3 yN (sndL P3 : List Int), rowE 22 v1 (boNext a b i : List (List Int)), rowE 4 v2 (boTakes a b d i : List Bool), blkE g32 (.cells #[I (a.Signs), v1, v2] 36), blkE g7 (.cells #[I (0), (Value.slice none 0 0), (Value.slice none 0 0)] 36), blkE g4 (.cells #[I (b.Signs), wn, wt] 36), blkE g1 (.cells #[I (a.Signs), vn, vt] 36), rdE vn a.Next, rdE vt a.Takes, rdE wn b.Next, rdE wt b.Takes] H101 := hS102
    have hS103 : St H0 NoB (fun b => S b ∧ b < H0.size) [rowE 3 v100 (boRow a b (pairsL a b) i (c + 1) : List Int), rdE v95 ([(k : Int)] : List Int), rowE 3 xN (fstL P3 : List Int), rowE 3 yN (sndL P3 : List Int), rowE 22 v1 (boNext a b i : List (List Int)), rowE 4 v2 (boTakes a b d i : List Bool), blkE g32 (.cells #[I (a.Signs), v1, v2] 36), blkE g7 (.cells #[I (0), (Value.slice none 0 0), (Value.slice none 0 0)] 36), blkE g4 (.cells #[I (b.Signs), wn, wt] 36), blkE g1 (.cells #[I (a.Signs), vn, vt] 36), rdE vn a.Next, rdE vt a.Takes, rdE wn b.Next, rdE wt b.Takes] H101 := by rw [show (boRow a b (pairsL a b) i (c + 1)) = ((boRow a b (pairsL a b) i c) ++ ([(k : Int)])) from (by rw [boRow_next, hB3.num hWa hWb hss hi3 hk3 (by rw [hn3]; exact he3)])]; exact hS102
    refine wpL_q (U := NoB) rfl (q_assign (v := v100) rfl rfl) ?_
    exact ⟨v100, a72_2, a72_3, a72_4, a72_6, a72_7, a72_8, a72_9, a72_10, rfl, a72_12, (hS103.drop (sk (sn (sk (sk (sk (sk (sk (sk (sk (sk (sk (sk (sk (sk (List.Sublist.slnil))))))))))))))))⟩
  rintro f104 H104 ⟨v100, a104_2, a104_3, a104_4, a104_6, a104_7, a104_8, a104_9, a104_10, a104_11, a104_12, hS104⟩
  clear a72_10 a72_11 a72_12 a72_15 a72_2 a72_3 a72_4 a72_6 a72_7 a72_8 a72_9
  refine wpF_cut (fun f H => f 2 = B (d) ∧ f 3 = PT g1 0 ∧ f 4 = PT g4 0 ∧ f 6 = PT g7 0 ∧ f 7 = xN ∧ f 8 = yN ∧ f 9 = PT g32 0 ∧ f 10 = I ((i : Int)) ∧ f 11 = v100 ∧ f 12 = I ((c : Int) + 1) ∧ H104 = H) ?_ ?_
  · refine wpF_region ?_
    refine wpL_q (U := NoB) rfl (q_move (v := I ((c : Int))) rfl a104_12) ?_
    refine wpL_q (U := NoB) rfl (q_add rfl rfl rfl (by constructor <;> omega)) ?_
    refine wpL_q (U := NoB) rfl (q_assign (v := I ((c : Int) + 1)) rfl rfl) ?_
    exact ⟨a104_2, a104_3, a104_4, a104_6, a104_7, a104_8, a104_9, a104_10, a104_11, rfl, rfl⟩
  rintro f105 _ ⟨a105_2, a105_3, a105_4, a105_6, a105_7, a105_8, a105_9, a105_10, a105_11, a105_12, rfl⟩
  clear a104_10 a104_11 a104_12 a104_2 a104_3 a104_4 a104_6 a104_7 a104_8 a104_9
  refine ⟨_, ?_, c + 1, P3, xN, yN, v100, rfl, (by omega), hi3, (hn3.trans hnth), hB3, a105_2, a105_3, a105_4, a105_6, a105_7, a105_8, a105_9, a105_10, a105_11, (Eq.trans a105_12 (congrArg I (by omega))), hS104⟩
  omega

end Go.Um
