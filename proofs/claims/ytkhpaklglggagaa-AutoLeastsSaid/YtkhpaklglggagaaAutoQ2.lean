import Derived.Test.YtkhpaklglggagaaProg
import Derived.Test.YtkhpaklglggagaaAutoQ1
import Derived.Test.YtkhpaklglggagaaAutoLea
import Derived.Test.YtkhpaklglggagaaUmSub
namespace Go.Um
open Go.Proofs
open GoT (sz ag rdc)
open KeyT (kv)

theorem el_Bool_4_AutoQ2 : ElT Try.prog Bool 4 := ⟨Try.isAgg4, Try.sizeOf4⟩
theorem el_Int_3_AutoQ2 : ElT Try.prog Int 3 := ⟨Try.isAgg3, Try.sizeOf3⟩
theorem el_LBool_32_AutoQ2 : ElT Try.prog (List Bool) 32 := ⟨Try.isAgg32, Try.sizeOf32⟩
theorem el_LInt_22_AutoQ2 : ElT Try.prog (List Int) 22 := ⟨Try.isAgg22, Try.sizeOf22⟩
theorem em_Bool_4_AutoQ2 : ElemOk Try.prog Bool 4 := ⟨Try.t4, (.bool false), by kernel_rfl, by kernel_rfl, by kernel_rfl, by kernel_rfl, by kernel_rfl⟩
theorem em_Int_3_AutoQ2 : ElemOk Try.prog Int 3 := ⟨Try.t3, (.int .i64 0), by kernel_rfl, by kernel_rfl, by kernel_rfl, by kernel_rfl, by kernel_rfl⟩
theorem em_LInt_22_AutoQ2 : ElemOk Try.prog (List Int) 22 := ⟨Try.t22, (.slice none 0 0), by kernel_rfl, by kernel_rfl, by kernel_rfl, by kernel_rfl, by kernel_rfl⟩

set_option maxHeartbeats 4000000 in
set_option maxRecDepth 100000 in
theorem Least_R {H0 : Heap} {S : Nat → Prop} (vn vt : Value) (a : Auto) (rn : Rd S H0 vn a.Next) (rt : Rd S H0 vt a.Takes) (hsg : In64 a.Signs) (hW : WF a) : CallsH Try.prog 37 #[Value.agg #[I (a.Signs), vn, vt]] H0 (fun rv_ H' => Ext NoB H0 H' ∧ ∃ w1_ w2_, rv_ = Value.agg #[I (leastA a).Signs, w1_, w2_] ∧ Rd (fun b => S b ∧ b < H0.size) H' w1_ (leastA a).Next ∧ Rd (fun b => S b ∧ b < H0.size) H' w2_ (leastA a).Takes) := by
  have hsn := (Rd.list.1 rn).small
  have hst := (Rd.list.1 rt).small
  have hm := hW.takes
  have hm2 := hW.many
  have hsgw := hW.signs
  have hS0 : St H0 NoB (fun b => S b ∧ b < H0.size) [rdE vn a.Next, rdE vt a.Takes] H0 := St.arg (St.arg (St.start (fun _ h => h.2)) (Bl0.nil) rt (fun _ h => h.1)) (Bl0.cons (Bl0.nil)) rn (fun _ h => h.1)
  refine callsH_of_wpF (args := [Value.agg #[I (a.Signs), vn, vt]]) (rs := [.cell 2 36]) Try.func37 rfl Try.ntmps37 Try.results37 (by kernel_rfl) (Nat.le_of_ble_eq_true rfl) ?_
  have a0_0 : argF [Value.agg #[I (a.Signs), vn, vt]] 0 = Value.agg #[I (a.Signs), vn, vt] := rfl
  generalize argF [Value.agg #[I (a.Signs), vn, vt]] = f0 at *
  refine wpF_seq ?_
  refine wpF_cut (fun f H => ∃ (g1 : Nat), ∃ (g4 : Nat), f 1 = PT g1 0 ∧ f 2 = PT g4 0 ∧ St H0 NoB (fun b => S b ∧ b < H0.size) [blkE g4 (.cells #[I (0), (Value.slice none 0 0), (Value.slice none 0 0)] 36), blkE g1 (.cells #[I (a.Signs), vn, vt] 36), rdE vn a.Next, rdE vt a.Takes] H) ?_ ?_
  · refine wpF_region ?_
    refine wpL_o rfl ?_
    refine e_box (v := Value.agg #[I (a.Signs), vn, vt]) rfl a0_0 hS0 (fun g1 H2 hS3 hxx => ?_)
    replace hS3 : St H0 NoB (fun b => S b ∧ b < H0.size) [blkE g1 (.cells #[I (a.Signs), vn, vt] 36), rdE vn a.Next, rdE vt a.Takes] H2 := hS3
    refine wpL_o rfl ?_
    refine e_alloc rfl Try.zeroValue36 hS3 (fun g4 H5 hS6 hxx => ?_)
    replace hS6 : St H0 NoB (fun b => S b ∧ b < H0.size) [blkE g4 (.cells #[I (0), (Value.slice none 0 0), (Value.slice none 0 0)] 36), blkE g1 (.cells #[I (a.Signs), vn, vt] 36), rdE vn a.Next, rdE vt a.Takes] H5 := hS6
    exact ⟨g1, g4, rfl, rfl, hS6⟩
  rintro f7 H7 ⟨g1, g4, a7_1, a7_2, hS7⟩
  clear a0_0
  refine wpF_seq ?_
  refine wpF_cut (fun f H => ∃ (r8 : Value), ∃ (r8m : List (List Bool)), (ApM a r8m) ∧ f 1 = PT g1 0 ∧ f 2 = PT g4 0 ∧ f 3 = r8 ∧ St H0 NoB (fun b => S b ∧ b < H0.size) [rdE r8 r8m, blkE g4 (.cells #[I (0), (Value.slice none 0 0), (Value.slice none 0 0)] 36), blkE g1 (.cells #[I (a.Signs), vn, vt] 36), rdE vn a.Next, rdE vt a.Takes] H) ?_ ?_
  · refine wpF_region ?_
    refine wpL_q (U := NoB) rfl (q_loadBlkA rfl a7_1 Try.isAgg36 Try.sizeOf36 rfl (hS7.blk 1 rfl) (fun h => h)) ?_
    refine wpL_o rfl ?_
    refine e_call rfl Try.call64 (arr1 (v0 := Value.agg #[I (a.Signs), vn, vt]) rfl) (Apart_R vn vt a (hS7.rdS 2 rfl) (hS7.rdS 3 rfl) hsg hW) ?_
    rintro r8 H9 ⟨hxx, r8m, hrr8, hKr8⟩
    have hS10 : St H0 NoB (fun b => S b ∧ b < H0.size) [rdE r8 r8m, blkE g4 (.cells #[I (0), (Value.slice none 0 0), (Value.slice none 0 0)] 36), blkE g1 (.cells #[I (a.Signs), vn, vt] 36), rdE vn a.Next, rdE vt a.Takes] H9 := (hS7.res hxx hrr8)
    refine wpL_q (U := NoB) rfl (q_assign (v := r8) rfl rfl) ?_
    exact ⟨r8, r8m, hKr8, a7_1, a7_2, rfl, hS10⟩
  rintro f12 H12 ⟨r8, r8m, hKr8, a12_1, a12_2, a12_3, hS12⟩
  clear a7_1 a7_2
  have hK := hKr8
  have hKl := hK.len
  refine wpF_seq ?_
  refine wpF_cut (fun f H => ∃ (g13 : Nat), f 1 = PT g1 0 ∧ f 2 = PT g4 0 ∧ f 3 = r8 ∧ f 4 = PT g13 0 ∧ St H0 NoB (fun b => S b ∧ b < H0.size) [blkE g13 (.cells #[I (a.Signs), (Value.slice none 0 0), (Value.slice none 0 0)] 36), rdE r8 r8m, blkE g4 (.cells #[I (0), (Value.slice none 0 0), (Value.slice none 0 0)] 36), blkE g1 (.cells #[I (a.Signs), vn, vt] 36), rdE vn a.Next, rdE vt a.Takes] H) ?_ ?_
  · refine wpF_region ?_
    refine wpL_q (U := NoB) rfl (q_fieldAddr rfl Try.underlying36 rfl Try.sizeOf3 a12_1) ?_
    refine wpL_q (U := NoB) rfl (q_loadBlk rfl rfl Try.isAgg3 (hS12.blk 2 rfl) rfl (fun h => h)) ?_
    refine wpL_q (U := NoB) rfl (q_build (v := Value.agg #[I (a.Signs), (Value.slice none 0 0), (Value.slice none 0 0)]) rfl (par1 (v0 := I (a.Signs)) rfl) (fun w => by kernel_rfl)) ?_
    refine wpL_o rfl ?_
    refine e_alloc rfl Try.zeroValue36 hS12 (fun g13 H14 hS15 hxx => ?_)
    replace hS15 : St H0 NoB (fun b => S b ∧ b < H0.size) [blkE g13 (.cells #[I (0), (Value.slice none 0 0), (Value.slice none 0 0)] 36), rdE r8 r8m, blkE g4 (.cells #[I (0), (Value.slice none 0 0), (Value.slice none 0 0)] 36), blkE g1 (.cells #[I (a.Signs), vn, vt] 36), rdE vn a.Next, rdE vt a.Takes] H14 := hS15
    refine wpL_o rfl ?_
    refine e_storeBlkA (cs' := #[I (a.Signs), (Value.slice none 0 0), (Value.slice none 0 0)]) rfl rfl rfl Try.sizeOf36 rfl rfl (List.forall_mem_cons.2 ⟨rfl, List.forall_mem_cons.2 ⟨rfl, List.forall_mem_cons.2 ⟨rfl, List.forall_mem_nil _⟩⟩⟩) hS15 (fun H16 hS17 hxx => ?_)
    replace hS17 : St H0 NoB (fun b => S b ∧ b < H0.size) [blkE g13 (.cells #[I (a.Signs), (Value.slice none 0 0), (Value.slice none 0 0)] 36), rdE r8 r8m, blkE g4 (.cells #[I (0), (Value.slice none 0 0), (Value.slice none 0 0)] 36), blkE g1 (.cells #[I (a.Signs), vn, vt] 36), rdE vn a.Next, rdE vt a.Takes] H16 := hS17
    exact ⟨g13, a12_1, a12_2, a12_3, rfl, hS17⟩
  rintro f18 H18 ⟨g13, a18_1, a18_2, a18_3, a18_4, hS18⟩
  clear a12_1 a12_2 a12_3
  refine wpF_seq ?_
  refine wpF_cut (fun f H => ∃ (v19 : Value), f 1 = PT g1 0 ∧ f 2 = PT g4 0 ∧ f 3 = r8 ∧ f 4 = PT g13 0 ∧ f 5 = v19 ∧ St H0 NoB (fun b => S b ∧ b < H0.size) [rowE 3 v19 ([0] : List Int), blkE g13 (.cells #[I (a.Signs), (Value.slice none 0 0), (Value.slice none 0 0)] 36), rdE r8 r8m, blkE g4 (.cells #[I (0), (Value.slice none 0 0), (Value.slice none 0 0)] 36), blkE g1 (.cells #[I (a.Signs), vn, vt] 36), rdE vn a.Next, rdE vt a.Takes] H) ?_ ?_
  · refine wpF_region ?_
    refine wpL_o rfl ?_
    refine e_buildSlice (vs := [I (0)]) (xs := ([0] : List Int)) rfl Try.underlying22 Try.zeroValue3 rfl Try.sizeOf3 (par1 (v0 := I (0)) rfl) rfl hS18 (RdVs.cons (Rd.int.2 ⟨rfl, by first | assumption | (constructor <;> omega)⟩) (RdVs.nil)) (by decide) (by decide) (fun v19 H20 hS21 hxx hvv19 => ?_)
    replace hS21 : St H0 NoB (fun b => S b ∧ b < H0.size) [rowE 3 v19 ([0] : List Int), blkE g13 (.cells #[I (a.Signs), (Value.slice none 0 0), (Value.slice none 0 0)] 36), rdE r8 r8m, blkE g4 (.cells #[I (0), (Value.slice none 0 0), (Value.slice none 0 0)] 36), blkE g1 (.cells #[I (a.Signs), vn, vt] 36), rdE vn a.Next, rdE vt a.Takes] H20 := hS21
    refine wpL_q (U := NoB) rfl (q_assign (v := v19) rfl rfl) ?_
    exact ⟨v19, a18_1, a18_2, a18_3, a18_4, rfl, hS21⟩
  rintro f22 H22 ⟨v19, a22_1, a22_2, a22_3, a22_4, a22_5, hS22⟩
  clear a18_1 a18_2 a18_3 a18_4
  have hS23 : St H0 NoB (fun b => S b ∧ b < H0.size) [rowE 22 (Value.slice none 0 0) ([] : List (List Int)), rowE 3 v19 ([0] : List Int), blkE g13 (.cells #[I (a.Signs), (Value.slice none 0 0), (Value.slice none 0 0)] 36), rdE r8 r8m, blkE g4 (.cells #[I (0), (Value.slice none 0 0), (Value.slice none 0 0)] 36), blkE g1 (.cells #[I (a.Signs), vn, vt] 36), rdE vn a.Next, rdE vt a.Takes] H22 := hS22.row0 22
  have hS24 : St H0 NoB (fun b => S b ∧ b < H0.size) [rowE 4 (Value.slice none 0 0) ([] : List Bool), rowE 22 (Value.slice none 0 0) ([] : List (List Int)), rowE 3 v19 ([0] : List Int), blkE g13 (.cells #[I (a.Signs), (Value.slice none 0 0), (Value.slice none 0 0)] 36), rdE r8 r8m, blkE g4 (.cells #[I (0), (Value.slice none 0 0), (Value.slice none 0 0)] 36), blkE g1 (.cells #[I (a.Signs), vn, vt] 36), rdE vn a.Next, rdE vt a.Takes] H22 := hS23.row0 4
  refine wpF_seq ?_
  refine wpF_seq ?_
  refine wpF_cut (fun f H => f 1 = PT g1 0 ∧ f 2 = PT g4 0 ∧ f 3 = r8 ∧ f 4 = PT g13 0 ∧ f 5 = v19 ∧ f 6 = I (0) ∧ H22 = H) ?_ ?_
  · refine wpF_region ?_
    refine wpL_q (U := NoB) rfl (q_assign (v := I (0)) rfl rfl) ?_
    exact ⟨a22_1, a22_2, a22_3, a22_4, a22_5, rfl, rfl⟩
  rintro f25 _ ⟨a25_1, a25_2, a25_3, a25_4, a25_5, a25_6, rfl⟩
  clear a22_1 a22_2 a22_3 a22_4 a22_5
  refine wpF_block ?_
  refine wpF_loop (fun mz f H => ∃ (i : Nat), ∃ (mt : List Int), ∃ (vm : Value), ∃ (v1 : Value), ∃ (v2 : Value), mz = 41 - i ∧ (i ≤ mt.length) ∧ (LeastS a mt i 0) ∧ f 1 = PT g1 0 ∧ f 2 = PT g4 0 ∧ f 3 = r8 ∧ f 4 = PT g13 0 ∧ f 5 = vm ∧ f 6 = I ((i : Int)) ∧ St H0 NoB (fun b => S b ∧ b < H0.size) [rowE 3 vm (mt : List Int), rowE 22 v1 (leNext a i : List (List Int)), rowE 4 v2 (leTakes a i : List Bool), blkE g13 (.cells #[I (a.Signs), v1, v2] 36), rdE r8 r8m, blkE g4 (.cells #[I (0), (Value.slice none 0 0), (Value.slice none 0 0)] 36), blkE g1 (.cells #[I (a.Signs), vn, vt] 36), rdE vn a.Next, rdE vt a.Takes] H) (41 - 0) ?_ ?_
  · exact ⟨0, [0], v19, (Value.slice none 0 0), (Value.slice none 0 0), rfl, Nat.zero_le _, (LeastS.start hW), a25_1, a25_2, a25_3, a25_4, a25_5, (Eq.trans a25_6 (congrArg I (by omega))), (show St H0 NoB (fun b => S b ∧ b < H0.size) [rowE 3 v19 (([0]) : List Int), rowE 22 (Value.slice none 0 0) (leNext a 0 : List (List Int)), rowE 4 (Value.slice none 0 0) (leTakes a 0 : List Bool), blkE g13 (.cells #[I (a.Signs), (Value.slice none 0 0), (Value.slice none 0 0)] 36), rdE r8 r8m, blkE g4 (.cells #[I (0), (Value.slice none 0 0), (Value.slice none 0 0)] 36), blkE g1 (.cells #[I (a.Signs), vn, vt] 36), rdE vn a.Next, rdE vt a.Takes] H22 from (St.drop (show St H0 NoB (fun b => S b ∧ b < H0.size) [rowE 3 v19 ([0] : List Int), rowE 22 (Value.slice none 0 0) ([] : List (List Int)), rowE 4 (Value.slice none 0 0) ([] : List Bool), blkE g13 (.cells #[I (a.Signs), (Value.slice none 0 0), (Value.slice none 0 0)] 36), rdE r8 r8m, blkE g4 (.cells #[I (0), (Value.slice none 0 0), (Value.slice none 0 0)] 36), blkE g1 (.cells #[I (a.Signs), vn, vt] 36), rdE vn a.Next, rdE vt a.Takes] H22 from ((hS24.front 1 rfl).front 2 rfl)) (sk (sk (sk (sk (sk (sk (sk (sk (sk (List.Sublist.slnil))))))))))))⟩
  intro m26 f26 H26 hI26
  obtain ⟨i, mt, vm, v1, v2, hm26, hi, hL, a26_1, a26_2, a26_3, a26_4, a26_5, a26_6, hS26⟩ := hI26
  clear a25_1 a25_2 a25_3 a25_4 a25_5 a25_6
  refine wpF_seq ?_
  refine wpF_seq ?_
  refine wpF_cut (fun f H => f 1 = PT g1 0 ∧ f 2 = PT g4 0 ∧ f 3 = r8 ∧ f 4 = PT g13 0 ∧ f 5 = vm ∧ f 6 = I ((i : Int)) ∧ f 20 = B (decide ((i : Int) < (mt.length : Int))) ∧ H26 = H) ?_ ?_
  · refine wpF_region ?_
    refine wpL_q (U := NoB) rfl (q_move (v := I ((i : Int))) rfl a26_6) ?_
    refine wpL_q (U := NoB) rfl (q_move (v := vm) rfl a26_5) ?_
    refine wpL_q (U := NoB) rfl (q_lenRd rfl Try.underlying22 rfl (hS26.rowl 0 rfl)) ?_
    refine wpL_q (U := NoB) rfl (q_lss rfl rfl rfl) ?_
    exact ⟨a26_1, a26_2, a26_3, a26_4, a26_5, a26_6, rfl, rfl⟩
  rintro f27 _ ⟨a27_1, a27_2, a27_3, a27_4, a27_5, a27_6, a27_20, rfl⟩
  clear a26_1 a26_2 a26_3 a26_4 a26_5 a26_6
  refine wpF_condP a27_20 (fun hlt => ?t95) (fun hlt => ?e95)
  case e95 =>
    refine wpF_exit ?_
    refine atX_here ?_
    refine wpF_seq ?_
    refine wpF_cut (fun f H => f 2 = PT g4 0 ∧ St H0 NoB (fun b => S b ∧ b < H0.size) [blkE g4 (.cells #[I (a.Signs), v1, v2] 36), rowE 3 vm (mt : List Int), rowE 22 v1 (leNext a i : List (List Int)), rowE 4 v2 (leTakes a i : List Bool), blkE g13 (.cells #[I (a.Signs), v1, v2] 36), blkE g1 (.cells #[I (a.Signs), vn, vt] 36), rdE vn a.Next, rdE vt a.Takes] H) ?_ ?_
    · refine wpF_region ?_
      refine wpL_q (U := NoB) rfl (q_loadBlkA rfl a27_4 Try.isAgg36 Try.sizeOf36 rfl (hS26.blk 3 rfl) (fun h => h)) ?_
      refine wpL_o rfl ?_
      refine e_storeBlkA (cs' := #[I (a.Signs), v1, v2]) rfl a27_2 rfl Try.sizeOf36 rfl rfl (List.forall_mem_cons.2 ⟨rfl, List.forall_mem_cons.2 ⟨(oneCell_rdL (hS26.rowl 1 rfl)), List.forall_mem_cons.2 ⟨(oneCell_rdL (hS26.rowl 2 rfl)), List.forall_mem_nil _⟩⟩⟩) (hS26.front 5 rfl) (fun H90 hS91 hxx => ?_)
      replace hS91 : St H0 NoB (fun b => S b ∧ b < H0.size) [blkE g4 (.cells #[I (a.Signs), v1, v2] 36), rowE 3 vm (mt : List Int), rowE 22 v1 (leNext a i : List (List Int)), rowE 4 v2 (leTakes a i : List Bool), blkE g13 (.cells #[I (a.Signs), v1, v2] 36), rdE r8 r8m, blkE g1 (.cells #[I (a.Signs), vn, vt] 36), rdE vn a.Next, rdE vt a.Takes] H90 := hS91
      exact ⟨a27_2, (hS91.drop (sk (sk (sk (sk (sk (sn (sk (sk (sk (List.Sublist.slnil)))))))))))⟩
    rintro f92 H92 ⟨a92_2, hS92⟩
    clear a27_1 a27_2 a27_20 a27_3 a27_4 a27_5 a27_6
    refine wpF_ret ?_
    refine ⟨_, resC a92_2 (loadV_blkA Try.isAgg36 Try.sizeOf36 rfl (hS92.blk 0 rfl)) (resN), hS92.frame, ?_⟩
    show ∃ w1_ w2_, (Value.agg #[I (a.Signs), v1, v2]) = Value.agg #[I (leastA a).Signs, w1_, w2_] ∧ Rd (fun b => S b ∧ b < H0.size) H92 w1_ (leastA a).Next ∧ Rd (fun b => S b ∧ b < H0.size) H92 w2_ (leastA a).Takes
    have hS93 : St H0 NoB (fun b => S b ∧ b < H0.size) [rdE v1 (leNext a i), blkE g4 (.cells #[I (a.Signs), v1, v2] 36), rowE 3 vm (mt : List Int), rowE 4 v2 (leTakes a i : List Bool), blkE g13 (.cells #[I (a.Signs), v1, v2] 36), blkE g1 (.cells #[I (a.Signs), vn, vt] 36), rdE vn a.Next, rdE vt a.Takes] H92 := St.fin (hS92.front 2 rfl)
    have hS94 : St H0 NoB (fun b => S b ∧ b < H0.size) [rdE v2 (leTakes a i), rdE v1 (leNext a i), blkE g4 (.cells #[I (a.Signs), v1, v2] 36), rowE 3 vm (mt : List Int), blkE g13 (.cells #[I (a.Signs), v1, v2] 36), blkE g1 (.cells #[I (a.Signs), vn, vt] 36), rdE vn a.Next, rdE vt a.Takes] H92 := St.fin (hS93.front 3 rfl)
    have hie := hL.fin hW hi (by omega)
    have hq : leastA a = _ := le_made
    have hss := least_signs hW
    exact ⟨v1, v2, by rw [hss], by rw [hq, ← hie]; exact (hS94.result (hS94.rdS 1 rfl)), by rw [hq, ← hie]; exact (hS94.result (hS94.rdS 0 rfl))⟩
  have hil : i < mt.length := by omega
  have hbl : i < (bfs (nxL a) a.Signs.toNat (cl0 a 0) i).length := by rw [hL.len]; exact hil
  have hfw := hL.few
  have hln := leNext_len (a := a) (i := i)
  have hlk := leTakes_len (a := a) (i := i)
  refine wpF_skip ?_
  refine wpF_seq ?_
  refine wpF_block ?_
  refine wpF_seq ?_
  refine wpF_cut (fun f H => f 1 = PT g1 0 ∧ f 2 = PT g4 0 ∧ f 3 = r8 ∧ f 4 = PT g13 0 ∧ f 5 = vm ∧ f 6 = I ((i : Int)) ∧ f 7 = (Value.slice none 0 0) ∧ H26 = H) ?_ ?_
  · refine wpF_region ?_
    refine wpL_q (U := NoB) rfl (q_assign (v := (Value.slice none 0 0)) rfl rfl) ?_
    exact ⟨a27_1, a27_2, a27_3, a27_4, a27_5, a27_6, rfl, rfl⟩
  rintro f29 _ ⟨a29_1, a29_2, a29_3, a29_4, a29_5, a29_6, a29_7, rfl⟩
  clear a27_1 a27_2 a27_20 a27_3 a27_4 a27_5 a27_6
  have hS30 : St H0 NoB (fun b => S b ∧ b < H0.size) [rowE 3 (Value.slice none 0 0) ([] : List Int), rowE 3 vm (mt : List Int), rowE 22 v1 (leNext a i : List (List Int)), rowE 4 v2 (leTakes a i : List Bool), blkE g13 (.cells #[I (a.Signs), v1, v2] 36), rdE r8 r8m, blkE g4 (.cells #[I (0), (Value.slice none 0 0), (Value.slice none 0 0)] 36), blkE g1 (.cells #[I (a.Signs), vn, vt] 36), rdE vn a.Next, rdE vt a.Takes] H26 := hS26.row0 3
  refine wpF_seq ?_
  refine wpF_seq ?_
  refine wpF_cut (fun f H => f 1 = PT g1 0 ∧ f 2 = PT g4 0 ∧ f 3 = r8 ∧ f 4 = PT g13 0 ∧ f 5 = vm ∧ f 6 = I ((i : Int)) ∧ f 7 = (Value.slice none 0 0) ∧ f 8 = I (0) ∧ H26 = H) ?_ ?_
  · refine wpF_region ?_
    refine wpL_q (U := NoB) rfl (q_assign (v := I (0)) rfl rfl) ?_
    exact ⟨a29_1, a29_2, a29_3, a29_4, a29_5, a29_6, a29_7, rfl, rfl⟩
  rintro f31 _ ⟨a31_1, a31_2, a31_3, a31_4, a31_5, a31_6, a31_7, a31_8, rfl⟩
  clear a29_1 a29_2 a29_3 a29_4 a29_5 a29_6 a29_7
  refine wpF_block ?_
  refine wpF_loop (fun mz f H => ∃ (c : Nat), ∃ (m2 : List Int), ∃ (v5 : Value), ∃ (vr : Value), mz = a.Signs.toNat - c ∧ (c ≤ a.Signs.toNat) ∧ (i < m2.length) ∧ (nth m2 i = nth mt i) ∧ (LeastS a m2 i c) ∧ f 1 = PT g1 0 ∧ f 2 = PT g4 0 ∧ f 3 = r8 ∧ f 4 = PT g13 0 ∧ f 5 = v5 ∧ f 6 = I ((i : Int)) ∧ f 7 = vr ∧ f 8 = I ((c : Int)) ∧ St H0 NoB (fun b => S b ∧ b < H0.size) [rowE 3 vr (leRow a i c : List Int), rowE 3 v5 (m2 : List Int), rowE 22 v1 (leNext a i : List (List Int)), rowE 4 v2 (leTakes a i : List Bool), blkE g13 (.cells #[I (a.Signs), v1, v2] 36), rdE r8 r8m, blkE g4 (.cells #[I (0), (Value.slice none 0 0), (Value.slice none 0 0)] 36), blkE g1 (.cells #[I (a.Signs), vn, vt] 36), rdE vn a.Next, rdE vt a.Takes] H) (a.Signs.toNat - 0) ?_ ?_
  · exact ⟨0, mt, vm, (Value.slice none 0 0), rfl, Nat.zero_le _, (by omega), rfl, hL, a31_1, a31_2, a31_3, a31_4, a31_5, a31_6, a31_7, (Eq.trans a31_8 (congrArg I (by omega))), (show St H0 NoB (fun b => S b ∧ b < H0.size) [rowE 3 (Value.slice none 0 0) (leRow a i 0 : List Int), rowE 3 vm (mt : List Int), rowE 22 v1 (leNext a i : List (List Int)), rowE 4 v2 (leTakes a i : List Bool), blkE g13 (.cells #[I (a.Signs), v1, v2] 36), rdE r8 r8m, blkE g4 (.cells #[I (0), (Value.slice none 0 0), (Value.slice none 0 0)] 36), blkE g1 (.cells #[I (a.Signs), vn, vt] 36), rdE vn a.Next, rdE vt a.Takes] H26 from hS30)⟩
  intro m32 f32 H32 hI32
  obtain ⟨c, m2, v5, vr, hm32, hc, hil2, hnth, hL2, a32_1, a32_2, a32_3, a32_4, a32_5, a32_6, a32_7, a32_8, hS32⟩ := hI32
  clear a31_1 a31_2 a31_3 a31_4 a31_5 a31_6 a31_7 a31_8
  refine wpF_seq ?_
  refine wpF_seq ?_
  refine wpF_cut (fun f H => f 1 = PT g1 0 ∧ f 2 = PT g4 0 ∧ f 3 = r8 ∧ f 4 = PT g13 0 ∧ f 5 = v5 ∧ f 6 = I ((i : Int)) ∧ f 7 = vr ∧ f 8 = I ((c : Int)) ∧ f 26 = B (decide ((c : Int) < a.Signs)) ∧ H32 = H) ?_ ?_
  · refine wpF_region ?_
    refine wpL_q (U := NoB) rfl (q_move (v := I ((c : Int))) rfl a32_8) ?_
    refine wpL_q (U := NoB) rfl (q_fieldAddr rfl Try.underlying36 rfl Try.sizeOf3 a32_1) ?_
    refine wpL_q (U := NoB) rfl (q_loadBlk rfl rfl Try.isAgg3 (hS32.blk 7 rfl) rfl (fun h => h)) ?_
    refine wpL_q (U := NoB) rfl (q_lss rfl rfl rfl) ?_
    exact ⟨a32_1, a32_2, a32_3, a32_4, a32_5, a32_6, a32_7, a32_8, rfl, rfl⟩
  rintro f33 _ ⟨a33_1, a33_2, a33_3, a33_4, a33_5, a33_6, a33_7, a33_8, a33_26, rfl⟩
  clear a32_1 a32_2 a32_3 a32_4 a32_5 a32_6 a32_7 a32_8
  refine wpF_condP a33_26 (fun hlt2 => ?t89) (fun hlt2 => ?e89)
  case e89 =>
    have hce : c = a.Signs.toNat := by omega
    have hLt := hL2.turn hce hbl
    have hie := (hL2.pos hW hil2).1
    refine wpF_exit ?_
    refine atX_here ?_
    refine wpF_seq ?_
    refine wpF_cut (fun f H => ∃ (v79 : Value), f 1 = PT g1 0 ∧ f 2 = PT g4 0 ∧ f 3 = r8 ∧ f 4 = PT g13 0 ∧ f 5 = v5 ∧ f 6 = I ((i : Int)) ∧ St H0 NoB (fun b => S b ∧ b < H0.size) [blkE g13 (.cells #[I (a.Signs), v79, v2] 36), rowE 22 v79 (leNext a (i + 1) : List (List Int)), rowE 3 v5 (m2 : List Int), rowE 4 v2 (leTakes a i : List Bool), rdE r8 r8m, blkE g4 (.cells #[I (0), (Value.slice none 0 0), (Value.slice none 0 0)] 36), blkE g1 (.cells #[I (a.Signs), vn, vt] 36), rdE vn a.Next, rdE vt a.Takes] H) ?_ ?_
    · refine wpF_region ?_
      refine wpL_q (U := NoB) rfl (q_fieldAddr rfl Try.underlying36 rfl Try.sizeOf27 a33_4) ?_
      refine wpL_q (U := NoB) rfl (q_loadBlk rfl rfl Try.isAgg27 (hS32.blk 4 rfl) rfl (fun h => h)) ?_
      refine wpL_q (U := NoB) rfl (q_move (v := vr) rfl a33_7) ?_
      have hS73 : St H0 NoB (fun b => S b ∧ b < H0.size) [rdE vr (leRow a i c), rowE 3 v5 (m2 : List Int), rowE 22 v1 (leNext a i : List (List Int)), rowE 4 v2 (leTakes a i : List Bool), blkE g13 (.cells #[I (a.Signs), v1, v2] 36), rdE r8 r8m, blkE g4 (.cells #[I (0), (Value.slice none 0 0), (Value.slice none 0 0)] 36), blkE g1 (.cells #[I (a.Signs), vn, vt] 36), rdE vn a.Next, rdE vt a.Takes] H32 := St.fin hS32
      refine wpL_o rfl ?_
      refine e_buildSlice (vs := [vr]) (xs := ([leRow a i c] : List (List Int))) rfl Try.underlying27 Try.zeroValue22 rfl Try.sizeOf22 (par1 (v0 := vr) rfl) rfl hS73 (RdVs.cons (hS73.rdS 0 rfl) (RdVs.nil)) (by decide) (by decide) (fun v74 H75 hS76 hxx hvv74 => ?_)
      replace hS76 : St H0 NoB (fun b => S b ∧ b < H0.size) [rowE 22 v74 ([leRow a i c] : List (List Int)), rdE vr (leRow a i c), rowE 3 v5 (m2 : List Int), rowE 22 v1 (leNext a i : List (List Int)), rowE 4 v2 (leTakes a i : List Bool), blkE g13 (.cells #[I (a.Signs), v1, v2] 36), rdE r8 r8m, blkE g4 (.cells #[I (0), (Value.slice none 0 0), (Value.slice none 0 0)] 36), blkE g1 (.cells #[I (a.Signs), vn, vt] 36), rdE vn a.Next, rdE vt a.Takes] H75 := hS76
      have hS77 : St H0 NoB (fun b => S b ∧ b < H0.size) [rdE v74 ([leRow a i c] : List (List Int)), rdE vr (leRow a i c), rowE 3 v5 (m2 : List Int), rowE 22 v1 (leNext a i : List (List Int)), rowE 4 v2 (leTakes a i : List Bool), blkE g13 (.cells #[I (a.Signs), v1, v2] 36), rdE r8 r8m, blkE g4 (.cells #[I (0), (Value.slice none 0 0), (Value.slice none 0 0)] 36), blkE g1 (.cells #[I (a.Signs), vn, vt] 36), rdE vn a.Next, rdE vt a.Takes] H75 := St.fin hS76
      have hS78 : St H0 NoB (fun b => S b ∧ b < H0.size) [rowE 22 v1 (leNext a i : List (List Int)), rdE v74 ([leRow a i c] : List (List Int)), rdE vr (leRow a i c), rowE 3 v5 (m2 : List Int), rowE 4 v2 (leTakes a i : List Bool), blkE g13 (.cells #[I (a.Signs), v1, v2] 36), rdE r8 r8m, blkE g4 (.cells #[I (0), (Value.slice none 0 0), (Value.slice none 0 0)] 36), blkE g1 (.cells #[I (a.Signs), vn, vt] 36), rdE vn a.Next, rdE vt a.Takes] H75 := (hS77.front 3 rfl)
      refine wpL_o rfl ?_
      refine e_append rfl Try.underlying27 em_LInt_22_AutoQ2 rfl rfl hS78 (hS78.rdS 1 rfl) (fun _ h => h) (by have hb : GoT.bytes (List Int) = 24 := rfl; simp [hb]; omega) (by decide) (fun v79 H80 hS81 hxx => ?_)
      replace hS81 : St H0 NoB (fun b => S b ∧ b < H0.size) [rowE 22 v79 ((leNext a i) ++ ([leRow a i c]) : List (List Int)), rdE v74 ([leRow a i c] : List (List Int)), rdE vr (leRow a i c), rowE 3 v5 (m2 : List Int), rowE 4 v2 (leTakes a i : List Bool), blkE g13 (.cells #[I (a.Signs), v1, v2] 36), rdE r8 r8m, blkE g4 (.cells #[I (0), (Value.slice none 0 0), (Value.slice none 0 0)] 36), blkE g1 (.cells #[I (a.Signs), vn, vt] 36), rdE vn a.Next, rdE vt a.Takes] H80 := hS81
      have hS82 : St H0 NoB (fun b => S b ∧ b < H0.size) [rowE 22 v79 (leNext a (i + 1) : List (List Int)), rdE v74 ([leRow a i c] : List (List Int)), rdE vr (leRow a i c), rowE 3 v5 (m2 : List Int), rowE 4 v2 (leTakes a i : List Bool), blkE g13 (.cells #[I (a.Signs), v1, v2] 36), rdE r8 r8m, blkE g4 (.cells #[I (0), (Value.slice none 0 0), (Value.slice none 0 0)] 36), blkE g1 (.cells #[I (a.Signs), vn, vt] 36), rdE vn a.Next, rdE vt a.Takes] H80 := by rw [show (leNext a (i + 1)) = ((leNext a i) ++ ([leRow a i c])) from (by rw [leNext_next hie, hce])]; exact hS81
      refine wpL_q (U := NoB) rfl (q_fieldAddr rfl Try.underlying36 rfl Try.sizeOf27 a33_4) ?_
      refine wpL_o rfl ?_
      refine e_storeBlk (v := v79) rfl rfl rfl (oneCell_rdL (hS82.rowl 0 rfl)) Try.sizeOf27 (by show _ < 3; decide) (hS82.front 5 rfl) (fun H83 hS84 hxx => ?_)
      replace hS84 : St H0 NoB (fun b => S b ∧ b < H0.size) [blkE g13 (.cells #[I (a.Signs), v79, v2] 36), rowE 22 v79 (leNext a (i + 1) : List (List Int)), rdE v74 ([leRow a i c] : List (List Int)), rdE vr (leRow a i c), rowE 3 v5 (m2 : List Int), rowE 4 v2 (leTakes a i : List Bool), rdE r8 r8m, blkE g4 (.cells #[I (0), (Value.slice none 0 0), (Value.slice none 0 0)] 36), blkE g1 (.cells #[I (a.Signs), vn, vt] 36), rdE vn a.Next, rdE vt a.Takes] H83 := hS84
      exact ⟨v79, a33_1, a33_2, a33_3, a33_4, a33_5, a33_6, (hS84.drop (sk (sk (sn (sn (sk (sk (sk (sk (sk (sk (sk (List.Sublist.slnil)))))))))))))⟩
    rintro f85 H85 ⟨v79, a85_1, a85_2, a85_3, a85_4, a85_5, a85_6, hS85⟩
    clear a33_1 a33_2 a33_26 a33_3 a33_4 a33_5 a33_6 a33_7 a33_8
    have hmi := hLt.any hW i
    refine wpF_cut (fun f H => ∃ (v86o11 : Value), f 1 = PT g1 0 ∧ f 2 = PT g4 0 ∧ f 3 = r8 ∧ f 4 = PT g13 0 ∧ f 5 = v5 ∧ f 6 = I ((i : Int)) ∧ St H0 NoB (fun b => S b ∧ b < H0.size) [blkE g13 (.cells #[I (a.Signs), v79, v86o11] 36), rowE 4 v86o11 (leTakes a (i + 1) : List Bool), rowE 22 v79 (leNext a (i + 1) : List (List Int)), rowE 3 v5 (m2 : List Int), rdE r8 r8m, blkE g4 (.cells #[I (0), (Value.slice none 0 0), (Value.slice none 0 0)] 36), blkE g1 (.cells #[I (a.Signs), vn, vt] 36), rdE vn a.Next, rdE vt a.Takes] H) ?_ ?_
    · refine wpF_drawn [none, none, none, none, none, none, none, none, none, none, none, some 0, none, some 1] [[], [], [], [], [], [], [], [], [], [], [], [], [], []] (fun l b => match l with | 0 => True | 1 => True | _ => False) (by kernel_rfl) (by kernel_rfl) ?_
      refine wpR_q 0 (by kernel_rfl) rfl (quietAt rfl rfl (q_fieldAddr rfl Try.underlying36 rfl Try.sizeOf32 a85_4)) ?_
      refine wpR_q 1 (by kernel_rfl) rfl (quietAt rfl rfl (q_loadBlk rfl rfl Try.isAgg32 (hS85.blk 0 rfl) rfl (labU_not [] rfl (List.forall_mem_nil _)))) ?_
      refine wpR_q 2 (by kernel_rfl) rfl (quietAt rfl rfl (q_fieldAddr rfl Try.underlying36 rfl Try.sizeOf32 a85_1)) ?_
      refine wpR_q 3 (by kernel_rfl) rfl (quietAt rfl rfl (q_loadBlk rfl rfl Try.isAgg32 (hS85.blk 6 rfl) rfl (labU_not [] rfl (List.forall_mem_nil _)))) ?_
      refine wpR_q 4 (by kernel_rfl) rfl (quietAt rfl rfl (q_move (v := v5) rfl a85_5)) ?_
      refine wpR_q 5 (by kernel_rfl) rfl (quietAt rfl rfl (q_move (v := I ((i : Int))) rfl a85_6)) ?_
      refine wpR_q 6 (by kernel_rfl) rfl (quietAt rfl rfl (q_indexRd (k := i) rfl Try.underlying22 el_Int_3_AutoQ2 rfl rfl (hS85.rowl 2 rfl) (by omega) (by omega))) ?_
      refine wpR_q 7 (by kernel_rfl) rfl (quietAt rfl rfl (q_loadInt (k := i) rfl rfl el_Int_3_AutoQ2 (hS85.rowl 2 rfl) (by omega) (labU_sub [] rfl (List.forall_mem_nil _)))) ?_
      refine wpR_q 8 (by kernel_rfl) rfl (quietAt rfl rfl (q_indexRd (k := (nth m2 i).toNat) rfl Try.underlying32 el_Bool_4_AutoQ2 rfl rfl (hS85.rdl 8 rfl) (by omega) (by omega))) ?_
      refine wpR_q 9 (by kernel_rfl) rfl (quietAt rfl rfl (q_loadBool (k := (nth m2 i).toNat) rfl rfl el_Bool_4_AutoQ2 (hS85.rdl 8 rfl) (by omega) (labU_sub [] rfl (List.forall_mem_nil _)))) ?_
      refine wpR_n [10] (by kernel_rfl) ?_
      refine List.forall_mem_cons.2 ⟨?_, List.forall_mem_nil _⟩
      refine exE rfl rfl ?_
      refine e_buildSlice (vs := [B (nth a.Takes ((nth m2 i).toNat))]) (xs := ([nth a.Takes ((nth m2 i).toNat)] : List Bool)) rfl Try.underlying32 Try.zeroValue4 rfl Try.sizeOf4 (par1 (v0 := B (nth a.Takes ((nth m2 i).toNat))) rfl) rfl hS85 (RdVs.cons (Rd.bool.2 rfl) (RdVs.nil)) (by decide) (by decide) (fun v86o10 H86o10 hS86o10 hxx hvv86o10 => ?_)
      replace hS86o10 : St H0 NoB (fun b => S b ∧ b < H0.size) [rowE 4 v86o10 ([nth a.Takes ((nth m2 i).toNat)] : List Bool), blkE g13 (.cells #[I (a.Signs), v79, v2] 36), rowE 22 v79 (leNext a (i + 1) : List (List Int)), rowE 3 v5 (m2 : List Int), rowE 4 v2 (leTakes a i : List Bool), rdE r8 r8m, blkE g4 (.cells #[I (0), (Value.slice none 0 0), (Value.slice none 0 0)] 36), blkE g1 (.cells #[I (a.Signs), vn, vt] 36), rdE vn a.Next, rdE vt a.Takes] H86o10 := hS86o10
      refine ⟨Ext.mono hxx (fun _ h => h.elim), ?_⟩
      refine wpR_n [11] (by kernel_rfl) ?_
      refine List.forall_mem_cons.2 ⟨?_, List.forall_mem_nil _⟩
      have hS86o11 : St H0 NoB (fun b => S b ∧ b < H0.size) [rdE v86o10 ([nth a.Takes ((nth m2 i).toNat)] : List Bool), blkE g13 (.cells #[I (a.Signs), v79, v2] 36), rowE 22 v79 (leNext a (i + 1) : List (List Int)), rowE 3 v5 (m2 : List Int), rowE 4 v2 (leTakes a i : List Bool), rdE r8 r8m, blkE g4 (.cells #[I (0), (Value.slice none 0 0), (Value.slice none 0 0)] 36), blkE g1 (.cells #[I (a.Signs), vn, vt] 36), rdE vn a.Next, rdE vt a.Takes] H86o10 := St.fin hS86o10
      have hS86o11x2 : St H0 NoB (fun b => S b ∧ b < H0.size) [rowE 4 v2 (leTakes a i : List Bool), rdE v86o10 ([nth a.Takes ((nth m2 i).toNat)] : List Bool), blkE g13 (.cells #[I (a.Signs), v79, v2] 36), rowE 22 v79 (leNext a (i + 1) : List (List Int)), rowE 3 v5 (m2 : List Int), rdE r8 r8m, blkE g4 (.cells #[I (0), (Value.slice none 0 0), (Value.slice none 0 0)] 36), blkE g1 (.cells #[I (a.Signs), vn, vt] 36), rdE vn a.Next, rdE vt a.Takes] H86o10 := (hS86o11.front 4 rfl)
      refine exE rfl rfl ?_
      refine e_append rfl Try.underlying32 em_Bool_4_AutoQ2 rfl rfl hS86o11x2 (hS86o11x2.rdS 1 rfl) (fun _ h => h) (by have hb : GoT.bytes Bool = 1 := rfl; simp [hb]; omega) (by decide) (fun v86o11 H86o11 hS86o11x3 hxx => ?_)
      replace hS86o11x3 : St H0 NoB (fun b => S b ∧ b < H0.size) [rowE 4 v86o11 ((leTakes a i) ++ ([nth a.Takes ((nth m2 i).toNat)]) : List Bool), rdE v86o10 ([nth a.Takes ((nth m2 i).toNat)] : List Bool), blkE g13 (.cells #[I (a.Signs), v79, v2] 36), rowE 22 v79 (leNext a (i + 1) : List (List Int)), rowE 3 v5 (m2 : List Int), rdE r8 r8m, blkE g4 (.cells #[I (0), (Value.slice none 0 0), (Value.slice none 0 0)] 36), blkE g1 (.cells #[I (a.Signs), vn, vt] 36), rdE vn a.Next, rdE vt a.Takes] H86o11 := hS86o11x3
      have hS86o11x4 : St H0 NoB (fun b => S b ∧ b < H0.size) [rowE 4 v86o11 (leTakes a (i + 1) : List Bool), rdE v86o10 ([nth a.Takes ((nth m2 i).toNat)] : List Bool), blkE g13 (.cells #[I (a.Signs), v79, v2] 36), rowE 22 v79 (leNext a (i + 1) : List (List Int)), rowE 3 v5 (m2 : List Int), rdE r8 r8m, blkE g4 (.cells #[I (0), (Value.slice none 0 0), (Value.slice none 0 0)] 36), blkE g1 (.cells #[I (a.Signs), vn, vt] 36), rdE vn a.Next, rdE vt a.Takes] H86o11 := by rw [show (leTakes a (i + 1)) = ((leTakes a i) ++ ([nth a.Takes ((nth m2 i).toNat)])) from (by rw [leTakes_next hie, hL2.takes hW hil2])]; exact hS86o11x3
      refine ⟨Ext.mono hxx (labS_of 0 rfl (fun _ _ => trivial)), ?_⟩
      refine wpR_q 12 (by kernel_rfl) rfl (quietAt rfl rfl (q_fieldAddr rfl Try.underlying36 rfl Try.sizeOf32 a85_4)) ?_
      refine wpR_n [13] (by kernel_rfl) ?_
      refine List.forall_mem_cons.2 ⟨?_, List.forall_mem_nil _⟩
      refine exE rfl rfl ?_
      refine e_storeBlk (v := v86o11) rfl rfl rfl (oneCell_rdL (hS86o11x4.rowl 0 rfl)) Try.sizeOf32 (by show _ < 3; decide) (hS86o11x4.front 2 rfl) (fun H86o13 hS86o13 hxx => ?_)
      replace hS86o13 : St H0 NoB (fun b => S b ∧ b < H0.size) [blkE g13 (.cells #[I (a.Signs), v79, v86o11] 36), rowE 4 v86o11 (leTakes a (i + 1) : List Bool), rdE v86o10 ([nth a.Takes ((nth m2 i).toNat)] : List Bool), rowE 22 v79 (leNext a (i + 1) : List (List Int)), rowE 3 v5 (m2 : List Int), rdE r8 r8m, blkE g4 (.cells #[I (0), (Value.slice none 0 0), (Value.slice none 0 0)] 36), blkE g1 (.cells #[I (a.Signs), vn, vt] 36), rdE vn a.Next, rdE vt a.Takes] H86o13 := hS86o13
      refine ⟨Ext.mono hxx (labS_of 1 rfl (fun _ _ => trivial)), ?_⟩
      refine wpR_end (by kernel_rfl) ?_
      exact ⟨v86o11, a85_1, a85_2, a85_3, a85_4, a85_5, a85_6, (hS86o13.drop (sk (sk (sn (sk (sk (sk (sk (sk (sk (sk (List.Sublist.slnil))))))))))))⟩
    rintro f87 H87 ⟨v86o11, a87_1, a87_2, a87_3, a87_4, a87_5, a87_6, hS87⟩
    clear a85_1 a85_2 a85_3 a85_4 a85_5 a85_6
    refine wpF_cut (fun f H => f 1 = PT g1 0 ∧ f 2 = PT g4 0 ∧ f 3 = r8 ∧ f 4 = PT g13 0 ∧ f 5 = v5 ∧ f 6 = I ((i : Int) + 1) ∧ H87 = H) ?_ ?_
    · refine wpF_region ?_
      refine wpL_q (U := NoB) rfl (q_move (v := I ((i : Int))) rfl a87_6) ?_
      refine wpL_q (U := NoB) rfl (q_add rfl rfl rfl (by constructor <;> omega)) ?_
      refine wpL_q (U := NoB) rfl (q_assign (v := I ((i : Int) + 1)) rfl rfl) ?_
      exact ⟨a87_1, a87_2, a87_3, a87_4, a87_5, rfl, rfl⟩
    rintro f88 _ ⟨a88_1, a88_2, a88_3, a88_4, a88_5, a88_6, rfl⟩
    clear a87_1 a87_2 a87_3 a87_4 a87_5 a87_6
    refine ⟨_, ?_, i + 1, m2, v5, v79, v86o11, rfl, (by omega), hLt, a88_1, a88_2, a88_3, a88_4, a88_5, (Eq.trans a88_6 (congrArg I (by omega))), (St.drop (show St H0 NoB (fun b => S b ∧ b < H0.size) [rowE 3 v5 (m2 : List Int), rowE 22 v79 (leNext a (i + 1) : List (List Int)), rowE 4 v86o11 (leTakes a (i + 1) : List Bool), blkE g13 (.cells #[I (a.Signs), v79, v86o11] 36), rdE r8 r8m, blkE g4 (.cells #[I (0), (Value.slice none 0 0), (Value.slice none 0 0)] 36), blkE g1 (.cells #[I (a.Signs), vn, vt] 36), rdE vn a.Next, rdE vt a.Takes] H87 from (((hS87.front 1 rfl).front 2 rfl).front 3 rfl)) (sk (sk (sk (sk (sk (sk (sk (sk (sk (List.Sublist.slnil)))))))))))⟩
    omega
  have hcs : c < a.Signs.toNat := by omega
  have hf2 := hL2.few
  have hrl := leRow_len (a := a) (i := i) (c := c)
  refine wpF_skip ?_
  refine wpF_seq ?_
  refine wpF_block ?_
  refine wpF_seq ?_
  have hmi := hL2.any hW i
  have hrw := hW.rows (nth m2 i).toNat (by omega)
  obtain ⟨u35o7, huu35o7, hlu35o7⟩ := (Rd.list.1 (hS32.rdS 8 rfl)).elem ((nth m2 i).toNat) (by omega)
  have hS35o7 : St H0 NoB (fun b => S b ∧ b < H0.size) [rdE u35o7 (nth a.Next ((nth m2 i).toNat)), rowE 3 vr (leRow a i c : List Int), rowE 3 v5 (m2 : List Int), rowE 22 v1 (leNext a i : List (List Int)), rowE 4 v2 (leTakes a i : List Bool), blkE g13 (.cells #[I (a.Signs), v1, v2] 36), rdE r8 r8m, blkE g4 (.cells #[I (0), (Value.slice none 0 0), (Value.slice none 0 0)] 36), blkE g1 (.cells #[I (a.Signs), vn, vt] 36), rdE vn a.Next, rdE vt a.Takes] H32 := hS32.rd huu35o7
  refine wpF_cut (fun f H => f 1 = PT g1 0 ∧ f 2 = PT g4 0 ∧ f 3 = r8 ∧ f 4 = PT g13 0 ∧ f 5 = v5 ∧ f 6 = I ((i : Int)) ∧ f 7 = vr ∧ f 8 = I ((c : Int)) ∧ f 9 = I (nth (nth a.Next ((nth m2 i).toNat)) c) ∧ H32 = H) ?_ ?_
  · refine wpF_drawn [] [] (fun _ _ => False) (by kernel_rfl) (by kernel_rfl) ?_
    refine wpR_q 0 (by kernel_rfl) rfl (quietAt rfl rfl (q_fieldAddr rfl Try.underlying36 rfl Try.sizeOf27 a33_1)) ?_
    refine wpR_q 1 (by kernel_rfl) rfl (quietAt rfl rfl (q_loadBlk rfl rfl Try.isAgg27 (hS32.blk 7 rfl) rfl (labU_not [] rfl (List.forall_mem_nil _)))) ?_
    refine wpR_q 2 (by kernel_rfl) rfl (quietAt rfl rfl (q_move (v := v5) rfl a33_5)) ?_
    refine wpR_q 3 (by kernel_rfl) rfl (quietAt rfl rfl (q_move (v := I ((i : Int))) rfl a33_6)) ?_
    refine wpR_q 4 (by kernel_rfl) rfl (quietAt rfl rfl (q_indexRd (k := i) rfl Try.underlying22 el_Int_3_AutoQ2 rfl rfl (hS32.rowl 1 rfl) (by omega) (by omega))) ?_
    refine wpR_q 5 (by kernel_rfl) rfl (quietAt rfl rfl (q_loadInt (k := i) rfl rfl el_Int_3_AutoQ2 (hS32.rowl 1 rfl) (by omega) (labU_sub [] rfl (List.forall_mem_nil _)))) ?_
    refine wpR_q 6 (by kernel_rfl) rfl (quietAt rfl rfl (q_indexRd (k := (nth m2 i).toNat) rfl Try.underlying27 el_LInt_22_AutoQ2 rfl rfl (hS32.rdl 8 rfl) (by omega) (by omega))) ?_
    refine wpR_q 7 (by kernel_rfl) rfl (quietAt rfl rfl (q_loadE rfl rfl (hlu35o7 Try.prog 22 _ el_LInt_22_AutoQ2 (labU_sub [] rfl (List.forall_mem_nil _))))) ?_
    refine wpR_q 8 (by kernel_rfl) rfl (quietAt rfl rfl (q_move (v := I ((c : Int))) rfl a33_8)) ?_
    refine wpR_q 9 (by kernel_rfl) rfl (quietAt rfl rfl (q_indexRd (k := c) rfl Try.underlying22 el_Int_3_AutoQ2 rfl rfl (hS35o7.rdl 0 rfl) (by omega) (by omega))) ?_
    refine wpR_q 10 (by kernel_rfl) rfl (quietAt rfl rfl (q_loadInt (k := c) rfl rfl el_Int_3_AutoQ2 (hS35o7.rdl 0 rfl) (by omega) (labU_sub [] rfl (List.forall_mem_nil _)))) ?_
    refine wpR_q 11 (by kernel_rfl) rfl (quietAt rfl rfl (q_assign (v := I (nth (nth a.Next ((nth m2 i).toNat)) c)) rfl rfl)) ?_
    refine wpR_end (by kernel_rfl) ?_
    exact ⟨a33_1, a33_2, a33_3, a33_4, a33_5, a33_6, a33_7, a33_8, rfl, rfl⟩
  rintro f36 _ ⟨a36_1, a36_2, a36_3, a36_4, a36_5, a36_6, a36_7, a36_8, a36_9, rfl⟩
  clear a33_1 a33_2 a33_26 a33_3 a33_4 a33_5 a33_6 a33_7 a33_8
  have b37 := Eq.trans a36_9 (congrArg I (rfl))
  refine wpF_seq ?_
  refine wpF_cut (fun f H => f 1 = PT g1 0 ∧ f 2 = PT g4 0 ∧ f 3 = r8 ∧ f 4 = PT g13 0 ∧ f 5 = v5 ∧ f 6 = I ((i : Int)) ∧ f 7 = vr ∧ f 8 = I ((c : Int)) ∧ f 9 = I (stepA a (nth m2 i) (c : Int)) ∧ f 10 = I (0) ∧ H32 = H) ?_ ?_
  · refine wpF_region ?_
    refine wpL_q (U := NoB) rfl (q_assign (v := I (0)) rfl rfl) ?_
    exact ⟨a36_1, a36_2, a36_3, a36_4, a36_5, a36_6, a36_7, a36_8, b37, rfl, rfl⟩
  rintro f38 _ ⟨a38_1, a38_2, a38_3, a38_4, a38_5, a38_6, a38_7, a38_8, a38_9, a38_10, rfl⟩
  clear a36_1 a36_2 a36_3 a36_4 a36_5 a36_6 a36_7 a36_8
  refine wpF_seq ?_
  refine wpF_block ?_
  refine wpF_loop (fun mz f H => ∃ (k : Nat), mz = m2.length - k ∧ (k ≤ m2.length) ∧ (∀ j, j < k → ¬ Eqv a (nth m2 j) (stepA a (nth m2 i) (c : Int))) ∧ f 1 = PT g1 0 ∧ f 2 = PT g4 0 ∧ f 3 = r8 ∧ f 4 = PT g13 0 ∧ f 5 = v5 ∧ f 6 = I ((i : Int)) ∧ f 7 = vr ∧ f 8 = I ((c : Int)) ∧ f 9 = I (stepA a (nth m2 i) (c : Int)) ∧ f 10 = I ((k : Int)) ∧ St H0 NoB (fun b => S b ∧ b < H0.size) [rowE 3 vr (leRow a i c : List Int), rowE 3 v5 (m2 : List Int), rowE 22 v1 (leNext a i : List (List Int)), rowE 4 v2 (leTakes a i : List Bool), blkE g13 (.cells #[I (a.Signs), v1, v2] 36), rdE r8 r8m, blkE g4 (.cells #[I (0), (Value.slice none 0 0), (Value.slice none 0 0)] 36), blkE g1 (.cells #[I (a.Signs), vn, vt] 36), rdE vn a.Next, rdE vt a.Takes] H) (m2.length - 0) ?_ ?_
  · exact ⟨0, rfl, Nat.zero_le _, (fun j hj => absurd hj (Nat.not_lt_zero j)), a38_1, a38_2, a38_3, a38_4, a38_5, a38_6, a38_7, a38_8, a38_9, (Eq.trans a38_10 (congrArg I (by omega))), hS32⟩
  intro m39 f39 H39 hI39
  obtain ⟨k, hm39, hk, hno, a39_1, a39_2, a39_3, a39_4, a39_5, a39_6, a39_7, a39_8, a39_9, a39_10, hS39⟩ := hI39
  clear a38_1 a38_10 a38_2 a38_3 a38_4 a38_5 a38_6 a38_7 a38_8 a38_9
  refine wpF_seq ?_
  refine wpF_seq ?_
  have hmk := hL2.any hW k
  have hrM := hK.row (nth m2 k).toNat (by omega)
  have hto := (hL2.step hW hbl hil2 hcs).2
  have hto1 := hto.1
  have hto2 := hto.2
  refine wpF_cut (fun f H => f 1 = PT g1 0 ∧ f 2 = PT g4 0 ∧ f 3 = r8 ∧ f 4 = PT g13 0 ∧ f 5 = v5 ∧ f 6 = I ((i : Int)) ∧ f 7 = vr ∧ f 8 = I ((c : Int)) ∧ f 9 = I (stepA a (nth m2 i) (c : Int)) ∧ f 10 = I ((k : Int)) ∧ f 55 = B (decide (((k : Int) < (m2.length : Int)) ∧ ((nth (nth r8m ((nth m2 k).toNat)) ((stepA a (nth m2 i) (c : Int)).toNat)) = true))) ∧ H39 = H) ?_ ?_
  · refine wpF_region ?_
    refine wpL_q (U := NoB) rfl (q_move (v := I ((k : Int))) rfl a39_10) ?_
    refine wpL_q (U := NoB) rfl (q_move (v := v5) rfl a39_5) ?_
    refine wpL_q (U := NoB) rfl (q_lenRd rfl Try.underlying22 rfl (hS39.rowl 1 rfl)) ?_
    refine wpL_q (U := NoB) rfl (q_lss rfl rfl rfl) ?_
    refine wpL_q (U := NoB) rfl (q_move (v := B (decide ((k : Int) < (m2.length : Int)))) rfl rfl) ?_
    by_cases hg40 : (k : Int) < (m2.length : Int)
    · have hb41 := Eq.trans rfl (congrArg B (decide_eq_true hg40))
      refine wpL_gq (U := NoB) rfl rfl rfl hb41 (q_move (v := r8) rfl a39_3) ?_
      refine wpL_gq (U := NoB) rfl rfl rfl hb41 (q_move (v := v5) rfl a39_5) ?_
      refine wpL_gq (U := NoB) rfl rfl rfl hb41 (q_move (v := I ((k : Int))) rfl a39_10) ?_
      refine wpL_gq (U := NoB) rfl rfl rfl hb41 (q_indexRd (k := k) rfl Try.underlying22 el_Int_3_AutoQ2 rfl rfl (hS39.rowl 1 rfl) (by omega) (by omega)) ?_
      refine wpL_gq (U := NoB) rfl rfl rfl hb41 (q_loadInt (k := k) rfl rfl el_Int_3_AutoQ2 (hS39.rowl 1 rfl) (by omega) (fun _ h => h)) ?_
      refine wpL_gq (U := NoB) rfl rfl rfl hb41 (q_indexRd (k := (nth m2 k).toNat) rfl Try.underlying91 el_LBool_32_AutoQ2 rfl rfl (hS39.rdl 5 rfl) (by omega) (by omega)) ?_
      obtain ⟨u43, huu43, hlu43⟩ := (Rd.list.1 (hS39.rdS 5 rfl)).elem ((nth m2 k).toNat) (by omega)
      have hS44 : St H0 NoB (fun b => S b ∧ b < H0.size) [rdE u43 (nth r8m ((nth m2 k).toNat)), rowE 3 vr (leRow a i c : List Int), rowE 3 v5 (m2 : List Int), rowE 22 v1 (leNext a i : List (List Int)), rowE 4 v2 (leTakes a i : List Bool), blkE g13 (.cells #[I (a.Signs), v1, v2] 36), rdE r8 r8m, blkE g4 (.cells #[I (0), (Value.slice none 0 0), (Value.slice none 0 0)] 36), blkE g1 (.cells #[I (a.Signs), vn, vt] 36), rdE vn a.Next, rdE vt a.Takes] H39 := hS39.rd huu43
      refine wpL_gq (U := NoB) rfl rfl rfl hb41 (q_loadE rfl rfl (hlu43 Try.prog 32 _ el_LBool_32_AutoQ2 (fun _ h => False.elim h))) ?_
      refine wpL_gq (U := NoB) rfl rfl rfl hb41 (q_move (v := I (stepA a (nth m2 i) (c : Int))) rfl a39_9) ?_
      refine wpL_gq (U := NoB) rfl rfl rfl hb41 (q_indexRd (k := (stepA a (nth m2 i) (c : Int)).toNat) rfl Try.underlying32 el_Bool_4_AutoQ2 rfl rfl (hS44.rdl 0 rfl) (by omega) (by omega)) ?_
      refine wpL_gq (U := NoB) rfl rfl rfl hb41 (q_loadBool (k := (stepA a (nth m2 i) (c : Int)).toNat) rfl rfl el_Bool_4_AutoQ2 (hS44.rdl 0 rfl) (by omega) (fun _ h => h)) ?_
      refine wpL_q (U := NoB) rfl (q_pickT (v := B (nth (nth r8m ((nth m2 k).toNat)) ((stepA a (nth m2 i) (c : Int)).toNat))) rfl hb41 rfl) ?_
      exact ⟨a39_1, a39_2, a39_3, a39_4, a39_5, a39_6, a39_7, a39_8, a39_9, a39_10, (Eq.trans rfl (congrArg B (bool_congr_of ((Iff.rfl).trans (((and_iff_right hg40).trans Iff.rfl)).symm)))), rfl⟩
    · have hb42 := Eq.trans rfl (congrArg B (decide_eq_false hg40))
      refine wpL_gs rfl rfl rfl hb42 rfl ?_
      refine wpL_gs rfl rfl rfl hb42 rfl ?_
      refine wpL_gs rfl rfl rfl hb42 rfl ?_
      refine wpL_gs rfl rfl rfl hb42 rfl ?_
      refine wpL_gs rfl rfl rfl hb42 rfl ?_
      refine wpL_gs rfl rfl rfl hb42 rfl ?_
      refine wpL_gs rfl rfl rfl hb42 rfl ?_
      refine wpL_gs rfl rfl rfl hb42 rfl ?_
      refine wpL_gs rfl rfl rfl hb42 rfl ?_
      refine wpL_gs rfl rfl rfl hb42 rfl ?_
      refine wpL_q (U := NoB) rfl (q_pickF (v := B (false)) rfl hb42 rfl) ?_
      exact ⟨a39_1, a39_2, a39_3, a39_4, a39_5, a39_6, a39_7, a39_8, a39_9, a39_10, (Eq.trans rfl (congrArg B ((decide_eq_false (fun h => hg40 h.1)).symm))), rfl⟩
  rintro f45 _ ⟨a45_1, a45_2, a45_3, a45_4, a45_5, a45_6, a45_7, a45_8, a45_9, a45_10, a45_55, rfl⟩
  clear a39_1 a39_10 a39_2 a39_3 a39_4 a39_5 a39_6 a39_7 a39_8 a39_9
  refine wpF_condP a45_55 (fun h55 => ?t72) (fun h55 => ?e72)
  case t72 =>
    have hnE : ¬ Eqv a (nth m2 k) (stepA a (nth m2 i) (c : Int)) := by have h9 := (hK.iff (nth m2 k).toNat (stepA a (nth m2 i) (c : Int)).toNat (by omega) (by omega)).1 h55.2; rwa [show (((nth m2 k).toNat : Nat) : Int) = nth m2 k by omega, show (((stepA a (nth m2 i) (c : Int)).toNat : Nat) : Int) = (stepA a (nth m2 i) (c : Int)) by omega] at h9
    refine wpF_skip ?_
    refine wpF_block ?_
    refine wpF_cut (fun f H => f 1 = PT g1 0 ∧ f 2 = PT g4 0 ∧ f 3 = r8 ∧ f 4 = PT g13 0 ∧ f 5 = v5 ∧ f 6 = I ((i : Int)) ∧ f 7 = vr ∧ f 8 = I ((c : Int)) ∧ f 9 = I (stepA a (nth m2 i) (c : Int)) ∧ f 10 = I ((k : Int) + 1) ∧ H39 = H) ?_ ?_
    · refine wpF_region ?_
      refine wpL_q (U := NoB) rfl (q_move (v := I ((k : Int))) rfl a45_10) ?_
      refine wpL_q (U := NoB) rfl (q_add rfl rfl rfl (by constructor <;> omega)) ?_
      refine wpL_q (U := NoB) rfl (q_assign (v := I ((k : Int) + 1)) rfl rfl) ?_
      exact ⟨a45_1, a45_2, a45_3, a45_4, a45_5, a45_6, a45_7, a45_8, a45_9, rfl, rfl⟩
    rintro f47 _ ⟨a47_1, a47_2, a47_3, a47_4, a47_5, a47_6, a47_7, a47_8, a47_9, a47_10, rfl⟩
    clear a45_1 a45_10 a45_2 a45_3 a45_4 a45_5 a45_55 a45_6 a45_7 a45_8 a45_9
    refine ⟨_, ?_, k + 1, rfl, (by omega), (all_succ hno hnE), a47_1, a47_2, a47_3, a47_4, a47_5, a47_6, a47_7, a47_8, a47_9, (Eq.trans a47_10 (congrArg I (by omega))), hS39⟩
    omega
  have hap : k < m2.length → Eqv a (nth m2 k) (stepA a (nth m2 i) (c : Int)) := fun hkl => Classical.byContradiction fun hne => h55 ⟨by omega, (hK.iff (nth m2 k).toNat (stepA a (nth m2 i) (c : Int)).toNat (by omega) (by omega)).2 (by rw [show (((nth m2 k).toNat : Nat) : Int) = nth m2 k by omega, show (((stepA a (nth m2 i) (c : Int)).toNat : Nat) : Int) = (stepA a (nth m2 i) (c : Int)) by omega]; exact hne)⟩
  refine wpF_exit ?_
  refine atX_here ?_
  refine wpF_seq ?_
  refine wpF_seq ?_
  refine wpF_cut (fun f H => f 1 = PT g1 0 ∧ f 2 = PT g4 0 ∧ f 3 = r8 ∧ f 4 = PT g13 0 ∧ f 5 = v5 ∧ f 6 = I ((i : Int)) ∧ f 7 = vr ∧ f 8 = I ((c : Int)) ∧ f 9 = I (stepA a (nth m2 i) (c : Int)) ∧ f 10 = I ((k : Int)) ∧ f 61 = B (decide ((k : Int) = (m2.length : Int))) ∧ H39 = H) ?_ ?_
  · refine wpF_region ?_
    refine wpL_q (U := NoB) rfl (q_move (v := I ((k : Int))) rfl a45_10) ?_
    refine wpL_q (U := NoB) rfl (q_move (v := v5) rfl a45_5) ?_
    refine wpL_q (U := NoB) rfl (q_lenRd rfl Try.underlying22 rfl (hS39.rowl 1 rfl)) ?_
    refine wpL_q (U := NoB) rfl (q_eql rfl rfl rfl) ?_
    exact ⟨a45_1, a45_2, a45_3, a45_4, a45_5, a45_6, a45_7, a45_8, a45_9, a45_10, rfl, rfl⟩
  rintro f48 _ ⟨a48_1, a48_2, a48_3, a48_4, a48_5, a48_6, a48_7, a48_8, a48_9, a48_10, a48_61, rfl⟩
  clear a45_1 a45_10 a45_2 a45_3 a45_4 a45_5 a45_55 a45_6 a45_7 a45_8 a45_9
  refine wpF_cut (fun f H => ∃ (vN : Value), ∃ (m3 : List Int), (LeastS a m3 i (c + 1)) ∧ (k < m3.length) ∧ (i < m3.length) ∧ (nth m3 i = nth m2 i) ∧ (Eqv a (nth m3 k) (stepA a (nth m2 i) (c : Int))) ∧ f 1 = PT g1 0 ∧ f 2 = PT g4 0 ∧ f 3 = r8 ∧ f 4 = PT g13 0 ∧ f 5 = vN ∧ f 6 = I ((i : Int)) ∧ f 7 = vr ∧ f 8 = I ((c : Int)) ∧ f 10 = I ((k : Int)) ∧ St H0 NoB (fun b => S b ∧ b < H0.size) [rowE 3 vN (m3 : List Int), rowE 3 vr (leRow a i c : List Int), rowE 22 v1 (leNext a i : List (List Int)), rowE 4 v2 (leTakes a i : List Bool), blkE g13 (.cells #[I (a.Signs), v1, v2] 36), rdE r8 r8m, blkE g4 (.cells #[I (0), (Value.slice none 0 0), (Value.slice none 0 0)] 36), blkE g1 (.cells #[I (a.Signs), vn, vt] 36), rdE vn a.Next, rdE vt a.Takes] H) ?_ ?_
  · refine wpF_condP a48_61 (fun h61 => ?t60) (fun h61 => ?e60)
    case e60 =>
      refine wpF_skip ?_
      exact ⟨v5, m2, (hL2.old hW hbl hil2 hcs (by omega) (hap (by omega))), (by omega), hil2, rfl, (hap (by omega)), a48_1, a48_2, a48_3, a48_4, a48_5, a48_6, a48_7, a48_8, a48_10, (St.drop (show St H0 NoB (fun b => S b ∧ b < H0.size) [rowE 3 v5 (m2 : List Int), rowE 3 vr (leRow a i c : List Int), rowE 22 v1 (leNext a i : List (List Int)), rowE 4 v2 (leTakes a i : List Bool), blkE g13 (.cells #[I (a.Signs), v1, v2] 36), rdE r8 r8m, blkE g4 (.cells #[I (0), (Value.slice none 0 0), (Value.slice none 0 0)] 36), blkE g1 (.cells #[I (a.Signs), vn, vt] 36), rdE vn a.Next, rdE vt a.Takes] H39 from (hS39.front 1 rfl)) (sk (sk (sk (sk (sk (sk (sk (sk (sk (sk (List.Sublist.slnil))))))))))))⟩
    refine wpF_cut (fun f H => ∃ (v56 : Value), f 1 = PT g1 0 ∧ f 2 = PT g4 0 ∧ f 3 = r8 ∧ f 4 = PT g13 0 ∧ f 5 = v56 ∧ f 6 = I ((i : Int)) ∧ f 7 = vr ∧ f 8 = I ((c : Int)) ∧ f 10 = I ((k : Int)) ∧ St H0 NoB (fun b => S b ∧ b < H0.size) [rowE 3 v56 (m2 ++ ([stepA a (nth m2 i) (c : Int)]) : List Int), rowE 3 vr (leRow a i c : List Int), rowE 22 v1 (leNext a i : List (List Int)), rowE 4 v2 (leTakes a i : List Bool), blkE g13 (.cells #[I (a.Signs), v1, v2] 36), rdE r8 r8m, blkE g4 (.cells #[I (0), (Value.slice none 0 0), (Value.slice none 0 0)] 36), blkE g1 (.cells #[I (a.Signs), vn, vt] 36), rdE vn a.Next, rdE vt a.Takes] H) ?_ ?_
    · refine wpF_region ?_
      refine wpL_q (U := NoB) rfl (q_move (v := v5) rfl a48_5) ?_
      refine wpL_q (U := NoB) rfl (q_move (v := I (stepA a (nth m2 i) (c : Int))) rfl a48_9) ?_
      refine wpL_o rfl ?_
      refine e_buildSlice (vs := [I (stepA a (nth m2 i) (c : Int))]) (xs := ([stepA a (nth m2 i) (c : Int)] : List Int)) rfl Try.underlying22 Try.zeroValue3 rfl Try.sizeOf3 (par1 (v0 := I (stepA a (nth m2 i) (c : Int))) rfl) rfl hS39 (RdVs.cons (Rd.int.2 ⟨rfl, by first | assumption | (constructor <;> omega)⟩) (RdVs.nil)) (by decide) (by decide) (fun v51 H52 hS53 hxx hvv51 => ?_)
      replace hS53 : St H0 NoB (fun b => S b ∧ b < H0.size) [rowE 3 v51 ([stepA a (nth m2 i) (c : Int)] : List Int), rowE 3 vr (leRow a i c : List Int), rowE 3 v5 (m2 : List Int), rowE 22 v1 (leNext a i : List (List Int)), rowE 4 v2 (leTakes a i : List Bool), blkE g13 (.cells #[I (a.Signs), v1, v2] 36), rdE r8 r8m, blkE g4 (.cells #[I (0), (Value.slice none 0 0), (Value.slice none 0 0)] 36), blkE g1 (.cells #[I (a.Signs), vn, vt] 36), rdE vn a.Next, rdE vt a.Takes] H52 := hS53
      have hS54 : St H0 NoB (fun b => S b ∧ b < H0.size) [rdE v51 ([stepA a (nth m2 i) (c : Int)] : List Int), rowE 3 vr (leRow a i c : List Int), rowE 3 v5 (m2 : List Int), rowE 22 v1 (leNext a i : List (List Int)), rowE 4 v2 (leTakes a i : List Bool), blkE g13 (.cells #[I (a.Signs), v1, v2] 36), rdE r8 r8m, blkE g4 (.cells #[I (0), (Value.slice none 0 0), (Value.slice none 0 0)] 36), blkE g1 (.cells #[I (a.Signs), vn, vt] 36), rdE vn a.Next, rdE vt a.Takes] H52 := St.fin hS53
      have hS55 : St H0 NoB (fun b => S b ∧ b < H0.size) [rowE 3 v5 (m2 : List Int), rdE v51 ([stepA a (nth m2 i) (c : Int)] : List Int), rowE 3 vr (leRow a i c : List Int), rowE 22 v1 (leNext a i : List (List Int)), rowE 4 v2 (leTakes a i : List Bool), blkE g13 (.cells #[I (a.Signs), v1, v2] 36), rdE r8 r8m, blkE g4 (.cells #[I (0), (Value.slice none 0 0), (Value.slice none 0 0)] 36), blkE g1 (.cells #[I (a.Signs), vn, vt] 36), rdE vn a.Next, rdE vt a.Takes] H52 := (hS54.front 2 rfl)
      refine wpL_o rfl ?_
      refine e_append rfl Try.underlying22 em_Int_3_AutoQ2 rfl rfl hS55 (hS55.rdS 1 rfl) (fun _ h => h) (by have hb : GoT.bytes Int = 8 := rfl; simp [hb]; omega) (by decide) (fun v56 H57 hS58 hxx => ?_)
      replace hS58 : St H0 NoB (fun b => S b ∧ b < H0.size) [rowE 3 v56 (m2 ++ ([stepA a (nth m2 i) (c : Int)]) : List Int), rdE v51 ([stepA a (nth m2 i) (c : Int)] : List Int), rowE 3 vr (leRow a i c : List Int), rowE 22 v1 (leNext a i : List (List Int)), rowE 4 v2 (leTakes a i : List Bool), blkE g13 (.cells #[I (a.Signs), v1, v2] 36), rdE r8 r8m, blkE g4 (.cells #[I (0), (Value.slice none 0 0), (Value.slice none 0 0)] 36), blkE g1 (.cells #[I (a.Signs), vn, vt] 36), rdE vn a.Next, rdE vt a.Takes] H57 := hS58
      refine wpL_q (U := NoB) rfl (q_assign (v := v56) rfl rfl) ?_
      exact ⟨v56, a48_1, a48_2, a48_3, a48_4, rfl, a48_6, a48_7, a48_8, a48_10, (hS58.drop (sk (sn (sk (sk (sk (sk (sk (sk (sk (sk (sk (List.Sublist.slnil)))))))))))))⟩
    rintro f59 H59 ⟨v56, a59_1, a59_2, a59_3, a59_4, a59_5, a59_6, a59_7, a59_8, a59_10, hS59⟩
    clear a48_1 a48_10 a48_2 a48_3 a48_4 a48_5 a48_6 a48_61 a48_7 a48_8 a48_9
    exact ⟨v56, m2 ++ ([stepA a (nth m2 i) (c : Int)]), (hL2.new hW hbl hil2 hcs (fun j hj => hno j (by omega))), (by rw [List.length_append, List.length_singleton]; omega), (by rw [List.length_append]; omega), (nth_app_left hil2), (by rw [show k = m2.length by omega, nth_app_last]; exact fun _ _ => rfl), a59_1, a59_2, a59_3, a59_4, a59_5, a59_6, a59_7, a59_8, a59_10, (show St H0 NoB (fun b => S b ∧ b < H0.size) [rowE 3 v56 ((m2 ++ ([stepA a (nth m2 i) (c : Int)])) : List Int), rowE 3 vr (leRow a i c : List Int), rowE 22 v1 (leNext a i : List (List Int)), rowE 4 v2 (leTakes a i : List Bool), blkE g13 (.cells #[I (a.Signs), v1, v2] 36), rdE r8 r8m, blkE g4 (.cells #[I (0), (Value.slice none 0 0), (Value.slice none 0 0)] 36), blkE g1 (.cells #[I (a.Signs), vn, vt] 36), rdE vn a.Next, rdE vt a.Takes] H59 from hS59)⟩
  rintro f49 H49 ⟨vN, m3, hL3, hk3, hi3, hn3, he3, a49_1, a49_2, a49_3, a49_4, a49_5, a49_6, a49_7, a49_8, a49_10, hS49⟩
  clear a48_1 a48_10 a48_2 a48_3 a48_4 a48_5 a48_6 a48_61 a48_7 a48_8 a48_9
  refine wpF_cut (fun f H => ∃ (v66 : Value), f 1 = PT g1 0 ∧ f 2 = PT g4 0 ∧ f 3 = r8 ∧ f 4 = PT g13 0 ∧ f 5 = vN ∧ f 6 = I ((i : Int)) ∧ f 7 = v66 ∧ f 8 = I ((c : Int)) ∧ St H0 NoB (fun b => S b ∧ b < H0.size) [rowE 3 v66 (leRow a i (c + 1) : List Int), rowE 3 vN (m3 : List Int), rowE 22 v1 (leNext a i : List (List Int)), rowE 4 v2 (leTakes a i : List Bool), blkE g13 (.cells #[I (a.Signs), v1, v2] 36), rdE r8 r8m, blkE g4 (.cells #[I (0), (Value.slice none 0 0), (Value.slice none 0 0)] 36), blkE g1 (.cells #[I (a.Signs), vn, vt] 36), rdE vn a.Next, rdE vt a.Takes] H) ?_ ?_
  · refine wpF_region ?_
    refine wpL_q (U := NoB) rfl (q_move (v := vr) rfl a49_7) ?_
    refine wpL_q (U := NoB) rfl (q_move (v := I ((k : Int))) rfl a49_10) ?_
    refine wpL_o rfl ?_
    refine e_buildSlice (vs := [I ((k : Int))]) (xs := ([(k : Int)] : List Int)) rfl Try.underlying22 Try.zeroValue3 rfl Try.sizeOf3 (par1 (v0 := I ((k : Int))) rfl) rfl hS49 (RdVs.cons (Rd.int.2 ⟨rfl, by first | assumption | (constructor <;> omega)⟩) (RdVs.nil)) (by decide) (by decide) (fun v61 H62 hS63 hxx hvv61 => ?_)
    replace hS63 : St H0 NoB (fun b => S b ∧ b < H0.size) [rowE 3 v61 ([(k : Int)] : List Int), rowE 3 vN (m3 : List Int), rowE 3 vr (leRow a i c : List Int), rowE 22 v1 (leNext a i : List (List Int)), rowE 4 v2 (leTakes a i : List Bool), blkE g13 (.cells #[I (a.Signs), v1, v2] 36), rdE r8 r8m, blkE g4 (.cells #[I (0), (Value.slice none 0 0), (Value.slice none 0 0)] 36), blkE g1 (.cells #[I (a.Signs), vn, vt] 36), rdE vn a.Next, rdE vt a.Takes] H62 := hS63
    have hS64 : St H0 NoB (fun b => S b ∧ b < H0.size) [rdE v61 ([(k : Int)] : List Int), rowE 3 vN (m3 : List Int), rowE 3 vr (leRow a i c : List Int), rowE 22 v1 (leNext a i : List (List Int)), rowE 4 v2 (leTakes a i : List Bool), blkE g13 (.cells #[I (a.Signs), v1, v2] 36), rdE r8 r8m, blkE g4 (.cells #[I (0), (Value.slice none 0 0), (Value.slice none 0 0)] 36), blkE g1 (.cells #[I (a.Signs), vn, vt] 36), rdE vn a.Next, rdE vt a.Takes] H62 := St.fin hS63
    have hS65 : St H0 NoB (fun b => S b ∧ b < H0.size) [rowE 3 vr (leRow a i c : List Int), rdE v61 ([(k : Int)] : List Int), rowE 3 vN (m3 : List Int), rowE 22 v1 (leNext a i : List (List Int)), rowE 4 v2 (leTakes a i : List Bool), blkE g13 (.cells #[I (a.Signs), v1, v2] 36), rdE r8 r8m, blkE g4 (.cells #[I (0), (Value.slice none 0 0), (Value.slice none 0 0)] 36), blkE g1 (.cells #[I (a.Signs), vn, vt] 36), rdE vn a.Next, rdE vt a.Takes] H62 := (hS64.front 2 rfl)
    refine wpL_o rfl ?_
    refine e_append rfl Try.underlying22 em_Int_3_AutoQ2 rfl rfl hS65 (hS65.rdS 1 rfl) (fun _ h => h) (by have hb : GoT.bytes Int = 8 := rfl; simp [hb]; omega) (by decide) (fun v66 H67 hS68 hxx => ?_)
    replace hS68 : St H0 NoB (fun b => S b ∧ b < H0.size) [rowE 3 v66 ((leRow a i c) ++ ([(k : Int)]) : List Int), rdE v61 ([(k : Int)] : List Int), rowE 3 vN (m3 : List Int), rowE 22 v1 (leNext a i : List (List Int)), rowE 4 v2 (leTakes a i : List Bool), blkE g13 (.cells #[I (a.Signs), v1, v2] 36), rdE r8 r8m, blkE g4 (.cells #[I (0), (Value.slice none 0 0), (Value.slice none 0 0)] 36), blkE g1 (.cells #[I (a.Signs), vn, vt] 36), rdE vn a.Next, rdE vt a.Takes] H67 := hS68
    have hS69 : St H0 NoB (fun b => S b ∧ b < H0.size) [rowE 3 v66 (leRow a i (c + 1) : List Int), rdE v61 ([(k : Int)] : List Int), rowE 3 vN (m3 : List Int), rowE 22 v1 (leNext a i : List (List Int)), rowE 4 v2 (leTakes a i : List Bool), blkE g13 (.cells #[I (a.Signs), v1, v2] 36), rdE r8 r8m, blkE g4 (.cells #[I (0), (Value.slice none 0 0), (Value.slice none 0 0)] 36), blkE g1 (.cells #[I (a.Signs), vn, vt] 36), rdE vn a.Next, rdE vt a.Takes] H67 := by rw [show (leRow a i (c + 1)) = ((leRow a i c) ++ ([(k : Int)])) from (by rw [leRow_next, hL3.num hW hi3 hk3 (by rw [hn3]; exact he3)])]; exact hS68
    refine wpL_q (U := NoB) rfl (q_assign (v := v66) rfl rfl) ?_
    exact ⟨v66, a49_1, a49_2, a49_3, a49_4, a49_5, a49_6, rfl, a49_8, (hS69.drop (sk (sn (sk (sk (sk (sk (sk (sk (sk (sk (sk (List.Sublist.slnil)))))))))))))⟩
  rintro f70 H70 ⟨v66, a70_1, a70_2, a70_3, a70_4, a70_5, a70_6, a70_7, a70_8, hS70⟩
  clear a49_1 a49_10 a49_2 a49_3 a49_4 a49_5 a49_6 a49_7 a49_8
  refine wpF_cut (fun f H => f 1 = PT g1 0 ∧ f 2 = PT g4 0 ∧ f 3 = r8 ∧ f 4 = PT g13 0 ∧ f 5 = vN ∧ f 6 = I ((i : Int)) ∧ f 7 = v66 ∧ f 8 = I ((c : Int) + 1) ∧ H70 = H) ?_ ?_
  · refine wpF_region ?_
    refine wpL_q (U := NoB) rfl (q_move (v := I ((c : Int))) rfl a70_8) ?_
    refine wpL_q (U := NoB) rfl (q_add rfl rfl rfl (by constructor <;> omega)) ?_
    refine wpL_q (U := NoB) rfl (q_assign (v := I ((c : Int) + 1)) rfl rfl) ?_
    exact ⟨a70_1, a70_2, a70_3, a70_4, a70_5, a70_6, a70_7, rfl, rfl⟩
  rintro f71 _ ⟨a71_1, a71_2, a71_3, a71_4, a71_5, a71_6, a71_7, a71_8, rfl⟩
  clear a70_1 a70_2 a70_3 a70_4 a70_5 a70_6 a70_7 a70_8
  refine ⟨_, ?_, c + 1, m3, vN, v66, rfl, (by omega), hi3, (hn3.trans hnth), hL3, a71_1, a71_2, a71_3, a71_4, a71_5, a71_6, a71_7, (Eq.trans a71_8 (congrArg I (by omega))), hS70⟩
  omega

end Go.Um
