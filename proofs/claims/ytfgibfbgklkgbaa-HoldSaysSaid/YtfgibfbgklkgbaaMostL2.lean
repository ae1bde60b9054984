import Derived.Test.YtfgibfbgklkgbaaProg
import Derived.Test.YtfgibfbgklkgbaaMostL1
import Derived.Test.YtfgibfbgklkgbaaUmSub
namespace Go.Um
open Go.Proofs
open GoT (sz ag rdc)
open KeyT (kv)

theorem el_Int_3_MostL2 : ElT Try.prog Int 3 := ⟨Try.isAgg3, Try.sizeOf3⟩
theorem el_LInt_32_MostL2 : ElT Try.prog (List Int) 32 := ⟨Try.isAgg32, Try.sizeOf32⟩
theorem el_LRow_34_MostL2 : ElT Try.prog LRow 34 := ⟨Try.isAgg34, Try.sizeOf34⟩
theorem em_Int_3_MostL2 : ElemOk Try.prog Int 3 := ⟨Try.t3, (.int .i64 0), by kernel_rfl, by kernel_rfl, by kernel_rfl, by kernel_rfl, by kernel_rfl⟩
theorem em_LRow_34_MostL2 : ElemOk Try.prog LRow 34 := ⟨Try.t34, (.agg #[(.slice none 0 0), (.int .i64 0), (.int .i64 0)]), by kernel_rfl, by kernel_rfl, by kernel_rfl, by kernel_rfl, by kernel_rfl⟩

set_option maxHeartbeats 2000000 in
set_option maxRecDepth 100000 in
theorem Most_L {H0 : Heap} {S : Nat → Prop} (wa wb wc wd we vr : Value) (l : Loop) (r : List LRow) (rwa : Rd S H0 wa l.Low) (rwb : Rd S H0 wb l.High) (rwc : Rd S H0 wc l.Start) (rwd : Rd S H0 wd l.Jumps) (rwe : Rd S H0 we l.Bad) (rr : Rd S H0 vr r) : CallsH Try.prog 37 #[Value.agg #[wa, wb, wc, wd, we], vr] H0 (fun rv_ H' => Ext NoB H0 H' ∧ ∃ w0_, rv_ = Value.tuple #[w0_, Value.agg #[I (chkFault l r).1, I (chkFault l r).2]] ∧ Rd (fun b => S b ∧ b < H0.size) H' w0_ (holdMost l r)) := by
  have hs1 := (Rd.list.1 rwa).small
  have hs2 := (Rd.list.1 rwb).small
  have hs4 := (Rd.list.1 rwd).small
  have hsr := (Rd.list.1 rr).small
  have hS0 : St H0 NoB (fun b => S b ∧ b < H0.size) [rdE wa l.Low, rdE wb l.High, rdE wc l.Start, rdE wd l.Jumps, rdE we l.Bad, rdE vr r] H0 := St.arg (St.arg (St.arg (St.arg (St.arg (St.arg (St.start (fun _ h => h.2)) (Bl0.nil) rr (fun _ h => h.1)) (Bl0.cons (Bl0.nil)) rwe (fun _ h => h.1)) (Bl0.cons (Bl0.cons (Bl0.nil))) rwd (fun _ h => h.1)) (Bl0.cons (Bl0.cons (Bl0.cons (Bl0.nil)))) rwc (fun _ h => h.1)) (Bl0.cons (Bl0.cons (Bl0.cons (Bl0.cons (Bl0.nil))))) rwb (fun _ h => h.1)) (Bl0.cons (Bl0.cons (Bl0.cons (Bl0.cons (Bl0.cons (Bl0.nil)))))) rwa (fun _ h => h.1)
  refine callsH_of_wpF (args := [Value.agg #[wa, wb, wc, wd, we], vr]) (rs := [.tmp 4, .cell 5 27]) Try.func37 rfl Try.ntmps37 Try.results37 (by kernel_rfl) (Nat.le_of_ble_eq_true rfl) ?_
  have a0_0 : argF [Value.agg #[wa, wb, wc, wd, we], vr] 0 = Value.agg #[wa, wb, wc, wd, we] := rfl
  have a0_1 : argF [Value.agg #[wa, wb, wc, wd, we], vr] 1 = vr := rfl
  generalize argF [Value.agg #[wa, wb, wc, wd, we], vr] = f0 at *
  refine wpF_seq ?_
  refine wpF_cut (fun f H => ∃ (g1 : Nat), ∃ (g4 : Nat), ∃ (g7 : Nat), f 2 = PT g1 0 ∧ f 3 = PT g4 0 ∧ f 5 = PT g7 0 ∧ St H0 NoB (fun b => S b ∧ b < H0.size) [blkE g7 (.cells #[I (0), I (0)] 27), blkE g4 (.cells #[vr] 22), blkE g1 (.cells #[wa, wb, wc, wd, we] 42), rdE wa l.Low, rdE wb l.High, rdE wc l.Start, rdE wd l.Jumps, rdE we l.Bad, rdE vr r] H) ?_ ?_
  · refine wpF_region ?_
    refine wpL_o rfl ?_
    refine e_box (v := Value.agg #[wa, wb, wc, wd, we]) rfl a0_0 hS0 (fun g1 H2 hS3 hxx => ?_)
    replace hS3 : St H0 NoB (fun b => S b ∧ b < H0.size) [blkE g1 (.cells #[wa, wb, wc, wd, we] 42), rdE wa l.Low, rdE wb l.High, rdE wc l.Start, rdE wd l.Jumps, rdE we l.Bad, rdE vr r] H2 := hS3
    refine wpL_o rfl ?_
    refine e_box (v := vr) rfl a0_1 hS3 (fun g4 H5 hS6 hxx => ?_)
    rw [cells_rdL (hS3.rdl 6 rfl)] at hS6
    replace hS6 : St H0 NoB (fun b => S b ∧ b < H0.size) [blkE g4 (.cells #[vr] 22), blkE g1 (.cells #[wa, wb, wc, wd, we] 42), rdE wa l.Low, rdE wb l.High, rdE wc l.Start, rdE wd l.Jumps, rdE we l.Bad, rdE vr r] H5 := hS6
    refine wpL_q (U := NoB) rfl (q_assign (v := (Value.slice none 0 0)) rfl rfl) ?_
    refine wpL_o rfl ?_
    refine e_alloc rfl Try.zeroValue27 hS6 (fun g7 H8 hS9 hxx => ?_)
    replace hS9 : St H0 NoB (fun b => S b ∧ b < H0.size) [blkE g7 (.cells #[I (0), I (0)] 27), blkE g4 (.cells #[vr] 22), blkE g1 (.cells #[wa, wb, wc, wd, we] 42), rdE wa l.Low, rdE wb l.High, rdE wc l.Start, rdE wd l.Jumps, rdE we l.Bad, rdE vr r] H8 := hS9
    exact ⟨g1, g4, g7, rfl, rfl, rfl, hS9⟩
  rintro f10 H10 ⟨g1, g4, g7, a10_2, a10_3, a10_5, hS10⟩
  clear a0_0 a0_1
  refine wpF_seq ?_
  refine wpF_seq ?_
  refine wpF_cut (fun f H => ∃ (g14 : Nat), f 2 = PT g1 0 ∧ f 3 = PT g4 0 ∧ f 5 = PT g7 0 ∧ f 6 = PT g14 0 ∧ St H0 NoB (fun b => S b ∧ b < H0.size) [blkE g14 (.cells #[I ((chkFault l r).1), I ((chkFault l r).2)] 27), blkE g7 (.cells #[I (0), I (0)] 27), blkE g4 (.cells #[vr] 22), blkE g1 (.cells #[wa, wb, wc, wd, we] 42), rdE wa l.Low, rdE wb l.High, rdE wc l.Start, rdE wd l.Jumps, rdE we l.Bad, rdE vr r] H) ?_ ?_
  · refine wpF_region ?_
    refine wpL_q (U := NoB) rfl (q_loadBlkA rfl a10_2 Try.isAgg42 Try.sizeOf42 rfl (hS10.blk 2 rfl) (fun h => h)) ?_
    refine wpL_q (U := NoB) rfl (q_loadBlk rfl a10_3 Try.isAgg22 (hS10.blk 1 rfl) rfl (fun h => h)) ?_
    refine wpL_o rfl ?_
    refine e_call rfl Try.call50 (arr2 (v0 := Value.agg #[wa, wb, wc, wd, we]) (v1 := vr) rfl rfl) (check_L wa wb wc wd we vr l r (hS10.rdN 3 rfl) (hS10.rdN 4 rfl) (hS10.rdN 5 rfl) (hS10.rdN 6 rfl) (hS10.rdN 7 rfl) (hS10.rdN 8 rfl) ) ?_
    rintro _ H11 ⟨hxx, rfl⟩
    have hS12 : St H0 NoB (fun b => S b ∧ b < H0.size) [blkE g7 (.cells #[I (0), I (0)] 27), blkE g4 (.cells #[vr] 22), blkE g1 (.cells #[wa, wb, wc, wd, we] 42), rdE wa l.Low, rdE wb l.High, rdE wc l.Start, rdE wd l.Jumps, rdE we l.Bad, rdE vr r] H11 := hS10.ext hxx
    refine wpL_o rfl ?_
    refine e_alloc rfl Try.zeroValue27 hS12 (fun g14 H15 hS16 hxx => ?_)
    replace hS16 : St H0 NoB (fun b => S b ∧ b < H0.size) [blkE g14 (.cells #[I (0), I (0)] 27), blkE g7 (.cells #[I (0), I (0)] 27), blkE g4 (.cells #[vr] 22), blkE g1 (.cells #[wa, wb, wc, wd, we] 42), rdE wa l.Low, rdE wb l.High, rdE wc l.Start, rdE wd l.Jumps, rdE we l.Bad, rdE vr r] H15 := hS16
    refine wpL_o rfl ?_
    refine e_storeBlkA (cs' := #[I ((chkFault l r).1), I ((chkFault l r).2)]) rfl rfl rfl Try.sizeOf27 rfl rfl (List.forall_mem_cons.2 ⟨rfl, List.forall_mem_cons.2 ⟨rfl, List.forall_mem_nil _⟩⟩) hS16 (fun H17 hS18 hxx => ?_)
    replace hS18 : St H0 NoB (fun b => S b ∧ b < H0.size) [blkE g14 (.cells #[I ((chkFault l r).1), I ((chkFault l r).2)] 27), blkE g7 (.cells #[I (0), I (0)] 27), blkE g4 (.cells #[vr] 22), blkE g1 (.cells #[wa, wb, wc, wd, we] 42), rdE wa l.Low, rdE wb l.High, rdE wc l.Start, rdE wd l.Jumps, rdE we l.Bad, rdE vr r] H17 := hS18
    exact ⟨g14, a10_2, a10_3, a10_5, rfl, hS18⟩
  rintro f19 H19 ⟨g14, a19_2, a19_3, a19_5, a19_6, hS19⟩
  clear a10_2 a10_3 a10_5
  refine wpF_seq ?_
  refine wpF_cut (fun f H => f 2 = PT g1 0 ∧ f 3 = PT g4 0 ∧ f 5 = PT g7 0 ∧ f 6 = PT g14 0 ∧ f 23 = B (decide (((chkFault l r).1) ≠ 0)) ∧ H19 = H) ?_ ?_
  · refine wpF_region ?_
    refine wpL_q (U := NoB) rfl (q_fieldAddr rfl Try.underlying27 rfl Try.sizeOf3 a19_6) ?_
    refine wpL_q (U := NoB) rfl (q_loadBlk rfl rfl Try.isAgg3 (hS19.blk 0 rfl) rfl (fun h => h)) ?_
    refine wpL_q (U := NoB) rfl (q_neq rfl rfl rfl) ?_
    exact ⟨a19_2, a19_3, a19_5, a19_6, rfl, rfl⟩
  rintro f20 _ ⟨a20_2, a20_3, a20_5, a20_6, a20_23, rfl⟩
  clear a19_2 a19_3 a19_5 a19_6
  refine wpF_condP a20_23 (fun h23 => ?t148) (fun h23 => ?e148)
  case t148 =>
    refine wpF_seq ?_
    refine wpF_cut (fun f H => f 4 = (Value.slice none 0 0) ∧ f 5 = PT g7 0 ∧ St H0 NoB (fun b => S b ∧ b < H0.size) [blkE g7 (.cells #[I ((chkFault l r).1), I ((chkFault l r).2)] 27), blkE g14 (.cells #[I ((chkFault l r).1), I ((chkFault l r).2)] 27), blkE g4 (.cells #[vr] 22), blkE g1 (.cells #[wa, wb, wc, wd, we] 42), rdE wa l.Low, rdE wb l.High, rdE wc l.Start, rdE wd l.Jumps, rdE we l.Bad, rdE vr r] H) ?_ ?_
    · refine wpF_drawn [none, none, some 0] [[], [], []] (fun l b => match l with | 0 => True | _ => False) (by kernel_rfl) (by kernel_rfl) ?_
      refine wpR_q 0 (by kernel_rfl) rfl (quietAt rfl rfl (q_loadBlkA rfl a20_6 Try.isAgg27 Try.sizeOf27 rfl (hS19.blk 0 rfl) (labU_not [] rfl (List.forall_mem_nil _)))) ?_
      refine wpR_q 1 (by kernel_rfl) rfl (quietAt rfl rfl (q_assign (v := (Value.slice none 0 0)) rfl rfl)) ?_
      refine wpR_n [2] (by kernel_rfl) ?_
      refine List.forall_mem_cons.2 ⟨?_, List.forall_mem_nil _⟩
      refine exE rfl rfl ?_
      refine e_storeBlkA (cs' := #[I ((chkFault l r).1), I ((chkFault l r).2)]) rfl a20_5 rfl Try.sizeOf27 rfl rfl (List.forall_mem_cons.2 ⟨rfl, List.forall_mem_cons.2 ⟨rfl, List.forall_mem_nil _⟩⟩) (hS19.front 1 rfl) (fun H22o2 hS22o2 hxx => ?_)
      replace hS22o2 : St H0 NoB (fun b => S b ∧ b < H0.size) [blkE g7 (.cells #[I ((chkFault l r).1), I ((chkFault l r).2)] 27), blkE g14 (.cells #[I ((chkFault l r).1), I ((chkFault l r).2)] 27), blkE g4 (.cells #[vr] 22), blkE g1 (.cells #[wa, wb, wc, wd, we] 42), rdE wa l.Low, rdE wb l.High, rdE wc l.Start, rdE wd l.Jumps, rdE we l.Bad, rdE vr r] H22o2 := hS22o2
      refine ⟨Ext.mono hxx (labS_of 0 rfl (fun _ _ => trivial)), ?_⟩
      refine wpR_end (by kernel_rfl) ?_
      exact ⟨rfl, a20_5, hS22o2⟩
    rintro f23 H23 ⟨a23_4, a23_5, hS23⟩
    clear a20_2 a20_23 a20_3 a20_5 a20_6
    refine wpF_ret ?_
    refine ⟨_, resT a23_4 (resC a23_5 (loadV_blkA Try.isAgg27 Try.sizeOf27 rfl (hS23.blk 0 rfl)) (resN)), hS23.frame, ?_⟩
    show ∃ w0_, (Value.tuple #[(Value.slice none 0 0), Value.agg #[I ((chkFault l r).1), I ((chkFault l r).2)]]) = Value.tuple #[w0_, Value.agg #[I (chkFault l r).1, I (chkFault l r).2]] ∧ Rd (fun b => S b ∧ b < H0.size) H23 w0_ (holdMost l r)
    have q1 : holdMost l r = [] := if_pos h23
    exact ⟨(Value.slice none 0 0), rfl, by rw [q1]; exact rdNil⟩
  obtain ⟨hl, hrz, hcz⟩ := chk_zero (Decidable.of_not_not h23)
  have hmany := hl.many
  have hr40 := (rowsFault_zero hrz).1
  have hsll : (statesL l).length ≤ 1200 := allTo_le hl (Nat.le_refl l.Low.length)
  refine wpF_skip ?_
  refine wpF_seq ?_
  refine wpF_cut (fun f H => ∃ (g24 : Nat), f 2 = PT g1 0 ∧ f 3 = PT g4 0 ∧ f 5 = PT g7 0 ∧ f 7 = PT g24 0 ∧ St H0 NoB (fun b => S b ∧ b < H0.size) [blkE g24 (.cells #[(Value.slice none 0 0)] 32), blkE g14 (.cells #[I ((chkFault l r).1), I ((chkFault l r).2)] 27), blkE g7 (.cells #[I (0), I (0)] 27), blkE g4 (.cells #[vr] 22), blkE g1 (.cells #[wa, wb, wc, wd, we] 42), rdE wa l.Low, rdE wb l.High, rdE wc l.Start, rdE wd l.Jumps, rdE we l.Bad, rdE vr r] H) ?_ ?_
  · refine wpF_region ?_
    refine wpL_o rfl ?_
    refine e_alloc rfl Try.zeroValue32 hS19 (fun g24 H25 hS26 hxx => ?_)
    replace hS26 : St H0 NoB (fun b => S b ∧ b < H0.size) [blkE g24 (.cells #[(Value.slice none 0 0)] 32), blkE g14 (.cells #[I ((chkFault l r).1), I ((chkFault l r).2)] 27), blkE g7 (.cells #[I (0), I (0)] 27), blkE g4 (.cells #[vr] 22), blkE g1 (.cells #[wa, wb, wc, wd, we] 42), rdE wa l.Low, rdE wb l.High, rdE wc l.Start, rdE wd l.Jumps, rdE we l.Bad, rdE vr r] H25 := hS26
    exact ⟨g24, a20_2, a20_3, a20_5, rfl, hS26⟩
  rintro f27 H27 ⟨g24, a27_2, a27_3, a27_5, a27_7, hS27⟩
  clear a20_2 a20_23 a20_3 a20_5 a20_6
  have hS28 : St H0 NoB (fun b => S b ∧ b < H0.size) [rowE 3 (Value.slice none 0 0) ([] : List Int), blkE g24 (.cells #[(Value.slice none 0 0)] 32), blkE g14 (.cells #[I ((chkFault l r).1), I ((chkFault l r).2)] 27), blkE g7 (.cells #[I (0), I (0)] 27), blkE g4 (.cells #[vr] 22), blkE g1 (.cells #[wa, wb, wc, wd, we] 42), rdE wa l.Low, rdE wb l.High, rdE wc l.Start, rdE wd l.Jumps, rdE we l.Bad, rdE vr r] H27 := hS27.row0 3
  refine wpF_seq ?_
  refine wpF_seq ?_
  refine wpF_cut (fun f H => f 2 = PT g1 0 ∧ f 3 = PT g4 0 ∧ f 5 = PT g7 0 ∧ f 7 = PT g24 0 ∧ f 26 = I ((r.length : Int)) ∧ f 27 = I (0) ∧ H27 = H) ?_ ?_
  · refine wpF_region ?_
    refine wpL_q (U := NoB) rfl (q_loadBlk rfl a27_3 Try.isAgg22 (hS28.blk 4 rfl) rfl (fun h => h)) ?_
    refine wpL_q (U := NoB) rfl (q_lenRd rfl Try.underlying22 rfl (hS28.rdl 11 rfl)) ?_
    refine wpL_q (U := NoB) rfl (q_move (v := I (0)) rfl rfl) ?_
    exact ⟨a27_2, a27_3, a27_5, a27_7, rfl, rfl, rfl⟩
  rintro f29 _ ⟨a29_2, a29_3, a29_5, a29_7, a29_26, a29_27, rfl⟩
  clear a27_2 a27_3 a27_5 a27_7
  refine wpF_block ?_
  refine wpF_loop (fun mz f H => ∃ (i : Nat), ∃ (vl : Value), mz = r.length - i ∧ (i ≤ r.length) ∧ f 2 = PT g1 0 ∧ f 3 = PT g4 0 ∧ f 5 = PT g7 0 ∧ f 7 = PT g24 0 ∧ f 26 = I ((r.length : Int)) ∧ f 27 = I ((i : Int)) ∧ St H0 NoB (fun b => S b ∧ b < H0.size) [rowE 3 vl (rangeI i : List Int), blkE g24 (.cells #[vl] 32), blkE g14 (.cells #[I ((chkFault l r).1), I ((chkFault l r).2)] 27), blkE g7 (.cells #[I (0), I (0)] 27), blkE g4 (.cells #[vr] 22), blkE g1 (.cells #[wa, wb, wc, wd, we] 42), rdE wa l.Low, rdE wb l.High, rdE wc l.Start, rdE wd l.Jumps, rdE we l.Bad, rdE vr r] H) (r.length - 0) ?_ ?_
  · exact ⟨0, (Value.slice none 0 0), rfl, Nat.zero_le _, a29_2, a29_3, a29_5, a29_7, a29_26, (Eq.trans a29_27 (congrArg I (by omega))), (show St H0 NoB (fun b => S b ∧ b < H0.size) [rowE 3 (Value.slice none 0 0) (rangeI 0 : List Int), blkE g24 (.cells #[(Value.slice none 0 0)] 32), blkE g14 (.cells #[I ((chkFault l r).1), I ((chkFault l r).2)] 27), blkE g7 (.cells #[I (0), I (0)] 27), blkE g4 (.cells #[vr] 22), blkE g1 (.cells #[wa, wb, wc, wd, we] 42), rdE wa l.Low, rdE wb l.High, rdE wc l.Start, rdE wd l.Jumps, rdE we l.Bad, rdE vr r] H27 from hS28)⟩
  intro m30 f30 H30 hI30
  obtain ⟨i, vl, hm30, hi, a30_2, a30_3, a30_5, a30_7, a30_26, a30_27, hS30⟩ := hI30
  clear a29_2 a29_26 a29_27 a29_3 a29_5 a29_7
  refine wpF_seq ?_
  refine wpF_cut (fun f H => f 2 = PT g1 0 ∧ f 3 = PT g4 0 ∧ f 5 = PT g7 0 ∧ f 7 = PT g24 0 ∧ f 26 = I ((r.length : Int)) ∧ f 27 = I ((i : Int)) ∧ f 28 = B (decide ((i : Int) < (r.length : Int))) ∧ H30 = H) ?_ ?_
  · refine wpF_region ?_
    refine wpL_q (U := NoB) rfl (q_lss rfl a30_27 a30_26) ?_
    exact ⟨a30_2, a30_3, a30_5, a30_7, a30_26, a30_27, rfl, rfl⟩
  rintro f31 _ ⟨a31_2, a31_3, a31_5, a31_7, a31_26, a31_27, a31_28, rfl⟩
  clear a30_2 a30_26 a30_27 a30_3 a30_5 a30_7
  refine wpF_seq ?_
  refine wpF_condP a31_28 (fun hlt0 => ?t147) (fun hlt0 => ?e147)
  case t147 =>
    refine wpF_skip ?_
    refine wpF_seq ?_
    refine wpF_block ?_
    refine wpF_seq ?_
    refine wpF_cut (fun f H => f 2 = PT g1 0 ∧ f 3 = PT g4 0 ∧ f 5 = PT g7 0 ∧ f 7 = PT g24 0 ∧ f 8 = I ((i : Int)) ∧ f 26 = I ((r.length : Int)) ∧ f 27 = I ((i : Int)) ∧ H30 = H) ?_ ?_
    · refine wpF_region ?_
      refine wpL_q (U := NoB) rfl (q_move (v := I ((i : Int))) rfl a31_27) ?_
      refine wpL_q (U := NoB) rfl (q_assign (v := I ((i : Int))) rfl rfl) ?_
      exact ⟨a31_2, a31_3, a31_5, a31_7, rfl, a31_26, a31_27, rfl⟩
    rintro f33 _ ⟨a33_2, a33_3, a33_5, a33_7, a33_8, a33_26, a33_27, rfl⟩
    clear a31_2 a31_26 a31_27 a31_28 a31_3 a31_5 a31_7
    refine wpF_cut (fun f H => ∃ (v39 : Value), f 2 = PT g1 0 ∧ f 3 = PT g4 0 ∧ f 5 = PT g7 0 ∧ f 7 = PT g24 0 ∧ f 26 = I ((r.length : Int)) ∧ f 27 = I ((i : Int)) ∧ St H0 NoB (fun b => S b ∧ b < H0.size) [blkE g24 (.cells #[v39] 32), rowE 3 v39 (rangeI (i + 1) : List Int), blkE g14 (.cells #[I ((chkFault l r).1), I ((chkFault l r).2)] 27), blkE g7 (.cells #[I (0), I (0)] 27), blkE g4 (.cells #[vr] 22), blkE g1 (.cells #[wa, wb, wc, wd, we] 42), rdE wa l.Low, rdE wb l.High, rdE wc l.Start, rdE wd l.Jumps, rdE we l.Bad, rdE vr r] H) ?_ ?_
    · refine wpF_region ?_
      refine wpL_q (U := NoB) rfl (q_loadBlk rfl a33_7 Try.isAgg32 (hS30.blk 1 rfl) rfl (fun h => h)) ?_
      refine wpL_q (U := NoB) rfl (q_move (v := I ((i : Int))) rfl a33_8) ?_
      refine wpL_o rfl ?_
      refine e_buildSlice (vs := [I ((i : Int))]) (xs := ([(i : Int)] : List Int)) rfl Try.underlying32 Try.zeroValue3 rfl Try.sizeOf3 (par1 (v0 := I ((i : Int))) rfl) rfl hS30 (RdVs.cons (Rd.int.2 ⟨rfl, by constructor <;> omega⟩) (RdVs.nil)) (by decide) (by decide) (fun v34 H35 hS36 hxx hvv34 => ?_)
      replace hS36 : St H0 NoB (fun b => S b ∧ b < H0.size) [rowE 3 v34 ([(i : Int)] : List Int), rowE 3 vl (rangeI i : List Int), blkE g24 (.cells #[vl] 32), blkE g14 (.cells #[I ((chkFault l r).1), I ((chkFault l r).2)] 27), blkE g7 (.cells #[I (0), I (0)] 27), blkE g4 (.cells #[vr] 22), blkE g1 (.cells #[wa, wb, wc, wd, we] 42), rdE wa l.Low, rdE wb l.High, rdE wc l.Start, rdE wd l.Jumps, rdE we l.Bad, rdE vr r] H35 := hS36
      have hS37 : St H0 NoB (fun b => S b ∧ b < H0.size) [rdE v34 ([(i : Int)] : List Int), rowE 3 vl (rangeI i : List Int), blkE g24 (.cells #[vl] 32), blkE g14 (.cells #[I ((chkFault l r).1), I ((chkFault l r).2)] 27), blkE g7 (.cells #[I (0), I (0)] 27), blkE g4 (.cells #[vr] 22), blkE g1 (.cells #[wa, wb, wc, wd, we] 42), rdE wa l.Low, rdE wb l.High, rdE wc l.Start, rdE wd l.Jumps, rdE we l.Bad, rdE vr r] H35 := St.fin hS36
      have hS38 : St H0 NoB (fun b => S b ∧ b < H0.size) [rowE 3 vl (rangeI i : List Int), rdE v34 ([(i : Int)] : List Int), blkE g24 (.cells #[vl] 32), blkE g14 (.cells #[I ((chkFault l r).1), I ((chkFault l r).2)] 27), blkE g7 (.cells #[I (0), I (0)] 27), blkE g4 (.cells #[vr] 22), blkE g1 (.cells #[wa, wb, wc, wd, we] 42), rdE wa l.Low, rdE wb l.High, rdE wc l.Start, rdE wd l.Jumps, rdE we l.Bad, rdE vr r] H35 := (hS37.front 1 rfl)
      refine wpL_o rfl ?_
      refine e_append rfl Try.underlying32 em_Int_3_MostL2 rfl rfl hS38 (hS38.rdS 1 rfl) (fun _ h => h) (by have hb : GoT.bytes Int = 8 := rfl; have hb2 := rangeI_len (n := i); simp [hb, hb2]; omega) (by decide) (fun v39 H40 hS41 hxx => ?_)
      replace hS41 : St H0 NoB (fun b => S b ∧ b < H0.size) [rowE 3 v39 ((rangeI i) ++ ([(i : Int)]) : List Int), rdE v34 ([(i : Int)] : List Int), blkE g24 (.cells #[vl] 32), blkE g14 (.cells #[I ((chkFault l r).1), I ((chkFault l r).2)] 27), blkE g7 (.cells #[I (0), I (0)] 27), blkE g4 (.cells #[vr] 22), blkE g1 (.cells #[wa, wb, wc, wd, we] 42), rdE wa l.Low, rdE wb l.High, rdE wc l.Start, rdE wd l.Jumps, rdE we l.Bad, rdE vr r] H40 := hS41
      have hS42 : St H0 NoB (fun b => S b ∧ b < H0.size) [rowE 3 v39 (rangeI (i + 1) : List Int), rdE v34 ([(i : Int)] : List Int), blkE g24 (.cells #[vl] 32), blkE g14 (.cells #[I ((chkFault l r).1), I ((chkFault l r).2)] 27), blkE g7 (.cells #[I (0), I (0)] 27), blkE g4 (.cells #[vr] 22), blkE g1 (.cells #[wa, wb, wc, wd, we] 42), rdE wa l.Low, rdE wb l.High, rdE wc l.Start, rdE wd l.Jumps, rdE we l.Bad, rdE vr r] H40 := by rw [show (rangeI (i + 1)) = ((rangeI i) ++ ([(i : Int)])) from (by rw [rangeI_next])]; exact hS41
      refine wpL_o rfl ?_
      refine e_storeBlk (v := v39) rfl a33_7 rfl (oneCell_rdL (hS42.rowl 0 rfl)) Try.sizeOf32 (by show _ < 1; decide) (hS42.front 2 rfl) (fun H43 hS44 hxx => ?_)
      replace hS44 : St H0 NoB (fun b => S b ∧ b < H0.size) [blkE g24 (.cells #[v39] 32), rowE 3 v39 (rangeI (i + 1) : List Int), rdE v34 ([(i : Int)] : List Int), blkE g14 (.cells #[I ((chkFault l r).1), I ((chkFault l r).2)] 27), blkE g7 (.cells #[I (0), I (0)] 27), blkE g4 (.cells #[vr] 22), blkE g1 (.cells #[wa, wb, wc, wd, we] 42), rdE wa l.Low, rdE wb l.High, rdE wc l.Start, rdE wd l.Jumps, rdE we l.Bad, rdE vr r] H43 := hS44
      exact ⟨v39, a33_2, a33_3, a33_5, a33_7, a33_26, a33_27, (hS44.drop (sk (sk (sn (sk (sk (sk (sk (sk (sk (sk (sk (sk (sk (List.Sublist.slnil)))))))))))))))⟩
    rintro f45 H45 ⟨v39, a45_2, a45_3, a45_5, a45_7, a45_26, a45_27, hS45⟩
    clear a33_2 a33_26 a33_27 a33_3 a33_5 a33_7 a33_8
    refine wpF_cut (fun f H => f 2 = PT g1 0 ∧ f 3 = PT g4 0 ∧ f 5 = PT g7 0 ∧ f 7 = PT g24 0 ∧ f 26 = I ((r.length : Int)) ∧ f 27 = I ((i : Int) + 1) ∧ H45 = H) ?_ ?_
    · refine wpF_region ?_
      refine wpL_q (U := NoB) rfl (q_add rfl a45_27 rfl (by constructor <;> omega)) ?_
      refine wpL_q (U := NoB) rfl (q_move (v := I ((i : Int) + 1)) rfl rfl) ?_
      exact ⟨a45_2, a45_3, a45_5, a45_7, a45_26, rfl, rfl⟩
    rintro f46 _ ⟨a46_2, a46_3, a46_5, a46_7, a46_26, a46_27, rfl⟩
    clear a45_2 a45_26 a45_27 a45_3 a45_5 a45_7
    refine ⟨_, ?_, i + 1, v39, rfl, (by omega), a46_2, a46_3, a46_5, a46_7, a46_26, (Eq.trans a46_27 (congrArg I (by omega))), (St.drop (show St H0 NoB (fun b => S b ∧ b < H0.size) [rowE 3 v39 (rangeI (i + 1) : List Int), blkE g24 (.cells #[v39] 32), blkE g14 (.cells #[I ((chkFault l r).1), I ((chkFault l r).2)] 27), blkE g7 (.cells #[I (0), I (0)] 27), blkE g4 (.cells #[vr] 22), blkE g1 (.cells #[wa, wb, wc, wd, we] 42), rdE wa l.Low, rdE wb l.High, rdE wc l.Start, rdE wd l.Jumps, rdE we l.Bad, rdE vr r] H45 from (hS45.front 1 rfl)) (sk (sk (sk (sk (sk (sk (sk (sk (sk (sk (sk (sk (List.Sublist.slnil))))))))))))))⟩
    omega
  obtain rfl : i = r.length := by omega
  refine wpF_exit ?_
  refine atX_here ?_
  refine wpF_block ?_
  refine wpF_loop (fun mz f H => ∃ (left : List Int), ∃ (vq : Value), mz = left.length ∧ (InR r left) ∧ (left.length ≤ r.length) ∧ (∃ n, holdMostF l r (r.length + 1) (rangeI r.length) = holdMostF l r n left ∧ left.length < n) ∧ f 2 = PT g1 0 ∧ f 3 = PT g4 0 ∧ f 5 = PT g7 0 ∧ f 7 = PT g24 0 ∧ St H0 NoB (fun b => S b ∧ b < H0.size) [rowE 3 vq (left : List Int), blkE g24 (.cells #[vq] 32), blkE g14 (.cells #[I ((chkFault l r).1), I ((chkFault l r).2)] 27), blkE g7 (.cells #[I (0), I (0)] 27), blkE g4 (.cells #[vr] 22), blkE g1 (.cells #[wa, wb, wc, wd, we] 42), rdE wa l.Low, rdE wb l.High, rdE wc l.Start, rdE wd l.Jumps, rdE we l.Bad, rdE vr r] H) ((rangeI r.length).length) ?_ ?_
  · exact ⟨rangeI r.length, vl, rfl, inR_range, (by rw [rangeI_len]; exact Nat.le_refl _), ⟨_, rfl, by rw [rangeI_len]; omega⟩, a31_2, a31_3, a31_5, a31_7, (show St H0 NoB (fun b => S b ∧ b < H0.size) [rowE 3 vl ((rangeI r.length) : List Int), blkE g24 (.cells #[vl] 32), blkE g14 (.cells #[I ((chkFault l r).1), I ((chkFault l r).2)] 27), blkE g7 (.cells #[I (0), I (0)] 27), blkE g4 (.cells #[vr] 22), blkE g1 (.cells #[wa, wb, wc, wd, we] 42), rdE wa l.Low, rdE wb l.High, rdE wc l.Start, rdE wd l.Jumps, rdE we l.Bad, rdE vr r] H30 from hS30)⟩
  intro m47 f47 H47 hI47
  obtain ⟨left, vq, hm47, hir, hll, hmf, a47_2, a47_3, a47_5, a47_7, hS47⟩ := hI47
  clear a31_2 a31_26 a31_27 a31_28 a31_3 a31_5 a31_7
  refine wpF_block ?_
  refine wpF_seq ?_
  refine wpF_cut (fun f H => f 2 = PT g1 0 ∧ f 3 = PT g4 0 ∧ f 5 = PT g7 0 ∧ f 7 = PT g24 0 ∧ f 9 = (Value.slice none 0 0) ∧ H47 = H) ?_ ?_
  · refine wpF_region ?_
    refine wpL_q (U := NoB) rfl (q_assign (v := (Value.slice none 0 0)) rfl rfl) ?_
    exact ⟨a47_2, a47_3, a47_5, a47_7, rfl, rfl⟩
  rintro f48 _ ⟨a48_2, a48_3, a48_5, a48_7, a48_9, rfl⟩
  clear a47_2 a47_3 a47_5 a47_7
  have hS49 : St H0 NoB (fun b => S b ∧ b < H0.size) [rowE 34 (Value.slice none 0 0) ([] : List LRow), rowE 3 vq (left : List Int), blkE g24 (.cells #[vq] 32), blkE g14 (.cells #[I ((chkFault l r).1), I ((chkFault l r).2)] 27), blkE g7 (.cells #[I (0), I (0)] 27), blkE g4 (.cells #[vr] 22), blkE g1 (.cells #[wa, wb, wc, wd, we] 42), rdE wa l.Low, rdE wb l.High, rdE wc l.Start, rdE wd l.Jumps, rdE we l.Bad, rdE vr r] H47 := hS47.row0 34
  refine wpF_seq ?_
  refine wpF_seq ?_
  refine wpF_cut (fun f H => f 2 = PT g1 0 ∧ f 3 = PT g4 0 ∧ f 5 = PT g7 0 ∧ f 7 = PT g24 0 ∧ f 9 = (Value.slice none 0 0) ∧ f 35 = vq ∧ f 36 = I ((left.length : Int)) ∧ f 37 = I (0) ∧ H47 = H) ?_ ?_
  · refine wpF_region ?_
    refine wpL_q (U := NoB) rfl (q_loadBlk rfl a48_7 Try.isAgg32 (hS49.blk 2 rfl) rfl (fun h => h)) ?_
    refine wpL_q (U := NoB) rfl (q_lenRd rfl Try.underlying32 rfl (hS49.rowl 1 rfl)) ?_
    refine wpL_q (U := NoB) rfl (q_move (v := I (0)) rfl rfl) ?_
    exact ⟨a48_2, a48_3, a48_5, a48_7, a48_9, rfl, rfl, rfl, rfl⟩
  rintro f50 _ ⟨a50_2, a50_3, a50_5, a50_7, a50_9, a50_35, a50_36, a50_37, rfl⟩
  clear a48_2 a48_3 a48_5 a48_7 a48_9
  refine wpF_block ?_
  refine wpF_loop (fun mz f H => ∃ (k : Nat), ∃ (v9 : Value), mz = left.length - k ∧ (k ≤ left.length) ∧ f 2 = PT g1 0 ∧ f 3 = PT g4 0 ∧ f 5 = PT g7 0 ∧ f 7 = PT g24 0 ∧ f 9 = v9 ∧ f 35 = vq ∧ f 36 = I ((left.length : Int)) ∧ f 37 = I ((k : Int)) ∧ St H0 NoB (fun b => S b ∧ b < H0.size) [rowE 34 v9 (pickR r (left.take k) : List LRow), rowE 3 vq (left : List Int), blkE g24 (.cells #[vq] 32), blkE g14 (.cells #[I ((chkFault l r).1), I ((chkFault l r).2)] 27), blkE g7 (.cells #[I (0), I (0)] 27), blkE g4 (.cells #[vr] 22), blkE g1 (.cells #[wa, wb, wc, wd, we] 42), rdE wa l.Low, rdE wb l.High, rdE wc l.Start, rdE wd l.Jumps, rdE we l.Bad, rdE vr r] H) (left.length - 0) ?_ ?_
  · exact ⟨0, (Value.slice none 0 0), rfl, Nat.zero_le _, a50_2, a50_3, a50_5, a50_7, a50_9, a50_35, a50_36, (Eq.trans a50_37 (congrArg I (by omega))), (show St H0 NoB (fun b => S b ∧ b < H0.size) [rowE 34 (Value.slice none 0 0) (pickR r (left.take 0) : List LRow), rowE 3 vq (left : List Int), blkE g24 (.cells #[vq] 32), blkE g14 (.cells #[I ((chkFault l r).1), I ((chkFault l r).2)] 27), blkE g7 (.cells #[I (0), I (0)] 27), blkE g4 (.cells #[vr] 22), blkE g1 (.cells #[wa, wb, wc, wd, we] 42), rdE wa l.Low, rdE wb l.High, rdE wc l.Start, rdE wd l.Jumps, rdE we l.Bad, rdE vr r] H47 from hS49)⟩
  intro m51 f51 H51 hI51
  obtain ⟨k, v9, hm51, hk, a51_2, a51_3, a51_5, a51_7, a51_9, a51_35, a51_36, a51_37, hS51⟩ := hI51
  clear a50_2 a50_3 a50_35 a50_36 a50_37 a50_5 a50_7 a50_9
  refine wpF_seq ?_
  refine wpF_cut (fun f H => f 2 = PT g1 0 ∧ f 3 = PT g4 0 ∧ f 5 = PT g7 0 ∧ f 7 = PT g24 0 ∧ f 9 = v9 ∧ f 35 = vq ∧ f 36 = I ((left.length : Int)) ∧ f 37 = I ((k : Int)) ∧ f 38 = B (decide ((k : Int) < (left.length : Int))) ∧ H51 = H) ?_ ?_
  · refine wpF_region ?_
    refine wpL_q (U := NoB) rfl (q_lss rfl a51_37 a51_36) ?_
    exact ⟨a51_2, a51_3, a51_5, a51_7, a51_9, a51_35, a51_36, a51_37, rfl, rfl⟩
  rintro f52 _ ⟨a52_2, a52_3, a52_5, a52_7, a52_9, a52_35, a52_36, a52_37, a52_38, rfl⟩
  clear a51_2 a51_3 a51_35 a51_36 a51_37 a51_5 a51_7 a51_9
  refine wpF_seq ?_
  refine wpF_condP a52_38 (fun hlt4 => ?t146) (fun hlt4 => ?e146)
  case t146 =>
    have hirk := hir _ (nth_mem (l := left) (k := k) (by omega))
    have hbl : (pickR r (left.take k)).length ≤ k := by rw [pickR_len, List.length_take]; omega
    refine wpF_skip ?_
    refine wpF_seq ?_
    refine wpF_block ?_
    refine wpF_seq ?_
    refine wpF_cut (fun f H => f 2 = PT g1 0 ∧ f 3 = PT g4 0 ∧ f 5 = PT g7 0 ∧ f 7 = PT g24 0 ∧ f 9 = v9 ∧ f 11 = I (nth left k) ∧ f 35 = vq ∧ f 36 = I ((left.length : Int)) ∧ f 37 = I ((k : Int)) ∧ H51 = H) ?_ ?_
    · refine wpF_region ?_
      refine wpL_q (U := NoB) rfl (q_indexRd (k := k) rfl Try.underlying32 el_Int_3_MostL2 a52_35 a52_37 (hS51.rowl 1 rfl) (by omega) (by omega)) ?_
      refine wpL_q (U := NoB) rfl (q_loadInt (k := k) rfl rfl el_Int_3_MostL2 (hS51.rowl 1 rfl) (by omega) (fun _ h => h)) ?_
      refine wpL_q (U := NoB) rfl (q_assign (v := I (nth left k)) rfl rfl) ?_
      exact ⟨a52_2, a52_3, a52_5, a52_7, a52_9, rfl, a52_35, a52_36, a52_37, rfl⟩
    rintro f56 _ ⟨a56_2, a56_3, a56_5, a56_7, a56_9, a56_11, a56_35, a56_36, a56_37, rfl⟩
    clear a52_2 a52_3 a52_35 a52_36 a52_37 a52_38 a52_5 a52_7 a52_9
    refine wpF_cut (fun f H => ∃ (v64 : Value), (In64 (nth r ((nth left k).toNat)).Kind) ∧ (In64 (nth r ((nth left k).toNat)).To) ∧ f 2 = PT g1 0 ∧ f 3 = PT g4 0 ∧ f 5 = PT g7 0 ∧ f 7 = PT g24 0 ∧ f 9 = v64 ∧ f 35 = vq ∧ f 36 = I ((left.length : Int)) ∧ f 37 = I ((k : Int)) ∧ St H0 NoB (fun b => S b ∧ b < H0.size) [rowE 34 v64 (pickR r (left.take (k + 1)) : List LRow), rowE 3 vq (left : List Int), blkE g24 (.cells #[vq] 32), blkE g14 (.cells #[I ((chkFault l r).1), I ((chkFault l r).2)] 27), blkE g7 (.cells #[I (0), I (0)] 27), blkE g4 (.cells #[vr] 22), blkE g1 (.cells #[wa, wb, wc, wd, we] 42), rdE wa l.Low, rdE wb l.High, rdE wc l.Start, rdE wd l.Jumps, rdE we l.Bad, rdE vr r] H) ?_ ?_
    · refine wpF_region ?_
      refine wpL_q (U := NoB) rfl (q_move (v := v9) rfl a56_9) ?_
      refine wpL_q (U := NoB) rfl (q_loadBlk rfl a56_3 Try.isAgg22 (hS51.blk 5 rfl) rfl (fun h => h)) ?_
      refine wpL_q (U := NoB) rfl (q_move (v := I (nth left k)) rfl a56_11) ?_
      refine wpL_q (U := NoB) rfl (q_indexRd (k := (nth left k).toNat) rfl Try.underlying22 el_LRow_34_MostL2 rfl rfl (hS51.rdl 12 rfl) (by omega) (by omega)) ?_
      obtain ⟨u57, huu57, hlu57⟩ := (Rd.list.1 (hS51.rdS 12 rfl)).elem ((nth left k).toNat) (by omega)
      obtain ⟨u57n0, rfl, hu570, hu571, hu572⟩ := Rd.lRow.1 huu57
      have hS58 : St H0 NoB (fun b => S b ∧ b < H0.size) [rdE u57n0 ((nth r ((nth left k).toNat)).Of), rowE 34 v9 (pickR r (left.take k) : List LRow), rowE 3 vq (left : List Int), blkE g24 (.cells #[vq] 32), blkE g14 (.cells #[I ((chkFault l r).1), I ((chkFault l r).2)] 27), blkE g7 (.cells #[I (0), I (0)] 27), blkE g4 (.cells #[vr] 22), blkE g1 (.cells #[wa, wb, wc, wd, we] 42), rdE wa l.Low, rdE wb l.High, rdE wc l.Start, rdE wd l.Jumps, rdE we l.Bad, rdE vr r] H51 := hS51.rd hu570
      refine wpL_q (U := NoB) rfl (q_loadE rfl rfl (hlu57 Try.prog 34 _ el_LRow_34_MostL2 (fun _ h => False.elim h))) ?_
      refine wpL_o rfl ?_
      refine e_buildSlice (vs := [Value.agg #[u57n0, I ((nth r ((nth left k).toNat)).Kind), I ((nth r ((nth left k).toNat)).To)]]) (xs := ([(nth r ((nth left k).toNat))] : List LRow)) rfl Try.underlying22 Try.zeroValue34 rfl Try.sizeOf34 (par1 (v0 := Value.agg #[u57n0, I ((nth r ((nth left k).toNat)).Kind), I ((nth r ((nth left k).toNat)).To)]) rfl) rfl hS58 (RdVs.cons (Rd.lRow.2 ⟨_, rfl, (hS58.rdS 0 rfl), (by first | assumption | (constructor <;> (dsimp only; omega)) | (constructor <;> omega)), (by first | assumption | (constructor <;> (dsimp only; omega)) | (constructor <;> omega))⟩) (RdVs.nil)) (by decide) (by decide) (fun v59 H60 hS61 hxx hvv59 => ?_)
      replace hS61 : St H0 NoB (fun b => S b ∧ b < H0.size) [rowE 34 v59 ([(nth r ((nth left k).toNat))] : List LRow), rdE u57n0 ((nth r ((nth left k).toNat)).Of), rowE 34 v9 (pickR r (left.take k) : List LRow), rowE 3 vq (left : List Int), blkE g24 (.cells #[vq] 32), blkE g14 (.cells #[I ((chkFault l r).1), I ((chkFault l r).2)] 27), blkE g7 (.cells #[I (0), I (0)] 27), blkE g4 (.cells #[vr] 22), blkE g1 (.cells #[wa, wb, wc, wd, we] 42), rdE wa l.Low, rdE wb l.High, rdE wc l.Start, rdE wd l.Jumps, rdE we l.Bad, rdE vr r] H60 := hS61
      have hS62 : St H0 NoB (fun b => S b ∧ b < H0.size) [rdE v59 ([(nth r ((nth left k).toNat))] : List LRow), rdE u57n0 ((nth r ((nth left k).toNat)).Of), rowE 34 v9 (pickR r (left.take k) : List LRow), rowE 3 vq (left : List Int), blkE g24 (.cells #[vq] 32), blkE g14 (.cells #[I ((chkFault l r).1), I ((chkFault l r).2)] 27), blkE g7 (.cells #[I (0), I (0)] 27), blkE g4 (.cells #[vr] 22), blkE g1 (.cells #[wa, wb, wc, wd, we] 42), rdE wa l.Low, rdE wb l.High, rdE wc l.Start, rdE wd l.Jumps, rdE we l.Bad, rdE vr r] H60 := St.fin hS61
      have hS63 : St H0 NoB (fun b => S b ∧ b < H0.size) [rowE 34 v9 (pickR r (left.take k) : List LRow), rdE v59 ([(nth r ((nth left k).toNat))] : List LRow), rdE u57n0 ((nth r ((nth left k).toNat)).Of), rowE 3 vq (left : List Int), blkE g24 (.cells #[vq] 32), blkE g14 (.cells #[I ((chkFault l r).1), I ((chkFault l r).2)] 27), blkE g7 (.cells #[I (0), I (0)] 27), blkE g4 (.cells #[vr] 22), blkE g1 (.cells #[wa, wb, wc, wd, we] 42), rdE wa l.Low, rdE wb l.High, rdE wc l.Start, rdE wd l.Jumps, rdE we l.Bad, rdE vr r] H60 := (hS62.front 2 rfl)
      refine wpL_o rfl ?_
      refine e_append rfl Try.underlying22 em_LRow_34_MostL2 rfl rfl hS63 (hS63.rdS 1 rfl) (fun _ h => h) (by have hb : GoT.bytes LRow = 40 := rfl; simp [hb]; omega) (by decide) (fun v64 H65 hS66 hxx => ?_)
      replace hS66 : St H0 NoB (fun b => S b ∧ b < H0.size) [rowE 34 v64 ((pickR r (left.take k)) ++ ([(nth r ((nth left k).toNat))]) : List LRow), rdE v59 ([(nth r ((nth left k).toNat))] : List LRow), rdE u57n0 ((nth r ((nth left k).toNat)).Of), rowE 3 vq (left : List Int), blkE g24 (.cells #[vq] 32), blkE g14 (.cells #[I ((chkFault l r).1), I ((chkFault l r).2)] 27), blkE g7 (.cells #[I (0), I (0)] 27), blkE g4 (.cells #[vr] 22), blkE g1 (.cells #[wa, wb, wc, wd, we] 42), rdE wa l.Low, rdE wb l.High, rdE wc l.Start, rdE wd l.Jumps, rdE we l.Bad, rdE vr r] H65 := hS66
      have hS67 : St H0 NoB (fun b => S b ∧ b < H0.size) [rowE 34 v64 (pickR r (left.take (k + 1)) : List LRow), rdE v59 ([(nth r ((nth left k).toNat))] : List LRow), rdE u57n0 ((nth r ((nth left k).toNat)).Of), rowE 3 vq (left : List Int), blkE g24 (.cells #[vq] 32), blkE g14 (.cells #[I ((chkFault l r).1), I ((chkFault l r).2)] 27), blkE g7 (.cells #[I (0), I (0)] 27), blkE g4 (.cells #[vr] 22), blkE g1 (.cells #[wa, wb, wc, wd, we] 42), rdE wa l.Low, rdE wb l.High, rdE wc l.Start, rdE wd l.Jumps, rdE we l.Bad, rdE vr r] H65 := by rw [show (pickR r (left.take (k + 1))) = ((pickR r (left.take k)) ++ ([(nth r ((nth left k).toNat))])) from (by rw [pickR_take (by omega)])]; exact hS66
      refine wpL_q (U := NoB) rfl (q_assign (v := v64) rfl rfl) ?_
      exact ⟨v64, hu571, hu572, a56_2, a56_3, a56_5, a56_7, rfl, a56_35, a56_36, a56_37, (hS67.drop (sk (sn (sn (sk (sk (sk (sk (sk (sk (sk (sk (sk (sk (sk (sk (List.Sublist.slnil)))))))))))))))))⟩
    rintro f68 H68 ⟨v64, hu571, hu572, a68_2, a68_3, a68_5, a68_7, a68_9, a68_35, a68_36, a68_37, hS68⟩
    clear a56_11 a56_2 a56_3 a56_35 a56_36 a56_37 a56_5 a56_7 a56_9
    refine wpF_cut (fun f H => f 2 = PT g1 0 ∧ f 3 = PT g4 0 ∧ f 5 = PT g7 0 ∧ f 7 = PT g24 0 ∧ f 9 = v64 ∧ f 35 = vq ∧ f 36 = I ((left.length : Int)) ∧ f 37 = I ((k : Int) + 1) ∧ H68 = H) ?_ ?_
    · refine wpF_region ?_
      refine wpL_q (U := NoB) rfl (q_add rfl a68_37 rfl (by constructor <;> omega)) ?_
      refine wpL_q (U := NoB) rfl (q_move (v := I ((k : Int) + 1)) rfl rfl) ?_
      exact ⟨a68_2, a68_3, a68_5, a68_7, a68_9, a68_35, a68_36, rfl, rfl⟩
    rintro f69 _ ⟨a69_2, a69_3, a69_5, a69_7, a69_9, a69_35, a69_36, a69_37, rfl⟩
    clear a68_2 a68_3 a68_35 a68_36 a68_37 a68_5 a68_7 a68_9
    refine ⟨_, ?_, k + 1, v64, rfl, (by omega), a69_2, a69_3, a69_5, a69_7, a69_9, a69_35, a69_36, (Eq.trans a69_37 (congrArg I (by omega))), hS68⟩
    omega
  have hS54 : St H0 NoB (fun b => S b ∧ b < H0.size) [rdE v9 (pickR r (left.take k)), rowE 3 vq (left : List Int), blkE g24 (.cells #[vq] 32), blkE g14 (.cells #[I ((chkFault l r).1), I ((chkFault l r).2)] 27), blkE g7 (.cells #[I (0), I (0)] 27), blkE g4 (.cells #[vr] 22), blkE g1 (.cells #[wa, wb, wc, wd, we] 42), rdE wa l.Low, rdE wb l.High, rdE wc l.Start, rdE wd l.Jumps, rdE we l.Bad, rdE vr r] H51 := St.fin hS51
  have hS55 : St H0 NoB (fun b => S b ∧ b < H0.size) [rdE v9 (pickR r left), rowE 3 vq (left : List Int), blkE g24 (.cells #[vq] 32), blkE g14 (.cells #[I ((chkFault l r).1), I ((chkFault l r).2)] 27), blkE g7 (.cells #[I (0), I (0)] 27), blkE g4 (.cells #[vr] 22), blkE g1 (.cells #[wa, wb, wc, wd, we] 42), rdE wa l.Low, rdE wb l.High, rdE wc l.Start, rdE wd l.Jumps, rdE we l.Bad, rdE vr r] H51 := by have h__ := hS54; rw [List.take_of_length_le (by omega)] at h__; exact h__
  refine wpF_exit ?_
  refine atX_here ?_
  refine wpF_seq ?_
  refine wpF_cut (fun f H => ∃ (r70 : Nat), ∃ (g73 : Nat), f 2 = PT g1 0 ∧ f 3 = PT g4 0 ∧ f 5 = PT g7 0 ∧ f 7 = PT g24 0 ∧ f 9 = v9 ∧ f 12 = PT g73 0 ∧ St H0 NoB (fun b => S b ∧ b < H0.size) [blkE g73 (.cells #[(Value.map (some r70))] 85), mapE r70 ([] : List (Int × Bool)), rdE v9 (pickR r left), rowE 3 vq (left : List Int), blkE g24 (.cells #[vq] 32), blkE g14 (.cells #[I ((chkFault l r).1), I ((chkFault l r).2)] 27), blkE g7 (.cells #[I (0), I (0)] 27), blkE g4 (.cells #[vr] 22), blkE g1 (.cells #[wa, wb, wc, wd, we] 42), rdE wa l.Low, rdE wb l.High, rdE wc l.Start, rdE wd l.Jumps, rdE we l.Bad, rdE vr r] H) ?_ ?_
  · refine wpF_region ?_
    refine wpL_o rfl ?_
    refine e_makeMap (κ := Int) (β := Bool) rfl hS55 (fun r70 H71 hS72 hxx => ?_)
    replace hS72 : St H0 NoB (fun b => S b ∧ b < H0.size) [mapE r70 ([] : List (Int × Bool)), rdE v9 (pickR r left), rowE 3 vq (left : List Int), blkE g24 (.cells #[vq] 32), blkE g14 (.cells #[I ((chkFault l r).1), I ((chkFault l r).2)] 27), blkE g7 (.cells #[I (0), I (0)] 27), blkE g4 (.cells #[vr] 22), blkE g1 (.cells #[wa, wb, wc, wd, we] 42), rdE wa l.Low, rdE wb l.High, rdE wc l.Start, rdE wd l.Jumps, rdE we l.Bad, rdE vr r] H71 := hS72
    refine wpL_o rfl ?_
    refine e_alloc rfl Try.zeroValue85 hS72 (fun g73 H74 hS75 hxx => ?_)
    replace hS75 : St H0 NoB (fun b => S b ∧ b < H0.size) [blkE g73 (.cells #[(.map none)] 85), mapE r70 ([] : List (Int × Bool)), rdE v9 (pickR r left), rowE 3 vq (left : List Int), blkE g24 (.cells #[vq] 32), blkE g14 (.cells #[I ((chkFault l r).1), I ((chkFault l r).2)] 27), blkE g7 (.cells #[I (0), I (0)] 27), blkE g4 (.cells #[vr] 22), blkE g1 (.cells #[wa, wb, wc, wd, we] 42), rdE wa l.Low, rdE wb l.High, rdE wc l.Start, rdE wd l.Jumps, rdE we l.Bad, rdE vr r] H74 := hS75
    refine wpL_o rfl ?_
    refine e_storeBlk (v := (Value.map (some r70))) rfl rfl rfl (by simp [Value.oneCell']) Try.sizeOf85 (by show _ < 1; decide) hS75 (fun H76 hS77 hxx => ?_)
    replace hS77 : St H0 NoB (fun b => S b ∧ b < H0.size) [blkE g73 (.cells #[(Value.map (some r70))] 85), mapE r70 ([] : List (Int × Bool)), rdE v9 (pickR r left), rowE 3 vq (left : List Int), blkE g24 (.cells #[vq] 32), blkE g14 (.cells #[I ((chkFault l r).1), I ((chkFault l r).2)] 27), blkE g7 (.cells #[I (0), I (0)] 27), blkE g4 (.cells #[vr] 22), blkE g1 (.cells #[wa, wb, wc, wd, we] 42), rdE wa l.Low, rdE wb l.High, rdE wc l.Start, rdE wd l.Jumps, rdE we l.Bad, rdE vr r] H76 := hS77
    exact ⟨r70, g73, a52_2, a52_3, a52_5, a52_7, a52_9, rfl, hS77⟩
  rintro f78 H78 ⟨r70, g73, a78_2, a78_3, a78_5, a78_7, a78_9, a78_12, hS78⟩
  clear a52_2 a52_3 a52_35 a52_36 a52_37 a52_38 a52_5 a52_7 a52_9
  refine wpF_seq ?_
  refine wpF_cut (fun f H => f 2 = PT g1 0 ∧ f 3 = PT g4 0 ∧ f 5 = PT g7 0 ∧ f 7 = PT g24 0 ∧ f 9 = v9 ∧ f 12 = PT g73 0 ∧ f 13 = Value.func (.func 67) #[] #[PT g24 0, PT g4 0, PT g73 0] ∧ H78 = H) ?_ ?_
  · refine wpF_region ?_
    refine wpL_q (U := NoB) rfl (q_makeFunc (fi' := #[]) rfl (by simp) (arr3 (v0 := PT g24 0) (v1 := PT g4 0) (v2 := PT g73 0) a78_7 a78_3 a78_12)) ?_
    refine wpL_q (U := NoB) rfl (q_assign (v := Value.func (.func 67) #[] #[PT g24 0, PT g4 0, PT g73 0]) rfl rfl) ?_
    exact ⟨a78_2, a78_3, a78_5, a78_7, a78_9, a78_12, rfl, rfl⟩
  rintro f79 _ ⟨a79_2, a79_3, a79_5, a79_7, a79_9, a79_12, a79_13, rfl⟩
  clear a78_12 a78_2 a78_3 a78_5 a78_7 a78_9
  refine wpF_seq ?_
  refine wpF_seq ?_
  refine wpF_cut (fun f H => ∃ (r80 : Value), f 2 = PT g1 0 ∧ f 3 = PT g4 0 ∧ f 5 = PT g7 0 ∧ f 7 = PT g24 0 ∧ f 9 = v9 ∧ f 12 = PT g73 0 ∧ f 13 = Value.func (.func 67) #[] #[PT g24 0, PT g4 0, PT g73 0] ∧ f 52 = r80 ∧ f 53 = I (((statesL l).length : Int)) ∧ f 54 = I (0) ∧ St H0 NoB (fun b => S b ∧ b < H0.size) [rdE r80 (statesL l), blkE g73 (.cells #[(Value.map (some r70))] 85), mapE r70 ([] : List (Int × Bool)), rdE v9 (pickR r left), rowE 3 vq (left : List Int), blkE g24 (.cells #[vq] 32), blkE g14 (.cells #[I ((chkFault l r).1), I ((chkFault l r).2)] 27), blkE g7 (.cells #[I (0), I (0)] 27), blkE g4 (.cells #[vr] 22), blkE g1 (.cells #[wa, wb, wc, wd, we] 42), rdE wa l.Low, rdE wb l.High, rdE wc l.Start, rdE wd l.Jumps, rdE we l.Bad, rdE vr r] H) ?_ ?_
  · refine wpF_region ?_
    refine wpL_q (U := NoB) rfl (q_loadBlkA rfl a79_2 Try.isAgg42 Try.sizeOf42 rfl (hS78.blk 8 rfl) (fun h => h)) ?_
    refine wpL_o rfl ?_
    refine e_call rfl Try.call51 (arr1 (v0 := Value.agg #[wa, wb, wc, wd, we]) rfl) (All_L wa wb wc wd we l (hS78.rdS 9 rfl) (hS78.rdS 10 rfl) (hS78.rdS 11 rfl) (hS78.rdS 12 rfl) (hS78.rdS 13 rfl) hl) ?_
    rintro r80 H81 ⟨hxx, hrr80⟩
    have hS82 : St H0 NoB (fun b => S b ∧ b < H0.size) [rdE r80 (statesL l), blkE g73 (.cells #[(Value.map (some r70))] 85), mapE r70 ([] : List (Int × Bool)), rdE v9 (pickR r left), rowE 3 vq (left : List Int), blkE g24 (.cells #[vq] 32), blkE g14 (.cells #[I ((chkFault l r).1), I ((chkFault l r).2)] 27), blkE g7 (.cells #[I (0), I (0)] 27), blkE g4 (.cells #[vr] 22), blkE g1 (.cells #[wa, wb, wc, wd, we] 42), rdE wa l.Low, rdE wb l.High, rdE wc l.Start, rdE wd l.Jumps, rdE we l.Bad, rdE vr r] H81 := hS78.res hxx hrr80
    refine wpL_q (U := NoB) rfl (q_lenRd rfl Try.underlying23 rfl (hS82.rdl 0 rfl)) ?_
    refine wpL_q (U := NoB) rfl (q_move (v := I (0)) rfl rfl) ?_
    exact ⟨r80, a79_2, a79_3, a79_5, a79_7, a79_9, a79_12, a79_13, rfl, rfl, rfl, hS82⟩
  rintro f84 H84 ⟨r80, a84_2, a84_3, a84_5, a84_7, a84_9, a84_12, a84_13, a84_52, a84_53, a84_54, hS84⟩
  clear a79_12 a79_13 a79_2 a79_3 a79_5 a79_7 a79_9
  refine wpF_block ?_
  refine wpF_loop (fun mz f H => ∃ (j : Nat), ∃ (mj : List (Int × Bool)), mz = (statesL l).length - j ∧ (j ≤ (statesL l).length) ∧ (Marks mj left (fun i => ((statesL l).take j).any fun s => strayAt l r (pickR r left) s i)) ∧ f 2 = PT g1 0 ∧ f 3 = PT g4 0 ∧ f 5 = PT g7 0 ∧ f 7 = PT g24 0 ∧ f 9 = v9 ∧ f 12 = PT g73 0 ∧ f 13 = Value.func (.func 67) #[] #[PT g24 0, PT g4 0, PT g73 0] ∧ f 52 = r80 ∧ f 53 = I (((statesL l).length : Int)) ∧ f 54 = I ((j : Int)) ∧ St H0 NoB (fun b => S b ∧ b < H0.size) [mapE r70 (mj : List (Int × Bool)), blkE g24 (.cells #[vq] 32), blkE g4 (.cells #[vr] 22), blkE g73 (.cells #[(Value.map (some r70))] 85), rowE 3 vq (left : List Int), rdE r80 (statesL l), rdE v9 (pickR r left), blkE g14 (.cells #[I ((chkFault l r).1), I ((chkFault l r).2)] 27), blkE g7 (.cells #[I (0), I (0)] 27), blkE g1 (.cells #[wa, wb, wc, wd, we] 42), rdE wa l.Low, rdE wb l.High, rdE wc l.Start, rdE wd l.Jumps, rdE we l.Bad, rdE vr r] H) ((statesL l).length - 0) ?_ ?_
  · exact ⟨0, [], rfl, Nat.zero_le _, (Marks.nil.congr fun i _ => by simp), a84_2, a84_3, a84_5, a84_7, a84_9, a84_12, a84_13, a84_52, a84_53, (Eq.trans a84_54 (congrArg I (by omega))), (show St H0 NoB (fun b => S b ∧ b < H0.size) [mapE r70 (([]) : List (Int × Bool)), blkE g24 (.cells #[vq] 32), blkE g4 (.cells #[vr] 22), blkE g73 (.cells #[(Value.map (some r70))] 85), rowE 3 vq (left : List Int), rdE r80 (statesL l), rdE v9 (pickR r left), blkE g14 (.cells #[I ((chkFault l r).1), I ((chkFault l r).2)] 27), blkE g7 (.cells #[I (0), I (0)] 27), blkE g1 (.cells #[wa, wb, wc, wd, we] 42), rdE wa l.Low, rdE wb l.High, rdE wc l.Start, rdE wd l.Jumps, rdE we l.Bad, rdE vr r] H84 from (St.drop (show St H0 NoB (fun b => S b ∧ b < H0.size) [mapE r70 ([] : List (Int × Bool)), blkE g24 (.cells #[vq] 32), blkE g4 (.cells #[vr] 22), blkE g73 (.cells #[(Value.map (some r70))] 85), rowE 3 vq (left : List Int), rdE r80 (statesL l), rdE v9 (pickR r left), blkE g14 (.cells #[I ((chkFault l r).1), I ((chkFault l r).2)] 27), blkE g7 (.cells #[I (0), I (0)] 27), blkE g1 (.cells #[wa, wb, wc, wd, we] 42), rdE wa l.Low, rdE wb l.High, rdE wc l.Start, rdE wd l.Jumps, rdE we l.Bad, rdE vr r] H84 from (((((hS84.front 4 rfl).front 2 rfl).front 8 rfl).front 6 rfl).front 5 rfl)) (sk (sk (sk (sk (sk (sk (sk (sk (sk (sk (sk (sk (sk (sk (sk (sk (List.Sublist.slnil)))))))))))))))))))⟩
  intro m85 f85 H85 hI85
  obtain ⟨j, mj, hm85, hj, hMj, a85_2, a85_3, a85_5, a85_7, a85_9, a85_12, a85_13, a85_52, a85_53, a85_54, hS85⟩ := hI85
  clear a84_12 a84_13 a84_2 a84_3 a84_5 a84_52 a84_53 a84_54 a84_7 a84_9
  refine wpF_seq ?_
  refine wpF_cut (fun f H => f 2 = PT g1 0 ∧ f 3 = PT g4 0 ∧ f 5 = PT g7 0 ∧ f 7 = PT g24 0 ∧ f 9 = v9 ∧ f 12 = PT g73 0 ∧ f 13 = Value.func (.func 67) #[] #[PT g24 0, PT g4 0, PT g73 0] ∧ f 52 = r80 ∧ f 53 = I (((statesL l).length : Int)) ∧ f 54 = I ((j : Int)) ∧ f 55 = B (decide ((j : Int) < ((statesL l).length : Int))) ∧ H85 = H) ?_ ?_
  · refine wpF_region ?_
    refine wpL_q (U := NoB) rfl (q_lss rfl a85_54 a85_53) ?_
    exact ⟨a85_2, a85_3, a85_5, a85_7, a85_9, a85_12, a85_13, a85_52, a85_53, a85_54, rfl, rfl⟩
  rintro f86 _ ⟨a86_2, a86_3, a86_5, a86_7, a86_9, a86_12, a86_13, a86_52, a86_53, a86_54, a86_55, rfl⟩
  clear a85_12 a85_13 a85_2 a85_3 a85_5 a85_52 a85_53 a85_54 a85_7 a85_9
  refine wpF_seq ?_
  refine wpF_condP a86_55 (fun hlt6 => ?t145) (fun hlt6 => ?e145)
  case e145 =>
    refine wpF_exit ?_
    refine atX_here ?_
    refine wpF_seq ?_
    refine wpF_seq ?_
    refine wpF_cut (fun f H => f 2 = PT g1 0 ∧ f 3 = PT g4 0 ∧ f 5 = PT g7 0 ∧ f 7 = PT g24 0 ∧ f 12 = PT g73 0 ∧ f 83 = B (decide ((mj.length : Int) = 0)) ∧ H85 = H) ?_ ?_
    · refine wpF_region ?_
      refine wpL_q (U := NoB) rfl (q_loadBlk rfl a86_12 Try.isAgg85 (hS85.blk 3 rfl) rfl (fun h => h)) ?_
      refine wpL_q (U := NoB) rfl (q_lenMap rfl Try.underlying85 rfl (hS85.get 0 rfl) (fun h => h)) ?_
      refine wpL_q (U := NoB) rfl (q_eql rfl rfl rfl) ?_
      exact ⟨a86_2, a86_3, a86_5, a86_7, a86_12, rfl, rfl⟩
    rintro f129 _ ⟨a129_2, a129_3, a129_5, a129_7, a129_12, a129_83, rfl⟩
    clear a86_12 a86_13 a86_2 a86_3 a86_5 a86_52 a86_53 a86_54 a86_55 a86_7 a86_9
    refine wpF_condP a129_83 (fun h83 => ?t144) (fun h83 => ?e144)
    case t144 =>
      refine wpF_seq ?_
      refine wpF_cut (fun f H => f 4 = vq ∧ f 5 = PT g7 0 ∧ St H0 NoB (fun b => S b ∧ b < H0.size) [blkE g7 (.cells #[I (0), I (0)] 27), mapE r70 (mj : List (Int × Bool)), blkE g24 (.cells #[vq] 32), blkE g4 (.cells #[vr] 22), blkE g73 (.cells #[(Value.map (some r70))] 85), rowE 3 vq (left : List Int), blkE g14 (.cells #[I ((chkFault l r).1), I ((chkFault l r).2)] 27), blkE g1 (.cells #[wa, wb, wc, wd, we] 42), rdE wa l.Low, rdE wb l.High, rdE wc l.Start, rdE wd l.Jumps, rdE we l.Bad, rdE vr r] H) ?_ ?_
      · refine wpF_region ?_
        refine wpL_q (U := NoB) rfl (q_loadBlk rfl a129_7 Try.isAgg32 (hS85.blk 1 rfl) rfl (fun h => h)) ?_
        refine wpL_q (U := NoB) rfl (q_build (v := Value.agg #[I (0), I (0)]) rfl par0 (fun w => by kernel_rfl)) ?_
        refine wpL_q (U := NoB) rfl (q_assign (v := vq) rfl rfl) ?_
        refine wpL_o rfl ?_
        refine e_storeBlkA (cs' := #[I (0), I (0)]) rfl a129_5 rfl Try.sizeOf27 rfl rfl (List.forall_mem_cons.2 ⟨rfl, List.forall_mem_cons.2 ⟨rfl, List.forall_mem_nil _⟩⟩) (hS85.front 8 rfl) (fun H131 hS132 hxx => ?_)
        replace hS132 : St H0 NoB (fun b => S b ∧ b < H0.size) [blkE g7 (.cells #[I (0), I (0)] 27), mapE r70 (mj : List (Int × Bool)), blkE g24 (.cells #[vq] 32), blkE g4 (.cells #[vr] 22), blkE g73 (.cells #[(Value.map (some r70))] 85), rowE 3 vq (left : List Int), rdE r80 (statesL l), rdE v9 (pickR r left), blkE g14 (.cells #[I ((chkFault l r).1), I ((chkFault l r).2)] 27), blkE g1 (.cells #[wa, wb, wc, wd, we] 42), rdE wa l.Low, rdE wb l.High, rdE wc l.Start, rdE wd l.Jumps, rdE we l.Bad, rdE vr r] H131 := hS132
        exact ⟨rfl, a129_5, (hS132.drop (sk (sk (sk (sk (sk (sk (sn (sn (sk (sk (sk (sk (sk (sk (sk (sk (List.Sublist.slnil))))))))))))))))))⟩
      rintro f133 H133 ⟨a133_4, a133_5, hS133⟩
      clear a129_12 a129_2 a129_3 a129_5 a129_7 a129_83
      refine wpF_ret ?_
      refine ⟨_, resT a133_4 (resC a133_5 (loadV_blkA Try.isAgg27 Try.sizeOf27 rfl (hS133.blk 0 rfl)) (resN)), hS133.frame, ?_⟩
      show ∃ w0_, (Value.tuple #[vq, Value.agg #[I (0), I (0)]]) = Value.tuple #[w0_, Value.agg #[I (chkFault l r).1, I (chkFault l r).2]] ∧ Rd (fun b => S b ∧ b < H0.size) H133 w0_ (holdMost l r)
      have hS134 : St H0 NoB (fun b => S b ∧ b < H0.size) [rdE vq left, blkE g7 (.cells #[I (0), I (0)] 27), mapE r70 (mj : List (Int × Bool)), blkE g24 (.cells #[vq] 32), blkE g4 (.cells #[vr] 22), blkE g73 (.cells #[(Value.map (some r70))] 85), blkE g14 (.cells #[I ((chkFault l r).1), I ((chkFault l r).2)] 27), blkE g1 (.cells #[wa, wb, wc, wd, we] 42), rdE wa l.Low, rdE wb l.High, rdE wc l.Start, rdE wd l.Jumps, rdE we l.Bad, rdE vr r] H133 := St.fin (hS133.front 5 rfl)
      have q1 : holdMost l r = left := by rw [holdMost, if_neg h23]; exact most_done hmf (drop_none (stray_all (by omega) hMj) h83)
      exact ⟨vq, by rw [hcz], by rw [q1]; exact (hS134.result (hS134.rdS 0 rfl))⟩
    have hall := stray_all (by omega) hMj
    have hdl := drop_less hall h83
    refine wpF_skip ?_
    refine wpF_cut (fun f H => ∃ (r136 : Value), f 2 = PT g1 0 ∧ f 3 = PT g4 0 ∧ f 5 = PT g7 0 ∧ f 7 = PT g24 0 ∧ St H0 NoB (fun b => S b ∧ b < H0.size) [blkE g24 (.cells #[r136] 32), rowE 3 r136 (left.filter fun x => !(mget mj x).getD false : List Int), mapE r70 (mj : List (Int × Bool)), blkE g4 (.cells #[vr] 22), blkE g73 (.cells #[(Value.map (some r70))] 85), blkE g14 (.cells #[I ((chkFault l r).1), I ((chkFault l r).2)] 27), blkE g7 (.cells #[I (0), I (0)] 27), blkE g1 (.cells #[wa, wb, wc, wd, we] 42), rdE wa l.Low, rdE wb l.High, rdE wc l.Start, rdE wd l.Jumps, rdE we l.Bad, rdE vr r] H) ?_ ?_
    · refine wpF_region ?_
      refine wpL_q (U := NoB) rfl (q_loadBlk rfl a129_7 Try.isAgg32 (hS85.blk 1 rfl) rfl (fun h => h)) ?_
      refine wpL_q (U := NoB) rfl (q_makeFunc (fi' := #[]) rfl (by simp) (arr1 (v0 := PT g73 0) a129_12)) ?_
      have hS135 : St H0 NoB (fun b => S b ∧ b < H0.size) [rowE 3 vq (left : List Int), mapE r70 (mj : List (Int × Bool)), blkE g24 (.cells #[vq] 32), blkE g4 (.cells #[vr] 22), blkE g73 (.cells #[(Value.map (some r70))] 85), rdE r80 (statesL l), rdE v9 (pickR r left), blkE g14 (.cells #[I ((chkFault l r).1), I ((chkFault l r).2)] 27), blkE g7 (.cells #[I (0), I (0)] 27), blkE g1 (.cells #[wa, wb, wc, wd, we] 42), rdE wa l.Low, rdE wb l.High, rdE wc l.Start, rdE wd l.Jumps, rdE we l.Bad, rdE vr r] H85 := (St.drop (show St H0 NoB (fun b => S b ∧ b < H0.size) [rowE 3 vq (left : List Int), mapE r70 (mj : List (Int × Bool)), blkE g24 (.cells #[vq] 32), blkE g4 (.cells #[vr] 22), blkE g73 (.cells #[(Value.map (some r70))] 85), rdE r80 (statesL l), rdE v9 (pickR r left), blkE g14 (.cells #[I ((chkFault l r).1), I ((chkFault l r).2)] 27), blkE g7 (.cells #[I (0), I (0)] 27), blkE g1 (.cells #[wa, wb, wc, wd, we] 42), rdE wa l.Low, rdE wb l.High, rdE wc l.Start, rdE wd l.Jumps, rdE we l.Bad, rdE vr r] H85 from (hS85.front 4 rfl)) (sk (sk (sk (sk (sk (sk (sk (sk (sk (sk (sk (sk (sk (sk (sk (sk (List.Sublist.slnil))))))))))))))))))
      refine wpL_o rfl ?_
      refine e_call rfl Try.call68 (arr2 (v0 := vq) (v1 := Value.func (.func 69) #[] #[PT g73 0]) rfl rfl) (DeleteFunc _ vq (Value.func (.func 69) #[] #[PT g73 0]) left (fun x => (mget mj x).getD false) (St.okA (A := [rowE 3 vq (left : List Int)]) (L := [mapE r70 (mj : List (Int × Bool)), blkE g24 (.cells #[vq] 32), blkE g4 (.cells #[vr] 22), blkE g73 (.cells #[(Value.map (some r70))] 85), rdE r80 (statesL l), rdE v9 (pickR r left), blkE g14 (.cells #[I ((chkFault l r).1), I ((chkFault l r).2)] 27), blkE g7 (.cells #[I (0), I (0)] 27), blkE g1 (.cells #[wa, wb, wc, wd, we] 42), rdE wa l.Low, rdE wb l.High, rdE wc l.Start, rdE wd l.Jumps, rdE we l.Bad, rdE vr r]) hS135) (fun b hb => SL.lt hS135 hb) (St.inA (A := [rowE 3 vq (left : List Int)]) (L := [mapE r70 (mj : List (Int × Bool)), blkE g24 (.cells #[vq] 32), blkE g4 (.cells #[vr] 22), blkE g73 (.cells #[(Value.map (some r70))] 85), rdE r80 (statesL l), rdE v9 (pickR r left), blkE g14 (.cells #[I ((chkFault l r).1), I ((chkFault l r).2)] 27), blkE g7 (.cells #[I (0), I (0)] 27), blkE g1 (.cells #[wa, wb, wc, wd, we] 42), rdE wa l.Low, rdE wb l.High, rdE wc l.Start, rdE wd l.Jumps, rdE we l.Bad, rdE vr r]) hS135) (fun x hx H hE => ⟨_, _, rfl, Try.call69, Most_2 x g73 r70 mj (St.keepE (A := [rowE 3 vq (left : List Int)]) (L := [mapE r70 (mj : List (Int × Bool)), blkE g24 (.cells #[vq] 32), blkE g4 (.cells #[vr] 22), blkE g73 (.cells #[(Value.map (some r70))] 85), rdE r80 (statesL l), rdE v9 (pickR r left), blkE g14 (.cells #[I ((chkFault l r).1), I ((chkFault l r).2)] 27), blkE g7 (.cells #[I (0), I (0)] 27), blkE g1 (.cells #[wa, wb, wc, wd, we] 42), rdE wa l.Low, rdE wb l.High, rdE wc l.Start, rdE wd l.Jumps, rdE we l.Bad, rdE vr r]) hS135 hE (List.mem_of_getElem? (i := 3) rfl)) (MapOk.no (St.keepE (A := [rowE 3 vq (left : List Int)]) (L := [mapE r70 (mj : List (Int × Bool)), blkE g24 (.cells #[vq] 32), blkE g4 (.cells #[vr] 22), blkE g73 (.cells #[(Value.map (some r70))] 85), rdE r80 (statesL l), rdE v9 (pickR r left), blkE g14 (.cells #[I ((chkFault l r).1), I ((chkFault l r).2)] 27), blkE g7 (.cells #[I (0), I (0)] 27), blkE g1 (.cells #[wa, wb, wc, wd, we] 42), rdE wa l.Low, rdE wb l.High, rdE wc l.Start, rdE wd l.Jumps, rdE we l.Bad, rdE vr r]) hS135 hE (List.mem_of_getElem? (i := 0) rfl)))⟩)) ?_
      rintro r136 H137 ⟨hxx, hok, hob⟩
      have hS138 : St H0 NoB (fun b => S b ∧ b < H0.size) [rowE 3 r136 (left.filter fun x => !(mget mj x).getD false : List Int), mapE r70 (mj : List (Int × Bool)), blkE g24 (.cells #[vq] 32), blkE g4 (.cells #[vr] 22), blkE g73 (.cells #[(Value.map (some r70))] 85), rdE r80 (statesL l), rdE v9 (pickR r left), blkE g14 (.cells #[I ((chkFault l r).1), I ((chkFault l r).2)] 27), blkE g7 (.cells #[I (0), I (0)] 27), blkE g1 (.cells #[wa, wb, wc, wd, we] 42), rdE wa l.Low, rdE wb l.High, rdE wc l.Start, rdE wd l.Jumps, rdE we l.Bad, rdE vr r] H137 := St.back (A := [rowE 3 vq (left : List Int)]) (A' := [rowE 3 r136 (left.filter fun x => !(mget mj x).getD false : List Int)]) (L := [mapE r70 (mj : List (Int × Bool)), blkE g24 (.cells #[vq] 32), blkE g4 (.cells #[vr] 22), blkE g73 (.cells #[(Value.map (some r70))] 85), rdE r80 (statesL l), rdE v9 (pickR r left), blkE g14 (.cells #[I ((chkFault l r).1), I ((chkFault l r).2)] 27), blkE g7 (.cells #[I (0), I (0)] 27), blkE g1 (.cells #[wa, wb, wc, wd, we] 42), rdE wa l.Low, rdE wb l.High, rdE wc l.Start, rdE wd l.Jumps, rdE we l.Bad, rdE vr r]) hS135 hxx hok (fun b hb => by obtain ⟨e, he, hb⟩ := hb; rw [List.mem_singleton.1 he] at hb; exact .inl ⟨_, List.mem_singleton.2 rfl, hob b hb⟩) pw1
      refine wpL_o rfl ?_
      refine e_storeBlk (v := r136) rfl a129_7 rfl (oneCell_rdL (hS138.rowl 0 rfl)) Try.sizeOf32 (by show _ < 1; decide) (hS138.front 2 rfl) (fun H140 hS141 hxx => ?_)
      replace hS141 : St H0 NoB (fun b => S b ∧ b < H0.size) [blkE g24 (.cells #[r136] 32), rowE 3 r136 (left.filter fun x => !(mget mj x).getD false : List Int), mapE r70 (mj : List (Int × Bool)), blkE g4 (.cells #[vr] 22), blkE g73 (.cells #[(Value.map (some r70))] 85), rdE r80 (statesL l), rdE v9 (pickR r left), blkE g14 (.cells #[I ((chkFault l r).1), I ((chkFault l r).2)] 27), blkE g7 (.cells #[I (0), I (0)] 27), blkE g1 (.cells #[wa, wb, wc, wd, we] 42), rdE wa l.Low, rdE wb l.High, rdE wc l.Start, rdE wd l.Jumps, rdE we l.Bad, rdE vr r] H140 := hS141
      exact ⟨r136, a129_2, a129_3, a129_5, a129_7, (hS141.drop (sk (sk (sk (sk (sk (sn (sn (sk (sk (sk (sk (sk (sk (sk (sk (sk (List.Sublist.slnil))))))))))))))))))⟩
    rintro f142 H142 ⟨r136, a142_2, a142_3, a142_5, a142_7, hS142⟩
    clear a129_12 a129_2 a129_3 a129_5 a129_7 a129_83
    have hS143 : St H0 NoB (fun b => S b ∧ b < H0.size) [blkE g24 (.cells #[r136] 32), rowE 3 r136 (dropBad l r left : List Int), mapE r70 (mj : List (Int × Bool)), blkE g4 (.cells #[vr] 22), blkE g73 (.cells #[(Value.map (some r70))] 85), blkE g14 (.cells #[I ((chkFault l r).1), I ((chkFault l r).2)] 27), blkE g7 (.cells #[I (0), I (0)] 27), blkE g1 (.cells #[wa, wb, wc, wd, we] 42), rdE wa l.Low, rdE wb l.High, rdE wc l.Start, rdE wd l.Jumps, rdE we l.Bad, rdE vr r] H142 := by have h__ := hS142; rw [drop_is hall] at h__; exact h__
    refine ⟨_, ?_, dropBad l r left, r136, rfl, hir.drop, (Nat.le_trans dropBad_len hll), (most_step hmf hdl), a142_2, a142_3, a142_5, a142_7, (show St H0 NoB (fun b => S b ∧ b < H0.size) [rowE 3 r136 ((dropBad l r left) : List Int), blkE g24 (.cells #[r136] 32), blkE g14 (.cells #[I ((chkFault l r).1), I ((chkFault l r).2)] 27), blkE g7 (.cells #[I (0), I (0)] 27), blkE g4 (.cells #[vr] 22), blkE g1 (.cells #[wa, wb, wc, wd, we] 42), rdE wa l.Low, rdE wb l.High, rdE wc l.Start, rdE wd l.Jumps, rdE we l.Bad, rdE vr r] H142 from (St.drop (show St H0 NoB (fun b => S b ∧ b < H0.size) [rowE 3 r136 (dropBad l r left : List Int), blkE g24 (.cells #[r136] 32), blkE g14 (.cells #[I ((chkFault l r).1), I ((chkFault l r).2)] 27), blkE g7 (.cells #[I (0), I (0)] 27), mapE r70 (mj : List (Int × Bool)), blkE g4 (.cells #[vr] 22), blkE g73 (.cells #[(Value.map (some r70))] 85), blkE g1 (.cells #[wa, wb, wc, wd, we] 42), rdE wa l.Low, rdE wb l.High, rdE wc l.Start, rdE wd l.Jumps, rdE we l.Bad, rdE vr r] H142 from ((((hS143.front 6 rfl).front 6 rfl).front 2 rfl).front 3 rfl)) (sk (sk (sk (sk (sn (sk (sn (sk (sk (sk (sk (sk (sk (sk (List.Sublist.slnil)))))))))))))))))⟩
    omega
  have hst := state_st hl (i := j) (by omega)
  have hnxl : (nextL l (nth (statesL l) j)).length ≤ 6 := Nat.le_trans (nextTo_len _) hl.jumps
  refine wpF_skip ?_
  refine wpF_seq ?_
  refine wpF_block ?_
  refine wpF_seq ?_
  obtain ⟨u88, huu88, hlu88⟩ := (Rd.list.1 (hS85.rdS 5 rfl)).elem j (by omega)
  have hS89 : St H0 NoB (fun b => S b ∧ b < H0.size) [rdE u88 (nth (statesL l) j), mapE r70 (mj : List (Int × Bool)), blkE g24 (.cells #[vq] 32), blkE g4 (.cells #[vr] 22), blkE g73 (.cells #[(Value.map (some r70))] 85), rowE 3 vq (left : List Int), rdE r80 (statesL l), rdE v9 (pickR r left), blkE g14 (.cells #[I ((chkFault l r).1), I ((chkFault l r).2)] 27), blkE g7 (.cells #[I (0), I (0)] 27), blkE g1 (.cells #[wa, wb, wc, wd, we] 42), rdE wa l.Low, rdE wb l.High, rdE wc l.Start, rdE wd l.Jumps, rdE we l.Bad, rdE vr r] H85 := hS85.rd huu88
  refine wpF_cut (fun f H => f 2 = PT g1 0 ∧ f 3 = PT g4 0 ∧ f 5 = PT g7 0 ∧ f 7 = PT g24 0 ∧ f 9 = v9 ∧ f 12 = PT g73 0 ∧ f 13 = Value.func (.func 67) #[] #[PT g24 0, PT g4 0, PT g73 0] ∧ f 15 = u88 ∧ f 52 = r80 ∧ f 53 = I (((statesL l).length : Int)) ∧ f 54 = I ((j : Int)) ∧ St H0 NoB (fun b => S b ∧ b < H0.size) [rdE u88 (nth (statesL l) j), mapE r70 (mj : List (Int × Bool)), blkE g24 (.cells #[vq] 32), blkE g4 (.cells #[vr] 22), blkE g73 (.cells #[(Value.map (some r70))] 85), rowE 3 vq (left : List Int), rdE r80 (statesL l), rdE v9 (pickR r left), blkE g14 (.cells #[I ((chkFault l r).1), I ((chkFault l r).2)] 27), blkE g7 (.cells #[I (0), I (0)] 27), blkE g1 (.cells #[wa, wb, wc, wd, we] 42), rdE wa l.Low, rdE wb l.High, rdE wc l.Start, rdE wd l.Jumps, rdE we l.Bad, rdE vr r] H) ?_ ?_
  · refine wpF_region ?_
    refine wpL_q (U := NoB) rfl (q_indexRd (k := j) rfl Try.underlying23 el_LInt_32_MostL2 a86_52 a86_54 (hS85.rdl 5 rfl) (by omega) (by omega)) ?_
    refine wpL_q (U := NoB) rfl (q_loadE rfl rfl (hlu88 Try.prog 32 _ el_LInt_32_MostL2 (fun _ h => False.elim h))) ?_
    refine wpL_q (U := NoB) rfl (q_assign (v := u88) rfl rfl) ?_
    exact ⟨a86_2, a86_3, a86_5, a86_7, a86_9, a86_12, a86_13, rfl, a86_52, a86_53, a86_54, hS89⟩
  rintro f90 H90 ⟨a90_2, a90_3, a90_5, a90_7, a90_9, a90_12, a90_13, a90_15, a90_52, a90_53, a90_54, hS90⟩
  clear a86_12 a86_13 a86_2 a86_3 a86_5 a86_52 a86_53 a86_54 a86_55 a86_7 a86_9
  refine wpF_seq ?_
  refine wpF_seq ?_
  refine wpF_cut (fun f H => f 2 = PT g1 0 ∧ f 3 = PT g4 0 ∧ f 5 = PT g7 0 ∧ f 7 = PT g24 0 ∧ f 9 = v9 ∧ f 12 = PT g73 0 ∧ f 13 = Value.func (.func 67) #[] #[PT g24 0, PT g4 0, PT g73 0] ∧ f 15 = u88 ∧ f 52 = r80 ∧ f 53 = I (((statesL l).length : Int)) ∧ f 54 = I ((j : Int)) ∧ f 61 = B (holdB l.Start (nth (statesL l) j)) ∧ St H0 NoB (fun b => S b ∧ b < H0.size) [rdE u88 (nth (statesL l) j), mapE r70 (mj : List (Int × Bool)), blkE g24 (.cells #[vq] 32), blkE g4 (.cells #[vr] 22), blkE g73 (.cells #[(Value.map (some r70))] 85), rowE 3 vq (left : List Int), rdE r80 (statesL l), rdE v9 (pickR r left), blkE g14 (.cells #[I ((chkFault l r).1), I ((chkFault l r).2)] 27), blkE g7 (.cells #[I (0), I (0)] 27), blkE g1 (.cells #[wa, wb, wc, wd, we] 42), rdE wa l.Low, rdE wb l.High, rdE wc l.Start, rdE wd l.Jumps, rdE we l.Bad, rdE vr r] H) ?_ ?_
  · refine wpF_region ?_
    refine wpL_q (U := NoB) rfl (q_fieldAddr rfl Try.underlying42 rfl Try.sizeOf22 a90_2) ?_
    refine wpL_q (U := NoB) rfl (q_loadBlk rfl rfl Try.isAgg22 (hS90.blk 10 rfl) rfl (fun h => h)) ?_
    refine wpL_q (U := NoB) rfl (q_move (v := u88) rfl a90_15) ?_
    refine wpL_o rfl ?_
    refine e_call rfl Try.call52 (arr2 (v0 := wc) (v1 := u88) rfl rfl) (Hold_L wc u88 l.Start (nth (statesL l) j) (hS90.rdN 13 rfl) (hS90.rdN 0 rfl) (HoldOk.of hl.start hmany.2 (inside_small hl hst.1 hst.2) (by rw [hst.1]; exact Int.le_refl _))) ?_
    rintro _ H91 ⟨hxx, rfl⟩
    have hS92 : St H0 NoB (fun b => S b ∧ b < H0.size) [rdE u88 (nth (statesL l) j), mapE r70 (mj : List (Int × Bool)), blkE g24 (.cells #[vq] 32), blkE g4 (.cells #[vr] 22), blkE g73 (.cells #[(Value.map (some r70))] 85), rowE 3 vq (left : List Int), rdE r80 (statesL l), rdE v9 (pickR r left), blkE g14 (.cells #[I ((chkFault l r).1), I ((chkFault l r).2)] 27), blkE g7 (.cells #[I (0), I (0)] 27), blkE g1 (.cells #[wa, wb, wc, wd, we] 42), rdE wa l.Low, rdE wb l.High, rdE wc l.Start, rdE wd l.Jumps, rdE we l.Bad, rdE vr r] H91 := hS90.ext hxx
    exact ⟨a90_2, a90_3, a90_5, a90_7, a90_9, a90_12, a90_13, a90_15, a90_52, a90_53, a90_54, rfl, hS92⟩
  rintro f94 H94 ⟨a94_2, a94_3, a94_5, a94_7, a94_9, a94_12, a94_13, a94_15, a94_52, a94_53, a94_54, a94_61, hS94⟩
  clear a90_12 a90_13 a90_15 a90_2 a90_3 a90_5 a90_52 a90_53 a90_54 a90_7 a90_9
  refine wpF_cut (fun f H => ∃ (m1 : List (Int × Bool)), (Marks m1 left (fun i => (((statesL l).take j).any fun s => strayAt l r (pickR r left) s i) || (holdB l.Start (nth (statesL l) j) && !holdB [nth r i.toNat] (nth (statesL l) j)))) ∧ f 2 = PT g1 0 ∧ f 3 = PT g4 0 ∧ f 5 = PT g7 0 ∧ f 7 = PT g24 0 ∧ f 9 = v9 ∧ f 12 = PT g73 0 ∧ f 13 = Value.func (.func 67) #[] #[PT g24 0, PT g4 0, PT g73 0] ∧ f 15 = u88 ∧ f 52 = r80 ∧ f 53 = I (((statesL l).length : Int)) ∧ f 54 = I ((j : Int)) ∧ St H0 NoB (fun b => S b ∧ b < H0.size) [rdE u88 (nth (statesL l) j), mapE r70 (m1 : List (Int × Bool)), blkE g24 (.cells #[vq] 32), blkE g4 (.cells #[vr] 22), blkE g73 (.cells #[(Value.map (some r70))] 85), rowE 3 vq (left : List Int), rdE r80 (statesL l), rdE v9 (pickR r left), blkE g14 (.cells #[I ((chkFault l r).1), I ((chkFault l r).2)] 27), blkE g7 (.cells #[I (0), I (0)] 27), blkE g1 (.cells #[wa, wb, wc, wd, we] 42), rdE wa l.Low, rdE wb l.High, rdE wc l.Start, rdE wd l.Jumps, rdE we l.Bad, rdE vr r] H) ?_ ?_
  · refine wpF_cond a94_61 (fun h61 => ?t102) (fun h61 => ?e102)
    case e102 =>
      refine wpF_skip ?_
      exact ⟨mj, (stray_start0 h61 hMj), a94_2, a94_3, a94_5, a94_7, a94_9, a94_12, a94_13, a94_15, a94_52, a94_53, a94_54, hS94⟩
    refine wpF_cut (fun f H => ∃ (mN64 : List (Int × Bool)), (Marks mN64 left (fun i => (fun i => ((statesL l).take j).any fun s => strayAt l r (pickR r left) s i) i || (fun i => !holdB [nth r i.toNat] (nth (statesL l) j)) i)) ∧ f 2 = PT g1 0 ∧ f 3 = PT g4 0 ∧ f 5 = PT g7 0 ∧ f 7 = PT g24 0 ∧ f 9 = v9 ∧ f 12 = PT g73 0 ∧ f 13 = Value.func (.func 67) #[] #[PT g24 0, PT g4 0, PT g73 0] ∧ f 15 = u88 ∧ f 52 = r80 ∧ f 53 = I (((statesL l).length : Int)) ∧ f 54 = I ((j : Int)) ∧ St H0 NoB (fun b => S b ∧ b < H0.size) [mapE r70 (mN64 : List (Int × Bool)), blkE g24 (.cells #[vq] 32), blkE g4 (.cells #[vr] 22), blkE g73 (.cells #[(Value.map (some r70))] 85), rowE 3 vq (left : List Int), rdE u88 (nth (statesL l) j), rdE r80 (statesL l), rdE v9 (pickR r left), blkE g14 (.cells #[I ((chkFault l r).1), I ((chkFault l r).2)] 27), blkE g7 (.cells #[I (0), I (0)] 27), blkE g1 (.cells #[wa, wb, wc, wd, we] 42), rdE wa l.Low, rdE wb l.High, rdE wc l.Start, rdE wd l.Jumps, rdE we l.Bad, rdE vr r] H) ?_ ?_
    · refine wpF_region ?_
      refine wpL_q (U := NoB) rfl (q_move (v := Value.func (.func 67) #[] #[PT g24 0, PT g4 0, PT g73 0]) rfl a94_13) ?_
      refine wpL_q (U := NoB) rfl (q_move (v := u88) rfl a94_15) ?_
      have hS97 : St H0 NoB (fun b => S b ∧ b < H0.size) [mapE r70 (mj : List (Int × Bool)), blkE g24 (.cells #[vq] 32), blkE g4 (.cells #[vr] 22), blkE g73 (.cells #[(Value.map (some r70))] 85), rowE 3 vq (left : List Int), rdE u88 (nth (statesL l) j), rdE r80 (statesL l), rdE v9 (pickR r left), blkE g14 (.cells #[I ((chkFault l r).1), I ((chkFault l r).2)] 27), blkE g7 (.cells #[I (0), I (0)] 27), blkE g1 (.cells #[wa, wb, wc, wd, we] 42), rdE wa l.Low, rdE wb l.High, rdE wc l.Start, rdE wd l.Jumps, rdE we l.Bad, rdE vr r] H94 := (St.drop (show St H0 NoB (fun b => S b ∧ b < H0.size) [mapE r70 (mj : List (Int × Bool)), blkE g24 (.cells #[vq] 32), blkE g4 (.cells #[vr] 22), blkE g73 (.cells #[(Value.map (some r70))] 85), rowE 3 vq (left : List Int), rdE u88 (nth (statesL l) j), rdE r80 (statesL l), rdE v9 (pickR r left), blkE g14 (.cells #[I ((chkFault l r).1), I ((chkFault l r).2)] 27), blkE g7 (.cells #[I (0), I (0)] 27), blkE g1 (.cells #[wa, wb, wc, wd, we] 42), rdE wa l.Low, rdE wb l.High, rdE wc l.Start, rdE wd l.Jumps, rdE we l.Bad, rdE vr r] H94 from (((((hS94.front 5 rfl).front 5 rfl).front 5 rfl).front 5 rfl).front 5 rfl)) (sk (sk (sk (sk (sk (sk (sk (sk (sk (sk (sk (sk (sk (sk (sk (sk (sk (List.Sublist.slnil)))))))))))))))))))
      refine wpL_o rfl ?_
      refine e_callV rfl rfl Try.call67 (arr1 (v0 := u88) rfl) (note_L _ u88 g24 g4 g73 r70 vq vr (nth (statesL l) j) left r mj (fun i => ((statesL l).take j).any fun s => strayAt l r (pickR r left) s i) (St.okA (A := [mapE r70 (mj : List (Int × Bool)), blkE g24 (.cells #[vq] 32), blkE g4 (.cells #[vr] 22), blkE g73 (.cells #[(Value.map (some r70))] 85), rowE 3 vq (left : List Int)]) (L := [rdE u88 (nth (statesL l) j), rdE r80 (statesL l), rdE v9 (pickR r left), blkE g14 (.cells #[I ((chkFault l r).1), I ((chkFault l r).2)] 27), blkE g7 (.cells #[I (0), I (0)] 27), blkE g1 (.cells #[wa, wb, wc, wd, we] 42), rdE wa l.Low, rdE wb l.High, rdE wc l.Start, rdE wd l.Jumps, rdE we l.Bad, rdE vr r]) hS97) (St.pwA (A := [mapE r70 (mj : List (Int × Bool)), blkE g24 (.cells #[vq] 32), blkE g4 (.cells #[vr] 22), blkE g73 (.cells #[(Value.map (some r70))] 85), rowE 3 vq (left : List Int)]) (L := [rdE u88 (nth (statesL l) j), rdE r80 (statesL l), rdE v9 (pickR r left), blkE g14 (.cells #[I ((chkFault l r).1), I ((chkFault l r).2)] 27), blkE g7 (.cells #[I (0), I (0)] 27), blkE g1 (.cells #[wa, wb, wc, wd, we] 42), rdE wa l.Low, rdE wb l.High, rdE wc l.Start, rdE wd l.Jumps, rdE we l.Bad, rdE vr r]) hS97) (fun b hb => SL.lt hS97 hb) (St.inA (A := [mapE r70 (mj : List (Int × Bool)), blkE g24 (.cells #[vq] 32), blkE g4 (.cells #[vr] 22), blkE g73 (.cells #[(Value.map (some r70))] 85), rowE 3 vq (left : List Int)]) (L := [rdE u88 (nth (statesL l) j), rdE r80 (statesL l), rdE v9 (pickR r left), blkE g14 (.cells #[I ((chkFault l r).1), I ((chkFault l r).2)] 27), blkE g7 (.cells #[I (0), I (0)] 27), blkE g1 (.cells #[wa, wb, wc, wd, we] 42), rdE wa l.Low, rdE wb l.High, rdE wc l.Start, rdE wd l.Jumps, rdE we l.Bad, rdE vr r]) hS97) (hS97.rdS 5 rfl) (hS97.rdS 16 rfl) hMj hir (holdok_st hl hrz hst)) ?_
      rintro _ H98 ⟨hxx, rfl, mN64, hok, hN64⟩
      have hS99 : St H0 NoB (fun b => S b ∧ b < H0.size) [mapE r70 (mN64 : List (Int × Bool)), blkE g24 (.cells #[vq] 32), blkE g4 (.cells #[vr] 22), blkE g73 (.cells #[(Value.map (some r70))] 85), rowE 3 vq (left : List Int), rdE u88 (nth (statesL l) j), rdE r80 (statesL l), rdE v9 (pickR r left), blkE g14 (.cells #[I ((chkFault l r).1), I ((chkFault l r).2)] 27), blkE g7 (.cells #[I (0), I (0)] 27), blkE g1 (.cells #[wa, wb, wc, wd, we] 42), rdE wa l.Low, rdE wb l.High, rdE wc l.Start, rdE wd l.Jumps, rdE we l.Bad, rdE vr r] H98 := St.back (A := [mapE r70 (mj : List (Int × Bool)), blkE g24 (.cells #[vq] 32), blkE g4 (.cells #[vr] 22), blkE g73 (.cells #[(Value.map (some r70))] 85), rowE 3 vq (left : List Int)]) (A' := [mapE r70 (mN64 : List (Int × Bool)), blkE g24 (.cells #[vq] 32), blkE g4 (.cells #[vr] 22), blkE g73 (.cells #[(Value.map (some r70))] 85), rowE 3 vq (left : List Int)]) (L := [rdE u88 (nth (statesL l) j), rdE r80 (statesL l), rdE v9 (pickR r left), blkE g14 (.cells #[I ((chkFault l r).1), I ((chkFault l r).2)] 27), blkE g7 (.cells #[I (0), I (0)] 27), blkE g1 (.cells #[wa, wb, wc, wd, we] 42), rdE wa l.Low, rdE wb l.High, rdE wc l.Start, rdE wd l.Jumps, rdE we l.Bad, rdE vr r]) hS97 hxx hok (fun b hb => .inl (own_swap (e := mapE r70 (mj : List (Int × Bool))) (e' := mapE r70 (mN64 : List (Int × Bool))) (fun _ hb => hb) hb)) (pw_swap (e := mapE r70 (mj : List (Int × Bool))) (e' := mapE r70 (mN64 : List (Int × Bool))) (fun _ hb => hb) (St.pwA (A := [mapE r70 (mj : List (Int × Bool)), blkE g24 (.cells #[vq] 32), blkE g4 (.cells #[vr] 22), blkE g73 (.cells #[(Value.map (some r70))] 85), rowE 3 vq (left : List Int)]) (L := [rdE u88 (nth (statesL l) j), rdE r80 (statesL l), rdE v9 (pickR r left), blkE g14 (.cells #[I ((chkFault l r).1), I ((chkFault l r).2)] 27), blkE g7 (.cells #[I (0), I (0)] 27), blkE g1 (.cells #[wa, wb, wc, wd, we] 42), rdE wa l.Low, rdE wb l.High, rdE wc l.Start, rdE wd l.Jumps, rdE we l.Bad, rdE vr r]) hS97))
      exact ⟨mN64, hN64, a94_2, a94_3, a94_5, a94_7, a94_9, a94_12, a94_13, a94_15, a94_52, a94_53, a94_54, hS99⟩
    rintro f101 H101 ⟨mN64, hN64, a101_2, a101_3, a101_5, a101_7, a101_9, a101_12, a101_13, a101_15, a101_52, a101_53, a101_54, hS101⟩
    clear a94_12 a94_13 a94_15 a94_2 a94_3 a94_5 a94_52 a94_53 a94_54 a94_61 a94_7 a94_9
    exact ⟨mN64, (stray_start h61 hN64), a101_2, a101_3, a101_5, a101_7, a101_9, a101_12, a101_13, a101_15, a101_52, a101_53, a101_54, (St.drop (show St H0 NoB (fun b => S b ∧ b < H0.size) [rdE u88 (nth (statesL l) j), mapE r70 (mN64 : List (Int × Bool)), blkE g24 (.cells #[vq] 32), blkE g4 (.cells #[vr] 22), blkE g73 (.cells #[(Value.map (some r70))] 85), rowE 3 vq (left : List Int), rdE r80 (statesL l), rdE v9 (pickR r left), blkE g14 (.cells #[I ((chkFault l r).1), I ((chkFault l r).2)] 27), blkE g7 (.cells #[I (0), I (0)] 27), blkE g1 (.cells #[wa, wb, wc, wd, we] 42), rdE wa l.Low, rdE wb l.High, rdE wc l.Start, rdE wd l.Jumps, rdE we l.Bad, rdE vr r] H101 from (hS101.front 5 rfl)) (sk (sk (sk (sk (sk (sk (sk (sk (sk (sk (sk (sk (sk (sk (sk (sk (sk (List.Sublist.slnil)))))))))))))))))))⟩
  rintro f95 H95 ⟨m1, hM1, a95_2, a95_3, a95_5, a95_7, a95_9, a95_12, a95_13, a95_15, a95_52, a95_53, a95_54, hS95⟩
  clear a94_12 a94_13 a94_15 a94_2 a94_3 a94_5 a94_52 a94_53 a94_54 a94_61 a94_7 a94_9
  refine wpF_seq ?_
  refine wpF_cut (fun f H => f 2 = PT g1 0 ∧ f 3 = PT g4 0 ∧ f 5 = PT g7 0 ∧ f 7 = PT g24 0 ∧ f 9 = v9 ∧ f 12 = PT g73 0 ∧ f 13 = Value.func (.func 67) #[] #[PT g24 0, PT g4 0, PT g73 0] ∧ f 15 = u88 ∧ f 52 = r80 ∧ f 53 = I (((statesL l).length : Int)) ∧ f 54 = I ((j : Int)) ∧ f 67 = B (holdB (pickR r left) (nth (statesL l) j)) ∧ St H0 NoB (fun b => S b ∧ b < H0.size) [rdE u88 (nth (statesL l) j), mapE r70 (m1 : List (Int × Bool)), blkE g24 (.cells #[vq] 32), blkE g4 (.cells #[vr] 22), blkE g73 (.cells #[(Value.map (some r70))] 85), rowE 3 vq (left : List Int), rdE r80 (statesL l), rdE v9 (pickR r left), blkE g14 (.cells #[I ((chkFault l r).1), I ((chkFault l r).2)] 27), blkE g7 (.cells #[I (0), I (0)] 27), blkE g1 (.cells #[wa, wb, wc, wd, we] 42), rdE wa l.Low, rdE wb l.High, rdE wc l.Start, rdE wd l.Jumps, rdE we l.Bad, rdE vr r] H) ?_ ?_
  · refine wpF_region ?_
    refine wpL_q (U := NoB) rfl (q_move (v := v9) rfl a95_9) ?_
    refine wpL_q (U := NoB) rfl (q_move (v := u88) rfl a95_15) ?_
    refine wpL_o rfl ?_
    refine e_call rfl Try.call52 (arr2 (v0 := v9) (v1 := u88) rfl rfl) (Hold_L v9 u88 (pickR r left) (nth (statesL l) j) (hS95.rdN 7 rfl) (hS95.rdN 0 rfl) ((holdok_st hl hrz hst).pick hir)) ?_
    rintro _ H103 ⟨hxx, rfl⟩
    have hS104 : St H0 NoB (fun b => S b ∧ b < H0.size) [rdE u88 (nth (statesL l) j), mapE r70 (m1 : List (Int × Bool)), blkE g24 (.cells #[vq] 32), blkE g4 (.cells #[vr] 22), blkE g73 (.cells #[(Value.map (some r70))] 85), rowE 3 vq (left : List Int), rdE r80 (statesL l), rdE v9 (pickR r left), blkE g14 (.cells #[I ((chkFault l r).1), I ((chkFault l r).2)] 27), blkE g7 (.cells #[I (0), I (0)] 27), blkE g1 (.cells #[wa, wb, wc, wd, we] 42), rdE wa l.Low, rdE wb l.High, rdE wc l.Start, rdE wd l.Jumps, rdE we l.Bad, rdE vr r] H103 := hS95.ext hxx
    exact ⟨a95_2, a95_3, a95_5, a95_7, a95_9, a95_12, a95_13, a95_15, a95_52, a95_53, a95_54, rfl, hS104⟩
  rintro f106 H106 ⟨a106_2, a106_3, a106_5, a106_7, a106_9, a106_12, a106_13, a106_15, a106_52, a106_53, a106_54, a106_67, hS106⟩
  clear a95_12 a95_13 a95_15 a95_2 a95_3 a95_5 a95_52 a95_53 a95_54 a95_7 a95_9
  refine wpF_cond a106_67 (fun h67 => ?t128) (fun h67 => ?e128)
  case e128 =>
    refine wpF_skip ?_
    refine wpF_cut (fun f H => f 2 = PT g1 0 ∧ f 3 = PT g4 0 ∧ f 5 = PT g7 0 ∧ f 7 = PT g24 0 ∧ f 9 = v9 ∧ f 12 = PT g73 0 ∧ f 13 = Value.func (.func 67) #[] #[PT g24 0, PT g4 0, PT g73 0] ∧ f 52 = r80 ∧ f 53 = I (((statesL l).length : Int)) ∧ f 54 = I ((j : Int) + 1) ∧ H106 = H) ?_ ?_
    · refine wpF_region ?_
      refine wpL_q (U := NoB) rfl (q_add rfl a106_54 rfl (by constructor <;> omega)) ?_
      refine wpL_q (U := NoB) rfl (q_move (v := I ((j : Int) + 1)) rfl rfl) ?_
      exact ⟨a106_2, a106_3, a106_5, a106_7, a106_9, a106_12, a106_13, a106_52, a106_53, rfl, rfl⟩
    rintro f127 _ ⟨a127_2, a127_3, a127_5, a127_7, a127_9, a127_12, a127_13, a127_52, a127_53, a127_54, rfl⟩
    clear a106_12 a106_13 a106_15 a106_2 a106_3 a106_5 a106_52 a106_53 a106_54 a106_67 a106_7 a106_9
    refine ⟨_, ?_, j + 1, m1, rfl, (by omega), (stray_end0 (by omega) h67 hM1), a127_2, a127_3, a127_5, a127_7, a127_9, a127_12, a127_13, a127_52, a127_53, (Eq.trans a127_54 (congrArg I (by omega))), (hS106.drop (sn (sk (sk (sk (sk (sk (sk (sk (sk (sk (sk (sk (sk (sk (sk (sk (sk (List.Sublist.slnil)))))))))))))))))))⟩
    omega
  refine wpF_seq ?_
  refine wpF_cut (fun f H => ∃ (r108 : Value), f 2 = PT g1 0 ∧ f 3 = PT g4 0 ∧ f 5 = PT g7 0 ∧ f 7 = PT g24 0 ∧ f 9 = v9 ∧ f 12 = PT g73 0 ∧ f 13 = Value.func (.func 67) #[] #[PT g24 0, PT g4 0, PT g73 0] ∧ f 52 = r80 ∧ f 53 = I (((statesL l).length : Int)) ∧ f 54 = I ((j : Int)) ∧ f 70 = r108 ∧ f 71 = I (((nextL l (nth (statesL l) j)).length : Int)) ∧ f 72 = I (0) ∧ St H0 NoB (fun b => S b ∧ b < H0.size) [rdE r108 (nextL l (nth (statesL l) j)), mapE r70 (m1 : List (Int × Bool)), blkE g24 (.cells #[vq] 32), blkE g4 (.cells #[vr] 22), blkE g73 (.cells #[(Value.map (some r70))] 85), rowE 3 vq (left : List Int), rdE r80 (statesL l), rdE v9 (pickR r left), blkE g14 (.cells #[I ((chkFault l r).1), I ((chkFault l r).2)] 27), blkE g7 (.cells #[I (0), I (0)] 27), blkE g1 (.cells #[wa, wb, wc, wd, we] 42), rdE wa l.Low, rdE wb l.High, rdE wc l.Start, rdE wd l.Jumps, rdE we l.Bad, rdE vr r] H) ?_ ?_
  · refine wpF_region ?_
    refine wpL_q (U := NoB) rfl (q_loadBlkA rfl a106_2 Try.isAgg42 Try.sizeOf42 rfl (hS106.blk 10 rfl) (fun h => h)) ?_
    refine wpL_q (U := NoB) rfl (q_move (v := u88) rfl a106_15) ?_
    refine wpL_o rfl ?_
    refine e_call rfl Try.call55 (arr2 (v0 := Value.agg #[wa, wb, wc, wd, we]) (v1 := u88) rfl rfl) (Succ_L wa wb wc wd we u88 l (nth (statesL l) j) (hS106.rdS 11 rfl) (hS106.rdS 12 rfl) (hS106.rdS 13 rfl) (hS106.rdS 14 rfl) (hS106.rdS 15 rfl) (hS106.rdS 0 rfl) hl hst.1 (inside_small hl hst.1 hst.2)) ?_
    rintro r108 H109 ⟨hxx, hrr108⟩
    have hS110 : St H0 NoB (fun b => S b ∧ b < H0.size) [rdE r108 (nextL l (nth (statesL l) j)), rdE u88 (nth (statesL l) j), mapE r70 (m1 : List (Int × Bool)), blkE g24 (.cells #[vq] 32), blkE g4 (.cells #[vr] 22), blkE g73 (.cells #[(Value.map (some r70))] 85), rowE 3 vq (left : List Int), rdE r80 (statesL l), rdE v9 (pickR r left), blkE g14 (.cells #[I ((chkFault l r).1), I ((chkFault l r).2)] 27), blkE g7 (.cells #[I (0), I (0)] 27), blkE g1 (.cells #[wa, wb, wc, wd, we] 42), rdE wa l.Low, rdE wb l.High, rdE wc l.Start, rdE wd l.Jumps, rdE we l.Bad, rdE vr r] H109 := hS106.res hxx hrr108
    refine wpL_q (U := NoB) rfl (q_lenRd rfl Try.underlying23 rfl (hS110.rdl 0 rfl)) ?_
    refine wpL_q (U := NoB) rfl (q_move (v := I (0)) rfl rfl) ?_
    exact ⟨r108, a106_2, a106_3, a106_5, a106_7, a106_9, a106_12, a106_13, a106_52, a106_53, a106_54, rfl, rfl, rfl, (hS110.drop (sk (sn (sk (sk (sk (sk (sk (sk (sk (sk (sk (sk (sk (sk (sk (sk (sk (sk (List.Sublist.slnil))))))))))))))))))))⟩
  rintro f112 H112 ⟨r108, a112_2, a112_3, a112_5, a112_7, a112_9, a112_12, a112_13, a112_52, a112_53, a112_54, a112_70, a112_71, a112_72, hS112⟩
  clear a106_12 a106_13 a106_15 a106_2 a106_3 a106_5 a106_52 a106_53 a106_54 a106_67 a106_7 a106_9
  refine wpF_block ?_
  refine wpF_loop (fun mz f H => ∃ (q : Nat), ∃ (mq : List (Int × Bool)), mz = (nextL l (nth (statesL l) j)).length - q ∧ (q ≤ (nextL l (nth (statesL l) j)).length) ∧ (Marks mq left (fun i => ((((statesL l).take j).any fun s => strayAt l r (pickR r left) s i) || (holdB l.Start (nth (statesL l) j) && !holdB [nth r i.toNat] (nth (statesL l) j))) || ((nextL l (nth (statesL l) j)).take q).any fun t => !holdB [nth r i.toNat] t)) ∧ f 2 = PT g1 0 ∧ f 3 = PT g4 0 ∧ f 5 = PT g7 0 ∧ f 7 = PT g24 0 ∧ f 9 = v9 ∧ f 12 = PT g73 0 ∧ f 13 = Value.func (.func 67) #[] #[PT g24 0, PT g4 0, PT g73 0] ∧ f 52 = r80 ∧ f 53 = I (((statesL l).length : Int)) ∧ f 54 = I ((j : Int)) ∧ f 70 = r108 ∧ f 71 = I (((nextL l (nth (statesL l) j)).length : Int)) ∧ f 72 = I ((q : Int)) ∧ St H0 NoB (fun b => S b ∧ b < H0.size) [rdE r108 (nextL l (nth (statesL l) j)), mapE r70 (mq : List (Int × Bool)), blkE g24 (.cells #[vq] 32), blkE g4 (.cells #[vr] 22), blkE g73 (.cells #[(Value.map (some r70))] 85), rowE 3 vq (left : List Int), rdE r80 (statesL l), rdE v9 (pickR r left), blkE g14 (.cells #[I ((chkFault l r).1), I ((chkFault l r).2)] 27), blkE g7 (.cells #[I (0), I (0)] 27), blkE g1 (.cells #[wa, wb, wc, wd, we] 42), rdE wa l.Low, rdE wb l.High, rdE wc l.Start, rdE wd l.Jumps, rdE we l.Bad, rdE vr r] H) ((nextL l (nth (statesL l) j)).length - 0) ?_ ?_
  · exact ⟨0, m1, rfl, Nat.zero_le _, (hM1.congr fun i _ => by simp), a112_2, a112_3, a112_5, a112_7, a112_9, a112_12, a112_13, a112_52, a112_53, a112_54, a112_70, a112_71, (Eq.trans a112_72 (congrArg I (by omega))), hS112⟩
  intro m113 f113 H113 hI113
  obtain ⟨q, mq, hm113, hq, hMq, a113_2, a113_3, a113_5, a113_7, a113_9, a113_12, a113_13, a113_52, a113_53, a113_54, a113_70, a113_71, a113_72, hS113⟩ := hI113
  clear a112_12 a112_13 a112_2 a112_3 a112_5 a112_52 a112_53 a112_54 a112_7 a112_70 a112_71 a112_72 a112_9
  refine wpF_seq ?_
  refine wpF_cut (fun f H => f 2 = PT g1 0 ∧ f 3 = PT g4 0 ∧ f 5 = PT g7 0 ∧ f 7 = PT g24 0 ∧ f 9 = v9 ∧ f 12 = PT g73 0 ∧ f 13 = Value.func (.func 67) #[] #[PT g24 0, PT g4 0, PT g73 0] ∧ f 52 = r80 ∧ f 53 = I (((statesL l).length : Int)) ∧ f 54 = I ((j : Int)) ∧ f 70 = r108 ∧ f 71 = I (((nextL l (nth (statesL l) j)).length : Int)) ∧ f 72 = I ((q : Int)) ∧ f 73 = B (decide ((q : Int) < ((nextL l (nth (statesL l) j)).length : Int))) ∧ H113 = H) ?_ ?_
  · refine wpF_region ?_
    refine wpL_q (U := NoB) rfl (q_lss rfl a113_72 a113_71) ?_
    exact ⟨a113_2, a113_3, a113_5, a113_7, a113_9, a113_12, a113_13, a113_52, a113_53, a113_54, a113_70, a113_71, a113_72, rfl, rfl⟩
  rintro f114 _ ⟨a114_2, a114_3, a114_5, a114_7, a114_9, a114_12, a114_13, a114_52, a114_53, a114_54, a114_70, a114_71, a114_72, a114_73, rfl⟩
  clear a113_12 a113_13 a113_2 a113_3 a113_5 a113_52 a113_53 a113_54 a113_7 a113_70 a113_71 a113_72 a113_9
  refine wpF_seq ?_
  refine wpF_condP a114_73 (fun hlt8 => ?t126) (fun hlt8 => ?e126)
  case e126 =>
    refine wpF_exit ?_
    refine atX_here ?_
    refine wpF_cut (fun f H => f 2 = PT g1 0 ∧ f 3 = PT g4 0 ∧ f 5 = PT g7 0 ∧ f 7 = PT g24 0 ∧ f 9 = v9 ∧ f 12 = PT g73 0 ∧ f 13 = Value.func (.func 67) #[] #[PT g24 0, PT g4 0, PT g73 0] ∧ f 52 = r80 ∧ f 53 = I (((statesL l).length : Int)) ∧ f 54 = I ((j : Int) + 1) ∧ H113 = H) ?_ ?_
    · refine wpF_region ?_
      refine wpL_q (U := NoB) rfl (q_add rfl a114_54 rfl (by constructor <;> omega)) ?_
      refine wpL_q (U := NoB) rfl (q_move (v := I ((j : Int) + 1)) rfl rfl) ?_
      exact ⟨a114_2, a114_3, a114_5, a114_7, a114_9, a114_12, a114_13, a114_52, a114_53, rfl, rfl⟩
    rintro f125 _ ⟨a125_2, a125_3, a125_5, a125_7, a125_9, a125_12, a125_13, a125_52, a125_53, a125_54, rfl⟩
    clear a114_12 a114_13 a114_2 a114_3 a114_5 a114_52 a114_53 a114_54 a114_7 a114_70 a114_71 a114_72 a114_73 a114_9
    refine ⟨_, ?_, j + 1, mq, rfl, (by omega), (stray_end (by omega) h67 (by omega) hMq), a125_2, a125_3, a125_5, a125_7, a125_9, a125_12, a125_13, a125_52, a125_53, (Eq.trans a125_54 (congrArg I (by omega))), (hS113.drop (sn (sk (sk (sk (sk (sk (sk (sk (sk (sk (sk (sk (sk (sk (sk (sk (sk (List.Sublist.slnil)))))))))))))))))))⟩
    omega
  refine wpF_skip ?_
  refine wpF_seq ?_
  refine wpF_block ?_
  refine wpF_seq ?_
  obtain ⟨u116, huu116, hlu116⟩ := (Rd.list.1 (hS113.rdS 0 rfl)).elem q (by omega)
  have hS117 : St H0 NoB (fun b => S b ∧ b < H0.size) [rdE u116 (nth (nextL l (nth (statesL l) j)) q), rdE r108 (nextL l (nth (statesL l) j)), mapE r70 (mq : List (Int × Bool)), blkE g24 (.cells #[vq] 32), blkE g4 (.cells #[vr] 22), blkE g73 (.cells #[(Value.map (some r70))] 85), rowE 3 vq (left : List Int), rdE r80 (statesL l), rdE v9 (pickR r left), blkE g14 (.cells #[I ((chkFault l r).1), I ((chkFault l r).2)] 27), blkE g7 (.cells #[I (0), I (0)] 27), blkE g1 (.cells #[wa, wb, wc, wd, we] 42), rdE wa l.Low, rdE wb l.High, rdE wc l.Start, rdE wd l.Jumps, rdE we l.Bad, rdE vr r] H113 := hS113.rd huu116
  refine wpF_cut (fun f H => f 2 = PT g1 0 ∧ f 3 = PT g4 0 ∧ f 5 = PT g7 0 ∧ f 7 = PT g24 0 ∧ f 9 = v9 ∧ f 12 = PT g73 0 ∧ f 13 = Value.func (.func 67) #[] #[PT g24 0, PT g4 0, PT g73 0] ∧ f 17 = u116 ∧ f 52 = r80 ∧ f 53 = I (((statesL l).length : Int)) ∧ f 54 = I ((j : Int)) ∧ f 70 = r108 ∧ f 71 = I (((nextL l (nth (statesL l) j)).length : Int)) ∧ f 72 = I ((q : Int)) ∧ St H0 NoB (fun b => S b ∧ b < H0.size) [rdE u116 (nth (nextL l (nth (statesL l) j)) q), rdE r108 (nextL l (nth (statesL l) j)), mapE r70 (mq : List (Int × Bool)), blkE g24 (.cells #[vq] 32), blkE g4 (.cells #[vr] 22), blkE g73 (.cells #[(Value.map (some r70))] 85), rowE 3 vq (left : List Int), rdE r80 (statesL l), rdE v9 (pickR r left), blkE g14 (.cells #[I ((chkFault l r).1), I ((chkFault l r).2)] 27), blkE g7 (.cells #[I (0), I (0)] 27), blkE g1 (.cells #[wa, wb, wc, wd, we] 42), rdE wa l.Low, rdE wb l.High, rdE wc l.Start, rdE wd l.Jumps, rdE we l.Bad, rdE vr r] H) ?_ ?_
  · refine wpF_region ?_
    refine wpL_q (U := NoB) rfl (q_indexRd (k := q) rfl Try.underlying23 el_LInt_32_MostL2 a114_70 a114_72 (hS113.rdl 0 rfl) (by omega) (by omega)) ?_
    refine wpL_q (U := NoB) rfl (q_loadE rfl rfl (hlu116 Try.prog 32 _ el_LInt_32_MostL2 (fun _ h => False.elim h))) ?_
    refine wpL_q (U := NoB) rfl (q_assign (v := u116) rfl rfl) ?_
    exact ⟨a114_2, a114_3, a114_5, a114_7, a114_9, a114_12, a114_13, rfl, a114_52, a114_53, a114_54, a114_70, a114_71, a114_72, hS117⟩
  rintro f118 H118 ⟨a118_2, a118_3, a118_5, a118_7, a118_9, a118_12, a118_13, a118_17, a118_52, a118_53, a118_54, a118_70, a118_71, a118_72, hS118⟩
  clear a114_12 a114_13 a114_2 a114_3 a114_5 a114_52 a114_53 a114_54 a114_7 a114_70 a114_71 a114_72 a114_73 a114_9
  refine wpF_cut (fun f H => ∃ (mN78 : List (Int × Bool)), (Marks mN78 left (fun i => (fun i => ((((statesL l).take j).any fun s => strayAt l r (pickR r left) s i) || (holdB l.Start (nth (statesL l) j) && !holdB [nth r i.toNat] (nth (statesL l) j))) || ((nextL l (nth (statesL l) j)).take q).any fun t => !holdB [nth r i.toNat] t) i || (fun i => !holdB [nth r i.toNat] (nth (nextL l (nth (statesL l) j)) q)) i)) ∧ f 2 = PT g1 0 ∧ f 3 = PT g4 0 ∧ f 5 = PT g7 0 ∧ f 7 = PT g24 0 ∧ f 9 = v9 ∧ f 12 = PT g73 0 ∧ f 13 = Value.func (.func 67) #[] #[PT g24 0, PT g4 0, PT g73 0] ∧ f 52 = r80 ∧ f 53 = I (((statesL l).length : Int)) ∧ f 54 = I ((j : Int)) ∧ f 70 = r108 ∧ f 71 = I (((nextL l (nth (statesL l) j)).length : Int)) ∧ f 72 = I ((q : Int)) ∧ St H0 NoB (fun b => S b ∧ b < H0.size) [mapE r70 (mN78 : List (Int × Bool)), blkE g24 (.cells #[vq] 32), blkE g4 (.cells #[vr] 22), blkE g73 (.cells #[(Value.map (some r70))] 85), rowE 3 vq (left : List Int), rdE r108 (nextL l (nth (statesL l) j)), rdE r80 (statesL l), rdE v9 (pickR r left), blkE g14 (.cells #[I ((chkFault l r).1), I ((chkFault l r).2)] 27), blkE g7 (.cells #[I (0), I (0)] 27), blkE g1 (.cells #[wa, wb, wc, wd, we] 42), rdE wa l.Low, rdE wb l.High, rdE wc l.Start, rdE wd l.Jumps, rdE we l.Bad, rdE vr r] H) ?_ ?_
  · refine wpF_region ?_
    refine wpL_q (U := NoB) rfl (q_move (v := Value.func (.func 67) #[] #[PT g24 0, PT g4 0, PT g73 0]) rfl a118_13) ?_
    refine wpL_q (U := NoB) rfl (q_move (v := u116) rfl a118_17) ?_
    have hS119 : St H0 NoB (fun b => S b ∧ b < H0.size) [mapE r70 (mq : List (Int × Bool)), blkE g24 (.cells #[vq] 32), blkE g4 (.cells #[vr] 22), blkE g73 (.cells #[(Value.map (some r70))] 85), rowE 3 vq (left : List Int), rdE u116 (nth (nextL l (nth (statesL l) j)) q), rdE r108 (nextL l (nth (statesL l) j)), rdE r80 (statesL l), rdE v9 (pickR r left), blkE g14 (.cells #[I ((chkFault l r).1), I ((chkFault l r).2)] 27), blkE g7 (.cells #[I (0), I (0)] 27), blkE g1 (.cells #[wa, wb, wc, wd, we] 42), rdE wa l.Low, rdE wb l.High, rdE wc l.Start, rdE wd l.Jumps, rdE we l.Bad, rdE vr r] H118 := (St.drop (show St H0 NoB (fun b => S b ∧ b < H0.size) [mapE r70 (mq : List (Int × Bool)), blkE g24 (.cells #[vq] 32), blkE g4 (.cells #[vr] 22), blkE g73 (.cells #[(Value.map (some r70))] 85), rowE 3 vq (left : List Int), rdE u116 (nth (nextL l (nth (statesL l) j)) q), rdE r108 (nextL l (nth (statesL l) j)), rdE r80 (statesL l), rdE v9 (pickR r left), blkE g14 (.cells #[I ((chkFault l r).1), I ((chkFault l r).2)] 27), blkE g7 (.cells #[I (0), I (0)] 27), blkE g1 (.cells #[wa, wb, wc, wd, we] 42), rdE wa l.Low, rdE wb l.High, rdE wc l.Start, rdE wd l.Jumps, rdE we l.Bad, rdE vr r] H118 from (((((hS118.front 6 rfl).front 6 rfl).front 6 rfl).front 6 rfl).front 6 rfl)) (sk (sk (sk (sk (sk (sk (sk (sk (sk (sk (sk (sk (sk (sk (sk (sk (sk (sk (List.Sublist.slnil))))))))))))))))))))
    refine wpL_o rfl ?_
    refine e_callV rfl rfl Try.call67 (arr1 (v0 := u116) rfl) (note_L _ u116 g24 g4 g73 r70 vq vr (nth (nextL l (nth (statesL l) j)) q) left r mq (fun i => ((((statesL l).take j).any fun s => strayAt l r (pickR r left) s i) || (holdB l.Start (nth (statesL l) j) && !holdB [nth r i.toNat] (nth (statesL l) j))) || ((nextL l (nth (statesL l) j)).take q).any fun t => !holdB [nth r i.toNat] t) (St.okA (A := [mapE r70 (mq : List (Int × Bool)), blkE g24 (.cells #[vq] 32), blkE g4 (.cells #[vr] 22), blkE g73 (.cells #[(Value.map (some r70))] 85), rowE 3 vq (left : List Int)]) (L := [rdE u116 (nth (nextL l (nth (statesL l) j)) q), rdE r108 (nextL l (nth (statesL l) j)), rdE r80 (statesL l), rdE v9 (pickR r left), blkE g14 (.cells #[I ((chkFault l r).1), I ((chkFault l r).2)] 27), blkE g7 (.cells #[I (0), I (0)] 27), blkE g1 (.cells #[wa, wb, wc, wd, we] 42), rdE wa l.Low, rdE wb l.High, rdE wc l.Start, rdE wd l.Jumps, rdE we l.Bad, rdE vr r]) hS119) (St.pwA (A := [mapE r70 (mq : List (Int × Bool)), blkE g24 (.cells #[vq] 32), blkE g4 (.cells #[vr] 22), blkE g73 (.cells #[(Value.map (some r70))] 85), rowE 3 vq (left : List Int)]) (L := [rdE u116 (nth (nextL l (nth (statesL l) j)) q), rdE r108 (nextL l (nth (statesL l) j)), rdE r80 (statesL l), rdE v9 (pickR r left), blkE g14 (.cells #[I ((chkFault l r).1), I ((chkFault l r).2)] 27), blkE g7 (.cells #[I (0), I (0)] 27), blkE g1 (.cells #[wa, wb, wc, wd, we] 42), rdE wa l.Low, rdE wb l.High, rdE wc l.Start, rdE wd l.Jumps, rdE we l.Bad, rdE vr r]) hS119) (fun b hb => SL.lt hS119 hb) (St.inA (A := [mapE r70 (mq : List (Int × Bool)), blkE g24 (.cells #[vq] 32), blkE g4 (.cells #[vr] 22), blkE g73 (.cells #[(Value.map (some r70))] 85), rowE 3 vq (left : List Int)]) (L := [rdE u116 (nth (nextL l (nth (statesL l) j)) q), rdE r108 (nextL l (nth (statesL l) j)), rdE r80 (statesL l), rdE v9 (pickR r left), blkE g14 (.cells #[I ((chkFault l r).1), I ((chkFault l r).2)] 27), blkE g7 (.cells #[I (0), I (0)] 27), blkE g1 (.cells #[wa, wb, wc, wd, we] 42), rdE wa l.Low, rdE wb l.High, rdE wc l.Start, rdE wd l.Jumps, rdE we l.Bad, rdE vr r]) hS119) (hS119.rdS 5 rfl) (hS119.rdS 17 rfl) hMq hir (holdok_st hl hrz (next_st hl (nth_mem (by omega))))) ?_
    rintro _ H120 ⟨hxx, rfl, mN78, hok, hN78⟩
    have hS121 : St H0 NoB (fun b => S b ∧ b < H0.size) [mapE r70 (mN78 : List (Int × Bool)), blkE g24 (.cells #[vq] 32), blkE g4 (.cells #[vr] 22), blkE g73 (.cells #[(Value.map (some r70))] 85), rowE 3 vq (left : List Int), rdE u116 (nth (nextL l (nth (statesL l) j)) q), rdE r108 (nextL l (nth (statesL l) j)), rdE r80 (statesL l), rdE v9 (pickR r left), blkE g14 (.cells #[I ((chkFault l r).1), I ((chkFault l r).2)] 27), blkE g7 (.cells #[I (0), I (0)] 27), blkE g1 (.cells #[wa, wb, wc, wd, we] 42), rdE wa l.Low, rdE wb l.High, rdE wc l.Start, rdE wd l.Jumps, rdE we l.Bad, rdE vr r] H120 := St.back (A := [mapE r70 (mq : List (Int × Bool)), blkE g24 (.cells #[vq] 32), blkE g4 (.cells #[vr] 22), blkE g73 (.cells #[(Value.map (some r70))] 85), rowE 3 vq (left : List Int)]) (A' := [mapE r70 (mN78 : List (Int × Bool)), blkE g24 (.cells #[vq] 32), blkE g4 (.cells #[vr] 22), blkE g73 (.cells #[(Value.map (some r70))] 85), rowE 3 vq (left : List Int)]) (L := [rdE u116 (nth (nextL l (nth (statesL l) j)) q), rdE r108 (nextL l (nth (statesL l) j)), rdE r80 (statesL l), rdE v9 (pickR r left), blkE g14 (.cells #[I ((chkFault l r).1), I ((chkFault l r).2)] 27), blkE g7 (.cells #[I (0), I (0)] 27), blkE g1 (.cells #[wa, wb, wc, wd, we] 42), rdE wa l.Low, rdE wb l.High, rdE wc l.Start, rdE wd l.Jumps, rdE we l.Bad, rdE vr r]) hS119 hxx hok (fun b hb => .inl (own_swap (e := mapE r70 (mq : List (Int × Bool))) (e' := mapE r70 (mN78 : List (Int × Bool))) (fun _ hb => hb) hb)) (pw_swap (e := mapE r70 (mq : List (Int × Bool))) (e' := mapE r70 (mN78 : List (Int × Bool))) (fun _ hb => hb) (St.pwA (A := [mapE r70 (mq : List (Int × Bool)), blkE g24 (.cells #[vq] 32), blkE g4 (.cells #[vr] 22), blkE g73 (.cells #[(Value.map (some r70))] 85), rowE 3 vq (left : List Int)]) (L := [rdE u116 (nth (nextL l (nth (statesL l) j)) q), rdE r108 (nextL l (nth (statesL l) j)), rdE r80 (statesL l), rdE v9 (pickR r left), blkE g14 (.cells #[I ((chkFault l r).1), I ((chkFault l r).2)] 27), blkE g7 (.cells #[I (0), I (0)] 27), blkE g1 (.cells #[wa, wb, wc, wd, we] 42), rdE wa l.Low, rdE wb l.High, rdE wc l.Start, rdE wd l.Jumps, rdE we l.Bad, rdE vr r]) hS119))
    exact ⟨mN78, hN78, a118_2, a118_3, a118_5, a118_7, a118_9, a118_12, a118_13, a118_52, a118_53, a118_54, a118_70, a118_71, a118_72, (hS121.drop (sk (sk (sk (sk (sk (sn (sk (sk (sk (sk (sk (sk (sk (sk (sk (sk (sk (sk (List.Sublist.slnil))))))))))))))))))))⟩
  rintro f123 H123 ⟨mN78, hN78, a123_2, a123_3, a123_5, a123_7, a123_9, a123_12, a123_13, a123_52, a123_53, a123_54, a123_70, a123_71, a123_72, hS123⟩
  clear a118_12 a118_13 a118_17 a118_2 a118_3 a118_5 a118_52 a118_53 a118_54 a118_7 a118_70 a118_71 a118_72 a118_9
  refine wpF_cut (fun f H => f 2 = PT g1 0 ∧ f 3 = PT g4 0 ∧ f 5 = PT g7 0 ∧ f 7 = PT g24 0 ∧ f 9 = v9 ∧ f 12 = PT g73 0 ∧ f 13 = Value.func (.func 67) #[] #[PT g24 0, PT g4 0, PT g73 0] ∧ f 52 = r80 ∧ f 53 = I (((statesL l).length : Int)) ∧ f 54 = I ((j : Int)) ∧ f 70 = r108 ∧ f 71 = I (((nextL l (nth (statesL l) j)).length : Int)) ∧ f 72 = I ((q : Int) + 1) ∧ H123 = H) ?_ ?_
  · refine wpF_region ?_
    refine wpL_q (U := NoB) rfl (q_add rfl a123_72 rfl (by constructor <;> omega)) ?_
    refine wpL_q (U := NoB) rfl (q_move (v := I ((q : Int) + 1)) rfl rfl) ?_
    exact ⟨a123_2, a123_3, a123_5, a123_7, a123_9, a123_12, a123_13, a123_52, a123_53, a123_54, a123_70, a123_71, rfl, rfl⟩
  rintro f124 _ ⟨a124_2, a124_3, a124_5, a124_7, a124_9, a124_12, a124_13, a124_52, a124_53, a124_54, a124_70, a124_71, a124_72, rfl⟩
  clear a123_12 a123_13 a123_2 a123_3 a123_5 a123_52 a123_53 a123_54 a123_7 a123_70 a123_71 a123_72 a123_9
  refine ⟨_, ?_, q + 1, mN78, rfl, (by omega), (stray_next (by omega) hN78), a124_2, a124_3, a124_5, a124_7, a124_9, a124_12, a124_13, a124_52, a124_53, a124_54, a124_70, a124_71, (Eq.trans a124_72 (congrArg I (by omega))), (St.drop (show St H0 NoB (fun b => S b ∧ b < H0.size) [rdE r108 (nextL l (nth (statesL l) j)), mapE r70 (mN78 : List (Int × Bool)), blkE g24 (.cells #[vq] 32), blkE g4 (.cells #[vr] 22), blkE g73 (.cells #[(Value.map (some r70))] 85), rowE 3 vq (left : List Int), rdE r80 (statesL l), rdE v9 (pickR r left), blkE g14 (.cells #[I ((chkFault l r).1), I ((chkFault l r).2)] 27), blkE g7 (.cells #[I (0), I (0)] 27), blkE g1 (.cells #[wa, wb, wc, wd, we] 42), rdE wa l.Low, rdE wb l.High, rdE wc l.Start, rdE wd l.Jumps, rdE we l.Bad, rdE vr r] H123 from (hS123.front 5 rfl)) (sk (sk (sk (sk (sk (sk (sk (sk (sk (sk (sk (sk (sk (sk (sk (sk (sk (List.Sublist.slnil)))))))))))))))))))⟩
  omega

end Go.Um
