import Derived.Test.YtfgibfbgklkgbaaProg
import Derived.Test.YtfgibfbgklkgbaaLoopS5
import Derived.Test.YtfgibfbgklkgbaaLoopR1
import Derived.Test.YtfgibfbgklkgbaaUmSub
namespace Go.Um
open Go.Proofs
open GoT (sz ag rdc)
open KeyT (kv)

theorem el_Int_3_LoopR2 : ElT Try.prog Int 3 := ⟨Try.isAgg3, Try.sizeOf3⟩
theorem el_Jump_25_LoopR2 : ElT Try.prog Jump 25 := ⟨Try.isAgg25, Try.sizeOf25⟩
theorem el_LInt_32_LoopR2 : ElT Try.prog (List Int) 32 := ⟨Try.isAgg32, Try.sizeOf32⟩
theorem em_Int_3_LoopR2 : ElemOk Try.prog Int 3 := ⟨Try.t3, (.int .i64 0), by kernel_rfl, by kernel_rfl, by kernel_rfl, by kernel_rfl, by kernel_rfl⟩
theorem em_LInt_32_LoopR2 : ElemOk Try.prog (List Int) 32 := ⟨Try.t32, (.slice none 0 0), by kernel_rfl, by kernel_rfl, by kernel_rfl, by kernel_rfl, by kernel_rfl⟩

set_option maxHeartbeats 1000000 in
set_option maxRecDepth 100000 in
theorem States_R : ∀ (nn : Nat) {H0 : Heap} {S : Nat → Prop} (wa wb wc wd we vh : Value) (l : Loop) (had : List Int) (_rwa : Rd S H0 wa l.Low) (_rwb : Rd S H0 wb l.High) (_rwc : Rd S H0 wc l.Start) (_rwd : Rd S H0 wd l.Jumps) (_rwe : Rd S H0 we l.Bad) (_rh : Rd S H0 vh had) (_hl : LW l) (_hle : had.length ≤ l.Low.length) (_hn : l.Low.length - had.length = nn), CallsH Try.prog 40 #[Value.agg #[wa, wb, wc, wd, we], vh] H0 (fun rv_ H' => Ext NoB H0 H' ∧ Rd (fun b => S b ∧ b < H0.size) H' rv_ (statesF l (l.Low.length - had.length) had)) := by
  intro nn
  induction nn using Nat.strongRecOn with
  | _ nn ih =>
  intro H0 S wa wb wc wd we vh l had rwa rwb rwc rwd rwe rh hl hle hnn
  have hmany := hl.many
  have hhi := hl.high
  have hS0 : St H0 NoB (fun b => S b ∧ b < H0.size) [rdE wa l.Low, rdE wb l.High, rdE wc l.Start, rdE wd l.Jumps, rdE we l.Bad, rdE vh had] H0 := St.arg (St.arg (St.arg (St.arg (St.arg (St.arg (St.start (fun _ h => h.2)) (Bl0.nil) rh (fun _ h => h.1)) (Bl0.cons (Bl0.nil)) rwe (fun _ h => h.1)) (Bl0.cons (Bl0.cons (Bl0.nil))) rwd (fun _ h => h.1)) (Bl0.cons (Bl0.cons (Bl0.cons (Bl0.nil)))) rwc (fun _ h => h.1)) (Bl0.cons (Bl0.cons (Bl0.cons (Bl0.cons (Bl0.nil))))) rwb (fun _ h => h.1)) (Bl0.cons (Bl0.cons (Bl0.cons (Bl0.cons (Bl0.cons (Bl0.nil)))))) rwa (fun _ h => h.1)
  refine callsH_of_wpF (args := [Value.agg #[wa, wb, wc, wd, we], vh]) (rs := [.tmp 4]) Try.func40 rfl Try.ntmps40 Try.results40 (by kernel_rfl) (Nat.le_of_ble_eq_true rfl) ?_
  have a0_0 : argF [Value.agg #[wa, wb, wc, wd, we], vh] 0 = Value.agg #[wa, wb, wc, wd, we] := rfl
  have a0_1 : argF [Value.agg #[wa, wb, wc, wd, we], vh] 1 = vh := rfl
  generalize argF [Value.agg #[wa, wb, wc, wd, we], vh] = f0 at *
  refine wpF_seq ?_
  refine wpF_cut (fun f H => ∃ (g1 : Nat), f 1 = vh ∧ f 2 = PT g1 0 ∧ St H0 NoB (fun b => S b ∧ b < H0.size) [blkE g1 (.cells #[wa, wb, wc, wd, we] 42), rdE wa l.Low, rdE wb l.High, rdE wc l.Start, rdE wd l.Jumps, rdE we l.Bad, rdE vh had] H) ?_ ?_
  · refine wpF_region ?_
    refine wpL_o rfl ?_
    refine e_box (v := Value.agg #[wa, wb, wc, wd, we]) rfl a0_0 hS0 (fun g1 H2 hS3 hxx => ?_)
    replace hS3 : St H0 NoB (fun b => S b ∧ b < H0.size) [blkE g1 (.cells #[wa, wb, wc, wd, we] 42), rdE wa l.Low, rdE wb l.High, rdE wc l.Start, rdE wd l.Jumps, rdE we l.Bad, rdE vh had] H2 := hS3
    refine wpL_q (U := NoB) rfl (q_assign (v := (Value.slice none 0 0)) rfl rfl) ?_
    exact ⟨g1, a0_1, rfl, hS3⟩
  rintro f4 H4 ⟨g1, a4_1, a4_2, hS4⟩
  clear a0_0 a0_1
  refine wpF_seq ?_
  refine wpF_seq ?_
  refine wpF_cut (fun f H => f 1 = vh ∧ f 2 = PT g1 0 ∧ f 13 = B (decide ((had.length : Int) = (l.Low.length : Int))) ∧ H4 = H) ?_ ?_
  · refine wpF_region ?_
    refine wpL_q (U := NoB) rfl (q_move (v := vh) rfl a4_1) ?_
    refine wpL_q (U := NoB) rfl (q_lenRd rfl Try.underlying32 rfl (hS4.rdl 6 rfl)) ?_
    refine wpL_q (U := NoB) rfl (q_fieldAddr rfl Try.underlying42 rfl Try.sizeOf32 a4_2) ?_
    refine wpL_q (U := NoB) rfl (q_loadBlk rfl rfl Try.isAgg32 (hS4.blk 0 rfl) rfl (fun h => h)) ?_
    refine wpL_q (U := NoB) rfl (q_lenRd rfl Try.underlying32 rfl (hS4.rdl 1 rfl)) ?_
    refine wpL_q (U := NoB) rfl (q_eql rfl rfl rfl) ?_
    exact ⟨a4_1, a4_2, rfl, rfl⟩
  rintro f5 _ ⟨a5_1, a5_2, a5_13, rfl⟩
  clear a4_1 a4_2
  refine wpF_condP a5_13 (fun heq => ?t31) (fun heq => ?e31)
  case t31 =>
    refine wpF_seq ?_
    refine wpF_cut (fun f H => ∃ (v7 : Value), f 4 = v7 ∧ St H0 NoB (fun b => S b ∧ b < H0.size) [rowE 32 v7 ([had] : List (List Int)), blkE g1 (.cells #[wa, wb, wc, wd, we] 42), rdE wa l.Low, rdE wb l.High, rdE wc l.Start, rdE wd l.Jumps, rdE we l.Bad, rdE vh had] H) ?_ ?_
    · refine wpF_region ?_
      refine wpL_q (U := NoB) rfl (q_move (v := vh) rfl a5_1) ?_
      refine wpL_o rfl ?_
      refine e_buildSlice (vs := [vh]) (xs := ([had] : List (List Int))) rfl Try.underlying23 Try.zeroValue32 rfl Try.sizeOf32 (par1 (v0 := vh) rfl) rfl hS4 (RdVs.cons (hS4.rdS 6 rfl) (RdVs.nil)) (by decide) (by decide) (fun v7 H8 hS9 hxx hvv7 => ?_)
      replace hS9 : St H0 NoB (fun b => S b ∧ b < H0.size) [rowE 32 v7 ([had] : List (List Int)), blkE g1 (.cells #[wa, wb, wc, wd, we] 42), rdE wa l.Low, rdE wb l.High, rdE wc l.Start, rdE wd l.Jumps, rdE we l.Bad, rdE vh had] H8 := hS9
      refine wpL_q (U := NoB) rfl (q_assign (v := v7) rfl rfl) ?_
      exact ⟨v7, rfl, hS9⟩
    rintro f10 H10 ⟨v7, a10_4, hS10⟩
    clear a5_1 a5_13 a5_2
    refine wpF_ret ?_
    refine ⟨_, resT a10_4 resN, hS10.frame, ?_⟩
    show Rd (fun b => S b ∧ b < H0.size) H10 v7 (statesF l (l.Low.length - had.length) had)
    have hS11 : St H0 NoB (fun b => S b ∧ b < H0.size) [rdE v7 ([had] : List (List Int)), blkE g1 (.cells #[wa, wb, wc, wd, we] 42), rdE wa l.Low, rdE wb l.High, rdE wc l.Start, rdE wd l.Jumps, rdE we l.Bad, rdE vh had] H10 := St.fin hS10
    have e0 : l.Low.length - had.length = 0 := by omega
    rw [e0]
    exact (hS11.result (hS11.rdS 0 rfl))
  have hfc := hl.fac (k := had.length) (by omega)
  have hfi : facI l had.length = nth l.High had.length - nth l.Low had.length + 1 := rfl
  refine wpF_skip ?_
  refine wpF_seq ?_
  refine wpF_cut (fun f H => f 1 = vh ∧ f 2 = PT g1 0 ∧ f 5 = (Value.slice none 0 0) ∧ H4 = H) ?_ ?_
  · refine wpF_region ?_
    refine wpL_q (U := NoB) rfl (q_assign (v := (Value.slice none 0 0)) rfl rfl) ?_
    exact ⟨a5_1, a5_2, rfl, rfl⟩
  rintro f12 _ ⟨a12_1, a12_2, a12_5, rfl⟩
  clear a5_1 a5_13 a5_2
  have hS13 : St H0 NoB (fun b => S b ∧ b < H0.size) [rowE 32 (Value.slice none 0 0) ([] : List (List Int)), blkE g1 (.cells #[wa, wb, wc, wd, we] 42), rdE wa l.Low, rdE wb l.High, rdE wc l.Start, rdE wd l.Jumps, rdE we l.Bad, rdE vh had] H4 := hS4.row0 32
  refine wpF_seq ?_
  refine wpF_seq ?_
  refine wpF_cut (fun f H => f 1 = vh ∧ f 2 = PT g1 0 ∧ f 5 = (Value.slice none 0 0) ∧ f 6 = I (nth l.Low had.length) ∧ H4 = H) ?_ ?_
  · refine wpF_region ?_
    refine wpL_q (U := NoB) rfl (q_fieldAddr rfl Try.underlying42 rfl Try.sizeOf32 a12_2) ?_
    refine wpL_q (U := NoB) rfl (q_loadBlk rfl rfl Try.isAgg32 (hS13.blk 1 rfl) rfl (fun h => h)) ?_
    refine wpL_q (U := NoB) rfl (q_move (v := vh) rfl a12_1) ?_
    refine wpL_q (U := NoB) rfl (q_lenRd rfl Try.underlying32 rfl (hS13.rdl 7 rfl)) ?_
    refine wpL_q (U := NoB) rfl (q_indexRd (k := had.length) rfl Try.underlying32 el_Int_3_LoopR2 rfl rfl (hS13.rdl 2 rfl) (by omega) (by omega)) ?_
    refine wpL_q (U := NoB) rfl (q_loadInt (k := had.length) rfl rfl el_Int_3_LoopR2 (hS13.rdl 2 rfl) (by omega) (fun _ h => h)) ?_
    refine wpL_q (U := NoB) rfl (q_assign (v := I (nth l.Low had.length)) rfl rfl) ?_
    exact ⟨a12_1, a12_2, a12_5, rfl, rfl⟩
  rintro f14 _ ⟨a14_1, a14_2, a14_5, a14_6, rfl⟩
  clear a12_1 a12_2 a12_5
  refine wpF_block ?_
  refine wpF_loop (fun mz f H => ∃ (m : Nat), ∃ (vo : Value), mz = (facI l had.length).toNat - m ∧ (m ≤ (facI l had.length).toNat) ∧ f 1 = vh ∧ f 2 = PT g1 0 ∧ f 5 = vo ∧ f 6 = I (nth l.Low had.length + (m : Int)) ∧ St H0 NoB (fun b => S b ∧ b < H0.size) [rowE 32 vo (statesPre l (l.Low.length - had.length - 1) had m : List (List Int)), blkE g1 (.cells #[wa, wb, wc, wd, we] 42), rdE wa l.Low, rdE wb l.High, rdE wc l.Start, rdE wd l.Jumps, rdE we l.Bad, rdE vh had] H) ((facI l had.length).toNat - 0) ?_ ?_
  · exact ⟨0, (Value.slice none 0 0), rfl, Nat.zero_le _, a14_1, a14_2, a14_5, (Eq.trans a14_6 (congrArg I (by omega))), (show St H0 NoB (fun b => S b ∧ b < H0.size) [rowE 32 (Value.slice none 0 0) (statesPre l (l.Low.length - had.length - 1) had 0 : List (List Int)), blkE g1 (.cells #[wa, wb, wc, wd, we] 42), rdE wa l.Low, rdE wb l.High, rdE wc l.Start, rdE wd l.Jumps, rdE we l.Bad, rdE vh had] H4 from hS13)⟩
  intro m15 f15 H15 hI15
  obtain ⟨m, vo, hm15, hm, a15_1, a15_2, a15_5, a15_6, hS15⟩ := hI15
  clear a14_1 a14_2 a14_5 a14_6
  refine wpF_seq ?_
  refine wpF_seq ?_
  refine wpF_cut (fun f H => f 1 = vh ∧ f 2 = PT g1 0 ∧ f 5 = vo ∧ f 6 = I (nth l.Low had.length + (m : Int)) ∧ f 29 = B (decide ((nth l.Low had.length + (m : Int)) ≤ (nth l.High had.length))) ∧ H15 = H) ?_ ?_
  · refine wpF_region ?_
    refine wpL_q (U := NoB) rfl (q_move (v := I (nth l.Low had.length + (m : Int))) rfl a15_6) ?_
    refine wpL_q (U := NoB) rfl (q_fieldAddr rfl Try.underlying42 rfl Try.sizeOf32 a15_2) ?_
    refine wpL_q (U := NoB) rfl (q_loadBlk rfl rfl Try.isAgg32 (hS15.blk 1 rfl) rfl (fun h => h)) ?_
    refine wpL_q (U := NoB) rfl (q_move (v := vh) rfl a15_1) ?_
    refine wpL_q (U := NoB) rfl (q_lenRd rfl Try.underlying32 rfl (hS15.rdl 7 rfl)) ?_
    refine wpL_q (U := NoB) rfl (q_indexRd (k := had.length) rfl Try.underlying32 el_Int_3_LoopR2 rfl rfl (hS15.rdl 3 rfl) (by omega) (by omega)) ?_
    refine wpL_q (U := NoB) rfl (q_loadInt (k := had.length) rfl rfl el_Int_3_LoopR2 (hS15.rdl 3 rfl) (by omega) (fun _ h => h)) ?_
    refine wpL_q (U := NoB) rfl (q_leq rfl rfl rfl) ?_
    exact ⟨a15_1, a15_2, a15_5, a15_6, rfl, rfl⟩
  rintro f16 _ ⟨a16_1, a16_2, a16_5, a16_6, a16_29, rfl⟩
  clear a15_1 a15_2 a15_5 a15_6
  refine wpF_condP a16_29 (fun hx => ?t30) (fun hx => ?e30)
  case e30 =>
    refine wpF_exit ?_
    refine atX_here ?_
    refine wpF_seq ?_
    refine wpF_cut (fun f H => f 4 = vo ∧ H15 = H) ?_ ?_
    · refine wpF_region ?_
      refine wpL_q (U := NoB) rfl (q_move (v := vo) rfl a16_5) ?_
      refine wpL_q (U := NoB) rfl (q_assign (v := vo) rfl rfl) ?_
      exact ⟨rfl, rfl⟩
    rintro f28 _ ⟨a28_4, rfl⟩
    clear a16_1 a16_2 a16_29 a16_5 a16_6
    refine wpF_ret ?_
    refine ⟨_, resT a28_4 resN, hS15.frame, ?_⟩
    show Rd (fun b => S b ∧ b < H0.size) H15 vo (statesF l (l.Low.length - had.length) had)
    have hS29 : St H0 NoB (fun b => S b ∧ b < H0.size) [rdE vo (statesPre l (l.Low.length - had.length - 1) had m), blkE g1 (.cells #[wa, wb, wc, wd, we] 42), rdE wa l.Low, rdE wb l.High, rdE wc l.Start, rdE wd l.Jumps, rdE we l.Bad, rdE vh had] H15 := St.fin hS15
    have e0 : l.Low.length - had.length = l.Low.length - had.length - 1 + 1 := by omega
    rw [e0, ← statesPre_all (m := m) (by omega)]
    exact (hS29.result (hS29.rdS 0 rfl))
  have hpf := statesPre_few hl (had := had) (m := m) (by omega) (by omega)
  refine wpF_skip ?_
  refine wpF_seq ?_
  refine wpF_block ?_
  refine wpF_seq ?_
  refine wpF_cut (fun f H => f 1 = vh ∧ f 2 = PT g1 0 ∧ f 5 = vo ∧ f 6 = I (nth l.Low had.length + (m : Int)) ∧ f 7 = (Value.slice none 0 0) ∧ H15 = H) ?_ ?_
  · refine wpF_region ?_
    refine wpL_q (U := NoB) rfl (q_assign (v := (Value.slice none 0 0)) rfl rfl) ?_
    exact ⟨a16_1, a16_2, a16_5, a16_6, rfl, rfl⟩
  rintro f18 _ ⟨a18_1, a18_2, a18_5, a18_6, a18_7, rfl⟩
  clear a16_1 a16_2 a16_29 a16_5 a16_6
  have hS19 : St H0 NoB (fun b => S b ∧ b < H0.size) [rowE 3 (Value.slice none 0 0) ([] : List Int), rowE 32 vo (statesPre l (l.Low.length - had.length - 1) had m : List (List Int)), blkE g1 (.cells #[wa, wb, wc, wd, we] 42), rdE wa l.Low, rdE wb l.High, rdE wc l.Start, rdE wd l.Jumps, rdE we l.Bad, rdE vh had] H15 := hS15.row0 3
  refine wpF_seq ?_
  refine wpF_cut (fun f H => ∃ (v21 : Value), f 1 = vh ∧ f 2 = PT g1 0 ∧ f 5 = vo ∧ f 6 = I (nth l.Low had.length + (m : Int)) ∧ f 7 = v21 ∧ St H0 NoB (fun b => S b ∧ b < H0.size) [rowE 3 v21 (had : List Int), rowE 32 vo (statesPre l (l.Low.length - had.length - 1) had m : List (List Int)), blkE g1 (.cells #[wa, wb, wc, wd, we] 42), rdE wa l.Low, rdE wb l.High, rdE wc l.Start, rdE wd l.Jumps, rdE we l.Bad, rdE vh had] H) ?_ ?_
  · refine wpF_region ?_
    refine wpL_q (U := NoB) rfl (q_move (v := (Value.slice none 0 0)) rfl a18_7) ?_
    refine wpL_q (U := NoB) rfl (q_move (v := vh) rfl a18_1) ?_
    have hS20 : St H0 NoB (fun b => S b ∧ b < H0.size) [rowE 3 (Value.slice none 0 0) ([] : List Int), rowE 32 vo (statesPre l (l.Low.length - had.length - 1) had m : List (List Int)), blkE g1 (.cells #[wa, wb, wc, wd, we] 42), rdE wa l.Low, rdE wb l.High, rdE wc l.Start, rdE wd l.Jumps, rdE we l.Bad, rdE vh had] H15 := hS19
    refine wpL_o rfl ?_
    refine e_append rfl Try.underlying32 em_Int_3_LoopR2 rfl rfl hS20 (hS20.rdS 8 rfl) (fun _ h => h) (by have hb : GoT.bytes Int = 8 := rfl; simp [hb]; omega) (by decide) (fun v21 H22 hS23 hxx => ?_)
    replace hS23 : St H0 NoB (fun b => S b ∧ b < H0.size) [rowE 3 v21 (had : List Int), rowE 32 vo (statesPre l (l.Low.length - had.length - 1) had m : List (List Int)), blkE g1 (.cells #[wa, wb, wc, wd, we] 42), rdE wa l.Low, rdE wb l.High, rdE wc l.Start, rdE wd l.Jumps, rdE we l.Bad, rdE vh had] H22 := by simpa using hS23
    refine wpL_q (U := NoB) rfl (q_assign (v := v21) rfl rfl) ?_
    exact ⟨v21, a18_1, a18_2, a18_5, a18_6, rfl, hS23⟩
  rintro f24 H24 ⟨v21, a24_1, a24_2, a24_5, a24_6, a24_7, hS24⟩
  clear a18_1 a18_2 a18_5 a18_6 a18_7
  refine wpF_cut (fun f H => ∃ (v25o7 : Value), f 1 = vh ∧ f 2 = PT g1 0 ∧ f 5 = v25o7 ∧ f 6 = I (nth l.Low had.length + (m : Int)) ∧ St H0 NoB (fun b => S b ∧ b < H0.size) [rowE 32 v25o7 (statesPre l (l.Low.length - had.length - 1) had (m + 1) : List (List Int)), blkE g1 (.cells #[wa, wb, wc, wd, we] 42), rdE wa l.Low, rdE wb l.High, rdE wc l.Start, rdE wd l.Jumps, rdE we l.Bad, rdE vh had] H) ?_ ?_
  · refine wpF_drawn [none, none, none, none, none, some 0, none, some 1, none] [[0], [0], [], [], [], [], [], [], []] (fun l b => match l with | 0 => rowB v21 b | 1 => True | _ => False) (by kernel_rfl) (by kernel_rfl) ?_
    refine wpR_q 0 (by kernel_rfl) rfl (quietAt rfl rfl (q_move (v := vo) rfl a24_5)) ?_
    refine wpR_q 1 (by kernel_rfl) rfl (quietAt rfl rfl (q_loadBlkA rfl a24_2 Try.isAgg42 Try.sizeOf42 rfl (hS24.blk 2 rfl) (labU_not [0] rfl (List.forall_mem_cons.2 ⟨fun hb => hS24.dis 0 2 (by decide) rfl rfl _ hb rfl, List.forall_mem_nil _⟩)))) ?_
    refine wpR_q 2 (by kernel_rfl) rfl (quietAt rfl rfl (q_move (v := v21) rfl a24_7)) ?_
    refine wpR_q 3 (by kernel_rfl) rfl (quietAt rfl rfl (q_move (v := I (nth l.Low had.length + (m : Int))) rfl a24_6)) ?_
    refine wpR_n [4] (by kernel_rfl) ?_
    refine List.forall_mem_cons.2 ⟨?_, List.forall_mem_nil _⟩
    refine exE rfl rfl ?_
    refine e_buildSlice (vs := [I (nth l.Low had.length + (m : Int))]) (xs := ([nth l.Low had.length + (m : Int)] : List Int)) rfl Try.underlying32 Try.zeroValue3 rfl Try.sizeOf3 (par1 (v0 := I (nth l.Low had.length + (m : Int))) rfl) rfl hS24 (RdVs.cons (Rd.int.2 ⟨rfl, by constructor <;> omega⟩) (RdVs.nil)) (by decide) (by decide) (fun v25o4 H25o4 hS25o4 hxx hvv25o4 => ?_)
    replace hS25o4 : St H0 NoB (fun b => S b ∧ b < H0.size) [rowE 3 v25o4 ([nth l.Low had.length + (m : Int)] : List Int), rowE 3 v21 (had : List Int), rowE 32 vo (statesPre l (l.Low.length - had.length - 1) had m : List (List Int)), blkE g1 (.cells #[wa, wb, wc, wd, we] 42), rdE wa l.Low, rdE wb l.High, rdE wc l.Start, rdE wd l.Jumps, rdE we l.Bad, rdE vh had] H25o4 := hS25o4
    refine ⟨Ext.mono hxx (fun _ h => h.elim), ?_⟩
    refine wpR_n [5] (by kernel_rfl) ?_
    refine List.forall_mem_cons.2 ⟨?_, List.forall_mem_nil _⟩
    have hS25o5 : St H0 NoB (fun b => S b ∧ b < H0.size) [rdE v25o4 ([nth l.Low had.length + (m : Int)] : List Int), rowE 3 v21 (had : List Int), rowE 32 vo (statesPre l (l.Low.length - had.length - 1) had m : List (List Int)), blkE g1 (.cells #[wa, wb, wc, wd, we] 42), rdE wa l.Low, rdE wb l.High, rdE wc l.Start, rdE wd l.Jumps, rdE we l.Bad, rdE vh had] H25o4 := St.fin hS25o4
    have hS25o5x2 : St H0 NoB (fun b => S b ∧ b < H0.size) [rowE 3 v21 (had : List Int), rdE v25o4 ([nth l.Low had.length + (m : Int)] : List Int), rowE 32 vo (statesPre l (l.Low.length - had.length - 1) had m : List (List Int)), blkE g1 (.cells #[wa, wb, wc, wd, we] 42), rdE wa l.Low, rdE wb l.High, rdE wc l.Start, rdE wd l.Jumps, rdE we l.Bad, rdE vh had] H25o4 := (hS25o5.front 1 rfl)
    refine exE rfl rfl ?_
    refine e_append rfl Try.underlying32 em_Int_3_LoopR2 rfl rfl hS25o5x2 (hS25o5x2.rdS 1 rfl) (fun _ h => h) (by have hb : GoT.bytes Int = 8 := rfl; simp [hb]; omega) (by decide) (fun v25o5 H25o5 hS25o5x3 hxx => ?_)
    replace hS25o5x3 : St H0 NoB (fun b => S b ∧ b < H0.size) [rowE 3 v25o5 (had ++ ([nth l.Low had.length + (m : Int)]) : List Int), rdE v25o4 ([nth l.Low had.length + (m : Int)] : List Int), rowE 32 vo (statesPre l (l.Low.length - had.length - 1) had m : List (List Int)), blkE g1 (.cells #[wa, wb, wc, wd, we] 42), rdE wa l.Low, rdE wb l.High, rdE wc l.Start, rdE wd l.Jumps, rdE we l.Bad, rdE vh had] H25o5 := hS25o5x3
    refine ⟨Ext.mono hxx (labS_of 0 rfl (fun b hb => hb)), ?_⟩
    refine wpR_n [6] (by kernel_rfl) ?_
    refine List.forall_mem_cons.2 ⟨?_, List.forall_mem_nil _⟩
    have hS25o6 : St H0 NoB (fun b => S b ∧ b < H0.size) [rdE v25o5 (had ++ ([nth l.Low had.length + (m : Int)])), rdE v25o4 ([nth l.Low had.length + (m : Int)] : List Int), rowE 32 vo (statesPre l (l.Low.length - had.length - 1) had m : List (List Int)), blkE g1 (.cells #[wa, wb, wc, wd, we] 42), rdE wa l.Low, rdE wb l.High, rdE wc l.Start, rdE wd l.Jumps, rdE we l.Bad, rdE vh had] H25o5 := St.fin hS25o5x3
    refine exE rfl rfl ?_
    refine e_call rfl Try.call40 (arr2 (v0 := Value.agg #[wa, wb, wc, wd, we]) (v1 := v25o5) rfl rfl) (ih _ (by simp; omega) wa wb wc wd we v25o5 l (had ++ ([nth l.Low had.length + (m : Int)])) (hS25o6.rdS 4 rfl) (hS25o6.rdS 5 rfl) (hS25o6.rdS 6 rfl) (hS25o6.rdS 7 rfl) (hS25o6.rdS 8 rfl) (hS25o6.rdS 0 rfl) hl (by simp; omega) rfl) ?_
    rintro r25o6 H25o6 ⟨hxx, hrr25o6⟩
    have hS25o6x2 : St H0 NoB (fun b => S b ∧ b < H0.size) [rdE r25o6 (statesF l (l.Low.length - (had ++ ([nth l.Low had.length + (m : Int)])).length) (had ++ ([nth l.Low had.length + (m : Int)]))), rdE v25o5 (had ++ ([nth l.Low had.length + (m : Int)])), rdE v25o4 ([nth l.Low had.length + (m : Int)] : List Int), rowE 32 vo (statesPre l (l.Low.length - had.length - 1) had m : List (List Int)), blkE g1 (.cells #[wa, wb, wc, wd, we] 42), rdE wa l.Low, rdE wb l.High, rdE wc l.Start, rdE wd l.Jumps, rdE we l.Bad, rdE vh had] H25o6 := hS25o6.res hxx hrr25o6
    refine ⟨Ext.mono hxx (fun _ h => h.elim), ?_⟩
    refine wpR_n [7] (by kernel_rfl) ?_
    refine List.forall_mem_cons.2 ⟨?_, List.forall_mem_nil _⟩
    have hS25o7 : St H0 NoB (fun b => S b ∧ b < H0.size) [rowE 32 vo (statesPre l (l.Low.length - had.length - 1) had m : List (List Int)), rdE r25o6 (statesF l (l.Low.length - (had ++ ([nth l.Low had.length + (m : Int)])).length) (had ++ ([nth l.Low had.length + (m : Int)]))), rdE v25o5 (had ++ ([nth l.Low had.length + (m : Int)])), rdE v25o4 ([nth l.Low had.length + (m : Int)] : List Int), blkE g1 (.cells #[wa, wb, wc, wd, we] 42), rdE wa l.Low, rdE wb l.High, rdE wc l.Start, rdE wd l.Jumps, rdE we l.Bad, rdE vh had] H25o6 := (hS25o6x2.front 3 rfl)
    refine exE rfl rfl ?_
    refine e_append rfl Try.underlying23 em_LInt_32_LoopR2 rfl rfl hS25o7 (hS25o7.rdS 1 rfl) (fun _ h => h) (by have hb : GoT.bytes (List Int) = 24 := rfl; rw [hb]; omega) (by decide) (fun v25o7 H25o7 hS25o7x2 hxx => ?_)
    replace hS25o7x2 : St H0 NoB (fun b => S b ∧ b < H0.size) [rowE 32 v25o7 ((statesPre l (l.Low.length - had.length - 1) had m) ++ (statesF l (l.Low.length - (had ++ ([nth l.Low had.length + (m : Int)])).length) (had ++ ([nth l.Low had.length + (m : Int)]))) : List (List Int)), rdE r25o6 (statesF l (l.Low.length - (had ++ ([nth l.Low had.length + (m : Int)])).length) (had ++ ([nth l.Low had.length + (m : Int)]))), rdE v25o5 (had ++ ([nth l.Low had.length + (m : Int)])), rdE v25o4 ([nth l.Low had.length + (m : Int)] : List Int), blkE g1 (.cells #[wa, wb, wc, wd, we] 42), rdE wa l.Low, rdE wb l.High, rdE wc l.Start, rdE wd l.Jumps, rdE we l.Bad, rdE vh had] H25o7 := hS25o7x2
    have hS25o7x3 : St H0 NoB (fun b => S b ∧ b < H0.size) [rowE 32 v25o7 (statesPre l (l.Low.length - had.length - 1) had (m + 1) : List (List Int)), rdE r25o6 (statesF l (l.Low.length - (had ++ ([nth l.Low had.length + (m : Int)])).length) (had ++ ([nth l.Low had.length + (m : Int)]))), rdE v25o5 (had ++ ([nth l.Low had.length + (m : Int)])), rdE v25o4 ([nth l.Low had.length + (m : Int)] : List Int), blkE g1 (.cells #[wa, wb, wc, wd, we] 42), rdE wa l.Low, rdE wb l.High, rdE wc l.Start, rdE wd l.Jumps, rdE we l.Bad, rdE vh had] H25o7 := by rw [show (statesPre l (l.Low.length - had.length - 1) had (m + 1)) = ((statesPre l (l.Low.length - had.length - 1) had m) ++ (statesF l (l.Low.length - (had ++ ([nth l.Low had.length + (m : Int)])).length) (had ++ ([nth l.Low had.length + (m : Int)])))) from (by rw [statesPre_next (by omega), List.length_append]; rfl)]; exact hS25o7x2
    refine ⟨Ext.mono hxx (labS_of 1 rfl (fun _ _ => trivial)), ?_⟩
    refine wpR_q 8 (by kernel_rfl) rfl (quietAt rfl rfl (q_assign (v := v25o7) rfl rfl)) ?_
    refine wpR_end (by kernel_rfl) ?_
    exact ⟨v25o7, a24_1, a24_2, rfl, a24_6, (hS25o7x3.drop (sk (sn (sn (sn (sk (sk (sk (sk (sk (sk (sk (List.Sublist.slnil)))))))))))))⟩
  rintro f26 H26 ⟨v25o7, a26_1, a26_2, a26_5, a26_6, hS26⟩
  clear a24_1 a24_2 a24_5 a24_6 a24_7
  refine wpF_cut (fun f H => f 1 = vh ∧ f 2 = PT g1 0 ∧ f 5 = v25o7 ∧ f 6 = I ((nth l.Low had.length + (m : Int)) + 1) ∧ H26 = H) ?_ ?_
  · refine wpF_region ?_
    refine wpL_q (U := NoB) rfl (q_move (v := I (nth l.Low had.length + (m : Int))) rfl a26_6) ?_
    refine wpL_q (U := NoB) rfl (q_add rfl rfl rfl (by constructor <;> omega)) ?_
    refine wpL_q (U := NoB) rfl (q_assign (v := I ((nth l.Low had.length + (m : Int)) + 1)) rfl rfl) ?_
    exact ⟨a26_1, a26_2, a26_5, rfl, rfl⟩
  rintro f27 _ ⟨a27_1, a27_2, a27_5, a27_6, rfl⟩
  clear a26_1 a26_2 a26_5 a26_6
  refine ⟨_, ?_, m + 1, v25o7, rfl, (by omega), a27_1, a27_2, a27_5, (Eq.trans a27_6 (congrArg I (by omega))), hS26⟩
  omega

set_option maxRecDepth 100000 in
theorem Led_R {H0 : Heap} {S : Nat → Prop} (vw vt vs : Value) (j : Jump) (s : List Int) (rvw : Rd S H0 vw j.When) (rvt : Rd S H0 vt j.To) (rs : Rd S H0 vs s) (hj : JW j s.length) (hn8 : s.length ≤ 8) (hsm : Small s) : CallsH Try.prog 34 #[Value.agg #[vw, vt], vs] H0 (fun rv_ H' => Ext NoB H0 H' ∧ Rd (fun b => S b ∧ b < H0.size) H' rv_ (ledL j s)) := by
  have hjl := hj.len
  have hS0 : St H0 NoB (fun b => S b ∧ b < H0.size) [rdE vw j.When, rdE vt j.To, rdE vs s] H0 := St.arg (St.arg (St.arg (St.start (fun _ h => h.2)) (Bl0.nil) rs (fun _ h => h.1)) (Bl0.cons (Bl0.nil)) rvt (fun _ h => h.1)) (Bl0.cons (Bl0.cons (Bl0.nil))) rvw (fun _ h => h.1)
  refine callsH_of_wpF (args := [Value.agg #[vw, vt], vs]) (rs := [.tmp 4]) Try.func34 rfl Try.ntmps34 Try.results34 (by kernel_rfl) (Nat.le_of_ble_eq_true rfl) ?_
  have a0_0 : argF [Value.agg #[vw, vt], vs] 0 = Value.agg #[vw, vt] := rfl
  have a0_1 : argF [Value.agg #[vw, vt], vs] 1 = vs := rfl
  generalize argF [Value.agg #[vw, vt], vs] = f0 at *
  refine wpF_seq ?_
  refine wpF_cut (fun f H => ∃ (g1 : Nat), f 1 = vs ∧ f 2 = PT g1 0 ∧ St H0 NoB (fun b => S b ∧ b < H0.size) [blkE g1 (.cells #[vw, vt] 25), rdE vw j.When, rdE vt j.To, rdE vs s] H) ?_ ?_
  · refine wpF_region ?_
    refine wpL_o rfl ?_
    refine e_box (v := Value.agg #[vw, vt]) rfl a0_0 hS0 (fun g1 H2 hS3 hxx => ?_)
    replace hS3 : St H0 NoB (fun b => S b ∧ b < H0.size) [blkE g1 (.cells #[vw, vt] 25), rdE vw j.When, rdE vt j.To, rdE vs s] H2 := hS3
    refine wpL_q (U := NoB) rfl (q_assign (v := (Value.slice none 0 0)) rfl rfl) ?_
    exact ⟨g1, a0_1, rfl, hS3⟩
  rintro f4 H4 ⟨g1, a4_1, a4_2, hS4⟩
  clear a0_0 a0_1
  refine wpF_seq ?_
  refine wpF_cut (fun f H => f 1 = vs ∧ f 2 = PT g1 0 ∧ f 5 = (Value.slice none 0 0) ∧ H4 = H) ?_ ?_
  · refine wpF_region ?_
    refine wpL_q (U := NoB) rfl (q_assign (v := (Value.slice none 0 0)) rfl rfl) ?_
    exact ⟨a4_1, a4_2, rfl, rfl⟩
  rintro f5 _ ⟨a5_1, a5_2, a5_5, rfl⟩
  clear a4_1 a4_2
  have hS6 : St H0 NoB (fun b => S b ∧ b < H0.size) [rowE 3 (Value.slice none 0 0) ([] : List Int), blkE g1 (.cells #[vw, vt] 25), rdE vw j.When, rdE vt j.To, rdE vs s] H4 := hS4.row0 3
  refine wpF_seq ?_
  refine wpF_seq ?_
  refine wpF_cut (fun f H => f 1 = vs ∧ f 2 = PT g1 0 ∧ f 5 = (Value.slice none 0 0) ∧ f 6 = I (0) ∧ H4 = H) ?_ ?_
  · refine wpF_region ?_
    refine wpL_q (U := NoB) rfl (q_assign (v := I (0)) rfl rfl) ?_
    exact ⟨a5_1, a5_2, a5_5, rfl, rfl⟩
  rintro f7 _ ⟨a7_1, a7_2, a7_5, a7_6, rfl⟩
  clear a5_1 a5_2 a5_5
  refine wpF_block ?_
  refine wpF_loop (fun mz f H => ∃ (i : Nat), ∃ (vo : Value), mz = j.To.length - i ∧ (i ≤ j.To.length) ∧ f 1 = vs ∧ f 2 = PT g1 0 ∧ f 5 = vo ∧ f 6 = I ((i : Int)) ∧ St H0 NoB (fun b => S b ∧ b < H0.size) [rowE 3 vo (ledPre j s i : List Int), blkE g1 (.cells #[vw, vt] 25), rdE vw j.When, rdE vt j.To, rdE vs s] H) (j.To.length - 0) ?_ ?_
  · exact ⟨0, (Value.slice none 0 0), rfl, Nat.zero_le _, a7_1, a7_2, a7_5, (Eq.trans a7_6 (congrArg I (by omega))), (show St H0 NoB (fun b => S b ∧ b < H0.size) [rowE 3 (Value.slice none 0 0) (ledPre j s 0 : List Int), blkE g1 (.cells #[vw, vt] 25), rdE vw j.When, rdE vt j.To, rdE vs s] H4 from hS6)⟩
  intro m8 f8 H8 hI8
  obtain ⟨i, vo, hm8, hi, a8_1, a8_2, a8_5, a8_6, hS8⟩ := hI8
  clear a7_1 a7_2 a7_5 a7_6
  refine wpF_seq ?_
  refine wpF_seq ?_
  refine wpF_cut (fun f H => f 1 = vs ∧ f 2 = PT g1 0 ∧ f 5 = vo ∧ f 6 = I ((i : Int)) ∧ f 13 = B (decide ((i : Int) < (j.To.length : Int))) ∧ H8 = H) ?_ ?_
  · refine wpF_region ?_
    refine wpL_q (U := NoB) rfl (q_move (v := I ((i : Int))) rfl a8_6) ?_
    refine wpL_q (U := NoB) rfl (q_fieldAddr rfl Try.underlying25 rfl Try.sizeOf23 a8_2) ?_
    refine wpL_q (U := NoB) rfl (q_loadBlk rfl rfl Try.isAgg23 (hS8.blk 1 rfl) rfl (fun h => h)) ?_
    refine wpL_q (U := NoB) rfl (q_lenRd rfl Try.underlying23 rfl (hS8.rdl 3 rfl)) ?_
    refine wpL_q (U := NoB) rfl (q_lss rfl rfl rfl) ?_
    exact ⟨a8_1, a8_2, a8_5, a8_6, rfl, rfl⟩
  rintro f9 _ ⟨a9_1, a9_2, a9_5, a9_6, a9_13, rfl⟩
  clear a8_1 a8_2 a8_5 a8_6
  refine wpF_condP a9_13 (fun hlt => ?t35) (fun hlt => ?e35)
  case e35 =>
    have hie : i = j.To.length := by omega
    refine wpF_exit ?_
    refine atX_here ?_
    refine wpF_seq ?_
    refine wpF_cut (fun f H => f 4 = vo ∧ H8 = H) ?_ ?_
    · refine wpF_region ?_
      refine wpL_q (U := NoB) rfl (q_move (v := vo) rfl a9_5) ?_
      refine wpL_q (U := NoB) rfl (q_assign (v := vo) rfl rfl) ?_
      exact ⟨rfl, rfl⟩
    rintro f33 _ ⟨a33_4, rfl⟩
    clear a9_1 a9_13 a9_2 a9_5 a9_6
    refine wpF_ret ?_
    refine ⟨_, resT a33_4 resN, hS8.frame, ?_⟩
    show Rd (fun b => S b ∧ b < H0.size) H8 vo (ledL j s)
    have hS34 : St H0 NoB (fun b => S b ∧ b < H0.size) [rdE vo (ledPre j s i), blkE g1 (.cells #[vw, vt] 25), rdE vw j.When, rdE vt j.To, rdE vs s] H8 := St.fin hS8
    have hq : ledPre j s i = ledL j s := by rw [hie]; rfl
    rw [← hq]
    exact (hS34.result (hS34.rdS 0 rfl))
  have hat := hj.at_ (i := i) (v := s.length) (by omega) (Int.le_refl _)
  refine wpF_skip ?_
  refine wpF_seq ?_
  refine wpF_block ?_
  refine wpF_seq ?_
  obtain ⟨u11, huu11, hlu11⟩ := (Rd.list.1 (hS8.rdS 3 rfl)).elem i (by omega)
  have hS12 : St H0 NoB (fun b => S b ∧ b < H0.size) [rdE u11 (nth j.To i), rowE 3 vo (ledPre j s i : List Int), blkE g1 (.cells #[vw, vt] 25), rdE vw j.When, rdE vt j.To, rdE vs s] H8 := hS8.rd huu11
  refine wpF_cut (fun f H => f 1 = vs ∧ f 2 = PT g1 0 ∧ f 5 = vo ∧ f 6 = I ((i : Int)) ∧ f 7 = I (nth (nth j.To i) s.length) ∧ H8 = H) ?_ ?_
  · refine wpF_region ?_
    refine wpL_q (U := NoB) rfl (q_fieldAddr rfl Try.underlying25 rfl Try.sizeOf23 a9_2) ?_
    refine wpL_q (U := NoB) rfl (q_loadBlk rfl rfl Try.isAgg23 (hS8.blk 1 rfl) rfl (fun h => h)) ?_
    refine wpL_q (U := NoB) rfl (q_move (v := I ((i : Int))) rfl a9_6) ?_
    refine wpL_q (U := NoB) rfl (q_indexRd (k := i) rfl Try.underlying23 el_LInt_32_LoopR2 rfl rfl (hS8.rdl 3 rfl) (by omega) (by omega)) ?_
    refine wpL_q (U := NoB) rfl (q_loadE rfl rfl (hlu11 Try.prog 32 _ el_LInt_32_LoopR2 (fun _ h => False.elim h))) ?_
    refine wpL_q (U := NoB) rfl (q_move (v := vs) rfl a9_1) ?_
    refine wpL_q (U := NoB) rfl (q_lenRd rfl Try.underlying32 rfl (hS12.rdl 5 rfl)) ?_
    refine wpL_q (U := NoB) rfl (q_indexRd (k := s.length) rfl Try.underlying32 el_Int_3_LoopR2 rfl rfl (hS12.rdl 0 rfl) (by omega) (by omega)) ?_
    refine wpL_q (U := NoB) rfl (q_loadInt (k := s.length) rfl rfl el_Int_3_LoopR2 (hS12.rdl 0 rfl) (by omega) (fun _ h => h)) ?_
    refine wpL_q (U := NoB) rfl (q_assign (v := I (nth (nth j.To i) s.length)) rfl rfl) ?_
    exact ⟨a9_1, a9_2, a9_5, a9_6, rfl, rfl⟩
  rintro f13 _ ⟨a13_1, a13_2, a13_5, a13_6, a13_7, rfl⟩
  clear a9_1 a9_13 a9_2 a9_5 a9_6
  refine wpF_seq ?_
  refine wpF_seq ?_
  refine wpF_cut (fun f H => f 1 = vs ∧ f 2 = PT g1 0 ∧ f 5 = vo ∧ f 6 = I ((i : Int)) ∧ f 7 = I (nth (nth j.To i) s.length) ∧ f 8 = I (0) ∧ H8 = H) ?_ ?_
  · refine wpF_region ?_
    refine wpL_q (U := NoB) rfl (q_assign (v := I (0)) rfl rfl) ?_
    exact ⟨a13_1, a13_2, a13_5, a13_6, a13_7, rfl, rfl⟩
  rintro f14 _ ⟨a14_1, a14_2, a14_5, a14_6, a14_7, a14_8, rfl⟩
  clear a13_1 a13_2 a13_5 a13_6 a13_7
  refine wpF_block ?_
  refine wpF_loop (fun mz f H => ∃ (m : Nat), mz = s.length - m ∧ (m ≤ s.length) ∧ f 1 = vs ∧ f 2 = PT g1 0 ∧ f 5 = vo ∧ f 6 = I ((i : Int)) ∧ f 7 = I (ledTo j s i m) ∧ f 8 = I ((m : Int)) ∧ St H0 NoB (fun b => S b ∧ b < H0.size) [rowE 3 vo (ledPre j s i : List Int), blkE g1 (.cells #[vw, vt] 25), rdE vw j.When, rdE vt j.To, rdE vs s] H) (s.length - 0) ?_ ?_
  · exact ⟨0, rfl, Nat.zero_le _, a14_1, a14_2, a14_5, a14_6, a14_7, (Eq.trans a14_8 (congrArg I (by omega))), hS8⟩
  intro m15 f15 H15 hI15
  obtain ⟨m, hm15, hm, a15_1, a15_2, a15_5, a15_6, a15_7, a15_8, hS15⟩ := hI15
  clear a14_1 a14_2 a14_5 a14_6 a14_7 a14_8
  refine wpF_seq ?_
  refine wpF_seq ?_
  refine wpF_cut (fun f H => f 1 = vs ∧ f 2 = PT g1 0 ∧ f 5 = vo ∧ f 6 = I ((i : Int)) ∧ f 7 = I (ledTo j s i m) ∧ f 8 = I ((m : Int)) ∧ f 28 = B (decide ((m : Int) < (s.length : Int))) ∧ H15 = H) ?_ ?_
  · refine wpF_region ?_
    refine wpL_q (U := NoB) rfl (q_move (v := I ((m : Int))) rfl a15_8) ?_
    refine wpL_q (U := NoB) rfl (q_move (v := vs) rfl a15_1) ?_
    refine wpL_q (U := NoB) rfl (q_lenRd rfl Try.underlying32 rfl (hS15.rdl 4 rfl)) ?_
    refine wpL_q (U := NoB) rfl (q_lss rfl rfl rfl) ?_
    exact ⟨a15_1, a15_2, a15_5, a15_6, a15_7, a15_8, rfl, rfl⟩
  rintro f16 _ ⟨a16_1, a16_2, a16_5, a16_6, a16_7, a16_8, a16_28, rfl⟩
  clear a15_1 a15_2 a15_5 a15_6 a15_7 a15_8
  refine wpF_condP a16_28 (fun hltm => ?t32) (fun hltm => ?e32)
  case e32 =>
    have hme : m = s.length := by omega
    have hlb := led_bound (j := j) (i := i) (k := m) hj rfl hn8 hsm (by omega) (by omega)
    refine wpF_exit ?_
    refine atX_here ?_
    refine wpF_cut (fun f H => ∃ (v26 : Value), f 1 = vs ∧ f 2 = PT g1 0 ∧ f 5 = v26 ∧ f 6 = I ((i : Int)) ∧ St H0 NoB (fun b => S b ∧ b < H0.size) [rowE 3 v26 (ledPre j s (i + 1) : List Int), blkE g1 (.cells #[vw, vt] 25), rdE vw j.When, rdE vt j.To, rdE vs s] H) ?_ ?_
    · refine wpF_region ?_
      refine wpL_q (U := NoB) rfl (q_move (v := vo) rfl a16_5) ?_
      refine wpL_q (U := NoB) rfl (q_move (v := I (ledTo j s i m)) rfl a16_7) ?_
      refine wpL_o rfl ?_
      refine e_buildSlice (vs := [I (ledTo j s i m)]) (xs := ([ledTo j s i m] : List Int)) rfl Try.underlying32 Try.zeroValue3 rfl Try.sizeOf3 (par1 (v0 := I (ledTo j s i m)) rfl) rfl hS15 (RdVs.cons (Rd.int.2 ⟨rfl, by constructor <;> omega⟩) (RdVs.nil)) (by decide) (by decide) (fun v21 H22 hS23 hxx hvv21 => ?_)
      replace hS23 : St H0 NoB (fun b => S b ∧ b < H0.size) [rowE 3 v21 ([ledTo j s i m] : List Int), rowE 3 vo (ledPre j s i : List Int), blkE g1 (.cells #[vw, vt] 25), rdE vw j.When, rdE vt j.To, rdE vs s] H22 := hS23
      have hS24 : St H0 NoB (fun b => S b ∧ b < H0.size) [rdE v21 ([ledTo j s i m] : List Int), rowE 3 vo (ledPre j s i : List Int), blkE g1 (.cells #[vw, vt] 25), rdE vw j.When, rdE vt j.To, rdE vs s] H22 := St.fin hS23
      have hS25 : St H0 NoB (fun b => S b ∧ b < H0.size) [rowE 3 vo (ledPre j s i : List Int), rdE v21 ([ledTo j s i m] : List Int), blkE g1 (.cells #[vw, vt] 25), rdE vw j.When, rdE vt j.To, rdE vs s] H22 := (hS24.front 1 rfl)
      refine wpL_o rfl ?_
      refine e_append rfl Try.underlying32 em_Int_3_LoopR2 rfl rfl hS25 (hS25.rdS 1 rfl) (fun _ h => h) (by have hb : GoT.bytes Int = 8 := rfl; simp [ledPre, hb]; omega) (by decide) (fun v26 H27 hS28 hxx => ?_)
      replace hS28 : St H0 NoB (fun b => S b ∧ b < H0.size) [rowE 3 v26 ((ledPre j s i) ++ ([ledTo j s i m]) : List Int), rdE v21 ([ledTo j s i m] : List Int), blkE g1 (.cells #[vw, vt] 25), rdE vw j.When, rdE vt j.To, rdE vs s] H27 := hS28
      have hS29 : St H0 NoB (fun b => S b ∧ b < H0.size) [rowE 3 v26 (ledPre j s (i + 1) : List Int), rdE v21 ([ledTo j s i m] : List Int), blkE g1 (.cells #[vw, vt] 25), rdE vw j.When, rdE vt j.To, rdE vs s] H27 := by rw [show (ledPre j s (i + 1)) = ((ledPre j s i) ++ ([ledTo j s i m])) from (by rw [ledPre_next, hme])]; exact hS28
      refine wpL_q (U := NoB) rfl (q_assign (v := v26) rfl rfl) ?_
      exact ⟨v26, a16_1, a16_2, rfl, a16_6, (hS29.drop (sk (sn (sk (sk (sk (sk (List.Sublist.slnil))))))))⟩
    rintro f30 H30 ⟨v26, a30_1, a30_2, a30_5, a30_6, hS30⟩
    clear a16_1 a16_2 a16_28 a16_5 a16_6 a16_7 a16_8
    refine wpF_cut (fun f H => f 1 = vs ∧ f 2 = PT g1 0 ∧ f 5 = v26 ∧ f 6 = I ((i : Int) + 1) ∧ H30 = H) ?_ ?_
    · refine wpF_region ?_
      refine wpL_q (U := NoB) rfl (q_move (v := I ((i : Int))) rfl a30_6) ?_
      refine wpL_q (U := NoB) rfl (q_add rfl rfl rfl (by constructor <;> omega)) ?_
      refine wpL_q (U := NoB) rfl (q_assign (v := I ((i : Int) + 1)) rfl rfl) ?_
      exact ⟨a30_1, a30_2, a30_5, rfl, rfl⟩
    rintro f31 _ ⟨a31_1, a31_2, a31_5, a31_6, rfl⟩
    clear a30_1 a30_2 a30_5 a30_6
    refine ⟨_, ?_, i + 1, v26, rfl, (by omega), a31_1, a31_2, a31_5, (Eq.trans a31_6 (congrArg I (by omega))), hS30⟩
    omega
  have hlm := led_mul (j := j) (i := i) (k := m) hj rfl hsm (by omega) (by omega)
  have hlb := led_bound (j := j) (i := i) (k := m) hj rfl hn8 hsm (by omega) (by omega)
  have hat2 := hj.at_ (i := i) (v := m) (by omega) (by omega)
  refine wpF_skip ?_
  refine wpF_seq ?_
  refine wpF_block ?_
  obtain ⟨u18o5, huu18o5, hlu18o5⟩ := (Rd.list.1 (hS15.rdS 3 rfl)).elem i (by omega)
  have hS18o5 : St H0 NoB (fun b => S b ∧ b < H0.size) [rdE u18o5 (nth j.To i), rowE 3 vo (ledPre j s i : List Int), blkE g1 (.cells #[vw, vt] 25), rdE vw j.When, rdE vt j.To, rdE vs s] H15 := hS15.rd huu18o5
  refine wpF_cut (fun f H => f 1 = vs ∧ f 2 = PT g1 0 ∧ f 5 = vo ∧ f 6 = I ((i : Int)) ∧ f 7 = I ((ledTo j s i m) + ((nth (nth j.To i) m) * (nth s m))) ∧ f 8 = I ((m : Int)) ∧ H15 = H) ?_ ?_
  · refine wpF_drawn [] [] (fun _ _ => False) (by kernel_rfl) (by kernel_rfl) ?_
    refine wpR_q 0 (by kernel_rfl) rfl (quietAt rfl rfl (q_move (v := I (ledTo j s i m)) rfl a16_7)) ?_
    refine wpR_q 1 (by kernel_rfl) rfl (quietAt rfl rfl (q_fieldAddr rfl Try.underlying25 rfl Try.sizeOf23 a16_2)) ?_
    refine wpR_q 2 (by kernel_rfl) rfl (quietAt rfl rfl (q_loadBlk rfl rfl Try.isAgg23 (hS15.blk 1 rfl) rfl (labU_not [] rfl (List.forall_mem_nil _)))) ?_
    refine wpR_q 3 (by kernel_rfl) rfl (quietAt rfl rfl (q_move (v := I ((i : Int))) rfl a16_6)) ?_
    refine wpR_q 4 (by kernel_rfl) rfl (quietAt rfl rfl (q_indexRd (k := i) rfl Try.underlying23 el_LInt_32_LoopR2 rfl rfl (hS15.rdl 3 rfl) (by omega) (by omega))) ?_
    refine wpR_q 5 (by kernel_rfl) rfl (quietAt rfl rfl (q_loadE rfl rfl (hlu18o5 Try.prog 32 _ el_LInt_32_LoopR2 (labU_sub [] rfl (List.forall_mem_nil _))))) ?_
    refine wpR_q 6 (by kernel_rfl) rfl (quietAt rfl rfl (q_move (v := I ((m : Int))) rfl a16_8)) ?_
    refine wpR_q 7 (by kernel_rfl) rfl (quietAt rfl rfl (q_indexRd (k := m) rfl Try.underlying32 el_Int_3_LoopR2 rfl rfl (hS18o5.rdl 0 rfl) (by omega) (by omega))) ?_
    refine wpR_q 8 (by kernel_rfl) rfl (quietAt rfl rfl (q_loadInt (k := m) rfl rfl el_Int_3_LoopR2 (hS18o5.rdl 0 rfl) (by omega) (labU_sub [] rfl (List.forall_mem_nil _)))) ?_
    refine wpR_q 9 (by kernel_rfl) rfl (quietAt rfl rfl (q_move (v := vs) rfl a16_1)) ?_
    refine wpR_q 10 (by kernel_rfl) rfl (quietAt rfl rfl (q_move (v := I ((m : Int))) rfl a16_8)) ?_
    refine wpR_q 11 (by kernel_rfl) rfl (quietAt rfl rfl (q_indexRd (k := m) rfl Try.underlying32 el_Int_3_LoopR2 rfl rfl (hS18o5.rdl 5 rfl) (by omega) (by omega))) ?_
    refine wpR_q 12 (by kernel_rfl) rfl (quietAt rfl rfl (q_loadInt (k := m) rfl rfl el_Int_3_LoopR2 (hS18o5.rdl 5 rfl) (by omega) (labU_sub [] rfl (List.forall_mem_nil _)))) ?_
    refine wpR_q 13 (by kernel_rfl) rfl (quietAt rfl rfl (q_mul rfl rfl rfl (by constructor <;> omega))) ?_
    refine wpR_q 14 (by kernel_rfl) rfl (quietAt rfl rfl (q_add rfl rfl rfl (by constructor <;> omega))) ?_
    refine wpR_q 15 (by kernel_rfl) rfl (quietAt rfl rfl (q_assign (v := I ((ledTo j s i m) + ((nth (nth j.To i) m) * (nth s m)))) rfl rfl)) ?_
    refine wpR_end (by kernel_rfl) ?_
    exact ⟨a16_1, a16_2, a16_5, a16_6, rfl, a16_8, rfl⟩
  rintro f19 _ ⟨a19_1, a19_2, a19_5, a19_6, a19_7, a19_8, rfl⟩
  clear a16_1 a16_2 a16_28 a16_5 a16_6 a16_7 a16_8
  refine wpF_cut (fun f H => f 1 = vs ∧ f 2 = PT g1 0 ∧ f 5 = vo ∧ f 6 = I ((i : Int)) ∧ f 7 = I ((ledTo j s i m) + ((nth (nth j.To i) m) * (nth s m))) ∧ f 8 = I ((m : Int) + 1) ∧ H15 = H) ?_ ?_
  · refine wpF_region ?_
    refine wpL_q (U := NoB) rfl (q_move (v := I ((m : Int))) rfl a19_8) ?_
    refine wpL_q (U := NoB) rfl (q_add rfl rfl rfl (by constructor <;> omega)) ?_
    refine wpL_q (U := NoB) rfl (q_assign (v := I ((m : Int) + 1)) rfl rfl) ?_
    exact ⟨a19_1, a19_2, a19_5, a19_6, a19_7, rfl, rfl⟩
  rintro f20 _ ⟨a20_1, a20_2, a20_5, a20_6, a20_7, a20_8, rfl⟩
  clear a19_1 a19_2 a19_5 a19_6 a19_7 a19_8
  refine ⟨_, ?_, m + 1, rfl, (by omega), a20_1, a20_2, a20_5, a20_6, a20_7, (Eq.trans a20_8 (congrArg I (by omega))), hS15⟩
  omega

set_option maxHeartbeats 2000000 in
set_option maxRecDepth 100000 in
theorem Next_R {H0 : Heap} {S : Nat → Prop} (wa wb wc wd we vs : Value) (l : Loop) (s : List Int) (rwa : Rd S H0 wa l.Low) (rwb : Rd S H0 wb l.High) (rwc : Rd S H0 wc l.Start) (rwd : Rd S H0 wd l.Jumps) (rwe : Rd S H0 we l.Bad) (rs : Rd S H0 vs s) (hl : LW l) (hsl : s.length = l.Low.length) (hsm : Small s) : CallsH Try.prog 31 #[Value.agg #[wa, wb, wc, wd, we], vs] H0 (fun rv_ H' => Ext NoB H0 H' ∧ Rd (fun b => S b ∧ b < H0.size) H' rv_ (nextL l s)) := by
  have hs1 := (Rd.list.1 rwa).small
  have hs2 := (Rd.list.1 rwb).small
  have hs4 := (Rd.list.1 rwd).small
  have hss := (Rd.list.1 rs).small
  have hmany := hl.many
  have hhi := hl.high
  have hjm := hl.jumps
  have hS0 : St H0 NoB (fun b => S b ∧ b < H0.size) [rdE wa l.Low, rdE wb l.High, rdE wc l.Start, rdE wd l.Jumps, rdE we l.Bad, rdE vs s] H0 := St.arg (St.arg (St.arg (St.arg (St.arg (St.arg (St.start (fun _ h => h.2)) (Bl0.nil) rs (fun _ h => h.1)) (Bl0.cons (Bl0.nil)) rwe (fun _ h => h.1)) (Bl0.cons (Bl0.cons (Bl0.nil))) rwd (fun _ h => h.1)) (Bl0.cons (Bl0.cons (Bl0.cons (Bl0.nil)))) rwc (fun _ h => h.1)) (Bl0.cons (Bl0.cons (Bl0.cons (Bl0.cons (Bl0.nil))))) rwb (fun _ h => h.1)) (Bl0.cons (Bl0.cons (Bl0.cons (Bl0.cons (Bl0.cons (Bl0.nil)))))) rwa (fun _ h => h.1)
  refine callsH_of_wpF (args := [Value.agg #[wa, wb, wc, wd, we], vs]) (rs := [.tmp 4]) Try.func31 rfl Try.ntmps31 Try.results31 (by kernel_rfl) (Nat.le_of_ble_eq_true rfl) ?_
  have a0_0 : argF [Value.agg #[wa, wb, wc, wd, we], vs] 0 = Value.agg #[wa, wb, wc, wd, we] := rfl
  have a0_1 : argF [Value.agg #[wa, wb, wc, wd, we], vs] 1 = vs := rfl
  generalize argF [Value.agg #[wa, wb, wc, wd, we], vs] = f0 at *
  refine wpF_seq ?_
  refine wpF_cut (fun f H => ∃ (g1 : Nat), f 1 = vs ∧ f 2 = PT g1 0 ∧ St H0 NoB (fun b => S b ∧ b < H0.size) [blkE g1 (.cells #[wa, wb, wc, wd, we] 42), rdE wa l.Low, rdE wb l.High, rdE wc l.Start, rdE wd l.Jumps, rdE we l.Bad, rdE vs s] H) ?_ ?_
  · refine wpF_region ?_
    refine wpL_o rfl ?_
    refine e_box (v := Value.agg #[wa, wb, wc, wd, we]) rfl a0_0 hS0 (fun g1 H2 hS3 hxx => ?_)
    replace hS3 : St H0 NoB (fun b => S b ∧ b < H0.size) [blkE g1 (.cells #[wa, wb, wc, wd, we] 42), rdE wa l.Low, rdE wb l.High, rdE wc l.Start, rdE wd l.Jumps, rdE we l.Bad, rdE vs s] H2 := hS3
    refine wpL_q (U := NoB) rfl (q_assign (v := (Value.slice none 0 0)) rfl rfl) ?_
    exact ⟨g1, a0_1, rfl, hS3⟩
  rintro f4 H4 ⟨g1, a4_1, a4_2, hS4⟩
  clear a0_0 a0_1
  refine wpF_seq ?_
  refine wpF_cut (fun f H => f 1 = vs ∧ f 2 = PT g1 0 ∧ f 5 = (Value.slice none 0 0) ∧ H4 = H) ?_ ?_
  · refine wpF_region ?_
    refine wpL_q (U := NoB) rfl (q_assign (v := (Value.slice none 0 0)) rfl rfl) ?_
    exact ⟨a4_1, a4_2, rfl, rfl⟩
  rintro f5 _ ⟨a5_1, a5_2, a5_5, rfl⟩
  clear a4_1 a4_2
  have hS6 : St H0 NoB (fun b => S b ∧ b < H0.size) [rowE 32 (Value.slice none 0 0) ([] : List (List Int)), blkE g1 (.cells #[wa, wb, wc, wd, we] 42), rdE wa l.Low, rdE wb l.High, rdE wc l.Start, rdE wd l.Jumps, rdE we l.Bad, rdE vs s] H4 := hS4.row0 32
  refine wpF_seq ?_
  refine wpF_seq ?_
  refine wpF_cut (fun f H => f 1 = vs ∧ f 2 = PT g1 0 ∧ f 5 = (Value.slice none 0 0) ∧ f 6 = I (0) ∧ H4 = H) ?_ ?_
  · refine wpF_region ?_
    refine wpL_q (U := NoB) rfl (q_assign (v := I (0)) rfl rfl) ?_
    exact ⟨a5_1, a5_2, a5_5, rfl, rfl⟩
  rintro f7 _ ⟨a7_1, a7_2, a7_5, a7_6, rfl⟩
  clear a5_1 a5_2 a5_5
  refine wpF_block ?_
  refine wpF_loop (fun mz f H => ∃ (k : Nat), ∃ (vo : Value), mz = l.Jumps.length - k ∧ (k ≤ l.Jumps.length) ∧ f 1 = vs ∧ f 2 = PT g1 0 ∧ f 5 = vo ∧ f 6 = I ((k : Int)) ∧ St H0 NoB (fun b => S b ∧ b < H0.size) [rowE 32 vo (nextTo l s k : List (List Int)), blkE g1 (.cells #[wa, wb, wc, wd, we] 42), rdE wa l.Low, rdE wb l.High, rdE wc l.Start, rdE wd l.Jumps, rdE we l.Bad, rdE vs s] H) (l.Jumps.length - 0) ?_ ?_
  · exact ⟨0, (Value.slice none 0 0), rfl, Nat.zero_le _, a7_1, a7_2, a7_5, (Eq.trans a7_6 (congrArg I (by omega))), (show St H0 NoB (fun b => S b ∧ b < H0.size) [rowE 32 (Value.slice none 0 0) (nextTo l s 0 : List (List Int)), blkE g1 (.cells #[wa, wb, wc, wd, we] 42), rdE wa l.Low, rdE wb l.High, rdE wc l.Start, rdE wd l.Jumps, rdE we l.Bad, rdE vs s] H4 from hS6)⟩
  intro m8 f8 H8 hI8
  obtain ⟨k, vo, hm8, hk, a8_1, a8_2, a8_5, a8_6, hS8⟩ := hI8
  clear a7_1 a7_2 a7_5 a7_6
  refine wpF_seq ?_
  refine wpF_seq ?_
  refine wpF_cut (fun f H => f 1 = vs ∧ f 2 = PT g1 0 ∧ f 5 = vo ∧ f 6 = I ((k : Int)) ∧ f 12 = B (decide ((k : Int) < (l.Jumps.length : Int))) ∧ H8 = H) ?_ ?_
  · refine wpF_region ?_
    refine wpL_q (U := NoB) rfl (q_move (v := I ((k : Int))) rfl a8_6) ?_
    refine wpL_q (U := NoB) rfl (q_fieldAddr rfl Try.underlying42 rfl Try.sizeOf40 a8_2) ?_
    refine wpL_q (U := NoB) rfl (q_loadBlk rfl rfl Try.isAgg40 (hS8.blk 1 rfl) rfl (fun h => h)) ?_
    refine wpL_q (U := NoB) rfl (q_lenRd rfl Try.underlying40 rfl (hS8.rdl 5 rfl)) ?_
    refine wpL_q (U := NoB) rfl (q_lss rfl rfl rfl) ?_
    exact ⟨a8_1, a8_2, a8_5, a8_6, rfl, rfl⟩
  rintro f9 _ ⟨a9_1, a9_2, a9_5, a9_6, a9_12, rfl⟩
  clear a8_1 a8_2 a8_5 a8_6
  refine wpF_condP a9_12 (fun hltk => ?t54) (fun hltk => ?e54)
  case e54 =>
    refine wpF_exit ?_
    refine atX_here ?_
    refine wpF_seq ?_
    refine wpF_cut (fun f H => f 4 = vo ∧ H8 = H) ?_ ?_
    · refine wpF_region ?_
      refine wpL_q (U := NoB) rfl (q_move (v := vo) rfl a9_5) ?_
      refine wpL_q (U := NoB) rfl (q_assign (v := vo) rfl rfl) ?_
      exact ⟨rfl, rfl⟩
    rintro f52 _ ⟨a52_4, rfl⟩
    clear a9_1 a9_12 a9_2 a9_5 a9_6
    refine wpF_ret ?_
    refine ⟨_, resT a52_4 resN, hS8.frame, ?_⟩
    show Rd (fun b => S b ∧ b < H0.size) H8 vo (nextL l s)
    have hS53 : St H0 NoB (fun b => S b ∧ b < H0.size) [rdE vo (nextTo l s k), blkE g1 (.cells #[wa, wb, wc, wd, we] 42), rdE wa l.Low, rdE wb l.High, rdE wc l.Start, rdE wd l.Jumps, rdE we l.Bad, rdE vs s] H8 := St.fin hS8
    have hke : k = l.Jumps.length := by omega
    rw [nextL, ← hke]
    exact (hS53.result (hS53.rdS 0 rfl))
  have hjk := hl.jump k (by omega)
  have hjl := hjk.len
  have hj : JW (nth l.Jumps k) s.length := by rw [hsl]; exact hjk
  have hn8 : s.length ≤ 8 := by omega
  have hlpl : (ledL (nth l.Jumps k) s).length = l.Low.length := by rw [ledL_len]; omega
  have hnl := nextTo_len (l := l) (s := s) k
  refine wpF_skip ?_
  refine wpF_seq ?_
  refine wpF_block ?_
  refine wpF_seq ?_
  refine wpF_seq ?_
  refine wpF_cut (fun f H => f 1 = vs ∧ f 2 = PT g1 0 ∧ f 5 = vo ∧ f 6 = I ((k : Int)) ∧ f 23 = B (!(holdB ((nth l.Jumps k).When) s)) ∧ St H0 NoB (fun b => S b ∧ b < H0.size) [rowE 32 vo (nextTo l s k : List (List Int)), blkE g1 (.cells #[wa, wb, wc, wd, we] 42), rdE wa l.Low, rdE wb l.High, rdE wc l.Start, rdE wd l.Jumps, rdE we l.Bad, rdE vs s] H) ?_ ?_
  · refine wpF_region ?_
    refine wpL_q (U := NoB) rfl (q_fieldAddr rfl Try.underlying42 rfl Try.sizeOf40 a9_2) ?_
    refine wpL_q (U := NoB) rfl (q_loadBlk rfl rfl Try.isAgg40 (hS8.blk 1 rfl) rfl (fun h => h)) ?_
    refine wpL_q (U := NoB) rfl (q_move (v := I ((k : Int))) rfl a9_6) ?_
    refine wpL_q (U := NoB) rfl (q_indexRd (k := k) rfl Try.underlying40 el_Jump_25_LoopR2 rfl rfl (hS8.rdl 5 rfl) (by omega) (by omega)) ?_
    refine wpL_q (U := NoB) rfl (q_fieldE (k := k) rfl Try.underlying25 rfl Try.sizeOf22 rfl rfl (hS8.rdl 5 rfl) (by omega)) ?_
    obtain ⟨_, hcu11, hFu11⟩ := (Rd.list.1 (hS8.rdS 5 rfl)).cellF k (by omega)
    obtain ⟨u11n0, u11n1, rfl, hu110, hu111⟩ := hcu11
    have hS12 : St H0 NoB (fun b => S b ∧ b < H0.size) [rdE u11n0 ((nth l.Jumps k).When), rowE 32 vo (nextTo l s k : List (List Int)), blkE g1 (.cells #[wa, wb, wc, wd, we] 42), rdE wa l.Low, rdE wb l.High, rdE wc l.Start, rdE wd l.Jumps, rdE we l.Bad, rdE vs s] H8 := hS8.rd (Rd.list.2 hu110)
    refine wpL_q (U := NoB) rfl (q_loadF rfl rfl (hFu11 0 _ Try.prog 22 _ rfl Try.isAgg22 (fun _ h => False.elim h))) ?_
    refine wpL_q (U := NoB) rfl (q_move (v := vs) rfl a9_1) ?_
    refine wpL_o rfl ?_
    refine e_call rfl Try.call33 (arr2 (v0 := u11n0) (v1 := vs) rfl rfl) (Hold_R u11n0 vs ((nth l.Jumps k).When) s (hS12.rdN 0 rfl) (hS12.rdN 8 rfl) (HoldOk.of (hl.jump k (by omega)).when_ (by omega) hsm (by omega))) ?_
    rintro _ H13 ⟨hxx, rfl⟩
    have hS14 : St H0 NoB (fun b => S b ∧ b < H0.size) [rdE u11n0 ((nth l.Jumps k).When), rowE 32 vo (nextTo l s k : List (List Int)), blkE g1 (.cells #[wa, wb, wc, wd, we] 42), rdE wa l.Low, rdE wb l.High, rdE wc l.Start, rdE wd l.Jumps, rdE we l.Bad, rdE vs s] H13 := hS12.ext hxx
    refine wpL_q (U := NoB) rfl (q_not rfl rfl) ?_
    exact ⟨a9_1, a9_2, a9_5, a9_6, rfl, (hS14.drop (sn (sk (sk (sk (sk (sk (sk (sk (sk (List.Sublist.slnil)))))))))))⟩
  rintro f16 H16 ⟨a16_1, a16_2, a16_5, a16_6, a16_23, hS16⟩
  clear a9_1 a9_12 a9_2 a9_5 a9_6
  refine wpF_cond a16_23 (fun h23 => ?t51) (fun h23 => ?e51)
  case t51 =>
    have hno : ¬ holdB (nth l.Jumps k).When s = true := by simpa using h23
    refine wpF_exit ?_
    refine atX_here ?_
    refine wpF_cut (fun f H => f 1 = vs ∧ f 2 = PT g1 0 ∧ f 5 = vo ∧ f 6 = I ((k : Int) + 1) ∧ H16 = H) ?_ ?_
    · refine wpF_region ?_
      refine wpL_q (U := NoB) rfl (q_move (v := I ((k : Int))) rfl a16_6) ?_
      refine wpL_q (U := NoB) rfl (q_add rfl rfl rfl (by constructor <;> omega)) ?_
      refine wpL_q (U := NoB) rfl (q_assign (v := I ((k : Int) + 1)) rfl rfl) ?_
      exact ⟨a16_1, a16_2, a16_5, rfl, rfl⟩
    rintro f18 _ ⟨a18_1, a18_2, a18_5, a18_6, rfl⟩
    clear a16_1 a16_2 a16_23 a16_5 a16_6
    refine ⟨_, ?_, k + 1, vo, rfl, (by omega), a18_1, a18_2, a18_5, (Eq.trans a18_6 (congrArg I (by omega))), (show St H0 NoB (fun b => S b ∧ b < H0.size) [rowE 32 vo (nextTo l s (k + 1) : List (List Int)), blkE g1 (.cells #[wa, wb, wc, wd, we] 42), rdE wa l.Low, rdE wb l.High, rdE wc l.Start, rdE wd l.Jumps, rdE we l.Bad, rdE vs s] H16 from (by have h__ := hS16; (first | rw [← nextTo_no hno] at h__ | rw [← nextTo_out hyes (by exact fun h => h39 ⟨⟨h.1, hlpl⟩, h.2⟩)] at h__); exact h__))⟩
    omega
  have hyes : holdB (nth l.Jumps k).When s = true := by simpa using h23
  refine wpF_skip ?_
  refine wpF_seq ?_
  refine wpF_cut (fun f H => ∃ (r22 : Value), f 1 = vs ∧ f 2 = PT g1 0 ∧ f 5 = vo ∧ f 6 = I ((k : Int)) ∧ f 7 = r22 ∧ St H0 NoB (fun b => S b ∧ b < H0.size) [rdE r22 (ledL (nth l.Jumps k) s), rowE 32 vo (nextTo l s k : List (List Int)), blkE g1 (.cells #[wa, wb, wc, wd, we] 42), rdE wa l.Low, rdE wb l.High, rdE wc l.Start, rdE wd l.Jumps, rdE we l.Bad, rdE vs s] H) ?_ ?_
  · refine wpF_region ?_
    refine wpL_q (U := NoB) rfl (q_fieldAddr rfl Try.underlying42 rfl Try.sizeOf40 a16_2) ?_
    refine wpL_q (U := NoB) rfl (q_loadBlk rfl rfl Try.isAgg40 (hS16.blk 1 rfl) rfl (fun h => h)) ?_
    refine wpL_q (U := NoB) rfl (q_move (v := I ((k : Int))) rfl a16_6) ?_
    refine wpL_q (U := NoB) rfl (q_indexRd (k := k) rfl Try.underlying40 el_Jump_25_LoopR2 rfl rfl (hS16.rdl 5 rfl) (by omega) (by omega)) ?_
    obtain ⟨u19, huu19, hlu19⟩ := (Rd.list.1 (hS16.rdS 5 rfl)).elem k (by omega)
    obtain ⟨u19n0, u19n1, rfl, hu190, hu191⟩ := Rd.jump.1 huu19
    have hS20 : St H0 NoB (fun b => S b ∧ b < H0.size) [rdE u19n0 ((nth l.Jumps k).When), rowE 32 vo (nextTo l s k : List (List Int)), blkE g1 (.cells #[wa, wb, wc, wd, we] 42), rdE wa l.Low, rdE wb l.High, rdE wc l.Start, rdE wd l.Jumps, rdE we l.Bad, rdE vs s] H16 := hS16.rd hu190
    have hS21 : St H0 NoB (fun b => S b ∧ b < H0.size) [rdE u19n1 ((nth l.Jumps k).To), rdE u19n0 ((nth l.Jumps k).When), rowE 32 vo (nextTo l s k : List (List Int)), blkE g1 (.cells #[wa, wb, wc, wd, we] 42), rdE wa l.Low, rdE wb l.High, rdE wc l.Start, rdE wd l.Jumps, rdE we l.Bad, rdE vs s] H16 := hS20.rd (hu191.sub fun _ hb => SL_rd hb)
    refine wpL_q (U := NoB) rfl (q_loadE rfl rfl (hlu19 Try.prog 25 _ el_Jump_25_LoopR2 (fun _ h => False.elim h))) ?_
    refine wpL_q (U := NoB) rfl (q_move (v := vs) rfl a16_1) ?_
    refine wpL_o rfl ?_
    refine e_call rfl Try.call34 (arr2 (v0 := Value.agg #[u19n0, u19n1]) (v1 := vs) rfl rfl) (Led_R u19n0 u19n1 vs (nth l.Jumps k) s (hS21.rdS 1 rfl) (hS21.rdS 0 rfl) (hS21.rdS 9 rfl) hj hn8 hsm) ?_
    rintro r22 H23 ⟨hxx, hrr22⟩
    have hS24 : St H0 NoB (fun b => S b ∧ b < H0.size) [rdE r22 (ledL (nth l.Jumps k) s), rdE u19n1 ((nth l.Jumps k).To), rdE u19n0 ((nth l.Jumps k).When), rowE 32 vo (nextTo l s k : List (List Int)), blkE g1 (.cells #[wa, wb, wc, wd, we] 42), rdE wa l.Low, rdE wb l.High, rdE wc l.Start, rdE wd l.Jumps, rdE we l.Bad, rdE vs s] H23 := hS21.res hxx hrr22
    refine wpL_q (U := NoB) rfl (q_assign (v := r22) rfl rfl) ?_
    exact ⟨r22, a16_1, a16_2, a16_5, a16_6, rfl, (hS24.drop (sk (sn (sn (sk (sk (sk (sk (sk (sk (sk (sk (List.Sublist.slnil)))))))))))))⟩
  rintro f26 H26 ⟨r22, a26_1, a26_2, a26_5, a26_6, a26_7, hS26⟩
  clear a16_1 a16_2 a16_23 a16_5 a16_6
  refine wpF_seq ?_
  refine wpF_cut (fun f H => f 1 = vs ∧ f 2 = PT g1 0 ∧ f 5 = vo ∧ f 6 = I ((k : Int)) ∧ f 7 = r22 ∧ f 39 = B (decide ((insideB l (ledL (nth l.Jumps k) s) = true ∧ (ledL (nth l.Jumps k) s).length = l.Low.length) ∧ (¬ ((ledL (nth l.Jumps k) s) ∈ (nextTo l s k))))) ∧ St H0 NoB (fun b => S b ∧ b < H0.size) [rdE r22 (ledL (nth l.Jumps k) s), rowE 32 vo (nextTo l s k : List (List Int)), blkE g1 (.cells #[wa, wb, wc, wd, we] 42), rdE wa l.Low, rdE wb l.High, rdE wc l.Start, rdE wd l.Jumps, rdE we l.Bad, rdE vs s] H) ?_ ?_
  · refine wpF_region ?_
    refine wpL_q (U := NoB) rfl (q_loadBlkA rfl a26_2 Try.isAgg42 Try.sizeOf42 rfl (hS26.blk 2 rfl) (fun h => h)) ?_
    refine wpL_q (U := NoB) rfl (q_move (v := r22) rfl a26_7) ?_
    refine wpL_o rfl ?_
    refine e_call rfl Try.call30 (arr2 (v0 := Value.agg #[wa, wb, wc, wd, we]) (v1 := r22) rfl rfl) (Inside_R wa wb wc wd we r22 l (ledL (nth l.Jumps k) s) (hS26.rdN 3 rfl) (hS26.rdN 4 rfl) (hS26.rdN 5 rfl) (hS26.rdN 6 rfl) (hS26.rdN 7 rfl) (hS26.rdN 0 rfl) (by omega) (by omega)) ?_
    rintro _ H27 ⟨hxx, rfl⟩
    have hS28 : St H0 NoB (fun b => S b ∧ b < H0.size) [rdE r22 (ledL (nth l.Jumps k) s), rowE 32 vo (nextTo l s k : List (List Int)), blkE g1 (.cells #[wa, wb, wc, wd, we] 42), rdE wa l.Low, rdE wb l.High, rdE wc l.Start, rdE wd l.Jumps, rdE we l.Bad, rdE vs s] H27 := hS26.ext hxx
    refine wpL_q (U := NoB) rfl (q_move (v := B (decide (insideB l (ledL (nth l.Jumps k) s) = true ∧ (ledL (nth l.Jumps k) s).length = l.Low.length))) rfl rfl) ?_
    by_cases hg30 : insideB l (ledL (nth l.Jumps k) s) = true ∧ (ledL (nth l.Jumps k) s).length = l.Low.length
    · have hb31 := Eq.trans rfl (congrArg B (decide_eq_true hg30))
      refine wpL_gq (U := NoB) rfl rfl rfl hb31 (q_move (v := vo) rfl a26_5) ?_
      refine wpL_gq (U := NoB) rfl rfl rfl hb31 (q_move (v := r22) rfl a26_7) ?_
      refine wpL_go rfl rfl rfl hb31 ?_
      refine e_call rfl Try.call35 (arr2 (v0 := vo) (v1 := r22) rfl rfl) (Is_R vo r22 (nextTo l s k) (ledL (nth l.Jumps k) s) (hS28.rowN 1 rfl) (hS28.rdN 0 rfl) ) ?_
      rintro _ H33 ⟨hxx, rfl⟩
      have hS34 : St H0 NoB (fun b => S b ∧ b < H0.size) [rdE r22 (ledL (nth l.Jumps k) s), rowE 32 vo (nextTo l s k : List (List Int)), blkE g1 (.cells #[wa, wb, wc, wd, we] 42), rdE wa l.Low, rdE wb l.High, rdE wc l.Start, rdE wd l.Jumps, rdE we l.Bad, rdE vs s] H33 := hS28.ext hxx
      refine wpL_gq (U := NoB) rfl rfl rfl hb31 (q_notP rfl rfl) ?_
      refine wpL_q (U := NoB) rfl (q_pickT (v := B (decide (¬ ((ledL (nth l.Jumps k) s) ∈ (nextTo l s k))))) rfl hb31 rfl) ?_
      exact ⟨a26_1, a26_2, a26_5, a26_6, a26_7, (Eq.trans rfl (congrArg B (decide_congr_of (((not_congr Iff.rfl)).trans (((and_iff_right hg30).trans (not_congr Iff.rfl))).symm)))), hS34⟩
    · have hb32 := Eq.trans rfl (congrArg B (decide_eq_false hg30))
      refine wpL_gs rfl rfl rfl hb32 rfl ?_
      refine wpL_gs rfl rfl rfl hb32 rfl ?_
      refine wpL_gs rfl rfl rfl hb32 rfl ?_
      refine wpL_gs rfl rfl rfl hb32 rfl ?_
      refine wpL_q (U := NoB) rfl (q_pickF (v := B (false)) rfl hb32 rfl) ?_
      exact ⟨a26_1, a26_2, a26_5, a26_6, a26_7, (Eq.trans rfl (congrArg B ((decide_eq_false (fun h => hg30 h.1)).symm))), hS28⟩
  rintro f36 H36 ⟨a36_1, a36_2, a36_5, a36_6, a36_7, a36_39, hS36⟩
  clear a26_1 a26_2 a26_5 a26_6 a26_7
  refine wpF_condP a36_39 (fun h39 => ?t50) (fun h39 => ?e50)
  case e50 =>
    refine wpF_skip ?_
    refine wpF_cut (fun f H => f 1 = vs ∧ f 2 = PT g1 0 ∧ f 5 = vo ∧ f 6 = I ((k : Int) + 1) ∧ H36 = H) ?_ ?_
    · refine wpF_region ?_
      refine wpL_q (U := NoB) rfl (q_move (v := I ((k : Int))) rfl a36_6) ?_
      refine wpL_q (U := NoB) rfl (q_add rfl rfl rfl (by constructor <;> omega)) ?_
      refine wpL_q (U := NoB) rfl (q_assign (v := I ((k : Int) + 1)) rfl rfl) ?_
      exact ⟨a36_1, a36_2, a36_5, rfl, rfl⟩
    rintro f49 _ ⟨a49_1, a49_2, a49_5, a49_6, rfl⟩
    clear a36_1 a36_2 a36_39 a36_5 a36_6 a36_7
    refine ⟨_, ?_, k + 1, vo, rfl, (by omega), a49_1, a49_2, a49_5, (Eq.trans a49_6 (congrArg I (by omega))), (show St H0 NoB (fun b => S b ∧ b < H0.size) [rowE 32 vo (nextTo l s (k + 1) : List (List Int)), blkE g1 (.cells #[wa, wb, wc, wd, we] 42), rdE wa l.Low, rdE wb l.High, rdE wc l.Start, rdE wd l.Jumps, rdE we l.Bad, rdE vs s] H36 from (by have h__ := (hS36.drop (sn (sk (sk (sk (sk (sk (sk (sk (sk (List.Sublist.slnil))))))))))); (first | rw [← nextTo_no hno] at h__ | rw [← nextTo_out hyes (by exact fun h => h39 ⟨⟨h.1, hlpl⟩, h.2⟩)] at h__); exact h__))⟩
    omega
  refine wpF_cut (fun f H => ∃ (v43 : Value), f 1 = vs ∧ f 2 = PT g1 0 ∧ f 5 = v43 ∧ f 6 = I ((k : Int)) ∧ St H0 NoB (fun b => S b ∧ b < H0.size) [rowE 32 v43 (nextTo l s (k + 1) : List (List Int)), blkE g1 (.cells #[wa, wb, wc, wd, we] 42), rdE wa l.Low, rdE wb l.High, rdE wc l.Start, rdE wd l.Jumps, rdE we l.Bad, rdE vs s] H) ?_ ?_
  · refine wpF_region ?_
    refine wpL_q (U := NoB) rfl (q_move (v := vo) rfl a36_5) ?_
    refine wpL_q (U := NoB) rfl (q_move (v := r22) rfl a36_7) ?_
    refine wpL_o rfl ?_
    refine e_buildSlice (vs := [r22]) (xs := ([ledL (nth l.Jumps k) s] : List (List Int))) rfl Try.underlying23 Try.zeroValue32 rfl Try.sizeOf32 (par1 (v0 := r22) rfl) rfl hS36 (RdVs.cons (hS36.rdS 0 rfl) (RdVs.nil)) (by decide) (by decide) (fun v38 H39 hS40 hxx hvv38 => ?_)
    replace hS40 : St H0 NoB (fun b => S b ∧ b < H0.size) [rowE 32 v38 ([ledL (nth l.Jumps k) s] : List (List Int)), rdE r22 (ledL (nth l.Jumps k) s), rowE 32 vo (nextTo l s k : List (List Int)), blkE g1 (.cells #[wa, wb, wc, wd, we] 42), rdE wa l.Low, rdE wb l.High, rdE wc l.Start, rdE wd l.Jumps, rdE we l.Bad, rdE vs s] H39 := hS40
    have hS41 : St H0 NoB (fun b => S b ∧ b < H0.size) [rdE v38 ([ledL (nth l.Jumps k) s] : List (List Int)), rdE r22 (ledL (nth l.Jumps k) s), rowE 32 vo (nextTo l s k : List (List Int)), blkE g1 (.cells #[wa, wb, wc, wd, we] 42), rdE wa l.Low, rdE wb l.High, rdE wc l.Start, rdE wd l.Jumps, rdE we l.Bad, rdE vs s] H39 := St.fin hS40
    have hS42 : St H0 NoB (fun b => S b ∧ b < H0.size) [rowE 32 vo (nextTo l s k : List (List Int)), rdE v38 ([ledL (nth l.Jumps k) s] : List (List Int)), rdE r22 (ledL (nth l.Jumps k) s), blkE g1 (.cells #[wa, wb, wc, wd, we] 42), rdE wa l.Low, rdE wb l.High, rdE wc l.Start, rdE wd l.Jumps, rdE we l.Bad, rdE vs s] H39 := (hS41.front 2 rfl)
    refine wpL_o rfl ?_
    refine e_append rfl Try.underlying23 em_LInt_32_LoopR2 rfl rfl hS42 (hS42.rdS 1 rfl) (fun _ h => h) (by have hb : GoT.bytes (List Int) = 24 := rfl; simp [hb]; omega) (by decide) (fun v43 H44 hS45 hxx => ?_)
    replace hS45 : St H0 NoB (fun b => S b ∧ b < H0.size) [rowE 32 v43 ((nextTo l s k) ++ ([ledL (nth l.Jumps k) s]) : List (List Int)), rdE v38 ([ledL (nth l.Jumps k) s] : List (List Int)), rdE r22 (ledL (nth l.Jumps k) s), blkE g1 (.cells #[wa, wb, wc, wd, we] 42), rdE wa l.Low, rdE wb l.High, rdE wc l.Start, rdE wd l.Jumps, rdE we l.Bad, rdE vs s] H44 := hS45
    have hS46 : St H0 NoB (fun b => S b ∧ b < H0.size) [rowE 32 v43 (nextTo l s (k + 1) : List (List Int)), rdE v38 ([ledL (nth l.Jumps k) s] : List (List Int)), rdE r22 (ledL (nth l.Jumps k) s), blkE g1 (.cells #[wa, wb, wc, wd, we] 42), rdE wa l.Low, rdE wb l.High, rdE wc l.Start, rdE wd l.Jumps, rdE we l.Bad, rdE vs s] H44 := by rw [show (nextTo l s (k + 1)) = ((nextTo l s k) ++ ([ledL (nth l.Jumps k) s])) from (nextTo_in hyes ⟨h39.1.1, h39.2⟩)]; exact hS45
    refine wpL_q (U := NoB) rfl (q_assign (v := v43) rfl rfl) ?_
    exact ⟨v43, a36_1, a36_2, rfl, a36_6, (hS46.drop (sk (sn (sn (sk (sk (sk (sk (sk (sk (sk (List.Sublist.slnil))))))))))))⟩
  rintro f47 H47 ⟨v43, a47_1, a47_2, a47_5, a47_6, hS47⟩
  clear a36_1 a36_2 a36_39 a36_5 a36_6 a36_7
  refine wpF_cut (fun f H => f 1 = vs ∧ f 2 = PT g1 0 ∧ f 5 = v43 ∧ f 6 = I ((k : Int) + 1) ∧ H47 = H) ?_ ?_
  · refine wpF_region ?_
    refine wpL_q (U := NoB) rfl (q_move (v := I ((k : Int))) rfl a47_6) ?_
    refine wpL_q (U := NoB) rfl (q_add rfl rfl rfl (by constructor <;> omega)) ?_
    refine wpL_q (U := NoB) rfl (q_assign (v := I ((k : Int) + 1)) rfl rfl) ?_
    exact ⟨a47_1, a47_2, a47_5, rfl, rfl⟩
  rintro f48 _ ⟨a48_1, a48_2, a48_5, a48_6, rfl⟩
  clear a47_1 a47_2 a47_5 a47_6
  refine ⟨_, ?_, k + 1, v43, rfl, (by omega), a48_1, a48_2, a48_5, (Eq.trans a48_6 (congrArg I (by omega))), hS47⟩
  omega

set_option maxRecDepth 100000 in
theorem Starts_R {H0 : Heap} {S : Nat → Prop} (wa wb wc wd we : Value) (l : Loop) (rwa : Rd S H0 wa l.Low) (rwb : Rd S H0 wb l.High) (rwc : Rd S H0 wc l.Start) (rwd : Rd S H0 wd l.Jumps) (rwe : Rd S H0 we l.Bad) (hl : LW l) : CallsH Try.prog 36 #[Value.agg #[wa, wb, wc, wd, we]] H0 (fun rv_ H' => Ext NoB H0 H' ∧ (∀ e ∈ [rowE 32 rv_ (startsL l : List (List Int))], e.ok (SL (fun b => S b ∧ b < H0.size) [rowE 32 rv_ (startsL l : List (List Int))]) H') ∧ ∀ b, own [rowE 32 rv_ (startsL l : List (List Int))] b → H0.size ≤ b) := by
  have hs1 := (Rd.list.1 rwa).small
  have hs2 := (Rd.list.1 rwb).small
  have hs4 := (Rd.list.1 rwd).small
  have hmany := hl.many
  have hal := allTo_le hl (Nat.le_refl l.Low.length)
  have hS0 : St H0 NoB (fun b => S b ∧ b < H0.size) [rdE wa l.Low, rdE wb l.High, rdE wc l.Start, rdE wd l.Jumps, rdE we l.Bad] H0 := St.arg (St.arg (St.arg (St.arg (St.arg (St.start (fun _ h => h.2)) (Bl0.nil) rwe (fun _ h => h.1)) (Bl0.cons (Bl0.nil)) rwd (fun _ h => h.1)) (Bl0.cons (Bl0.cons (Bl0.nil))) rwc (fun _ h => h.1)) (Bl0.cons (Bl0.cons (Bl0.cons (Bl0.nil)))) rwb (fun _ h => h.1)) (Bl0.cons (Bl0.cons (Bl0.cons (Bl0.cons (Bl0.nil))))) rwa (fun _ h => h.1)
  refine callsH_of_wpF (args := [Value.agg #[wa, wb, wc, wd, we]]) (rs := [.tmp 2]) Try.func36 rfl Try.ntmps36 Try.results36 (by kernel_rfl) (Nat.le_of_ble_eq_true rfl) ?_
  have a0_0 : argF [Value.agg #[wa, wb, wc, wd, we]] 0 = Value.agg #[wa, wb, wc, wd, we] := rfl
  generalize argF [Value.agg #[wa, wb, wc, wd, we]] = f0 at *
  refine wpF_seq ?_
  refine wpF_cut (fun f H => ∃ (g1 : Nat), f 1 = PT g1 0 ∧ St H0 NoB (fun b => S b ∧ b < H0.size) [blkE g1 (.cells #[wa, wb, wc, wd, we] 42), rdE wa l.Low, rdE wb l.High, rdE wc l.Start, rdE wd l.Jumps, rdE we l.Bad] H) ?_ ?_
  · refine wpF_region ?_
    refine wpL_o rfl ?_
    refine e_box (v := Value.agg #[wa, wb, wc, wd, we]) rfl a0_0 hS0 (fun g1 H2 hS3 hxx => ?_)
    replace hS3 : St H0 NoB (fun b => S b ∧ b < H0.size) [blkE g1 (.cells #[wa, wb, wc, wd, we] 42), rdE wa l.Low, rdE wb l.High, rdE wc l.Start, rdE wd l.Jumps, rdE we l.Bad] H2 := hS3
    refine wpL_q (U := NoB) rfl (q_assign (v := (Value.slice none 0 0)) rfl rfl) ?_
    exact ⟨g1, rfl, hS3⟩
  rintro f4 H4 ⟨g1, a4_1, hS4⟩
  clear a0_0
  refine wpF_seq ?_
  refine wpF_cut (fun f H => f 1 = PT g1 0 ∧ f 3 = (Value.slice none 0 0) ∧ H4 = H) ?_ ?_
  · refine wpF_region ?_
    refine wpL_q (U := NoB) rfl (q_assign (v := (Value.slice none 0 0)) rfl rfl) ?_
    exact ⟨a4_1, rfl, rfl⟩
  rintro f5 _ ⟨a5_1, a5_3, rfl⟩
  clear a4_1
  have hS6 : St H0 NoB (fun b => S b ∧ b < H0.size) [rowE 32 (Value.slice none 0 0) ([] : List (List Int)), blkE g1 (.cells #[wa, wb, wc, wd, we] 42), rdE wa l.Low, rdE wb l.High, rdE wc l.Start, rdE wd l.Jumps, rdE we l.Bad] H4 := hS4.row0 32
  refine wpF_seq ?_
  refine wpF_cut (fun f H => ∃ (r7 : Value), f 1 = PT g1 0 ∧ f 3 = (Value.slice none 0 0) ∧ f 4 = r7 ∧ St H0 NoB (fun b => S b ∧ b < H0.size) [rdE r7 (statesF l l.Low.length [] : List (List Int)), rowE 32 (Value.slice none 0 0) ([] : List (List Int)), blkE g1 (.cells #[wa, wb, wc, wd, we] 42), rdE wa l.Low, rdE wb l.High, rdE wc l.Start, rdE wd l.Jumps, rdE we l.Bad] H) ?_ ?_
  · refine wpF_region ?_
    refine wpL_q (U := NoB) rfl (q_loadBlkA rfl a5_1 Try.isAgg42 Try.sizeOf42 rfl (hS6.blk 1 rfl) (fun h => h)) ?_
    refine wpL_o rfl ?_
    refine e_call rfl Try.call40 (arr2 (v0 := Value.agg #[wa, wb, wc, wd, we]) (v1 := (Value.slice none 0 0)) rfl rfl) (States_R _ wa wb wc wd we ((Value.slice none 0 0)) l [] (hS6.rdS 2 rfl) (hS6.rdS 3 rfl) (hS6.rdS 4 rfl) (hS6.rdS 5 rfl) (hS6.rdS 6 rfl) rdNil hl (Nat.zero_le _) rfl) ?_
    rintro r7 H8 ⟨hxx, hrr7⟩
    have hS9 : St H0 NoB (fun b => S b ∧ b < H0.size) [rdE r7 (statesF l l.Low.length [] : List (List Int)), rowE 32 (Value.slice none 0 0) ([] : List (List Int)), blkE g1 (.cells #[wa, wb, wc, wd, we] 42), rdE wa l.Low, rdE wb l.High, rdE wc l.Start, rdE wd l.Jumps, rdE we l.Bad] H8 := hS6.res hxx hrr7
    refine wpL_q (U := NoB) rfl (q_assign (v := r7) rfl rfl) ?_
    exact ⟨r7, a5_1, a5_3, rfl, hS9⟩
  rintro f11 H11 ⟨r7, a11_1, a11_3, a11_4, hS11⟩
  clear a5_1 a5_3
  refine wpF_seq ?_
  refine wpF_seq ?_
  refine wpF_cut (fun f H => f 1 = PT g1 0 ∧ f 3 = (Value.slice none 0 0) ∧ f 4 = r7 ∧ f 5 = I (0) ∧ H11 = H) ?_ ?_
  · refine wpF_region ?_
    refine wpL_q (U := NoB) rfl (q_assign (v := I (0)) rfl rfl) ?_
    exact ⟨a11_1, a11_3, a11_4, rfl, rfl⟩
  rintro f12 _ ⟨a12_1, a12_3, a12_4, a12_5, rfl⟩
  clear a11_1 a11_3 a11_4
  refine wpF_block ?_
  refine wpF_loop (fun mz f H => ∃ (i : Nat), ∃ (vo : Value), mz = (statesL l).length - i ∧ (i ≤ (statesL l).length) ∧ f 1 = PT g1 0 ∧ f 3 = vo ∧ f 4 = r7 ∧ f 5 = I ((i : Int)) ∧ St H0 NoB (fun b => S b ∧ b < H0.size) [rowE 32 vo (((statesL l).take i).filter (holdB l.Start) : List (List Int)), rdE r7 (statesL l), blkE g1 (.cells #[wa, wb, wc, wd, we] 42), rdE wa l.Low, rdE wb l.High, rdE wc l.Start, rdE wd l.Jumps, rdE we l.Bad] H) ((statesL l).length - 0) ?_ ?_
  · exact ⟨0, (Value.slice none 0 0), rfl, Nat.zero_le _, a12_1, a12_3, a12_4, (Eq.trans a12_5 (congrArg I (by omega))), (show St H0 NoB (fun b => S b ∧ b < H0.size) [rowE 32 (Value.slice none 0 0) (((statesL l).take 0).filter (holdB l.Start) : List (List Int)), rdE r7 (statesL l), blkE g1 (.cells #[wa, wb, wc, wd, we] 42), rdE wa l.Low, rdE wb l.High, rdE wc l.Start, rdE wd l.Jumps, rdE we l.Bad] H11 from (by have h__ := (St.drop (show St H0 NoB (fun b => S b ∧ b < H0.size) [rowE 32 (Value.slice none 0 0) ([] : List (List Int)), rdE r7 (statesF l l.Low.length [] : List (List Int)), blkE g1 (.cells #[wa, wb, wc, wd, we] 42), rdE wa l.Low, rdE wb l.High, rdE wc l.Start, rdE wd l.Jumps, rdE we l.Bad] H11 from (hS11.front 1 rfl)) (sk (sk (sk (sk (sk (sk (sk (sk (List.Sublist.slnil)))))))))); rw [states_same hl] at h__; exact h__))⟩
  intro m13 f13 H13 hI13
  obtain ⟨i, vo, hm13, hi, a13_1, a13_3, a13_4, a13_5, hS13⟩ := hI13
  clear a12_1 a12_3 a12_4 a12_5
  refine wpF_seq ?_
  refine wpF_seq ?_
  refine wpF_cut (fun f H => f 1 = PT g1 0 ∧ f 3 = vo ∧ f 4 = r7 ∧ f 5 = I ((i : Int)) ∧ f 11 = B (decide ((i : Int) < ((statesL l).length : Int))) ∧ H13 = H) ?_ ?_
  · refine wpF_region ?_
    refine wpL_q (U := NoB) rfl (q_move (v := I ((i : Int))) rfl a13_5) ?_
    refine wpL_q (U := NoB) rfl (q_move (v := r7) rfl a13_4) ?_
    refine wpL_q (U := NoB) rfl (q_lenRd rfl Try.underlying23 rfl (hS13.rdl 1 rfl)) ?_
    refine wpL_q (U := NoB) rfl (q_lss rfl rfl rfl) ?_
    exact ⟨a13_1, a13_3, a13_4, a13_5, rfl, rfl⟩
  rintro f14 _ ⟨a14_1, a14_3, a14_4, a14_5, a14_11, rfl⟩
  clear a13_1 a13_3 a13_4 a13_5
  refine wpF_condP a14_11 (fun hlt => ?t36) (fun hlt => ?e36)
  case e36 =>
    refine wpF_exit ?_
    refine atX_here ?_
    refine wpF_seq ?_
    refine wpF_cut (fun f H => f 2 = vo ∧ H13 = H) ?_ ?_
    · refine wpF_region ?_
      refine wpL_q (U := NoB) rfl (q_move (v := vo) rfl a14_3) ?_
      refine wpL_q (U := NoB) rfl (q_assign (v := vo) rfl rfl) ?_
      exact ⟨rfl, rfl⟩
    rintro f34 _ ⟨a34_2, rfl⟩
    clear a14_1 a14_11 a14_3 a14_4 a14_5
    refine wpF_ret ?_
    refine ⟨_, resT a34_2 resN, hS13.frame, ?_⟩
    show (∀ e ∈ [rowE 32 vo (startsL l : List (List Int))], e.ok (SL (fun b => S b ∧ b < H0.size) [rowE 32 vo (startsL l : List (List Int))]) H13) ∧ ∀ b, own [rowE 32 vo (startsL l : List (List Int))] b → H0.size ≤ b
    have hS35 : St H0 NoB (fun b => S b ∧ b < H0.size) [rowE 32 vo (((statesL l).take i).filter (holdB l.Start) : List (List Int))] H13 := (hS13.drop (sk (sn (sn (sn (sn (sn (sn (sn (List.Sublist.slnil))))))))))
    have hq : ((statesL l).take i).filter (holdB l.Start) = startsL l := by rw [List.take_of_length_le (by omega)]; rfl
    rw [hq] at hS35
    exact ⟨hS35.ok, St.freshA hS35⟩
  have hsll : (statesL l).length ≤ 1200 := hal
  have hff := filter_few (p := holdB l.Start) (L := statesL l) (i := i)
  have hst := allTo_mem hl _ (Nat.le_refl _) _ (nth_mem (l := statesL l) (k := i) (by omega))
  have hsm := inside_small hl hst.1 hst.2
  refine wpF_skip ?_
  refine wpF_seq ?_
  refine wpF_block ?_
  refine wpF_seq ?_
  obtain ⟨u16o5, huu16o5, hlu16o5⟩ := (Rd.list.1 (hS13.rdS 1 rfl)).elem i (by omega)
  have hS16o5 : St H0 NoB (fun b => S b ∧ b < H0.size) [rdE u16o5 (nth (statesL l) i), rowE 32 vo (((statesL l).take i).filter (holdB l.Start) : List (List Int)), rdE r7 (statesL l), blkE g1 (.cells #[wa, wb, wc, wd, we] 42), rdE wa l.Low, rdE wb l.High, rdE wc l.Start, rdE wd l.Jumps, rdE we l.Bad] H13 := hS13.rd huu16o5
  refine wpF_cut (fun f H => f 1 = PT g1 0 ∧ f 3 = vo ∧ f 4 = r7 ∧ f 5 = I ((i : Int)) ∧ f 20 = B (holdB l.Start (nth (statesL l) i)) ∧ St H0 NoB (fun b => S b ∧ b < H0.size) [rowE 32 vo (((statesL l).take i).filter (holdB l.Start) : List (List Int)), rdE r7 (statesL l), blkE g1 (.cells #[wa, wb, wc, wd, we] 42), rdE wa l.Low, rdE wb l.High, rdE wc l.Start, rdE wd l.Jumps, rdE we l.Bad] H) ?_ ?_
  · refine wpF_drawn [] [] (fun _ _ => False) (by kernel_rfl) (by kernel_rfl) ?_
    refine wpR_q 0 (by kernel_rfl) rfl (quietAt rfl rfl (q_fieldAddr rfl Try.underlying42 rfl Try.sizeOf22 a14_1)) ?_
    refine wpR_q 1 (by kernel_rfl) rfl (quietAt rfl rfl (q_loadBlk rfl rfl Try.isAgg22 (hS13.blk 2 rfl) rfl (labU_not [] rfl (List.forall_mem_nil _)))) ?_
    refine wpR_q 2 (by kernel_rfl) rfl (quietAt rfl rfl (q_move (v := r7) rfl a14_4)) ?_
    refine wpR_q 3 (by kernel_rfl) rfl (quietAt rfl rfl (q_move (v := I ((i : Int))) rfl a14_5)) ?_
    refine wpR_q 4 (by kernel_rfl) rfl (quietAt rfl rfl (q_indexRd (k := i) rfl Try.underlying23 el_LInt_32_LoopR2 rfl rfl (hS13.rdl 1 rfl) (by omega) (by omega))) ?_
    refine wpR_q 5 (by kernel_rfl) rfl (quietAt rfl rfl (q_loadE rfl rfl (hlu16o5 Try.prog 32 _ el_LInt_32_LoopR2 (labU_sub [] rfl (List.forall_mem_nil _))))) ?_
    refine wpR_n [6] (by kernel_rfl) ?_
    refine List.forall_mem_cons.2 ⟨?_, List.forall_mem_nil _⟩
    refine exE rfl rfl ?_
    refine e_call rfl Try.call33 (arr2 (v0 := wc) (v1 := u16o5) rfl rfl) (Hold_R wc u16o5 l.Start (nth (statesL l) i) (hS16o5.rdN 6 rfl) (hS16o5.rdN 0 rfl) (HoldOk.of hl.start (by omega) hsm (by omega))) ?_
    rintro _ H16o6 ⟨hxx, rfl⟩
    have hS16o6 : St H0 NoB (fun b => S b ∧ b < H0.size) [rdE u16o5 (nth (statesL l) i), rowE 32 vo (((statesL l).take i).filter (holdB l.Start) : List (List Int)), rdE r7 (statesL l), blkE g1 (.cells #[wa, wb, wc, wd, we] 42), rdE wa l.Low, rdE wb l.High, rdE wc l.Start, rdE wd l.Jumps, rdE we l.Bad] H16o6 := hS16o5.ext hxx
    refine ⟨Ext.mono hxx (fun _ h => h.elim), ?_⟩
    refine wpR_end (by kernel_rfl) ?_
    exact ⟨a14_1, a14_3, a14_4, a14_5, rfl, (hS16o6.drop (sn (sk (sk (sk (sk (sk (sk (sk (sk (List.Sublist.slnil)))))))))))⟩
  rintro f17 H17 ⟨a17_1, a17_3, a17_4, a17_5, a17_20, hS17⟩
  clear a14_1 a14_11 a14_3 a14_4 a14_5
  refine wpF_cond a17_20 (fun h20 => ?t33) (fun h20 => ?e33)
  case e33 =>
    refine wpF_skip ?_
    refine wpF_cut (fun f H => f 1 = PT g1 0 ∧ f 3 = vo ∧ f 4 = r7 ∧ f 5 = I ((i : Int) + 1) ∧ H17 = H) ?_ ?_
    · refine wpF_region ?_
      refine wpL_q (U := NoB) rfl (q_move (v := I ((i : Int))) rfl a17_5) ?_
      refine wpL_q (U := NoB) rfl (q_add rfl rfl rfl (by constructor <;> omega)) ?_
      refine wpL_q (U := NoB) rfl (q_assign (v := I ((i : Int) + 1)) rfl rfl) ?_
      exact ⟨a17_1, a17_3, a17_4, rfl, rfl⟩
    rintro f32 _ ⟨a32_1, a32_3, a32_4, a32_5, rfl⟩
    clear a17_1 a17_20 a17_3 a17_4 a17_5
    refine ⟨_, ?_, i + 1, vo, rfl, (by omega), a32_1, a32_3, a32_4, (Eq.trans a32_5 (congrArg I (by omega))), (show St H0 NoB (fun b => S b ∧ b < H0.size) [rowE 32 vo (((statesL l).take (i + 1)).filter (holdB l.Start) : List (List Int)), rdE r7 (statesL l), blkE g1 (.cells #[wa, wb, wc, wd, we] 42), rdE wa l.Low, rdE wb l.High, rdE wc l.Start, rdE wd l.Jumps, rdE we l.Bad] H17 from (by have h__ := hS17; rw [← filter_no (by omega) h20] at h__; exact h__))⟩
    omega
  obtain ⟨u19, huu19, hlu19⟩ := (Rd.list.1 (hS17.rdS 1 rfl)).elem i (by omega)
  have hS20 : St H0 NoB (fun b => S b ∧ b < H0.size) [rdE u19 (nth (statesL l) i), rowE 32 vo (((statesL l).take i).filter (holdB l.Start) : List (List Int)), rdE r7 (statesL l), blkE g1 (.cells #[wa, wb, wc, wd, we] 42), rdE wa l.Low, rdE wb l.High, rdE wc l.Start, rdE wd l.Jumps, rdE we l.Bad] H17 := hS17.rd huu19
  refine wpF_cut (fun f H => ∃ (v26 : Value), f 1 = PT g1 0 ∧ f 3 = v26 ∧ f 4 = r7 ∧ f 5 = I ((i : Int)) ∧ St H0 NoB (fun b => S b ∧ b < H0.size) [rowE 32 v26 (((statesL l).take (i + 1)).filter (holdB l.Start) : List (List Int)), rdE r7 (statesL l), blkE g1 (.cells #[wa, wb, wc, wd, we] 42), rdE wa l.Low, rdE wb l.High, rdE wc l.Start, rdE wd l.Jumps, rdE we l.Bad] H) ?_ ?_
  · refine wpF_region ?_
    refine wpL_q (U := NoB) rfl (q_move (v := vo) rfl a17_3) ?_
    refine wpL_q (U := NoB) rfl (q_move (v := r7) rfl a17_4) ?_
    refine wpL_q (U := NoB) rfl (q_move (v := I ((i : Int))) rfl a17_5) ?_
    refine wpL_q (U := NoB) rfl (q_indexRd (k := i) rfl Try.underlying23 el_LInt_32_LoopR2 rfl rfl (hS17.rdl 1 rfl) (by omega) (by omega)) ?_
    refine wpL_q (U := NoB) rfl (q_loadE rfl rfl (hlu19 Try.prog 32 _ el_LInt_32_LoopR2 (fun _ h => False.elim h))) ?_
    refine wpL_o rfl ?_
    refine e_buildSlice (vs := [u19]) (xs := ([nth (statesL l) i] : List (List Int))) rfl Try.underlying23 Try.zeroValue32 rfl Try.sizeOf32 (par1 (v0 := u19) rfl) rfl hS20 (RdVs.cons (hS20.rdS 0 rfl) (RdVs.nil)) (by decide) (by decide) (fun v21 H22 hS23 hxx hvv21 => ?_)
    replace hS23 : St H0 NoB (fun b => S b ∧ b < H0.size) [rowE 32 v21 ([nth (statesL l) i] : List (List Int)), rdE u19 (nth (statesL l) i), rowE 32 vo (((statesL l).take i).filter (holdB l.Start) : List (List Int)), rdE r7 (statesL l), blkE g1 (.cells #[wa, wb, wc, wd, we] 42), rdE wa l.Low, rdE wb l.High, rdE wc l.Start, rdE wd l.Jumps, rdE we l.Bad] H22 := hS23
    have hS24 : St H0 NoB (fun b => S b ∧ b < H0.size) [rdE v21 ([nth (statesL l) i] : List (List Int)), rdE u19 (nth (statesL l) i), rowE 32 vo (((statesL l).take i).filter (holdB l.Start) : List (List Int)), rdE r7 (statesL l), blkE g1 (.cells #[wa, wb, wc, wd, we] 42), rdE wa l.Low, rdE wb l.High, rdE wc l.Start, rdE wd l.Jumps, rdE we l.Bad] H22 := St.fin hS23
    have hS25 : St H0 NoB (fun b => S b ∧ b < H0.size) [rowE 32 vo (((statesL l).take i).filter (holdB l.Start) : List (List Int)), rdE v21 ([nth (statesL l) i] : List (List Int)), rdE u19 (nth (statesL l) i), rdE r7 (statesL l), blkE g1 (.cells #[wa, wb, wc, wd, we] 42), rdE wa l.Low, rdE wb l.High, rdE wc l.Start, rdE wd l.Jumps, rdE we l.Bad] H22 := (hS24.front 2 rfl)
    refine wpL_o rfl ?_
    refine e_append rfl Try.underlying23 em_LInt_32_LoopR2 rfl rfl hS25 (hS25.rdS 1 rfl) (fun _ h => h) (by have hb : GoT.bytes (List Int) = 24 := rfl; simp [hb]; omega) (by decide) (fun v26 H27 hS28 hxx => ?_)
    replace hS28 : St H0 NoB (fun b => S b ∧ b < H0.size) [rowE 32 v26 ((((statesL l).take i).filter (holdB l.Start)) ++ ([nth (statesL l) i]) : List (List Int)), rdE v21 ([nth (statesL l) i] : List (List Int)), rdE u19 (nth (statesL l) i), rdE r7 (statesL l), blkE g1 (.cells #[wa, wb, wc, wd, we] 42), rdE wa l.Low, rdE wb l.High, rdE wc l.Start, rdE wd l.Jumps, rdE we l.Bad] H27 := hS28
    have hS29 : St H0 NoB (fun b => S b ∧ b < H0.size) [rowE 32 v26 (((statesL l).take (i + 1)).filter (holdB l.Start) : List (List Int)), rdE v21 ([nth (statesL l) i] : List (List Int)), rdE u19 (nth (statesL l) i), rdE r7 (statesL l), blkE g1 (.cells #[wa, wb, wc, wd, we] 42), rdE wa l.Low, rdE wb l.High, rdE wc l.Start, rdE wd l.Jumps, rdE we l.Bad] H27 := by rw [show (((statesL l).take (i + 1)).filter (holdB l.Start)) = ((((statesL l).take i).filter (holdB l.Start)) ++ ([nth (statesL l) i])) from (filter_yes (by omega) h20)]; exact hS28
    refine wpL_q (U := NoB) rfl (q_assign (v := v26) rfl rfl) ?_
    exact ⟨v26, a17_1, rfl, a17_4, a17_5, (hS29.drop (sk (sn (sn (sk (sk (sk (sk (sk (sk (sk (List.Sublist.slnil))))))))))))⟩
  rintro f30 H30 ⟨v26, a30_1, a30_3, a30_4, a30_5, hS30⟩
  clear a17_1 a17_20 a17_3 a17_4 a17_5
  refine wpF_cut (fun f H => f 1 = PT g1 0 ∧ f 3 = v26 ∧ f 4 = r7 ∧ f 5 = I ((i : Int) + 1) ∧ H30 = H) ?_ ?_
  · refine wpF_region ?_
    refine wpL_q (U := NoB) rfl (q_move (v := I ((i : Int))) rfl a30_5) ?_
    refine wpL_q (U := NoB) rfl (q_add rfl rfl rfl (by constructor <;> omega)) ?_
    refine wpL_q (U := NoB) rfl (q_assign (v := I ((i : Int) + 1)) rfl rfl) ?_
    exact ⟨a30_1, a30_3, a30_4, rfl, rfl⟩
  rintro f31 _ ⟨a31_1, a31_3, a31_4, a31_5, rfl⟩
  clear a30_1 a30_3 a30_4 a30_5
  refine ⟨_, ?_, i + 1, v26, rfl, (by omega), a31_1, a31_3, a31_4, (Eq.trans a31_5 (congrArg I (by omega))), hS30⟩
  omega

end Go.Um
