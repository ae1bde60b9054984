import Derived.Test.YtfgibfbgklkgbaaProg
import Derived.Test.YtfgibfbgklkgbaaLoopS2
import Derived.Test.YtfgibfbgklkgbaaUmSub
namespace Go.Um
open Go.Proofs
open GoT (sz ag rdc)
open KeyT (kv)

theorem el_Int_3_LoopS3 : ElT Try.prog Int 3 := ⟨Try.isAgg3, Try.sizeOf3⟩
theorem el_LInt_32_LoopS3 : ElT Try.prog (List Int) 32 := ⟨Try.isAgg32, Try.sizeOf32⟩
theorem em_Int_3_LoopS3 : ElemOk Try.prog Int 3 := ⟨Try.t3, (.int .i64 0), by kernel_rfl, by kernel_rfl, by kernel_rfl, by kernel_rfl, by kernel_rfl⟩
theorem em_LInt_32_LoopS3 : ElemOk Try.prog (List Int) 32 := ⟨Try.t32, (.slice none 0 0), by kernel_rfl, by kernel_rfl, by kernel_rfl, by kernel_rfl, by kernel_rfl⟩

set_option maxRecDepth 100000 in
theorem Clip {H0 : Heap} (va : Value) (a : List Int) (ra : Rd NoB H0 va a) : CallsH Try.prog 72 #[va] H0 (fun rv_ H' => Ext NoB H0 H' ∧ rv_ = clipV va) := by
  have hS0 : St H0 NoB NoB [rdE va a] H0 := St.arg (St.start (fun _ h => h.elim)) (Bl0.nil) ra (fun _ h => h)
  refine callsH_of_wpF (args := [va]) (rs := [.tmp 2]) Try.func72 rfl Try.ntmps72 Try.results72 (by kernel_rfl) (Nat.le_of_ble_eq_true rfl) ?_
  have a0_0 : argF [va] 0 = va := rfl
  generalize argF [va] = f0 at *
  refine wpF_seq ?_
  refine wpF_cut (fun f H => f 0 = va ∧ H0 = H) ?_ ?_
  · refine wpF_region ?_
    refine wpL_q (U := NoB) rfl (q_assign (v := (Value.slice none 0 0)) rfl rfl) ?_
    exact ⟨a0_0, rfl⟩
  rintro f1 _ ⟨a1_0, rfl⟩
  clear a0_0
  refine wpF_seq ?_
  refine wpF_cut (fun f H => f 2 = (clipV va) ∧ H0 = H) ?_ ?_
  · refine wpF_region ?_
    refine wpL_q (U := NoB) rfl (q_move (v := va) rfl a1_0) ?_
    refine wpL_q (U := NoB) rfl (q_move (v := va) rfl a1_0) ?_
    refine wpL_q (U := NoB) rfl (q_lenRd rfl Try.underlying32 rfl (hS0.rdl 0 rfl)) ?_
    refine wpL_q (U := NoB) rfl (q_move (v := va) rfl a1_0) ?_
    refine wpL_q (U := NoB) rfl (q_lenRd rfl Try.underlying32 rfl (hS0.rdl 0 rfl)) ?_
    refine wpL_q (U := NoB) rfl (q_clip rfl Try.underlying32 el_Int_3_LoopS3 rfl (hS0.rdl 0 rfl) rfl rfl) ?_
    refine wpL_q (U := NoB) rfl (q_assign (v := (clipV va)) rfl rfl) ?_
    exact ⟨rfl, rfl⟩
  rintro f2 _ ⟨a2_2, rfl⟩
  clear a1_0
  refine wpF_ret ?_
  refine ⟨_, resT a2_2 resN, hS0.frame, ?_⟩
  show (clipV va) = clipV va
  rfl

set_option maxHeartbeats 1000000 in
set_option maxRecDepth 100000 in
theorem All_L {H0 : Heap} {S : Nat → Prop} (wa wb wc wd we : Value) (l : Loop) (rwa : Rd S H0 wa l.Low) (rwb : Rd S H0 wb l.High) (rwc : Rd S H0 wc l.Start) (rwd : Rd S H0 wd l.Jumps) (rwe : Rd S H0 we l.Bad) (hl : LW l) : CallsH Try.prog 51 #[Value.agg #[wa, wb, wc, wd, we]] H0 (fun rv_ H' => Ext NoB H0 H' ∧ Rd (fun b => S b ∧ b < H0.size) H' rv_ (statesL l)) := by
  have hs1 := (Rd.list.1 rwa).small
  have hs2 := (Rd.list.1 rwb).small
  have hs4 := (Rd.list.1 rwd).small
  have hmany := hl.many
  have hhi := hl.high
  have hS0 : St H0 NoB (fun b => S b ∧ b < H0.size) [rdE wa l.Low, rdE wb l.High, rdE wc l.Start, rdE wd l.Jumps, rdE we l.Bad] H0 := St.arg (St.arg (St.arg (St.arg (St.arg (St.start (fun _ h => h.2)) (Bl0.nil) rwe (fun _ h => h.1)) (Bl0.cons (Bl0.nil)) rwd (fun _ h => h.1)) (Bl0.cons (Bl0.cons (Bl0.nil))) rwc (fun _ h => h.1)) (Bl0.cons (Bl0.cons (Bl0.cons (Bl0.nil)))) rwb (fun _ h => h.1)) (Bl0.cons (Bl0.cons (Bl0.cons (Bl0.cons (Bl0.nil))))) rwa (fun _ h => h.1)
  refine callsH_of_wpF (args := [Value.agg #[wa, wb, wc, wd, we]]) (rs := [.tmp 2]) Try.func51 rfl Try.ntmps51 Try.results51 (by kernel_rfl) (Nat.le_of_ble_eq_true rfl) ?_
  have a0_0 : argF [Value.agg #[wa, wb, wc, wd, we]] 0 = Value.agg #[wa, wb, wc, wd, we] := rfl
  generalize argF [Value.agg #[wa, wb, wc, wd, we]] = f0 at *
  refine wpF_seq ?_
  refine wpF_cut (fun f H => ∃ (g1 : Nat), f 1 = PT g1 0 ∧ St H0 NoB (fun b => S b ∧ b < H0.size) [blkE g1 (.cells #[wa, wb, wc, wd, we] 42), rdE wa l.Low, rdE wb l.High, rdE wc l.Start, rdE wd l.Jumps, rdE we l.Bad] H) ?_ ?_
  · refine wpF_region ?_
    refine wpL_o rfl ?_
    refine e_box (v := Value.agg #[wa, wb, wc, wd, we]) rfl a0_0 hS0 (fun g1 H2 hS3 hxx => ?_)
    replace hS3 : St H0 NoB (fun b => S b ∧ b < H0.size) [blkE g1 (.cells #[wa, wb, wc, wd, we] 42), rdE wa l.Low, rdE wb l.High, rdE wc l.Start, rdE wd l.Jumps, rdE we l.Bad] H2 := hS3
    refine wpL_q (U := NoB) rfl (q_assign (v := (Value.slice none 0 0)) rfl rfl) ?_
    exact ⟨g1, rfl, hS3⟩
  rintro f4 H4 ⟨g1, a4_1, hS4⟩
  clear a0_0
  refine wpF_seq ?_
  refine wpF_cut (fun f H => ∃ (v5 : Value), f 1 = PT g1 0 ∧ f 3 = v5 ∧ St H0 NoB (fun b => S b ∧ b < H0.size) [rowE 32 v5 ([[]] : List (List Int)), blkE g1 (.cells #[wa, wb, wc, wd, we] 42), rdE wa l.Low, rdE wb l.High, rdE wc l.Start, rdE wd l.Jumps, rdE we l.Bad] H) ?_ ?_
  · refine wpF_region ?_
    refine wpL_o rfl ?_
    refine e_buildSlice (vs := [(Value.slice none 0 0)]) (xs := ([[]] : List (List Int))) rfl Try.underlying23 Try.zeroValue32 rfl Try.sizeOf32 (par1 (v0 := (Value.slice none 0 0)) rfl) rfl hS4 (RdVs.cons (rdNil) (RdVs.nil)) (by decide) (by decide) (fun v5 H6 hS7 hxx hvv5 => ?_)
    replace hS7 : St H0 NoB (fun b => S b ∧ b < H0.size) [rowE 32 v5 ([[]] : List (List Int)), blkE g1 (.cells #[wa, wb, wc, wd, we] 42), rdE wa l.Low, rdE wb l.High, rdE wc l.Start, rdE wd l.Jumps, rdE we l.Bad] H6 := hS7
    refine wpL_q (U := NoB) rfl (q_assign (v := v5) rfl rfl) ?_
    exact ⟨v5, a4_1, rfl, hS7⟩
  rintro f8 H8 ⟨v5, a8_1, a8_3, hS8⟩
  clear a4_1
  have hS9 : St H0 NoB (fun b => S b ∧ b < H0.size) [rdE v5 ([[]] : List (List Int)), blkE g1 (.cells #[wa, wb, wc, wd, we] 42), rdE wa l.Low, rdE wb l.High, rdE wc l.Start, rdE wd l.Jumps, rdE we l.Bad] H8 := St.fin hS8
  refine wpF_seq ?_
  refine wpF_seq ?_
  refine wpF_cut (fun f H => f 1 = PT g1 0 ∧ f 3 = v5 ∧ f 12 = I ((l.Low.length : Int)) ∧ f 13 = I (0) ∧ H8 = H) ?_ ?_
  · refine wpF_region ?_
    refine wpL_q (U := NoB) rfl (q_fieldAddr rfl Try.underlying42 rfl Try.sizeOf32 a8_1) ?_
    refine wpL_q (U := NoB) rfl (q_loadBlk rfl rfl Try.isAgg32 (hS9.blk 1 rfl) rfl (fun h => h)) ?_
    refine wpL_q (U := NoB) rfl (q_lenRd rfl Try.underlying32 rfl (hS9.rdl 2 rfl)) ?_
    refine wpL_q (U := NoB) rfl (q_move (v := I (0)) rfl rfl) ?_
    exact ⟨a8_1, a8_3, rfl, rfl, rfl⟩
  rintro f10 _ ⟨a10_1, a10_3, a10_12, a10_13, rfl⟩
  clear a8_1 a8_3
  refine wpF_block ?_
  refine wpF_loop (fun mz f H => ∃ (i : Nat), ∃ (vo : Value), mz = l.Low.length - i ∧ (i ≤ l.Low.length) ∧ f 1 = PT g1 0 ∧ f 3 = vo ∧ f 12 = I ((l.Low.length : Int)) ∧ f 13 = I ((i : Int)) ∧ St H0 NoB (fun b => S b ∧ b < H0.size) [rdE vo (allTo l i), blkE g1 (.cells #[wa, wb, wc, wd, we] 42), rdE wa l.Low, rdE wb l.High, rdE wc l.Start, rdE wd l.Jumps, rdE we l.Bad] H) (l.Low.length - 0) ?_ ?_
  · exact ⟨0, v5, rfl, Nat.zero_le _, a10_1, a10_3, a10_12, (Eq.trans a10_13 (congrArg I (by omega))), (show St H0 NoB (fun b => S b ∧ b < H0.size) [rdE v5 (allTo l 0), blkE g1 (.cells #[wa, wb, wc, wd, we] 42), rdE wa l.Low, rdE wb l.High, rdE wc l.Start, rdE wd l.Jumps, rdE we l.Bad] H8 from hS9)⟩
  intro m11 f11 H11 hI11
  obtain ⟨i, vo, hm11, hi, a11_1, a11_3, a11_12, a11_13, hS11⟩ := hI11
  clear a10_1 a10_12 a10_13 a10_3
  refine wpF_seq ?_
  refine wpF_cut (fun f H => f 1 = PT g1 0 ∧ f 3 = vo ∧ f 12 = I ((l.Low.length : Int)) ∧ f 13 = I ((i : Int)) ∧ f 14 = B (decide ((i : Int) < (l.Low.length : Int))) ∧ H11 = H) ?_ ?_
  · refine wpF_region ?_
    refine wpL_q (U := NoB) rfl (q_lss rfl a11_13 a11_12) ?_
    exact ⟨a11_1, a11_3, a11_12, a11_13, rfl, rfl⟩
  rintro f12 _ ⟨a12_1, a12_3, a12_12, a12_13, a12_14, rfl⟩
  clear a11_1 a11_12 a11_13 a11_3
  refine wpF_seq ?_
  refine wpF_condP a12_14 (fun hlt => ?t57) (fun hlt => ?e57)
  case e57 =>
    refine wpF_exit ?_
    refine atX_here ?_
    refine wpF_seq ?_
    refine wpF_cut (fun f H => f 2 = vo ∧ H11 = H) ?_ ?_
    · refine wpF_region ?_
      refine wpL_q (U := NoB) rfl (q_move (v := vo) rfl a12_3) ?_
      refine wpL_q (U := NoB) rfl (q_assign (v := vo) rfl rfl) ?_
      exact ⟨rfl, rfl⟩
    rintro f56 _ ⟨a56_2, rfl⟩
    clear a12_1 a12_12 a12_13 a12_14 a12_3
    refine wpF_ret ?_
    refine ⟨_, resT a56_2 resN, hS11.frame, ?_⟩
    show Rd (fun b => S b ∧ b < H0.size) H11 vo (statesL l)
    have hie : i = l.Low.length := by omega
    rw [statesL, ← hie]
    exact (hS11.result (hS11.rdS 0 rfl))
  have hfc := hl.fac (k := i) (by omega)
  have hfi : facI l i = nth l.High i - nth l.Low i + 1 := rfl
  have hac := allTo_le hl (i := i) (by omega)
  refine wpF_skip ?_
  refine wpF_seq ?_
  refine wpF_block ?_
  refine wpF_seq ?_
  refine wpF_cut (fun f H => f 1 = PT g1 0 ∧ f 3 = vo ∧ f 4 = I ((i : Int)) ∧ f 12 = I ((l.Low.length : Int)) ∧ f 13 = I ((i : Int)) ∧ H11 = H) ?_ ?_
  · refine wpF_region ?_
    refine wpL_q (U := NoB) rfl (q_move (v := I ((i : Int))) rfl a12_13) ?_
    refine wpL_q (U := NoB) rfl (q_assign (v := I ((i : Int))) rfl rfl) ?_
    exact ⟨a12_1, a12_3, rfl, a12_12, a12_13, rfl⟩
  rintro f14 _ ⟨a14_1, a14_3, a14_4, a14_12, a14_13, rfl⟩
  clear a12_1 a12_12 a12_13 a12_14 a12_3
  refine wpF_seq ?_
  refine wpF_cut (fun f H => f 1 = PT g1 0 ∧ f 3 = vo ∧ f 4 = I ((i : Int)) ∧ f 5 = (Value.slice none 0 0) ∧ f 12 = I ((l.Low.length : Int)) ∧ f 13 = I ((i : Int)) ∧ H11 = H) ?_ ?_
  · refine wpF_region ?_
    refine wpL_q (U := NoB) rfl (q_assign (v := (Value.slice none 0 0)) rfl rfl) ?_
    exact ⟨a14_1, a14_3, a14_4, rfl, a14_12, a14_13, rfl⟩
  rintro f15 _ ⟨a15_1, a15_3, a15_4, a15_5, a15_12, a15_13, rfl⟩
  clear a14_1 a14_12 a14_13 a14_3 a14_4
  have hS16 : St H0 NoB (fun b => S b ∧ b < H0.size) [rowE 32 (Value.slice none 0 0) ([] : List (List Int)), rdE vo (allTo l i), blkE g1 (.cells #[wa, wb, wc, wd, we] 42), rdE wa l.Low, rdE wb l.High, rdE wc l.Start, rdE wd l.Jumps, rdE we l.Bad] H11 := hS11.row0 32
  refine wpF_seq ?_
  refine wpF_seq ?_
  refine wpF_cut (fun f H => f 1 = PT g1 0 ∧ f 4 = I ((i : Int)) ∧ f 5 = (Value.slice none 0 0) ∧ f 12 = I ((l.Low.length : Int)) ∧ f 13 = I ((i : Int)) ∧ f 16 = vo ∧ f 17 = I (((allTo l i).length : Int)) ∧ f 18 = I (0) ∧ H11 = H) ?_ ?_
  · refine wpF_region ?_
    refine wpL_q (U := NoB) rfl (q_move (v := vo) rfl a15_3) ?_
    refine wpL_q (U := NoB) rfl (q_lenRd rfl Try.underlying23 rfl (hS16.rdl 1 rfl)) ?_
    refine wpL_q (U := NoB) rfl (q_move (v := I (0)) rfl rfl) ?_
    exact ⟨a15_1, a15_4, a15_5, a15_12, a15_13, rfl, rfl, rfl, rfl⟩
  rintro f17 _ ⟨a17_1, a17_4, a17_5, a17_12, a17_13, a17_16, a17_17, a17_18, rfl⟩
  clear a15_1 a15_12 a15_13 a15_3 a15_4 a15_5
  refine wpF_block ?_
  refine wpF_loop (fun mz f H => ∃ (k : Nat), ∃ (vn : Value), mz = (allTo l i).length - k ∧ (k ≤ (allTo l i).length) ∧ f 1 = PT g1 0 ∧ f 4 = I ((i : Int)) ∧ f 5 = vn ∧ f 12 = I ((l.Low.length : Int)) ∧ f 13 = I ((i : Int)) ∧ f 16 = vo ∧ f 17 = I (((allTo l i).length : Int)) ∧ f 18 = I ((k : Int)) ∧ St H0 NoB (fun b => S b ∧ b < H0.size) [rowE 32 vn (allPre l i k 0 : List (List Int)), rdE vo (allTo l i), blkE g1 (.cells #[wa, wb, wc, wd, we] 42), rdE wa l.Low, rdE wb l.High, rdE wc l.Start, rdE wd l.Jumps, rdE we l.Bad] H) ((allTo l i).length - 0) ?_ ?_
  · exact ⟨0, (Value.slice none 0 0), rfl, Nat.zero_le _, a17_1, a17_4, a17_5, a17_12, a17_13, a17_16, a17_17, (Eq.trans a17_18 (congrArg I (by omega))), (show St H0 NoB (fun b => S b ∧ b < H0.size) [rowE 32 (Value.slice none 0 0) (allPre l i 0 0 : List (List Int)), rdE vo (allTo l i), blkE g1 (.cells #[wa, wb, wc, wd, we] 42), rdE wa l.Low, rdE wb l.High, rdE wc l.Start, rdE wd l.Jumps, rdE we l.Bad] H11 from hS16)⟩
  intro m18 f18 H18 hI18
  obtain ⟨k, vn, hm18, hk, a18_1, a18_4, a18_5, a18_12, a18_13, a18_16, a18_17, a18_18, hS18⟩ := hI18
  clear a17_1 a17_12 a17_13 a17_16 a17_17 a17_18 a17_4 a17_5
  refine wpF_seq ?_
  refine wpF_cut (fun f H => f 1 = PT g1 0 ∧ f 4 = I ((i : Int)) ∧ f 5 = vn ∧ f 12 = I ((l.Low.length : Int)) ∧ f 13 = I ((i : Int)) ∧ f 16 = vo ∧ f 17 = I (((allTo l i).length : Int)) ∧ f 18 = I ((k : Int)) ∧ f 19 = B (decide ((k : Int) < ((allTo l i).length : Int))) ∧ H18 = H) ?_ ?_
  · refine wpF_region ?_
    refine wpL_q (U := NoB) rfl (q_lss rfl a18_18 a18_17) ?_
    exact ⟨a18_1, a18_4, a18_5, a18_12, a18_13, a18_16, a18_17, a18_18, rfl, rfl⟩
  rintro f19 _ ⟨a19_1, a19_4, a19_5, a19_12, a19_13, a19_16, a19_17, a19_18, a19_19, rfl⟩
  clear a18_1 a18_12 a18_13 a18_16 a18_17 a18_18 a18_4 a18_5
  refine wpF_seq ?_
  refine wpF_condP a19_19 (fun hltk => ?t55) (fun hltk => ?e55)
  case e55 =>
    refine wpF_exit ?_
    refine atX_here ?_
    refine wpF_cut (fun f H => f 1 = PT g1 0 ∧ f 3 = vn ∧ f 12 = I ((l.Low.length : Int)) ∧ f 13 = I ((i : Int)) ∧ H18 = H) ?_ ?_
    · refine wpF_region ?_
      refine wpL_q (U := NoB) rfl (q_move (v := vn) rfl a19_5) ?_
      refine wpL_q (U := NoB) rfl (q_assign (v := vn) rfl rfl) ?_
      exact ⟨a19_1, rfl, a19_12, a19_13, rfl⟩
    rintro f52 _ ⟨a52_1, a52_3, a52_12, a52_13, rfl⟩
    clear a19_1 a19_12 a19_13 a19_16 a19_17 a19_18 a19_19 a19_4 a19_5
    have hS53 : St H0 NoB (fun b => S b ∧ b < H0.size) [rdE vn (allPre l i k 0), rdE vo (allTo l i), blkE g1 (.cells #[wa, wb, wc, wd, we] 42), rdE wa l.Low, rdE wb l.High, rdE wc l.Start, rdE wd l.Jumps, rdE we l.Bad] H18 := St.fin hS18
    refine wpF_cut (fun f H => f 1 = PT g1 0 ∧ f 3 = vn ∧ f 12 = I ((l.Low.length : Int)) ∧ f 13 = I ((i : Int) + 1) ∧ H18 = H) ?_ ?_
    · refine wpF_region ?_
      refine wpL_q (U := NoB) rfl (q_add rfl a52_13 rfl (by constructor <;> omega)) ?_
      refine wpL_q (U := NoB) rfl (q_move (v := I ((i : Int) + 1)) rfl rfl) ?_
      exact ⟨a52_1, a52_3, a52_12, rfl, rfl⟩
    rintro f54 _ ⟨a54_1, a54_3, a54_12, a54_13, rfl⟩
    clear a52_1 a52_12 a52_13 a52_3
    refine ⟨_, ?_, i + 1, vn, rfl, (by omega), a54_1, a54_3, a54_12, (Eq.trans a54_13 (congrArg I (by omega))), (show St H0 NoB (fun b => S b ∧ b < H0.size) [rdE vn (allTo l (i + 1)), blkE g1 (.cells #[wa, wb, wc, wd, we] 42), rdE wa l.Low, rdE wb l.High, rdE wc l.Start, rdE wd l.Jumps, rdE we l.Bad] H18 from (by have h__ := (hS53.drop (sk (sn (sk (sk (sk (sk (sk (sk (List.Sublist.slnil)))))))))); rw [allPre_all (by omega)] at h__; exact h__))⟩
    omega
  have hsl := allTo_at hl (i := i) (by omega) (k := k) (by omega)
  refine wpF_skip ?_
  refine wpF_seq ?_
  refine wpF_block ?_
  refine wpF_seq ?_
  obtain ⟨u21, huu21, hlu21⟩ := (Rd.list.1 (hS18.rdS 1 rfl)).elem k (by omega)
  have hS22 : St H0 NoB (fun b => S b ∧ b < H0.size) [rdE u21 (nth (allTo l i) k), rowE 32 vn (allPre l i k 0 : List (List Int)), rdE vo (allTo l i), blkE g1 (.cells #[wa, wb, wc, wd, we] 42), rdE wa l.Low, rdE wb l.High, rdE wc l.Start, rdE wd l.Jumps, rdE we l.Bad] H18 := hS18.rd huu21
  refine wpF_cut (fun f H => f 1 = PT g1 0 ∧ f 4 = I ((i : Int)) ∧ f 5 = vn ∧ f 7 = u21 ∧ f 12 = I ((l.Low.length : Int)) ∧ f 13 = I ((i : Int)) ∧ f 16 = vo ∧ f 17 = I (((allTo l i).length : Int)) ∧ f 18 = I ((k : Int)) ∧ St H0 NoB (fun b => S b ∧ b < H0.size) [rdE u21 (nth (allTo l i) k), rowE 32 vn (allPre l i k 0 : List (List Int)), rdE vo (allTo l i), blkE g1 (.cells #[wa, wb, wc, wd, we] 42), rdE wa l.Low, rdE wb l.High, rdE wc l.Start, rdE wd l.Jumps, rdE we l.Bad] H) ?_ ?_
  · refine wpF_region ?_
    refine wpL_q (U := NoB) rfl (q_indexRd (k := k) rfl Try.underlying23 el_LInt_32_LoopS3 a19_16 a19_18 (hS18.rdl 1 rfl) (by omega) (by omega)) ?_
    refine wpL_q (U := NoB) rfl (q_loadE rfl rfl (hlu21 Try.prog 32 _ el_LInt_32_LoopS3 (fun _ h => False.elim h))) ?_
    refine wpL_q (U := NoB) rfl (q_assign (v := u21) rfl rfl) ?_
    exact ⟨a19_1, a19_4, a19_5, rfl, a19_12, a19_13, a19_16, a19_17, a19_18, hS22⟩
  rintro f23 H23 ⟨a23_1, a23_4, a23_5, a23_7, a23_12, a23_13, a23_16, a23_17, a23_18, hS23⟩
  clear a19_1 a19_12 a19_13 a19_16 a19_17 a19_18 a19_19 a19_4 a19_5
  refine wpF_seq ?_
  refine wpF_cut (fun f H => f 1 = PT g1 0 ∧ f 4 = I ((i : Int)) ∧ f 5 = vn ∧ f 7 = u21 ∧ f 8 = I (nth l.Low i) ∧ f 12 = I ((l.Low.length : Int)) ∧ f 13 = I ((i : Int)) ∧ f 16 = vo ∧ f 17 = I (((allTo l i).length : Int)) ∧ f 18 = I ((k : Int)) ∧ H23 = H) ?_ ?_
  · refine wpF_region ?_
    refine wpL_q (U := NoB) rfl (q_fieldAddr rfl Try.underlying42 rfl Try.sizeOf32 a23_1) ?_
    refine wpL_q (U := NoB) rfl (q_loadBlk rfl rfl Try.isAgg32 (hS23.blk 3 rfl) rfl (fun h => h)) ?_
    refine wpL_q (U := NoB) rfl (q_move (v := I ((i : Int))) rfl a23_4) ?_
    refine wpL_q (U := NoB) rfl (q_indexRd (k := i) rfl Try.underlying32 el_Int_3_LoopS3 rfl rfl (hS23.rdl 4 rfl) (by omega) (by omega)) ?_
    refine wpL_q (U := NoB) rfl (q_loadInt (k := i) rfl rfl el_Int_3_LoopS3 (hS23.rdl 4 rfl) (by omega) (fun _ h => h)) ?_
    refine wpL_q (U := NoB) rfl (q_assign (v := I (nth l.Low i)) rfl rfl) ?_
    exact ⟨a23_1, a23_4, a23_5, a23_7, rfl, a23_12, a23_13, a23_16, a23_17, a23_18, rfl⟩
  rintro f24 _ ⟨a24_1, a24_4, a24_5, a24_7, a24_8, a24_12, a24_13, a24_16, a24_17, a24_18, rfl⟩
  clear a23_1 a23_12 a23_13 a23_16 a23_17 a23_18 a23_4 a23_5 a23_7
  refine wpF_block ?_
  refine wpF_loop (fun mz f H => ∃ (m : Nat), ∃ (v6 : Value), mz = (facI l i).toNat - m ∧ (m ≤ (facI l i).toNat) ∧ f 1 = PT g1 0 ∧ f 4 = I ((i : Int)) ∧ f 5 = v6 ∧ f 7 = u21 ∧ f 8 = I (nth l.Low i + (m : Int)) ∧ f 12 = I ((l.Low.length : Int)) ∧ f 13 = I ((i : Int)) ∧ f 16 = vo ∧ f 17 = I (((allTo l i).length : Int)) ∧ f 18 = I ((k : Int)) ∧ St H0 NoB (fun b => S b ∧ b < H0.size) [rowE 32 v6 (allPre l i k m : List (List Int)), rdE u21 (nth (allTo l i) k), rdE vo (allTo l i), blkE g1 (.cells #[wa, wb, wc, wd, we] 42), rdE wa l.Low, rdE wb l.High, rdE wc l.Start, rdE wd l.Jumps, rdE we l.Bad] H) ((facI l i).toNat - 0) ?_ ?_
  · exact ⟨0, vn, rfl, Nat.zero_le _, a24_1, a24_4, a24_5, a24_7, (Eq.trans a24_8 (congrArg I (by omega))), a24_12, a24_13, a24_16, a24_17, a24_18, (St.drop (show St H0 NoB (fun b => S b ∧ b < H0.size) [rowE 32 vn (allPre l i k 0 : List (List Int)), rdE u21 (nth (allTo l i) k), rdE vo (allTo l i), blkE g1 (.cells #[wa, wb, wc, wd, we] 42), rdE wa l.Low, rdE wb l.High, rdE wc l.Start, rdE wd l.Jumps, rdE we l.Bad] H23 from (hS23.front 1 rfl)) (sk (sk (sk (sk (sk (sk (sk (sk (sk (List.Sublist.slnil)))))))))))⟩
  intro m25 f25 H25 hI25
  obtain ⟨m, v6, hm25, hm, a25_1, a25_4, a25_5, a25_7, a25_8, a25_12, a25_13, a25_16, a25_17, a25_18, hS25⟩ := hI25
  clear a24_1 a24_12 a24_13 a24_16 a24_17 a24_18 a24_4 a24_5 a24_7 a24_8
  refine wpF_seq ?_
  refine wpF_seq ?_
  refine wpF_cut (fun f H => f 1 = PT g1 0 ∧ f 4 = I ((i : Int)) ∧ f 5 = v6 ∧ f 7 = u21 ∧ f 8 = I (nth l.Low i + (m : Int)) ∧ f 12 = I ((l.Low.length : Int)) ∧ f 13 = I ((i : Int)) ∧ f 16 = vo ∧ f 17 = I (((allTo l i).length : Int)) ∧ f 18 = I ((k : Int)) ∧ f 33 = B (decide ((nth l.Low i + (m : Int)) ≤ (nth l.High i))) ∧ H25 = H) ?_ ?_
  · refine wpF_region ?_
    refine wpL_q (U := NoB) rfl (q_move (v := I (nth l.Low i + (m : Int))) rfl a25_8) ?_
    refine wpL_q (U := NoB) rfl (q_fieldAddr rfl Try.underlying42 rfl Try.sizeOf32 a25_1) ?_
    refine wpL_q (U := NoB) rfl (q_loadBlk rfl rfl Try.isAgg32 (hS25.blk 3 rfl) rfl (fun h => h)) ?_
    refine wpL_q (U := NoB) rfl (q_move (v := I ((i : Int))) rfl a25_4) ?_
    refine wpL_q (U := NoB) rfl (q_indexRd (k := i) rfl Try.underlying32 el_Int_3_LoopS3 rfl rfl (hS25.rdl 5 rfl) (by omega) (by omega)) ?_
    refine wpL_q (U := NoB) rfl (q_loadInt (k := i) rfl rfl el_Int_3_LoopS3 (hS25.rdl 5 rfl) (by omega) (fun _ h => h)) ?_
    refine wpL_q (U := NoB) rfl (q_leq rfl rfl rfl) ?_
    exact ⟨a25_1, a25_4, a25_5, a25_7, a25_8, a25_12, a25_13, a25_16, a25_17, a25_18, rfl, rfl⟩
  rintro f26 _ ⟨a26_1, a26_4, a26_5, a26_7, a26_8, a26_12, a26_13, a26_16, a26_17, a26_18, a26_33, rfl⟩
  clear a25_1 a25_12 a25_13 a25_16 a25_17 a25_18 a25_4 a25_5 a25_7 a25_8
  refine wpF_condP a26_33 (fun hle => ?t51) (fun hle => ?e51)
  case e51 =>
    refine wpF_exit ?_
    refine atX_here ?_
    refine wpF_cut (fun f H => f 1 = PT g1 0 ∧ f 4 = I ((i : Int)) ∧ f 5 = v6 ∧ f 12 = I ((l.Low.length : Int)) ∧ f 13 = I ((i : Int)) ∧ f 16 = vo ∧ f 17 = I (((allTo l i).length : Int)) ∧ f 18 = I ((k : Int) + 1) ∧ H25 = H) ?_ ?_
    · refine wpF_region ?_
      refine wpL_q (U := NoB) rfl (q_add rfl a26_18 rfl (by constructor <;> omega)) ?_
      refine wpL_q (U := NoB) rfl (q_move (v := I ((k : Int) + 1)) rfl rfl) ?_
      exact ⟨a26_1, a26_4, a26_5, a26_12, a26_13, a26_16, a26_17, rfl, rfl⟩
    rintro f50 _ ⟨a50_1, a50_4, a50_5, a50_12, a50_13, a50_16, a50_17, a50_18, rfl⟩
    clear a26_1 a26_12 a26_13 a26_16 a26_17 a26_18 a26_33 a26_4 a26_5 a26_7 a26_8
    refine ⟨_, ?_, k + 1, v6, rfl, (by omega), a50_1, a50_4, a50_5, a50_12, a50_13, a50_16, a50_17, (Eq.trans a50_18 (congrArg I (by omega))), (show St H0 NoB (fun b => S b ∧ b < H0.size) [rowE 32 v6 (allPre l i (k + 1) 0 : List (List Int)), rdE vo (allTo l i), blkE g1 (.cells #[wa, wb, wc, wd, we] 42), rdE wa l.Low, rdE wb l.High, rdE wc l.Start, rdE wd l.Jumps, rdE we l.Bad] H25 from (by have h__ := (hS25.drop (sk (sn (sk (sk (sk (sk (sk (sk (sk (List.Sublist.slnil))))))))))); rw [allPre_row (by omega) (by omega)] at h__; exact h__))⟩
    omega
  have hpf := allPre_few hl (i := i) (k := k) (m := m) (by omega) (by omega)
  refine wpF_skip ?_
  refine wpF_seq ?_
  refine wpF_block ?_
  refine wpF_cut (fun f H => ∃ (v44 : Value), f 1 = PT g1 0 ∧ f 4 = I ((i : Int)) ∧ f 5 = v44 ∧ f 7 = u21 ∧ f 8 = I (nth l.Low i + (m : Int)) ∧ f 12 = I ((l.Low.length : Int)) ∧ f 13 = I ((i : Int)) ∧ f 16 = vo ∧ f 17 = I (((allTo l i).length : Int)) ∧ f 18 = I ((k : Int)) ∧ St H0 NoB (fun b => S b ∧ b < H0.size) [rowE 32 v44 (allPre l i k (m + 1) : List (List Int)), rdE u21 (nth (allTo l i) k), rdE vo (allTo l i), blkE g1 (.cells #[wa, wb, wc, wd, we] 42), rdE wa l.Low, rdE wb l.High, rdE wc l.Start, rdE wd l.Jumps, rdE we l.Bad] H) ?_ ?_
  · refine wpF_region ?_
    refine wpL_q (U := NoB) rfl (q_move (v := v6) rfl a26_5) ?_
    refine wpL_q (U := NoB) rfl (q_move (v := u21) rfl a26_7) ?_
    refine wpL_o rfl ?_
    refine e_call rfl Try.call72 (arr1 (v0 := u21) rfl) (Clip u21 _ (hS25.rdN 1 rfl)) ?_
    rintro _ H28 ⟨hxx, rfl⟩
    have hS29 : St H0 NoB (fun b => S b ∧ b < H0.size) [rdE (clipV u21) (nth (allTo l i) k : List Int), rowE 32 v6 (allPre l i k m : List (List Int)), rdE u21 (nth (allTo l i) k), rdE vo (allTo l i), blkE g1 (.cells #[wa, wb, wc, wd, we] 42), rdE wa l.Low, rdE wb l.High, rdE wc l.Start, rdE wd l.Jumps, rdE we l.Bad] H28 := ((hS25.ext hxx).rd (Rd.list.2 (RdL.clip (Rd.list.1 ((hS25.ext hxx).rdS 1 rfl)))))
    refine wpL_q (U := NoB) rfl (q_move (v := I (nth l.Low i + (m : Int))) rfl a26_8) ?_
    refine wpL_o rfl ?_
    refine e_buildSlice (vs := [I (nth l.Low i + (m : Int))]) (xs := ([nth l.Low i + (m : Int)] : List Int)) rfl Try.underlying32 Try.zeroValue3 rfl Try.sizeOf3 (par1 (v0 := I (nth l.Low i + (m : Int))) rfl) rfl hS29 (RdVs.cons (Rd.int.2 ⟨rfl, by constructor <;> omega⟩) (RdVs.nil)) (by decide) (by decide) (fun v31 H32 hS33 hxx hvv31 => ?_)
    replace hS33 : St H0 NoB (fun b => S b ∧ b < H0.size) [rowE 3 v31 ([nth l.Low i + (m : Int)] : List Int), rdE (clipV u21) (nth (allTo l i) k : List Int), rowE 32 v6 (allPre l i k m : List (List Int)), rdE u21 (nth (allTo l i) k), rdE vo (allTo l i), blkE g1 (.cells #[wa, wb, wc, wd, we] 42), rdE wa l.Low, rdE wb l.High, rdE wc l.Start, rdE wd l.Jumps, rdE we l.Bad] H32 := hS33
    have hS34 : St H0 NoB (fun b => S b ∧ b < H0.size) [rdE v31 ([nth l.Low i + (m : Int)] : List Int), rdE (clipV u21) (nth (allTo l i) k : List Int), rowE 32 v6 (allPre l i k m : List (List Int)), rdE u21 (nth (allTo l i) k), rdE vo (allTo l i), blkE g1 (.cells #[wa, wb, wc, wd, we] 42), rdE wa l.Low, rdE wb l.High, rdE wc l.Start, rdE wd l.Jumps, rdE we l.Bad] H32 := St.fin hS33
    refine wpL_o rfl ?_
    refine e_appendTight rfl Try.underlying32 em_Int_3_LoopS3 rfl rfl hS34 (hS34.rdS 1 rfl) (RdL.tight (hS34.rdl 3 rfl)) (hS34.rdS 0 rfl) (by simp) (by have hb : GoT.bytes Int = 8 := rfl; simp [hb]; omega) (by decide) (fun v35 H36 hS37 hxx => ?_)
    replace hS37 : St H0 NoB (fun b => S b ∧ b < H0.size) [rowE 3 v35 ((nth (allTo l i) k) ++ ([nth l.Low i + (m : Int)]) : List Int), rdE v31 ([nth l.Low i + (m : Int)] : List Int), rdE (clipV u21) (nth (allTo l i) k : List Int), rowE 32 v6 (allPre l i k m : List (List Int)), rdE u21 (nth (allTo l i) k), rdE vo (allTo l i), blkE g1 (.cells #[wa, wb, wc, wd, we] 42), rdE wa l.Low, rdE wb l.High, rdE wc l.Start, rdE wd l.Jumps, rdE we l.Bad] H36 := hS37
    have hS38 : St H0 NoB (fun b => S b ∧ b < H0.size) [rdE v35 ((nth (allTo l i) k) ++ ([nth l.Low i + (m : Int)])), rdE v31 ([nth l.Low i + (m : Int)] : List Int), rdE (clipV u21) (nth (allTo l i) k : List Int), rowE 32 v6 (allPre l i k m : List (List Int)), rdE u21 (nth (allTo l i) k), rdE vo (allTo l i), blkE g1 (.cells #[wa, wb, wc, wd, we] 42), rdE wa l.Low, rdE wb l.High, rdE wc l.Start, rdE wd l.Jumps, rdE we l.Bad] H36 := St.fin hS37
    refine wpL_o rfl ?_
    refine e_buildSlice (vs := [v35]) (xs := ([(nth (allTo l i) k) ++ ([nth l.Low i + (m : Int)])] : List (List Int))) rfl Try.underlying23 Try.zeroValue32 rfl Try.sizeOf32 (par1 (v0 := v35) rfl) rfl hS38 (RdVs.cons (hS38.rdS 0 rfl) (RdVs.nil)) (by decide) (by decide) (fun v39 H40 hS41 hxx hvv39 => ?_)
    replace hS41 : St H0 NoB (fun b => S b ∧ b < H0.size) [rowE 32 v39 ([(nth (allTo l i) k) ++ ([nth l.Low i + (m : Int)])] : List (List Int)), rdE v35 ((nth (allTo l i) k) ++ ([nth l.Low i + (m : Int)])), rdE v31 ([nth l.Low i + (m : Int)] : List Int), rdE (clipV u21) (nth (allTo l i) k : List Int), rowE 32 v6 (allPre l i k m : List (List Int)), rdE u21 (nth (allTo l i) k), rdE vo (allTo l i), blkE g1 (.cells #[wa, wb, wc, wd, we] 42), rdE wa l.Low, rdE wb l.High, rdE wc l.Start, rdE wd l.Jumps, rdE we l.Bad] H40 := hS41
    have hS42 : St H0 NoB (fun b => S b ∧ b < H0.size) [rdE v39 ([(nth (allTo l i) k) ++ ([nth l.Low i + (m : Int)])] : List (List Int)), rdE v35 ((nth (allTo l i) k) ++ ([nth l.Low i + (m : Int)])), rdE v31 ([nth l.Low i + (m : Int)] : List Int), rdE (clipV u21) (nth (allTo l i) k : List Int), rowE 32 v6 (allPre l i k m : List (List Int)), rdE u21 (nth (allTo l i) k), rdE vo (allTo l i), blkE g1 (.cells #[wa, wb, wc, wd, we] 42), rdE wa l.Low, rdE wb l.High, rdE wc l.Start, rdE wd l.Jumps, rdE we l.Bad] H40 := St.fin hS41
    have hS43 : St H0 NoB (fun b => S b ∧ b < H0.size) [rowE 32 v6 (allPre l i k m : List (List Int)), rdE v39 ([(nth (allTo l i) k) ++ ([nth l.Low i + (m : Int)])] : List (List Int)), rdE v35 ((nth (allTo l i) k) ++ ([nth l.Low i + (m : Int)])), rdE v31 ([nth l.Low i + (m : Int)] : List Int), rdE (clipV u21) (nth (allTo l i) k : List Int), rdE u21 (nth (allTo l i) k), rdE vo (allTo l i), blkE g1 (.cells #[wa, wb, wc, wd, we] 42), rdE wa l.Low, rdE wb l.High, rdE wc l.Start, rdE wd l.Jumps, rdE we l.Bad] H40 := (hS42.front 4 rfl)
    refine wpL_o rfl ?_
    refine e_append rfl Try.underlying23 em_LInt_32_LoopS3 rfl rfl hS43 (hS43.rdS 1 rfl) (fun _ h => h) (by have hb : GoT.bytes (List Int) = 24 := rfl; simp [hb]; omega) (by decide) (fun v44 H45 hS46 hxx => ?_)
    replace hS46 : St H0 NoB (fun b => S b ∧ b < H0.size) [rowE 32 v44 ((allPre l i k m) ++ ([(nth (allTo l i) k) ++ ([nth l.Low i + (m : Int)])]) : List (List Int)), rdE v39 ([(nth (allTo l i) k) ++ ([nth l.Low i + (m : Int)])] : List (List Int)), rdE v35 ((nth (allTo l i) k) ++ ([nth l.Low i + (m : Int)])), rdE v31 ([nth l.Low i + (m : Int)] : List Int), rdE (clipV u21) (nth (allTo l i) k : List Int), rdE u21 (nth (allTo l i) k), rdE vo (allTo l i), blkE g1 (.cells #[wa, wb, wc, wd, we] 42), rdE wa l.Low, rdE wb l.High, rdE wc l.Start, rdE wd l.Jumps, rdE we l.Bad] H45 := hS46
    have hS47 : St H0 NoB (fun b => S b ∧ b < H0.size) [rowE 32 v44 (allPre l i k (m + 1) : List (List Int)), rdE v39 ([(nth (allTo l i) k) ++ ([nth l.Low i + (m : Int)])] : List (List Int)), rdE v35 ((nth (allTo l i) k) ++ ([nth l.Low i + (m : Int)])), rdE v31 ([nth l.Low i + (m : Int)] : List Int), rdE (clipV u21) (nth (allTo l i) k : List Int), rdE u21 (nth (allTo l i) k), rdE vo (allTo l i), blkE g1 (.cells #[wa, wb, wc, wd, we] 42), rdE wa l.Low, rdE wb l.High, rdE wc l.Start, rdE wd l.Jumps, rdE we l.Bad] H45 := by rw [show (allPre l i k (m + 1)) = ((allPre l i k m) ++ ([(nth (allTo l i) k) ++ ([nth l.Low i + (m : Int)])])) from (allPre_next (by omega))]; exact hS46
    refine wpL_q (U := NoB) rfl (q_assign (v := v44) rfl rfl) ?_
    exact ⟨v44, a26_1, a26_4, rfl, a26_7, a26_8, a26_12, a26_13, a26_16, a26_17, a26_18, (hS47.drop (sk (sn (sn (sn (sn (sk (sk (sk (sk (sk (sk (sk (sk (List.Sublist.slnil)))))))))))))))⟩
  rintro f48 H48 ⟨v44, a48_1, a48_4, a48_5, a48_7, a48_8, a48_12, a48_13, a48_16, a48_17, a48_18, hS48⟩
  clear a26_1 a26_12 a26_13 a26_16 a26_17 a26_18 a26_33 a26_4 a26_5 a26_7 a26_8
  refine wpF_cut (fun f H => f 1 = PT g1 0 ∧ f 4 = I ((i : Int)) ∧ f 5 = v44 ∧ f 7 = u21 ∧ f 8 = I ((nth l.Low i + (m : Int)) + 1) ∧ f 12 = I ((l.Low.length : Int)) ∧ f 13 = I ((i : Int)) ∧ f 16 = vo ∧ f 17 = I (((allTo l i).length : Int)) ∧ f 18 = I ((k : Int)) ∧ H48 = H) ?_ ?_
  · refine wpF_region ?_
    refine wpL_q (U := NoB) rfl (q_move (v := I (nth l.Low i + (m : Int))) rfl a48_8) ?_
    refine wpL_q (U := NoB) rfl (q_add rfl rfl rfl (by constructor <;> omega)) ?_
    refine wpL_q (U := NoB) rfl (q_assign (v := I ((nth l.Low i + (m : Int)) + 1)) rfl rfl) ?_
    exact ⟨a48_1, a48_4, a48_5, a48_7, rfl, a48_12, a48_13, a48_16, a48_17, a48_18, rfl⟩
  rintro f49 _ ⟨a49_1, a49_4, a49_5, a49_7, a49_8, a49_12, a49_13, a49_16, a49_17, a49_18, rfl⟩
  clear a48_1 a48_12 a48_13 a48_16 a48_17 a48_18 a48_4 a48_5 a48_7 a48_8
  refine ⟨_, ?_, m + 1, v44, rfl, (by omega), a49_1, a49_4, a49_5, a49_7, (Eq.trans a49_8 (congrArg I (by omega))), a49_12, a49_13, a49_16, a49_17, a49_18, hS48⟩
  omega

end Go.Um
