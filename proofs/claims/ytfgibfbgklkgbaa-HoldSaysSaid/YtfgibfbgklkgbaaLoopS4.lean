import Derived.Test.YtfgibfbgklkgbaaProg
import Derived.Test.YtfgibfbgklkgbaaLoopS3
import Derived.Test.YtfgibfbgklkgbaaUmSub
namespace Go.Um
open Go.Proofs
open GoT (sz ag rdc)
open KeyT (kv)

theorem el_Int_3_LoopS4 : ElT Try.prog Int 3 := ⟨Try.isAgg3, Try.sizeOf3⟩
theorem el_Jump_25_LoopS4 : ElT Try.prog Jump 25 := ⟨Try.isAgg25, Try.sizeOf25⟩
theorem el_LInt_32_LoopS4 : ElT Try.prog (List Int) 32 := ⟨Try.isAgg32, Try.sizeOf32⟩
theorem em_Int_3_LoopS4 : ElemOk Try.prog Int 3 := ⟨Try.t3, (.int .i64 0), by kernel_rfl, by kernel_rfl, by kernel_rfl, by kernel_rfl, by kernel_rfl⟩
theorem em_LInt_32_LoopS4 : ElemOk Try.prog (List Int) 32 := ⟨Try.t32, (.slice none 0 0), by kernel_rfl, by kernel_rfl, by kernel_rfl, by kernel_rfl, by kernel_rfl⟩

set_option maxHeartbeats 2000000 in
set_option maxRecDepth 100000 in
theorem Succ_L {H0 : Heap} {S : Nat → Prop} (wa wb wc wd we vs : Value) (l : Loop) (s : List Int) (rwa : Rd S H0 wa l.Low) (rwb : Rd S H0 wb l.High) (rwc : Rd S H0 wc l.Start) (rwd : Rd S H0 wd l.Jumps) (rwe : Rd S H0 we l.Bad) (rs : Rd S H0 vs s) (hl : LW l) (hsl : s.length = l.Low.length) (hsm : Small s) : CallsH Try.prog 55 #[Value.agg #[wa, wb, wc, wd, we], vs] H0 (fun rv_ H' => Ext NoB H0 H' ∧ Rd (fun b => S b ∧ b < H0.size) H' rv_ (nextL l s)) := by
  have hs1 := (Rd.list.1 rwa).small
  have hs2 := (Rd.list.1 rwb).small
  have hs4 := (Rd.list.1 rwd).small
  have hss := (Rd.list.1 rs).small
  have hmany := hl.many
  have hhi := hl.high
  have hjm := hl.jumps
  have hS0 : St H0 NoB (fun b => S b ∧ b < H0.size) [rdE wa l.Low, rdE wb l.High, rdE wc l.Start, rdE wd l.Jumps, rdE we l.Bad, rdE vs s] H0 := St.arg (St.arg (St.arg (St.arg (St.arg (St.arg (St.start (fun _ h => h.2)) (Bl0.nil) rs (fun _ h => h.1)) (Bl0.cons (Bl0.nil)) rwe (fun _ h => h.1)) (Bl0.cons (Bl0.cons (Bl0.nil))) rwd (fun _ h => h.1)) (Bl0.cons (Bl0.cons (Bl0.cons (Bl0.nil)))) rwc (fun _ h => h.1)) (Bl0.cons (Bl0.cons (Bl0.cons (Bl0.cons (Bl0.nil))))) rwb (fun _ h => h.1)) (Bl0.cons (Bl0.cons (Bl0.cons (Bl0.cons (Bl0.cons (Bl0.nil)))))) rwa (fun _ h => h.1)
  refine callsH_of_wpF (args := [Value.agg #[wa, wb, wc, wd, we], vs]) (rs := [.tmp 4]) Try.func55 rfl Try.ntmps55 Try.results55 (by kernel_rfl) (Nat.le_of_ble_eq_true rfl) ?_
  have a0_0 : argF [Value.agg #[wa, wb, wc, wd, we], vs] 0 = Value.agg #[wa, wb, wc, wd, we] := rfl
  have a0_1 : argF [Value.agg #[wa, wb, wc, wd, we], vs] 1 = vs := rfl
  generalize argF [Value.agg #[wa, wb, wc, wd, we], vs] = f0 at *
  refine wpF_seq ?_
  refine wpF_cut (fun f H => ∃ (g1 : Nat), f 1 = vs ∧ f 2 = PT g1 0 ∧ St H0 NoB (fun b => S b ∧ b < H0.size) [blkE g1 (.cells #[wa, wb, wc, wd, we] 42), rdE wa l.Low, rdE wb l.High, rdE wc l.Start, rdE wd l.Jumps, rdE we l.Bad, rdE vs s] H) ?_ ?_
  · refine wpF_region ?_
    refine wpL_o rfl ?_
    refine e_box (v := Value.agg #[wa, wb, wc, wd, we]) rfl a0_0 hS0 (fun g1 H2 hS3 hxx => ?_)
    replace hS3 : St H0 NoB (fun b => S b ∧ b < H0.size) [blkE g1 (.cells #[wa, wb, wc, wd, we] 42), rdE wa l.Low, rdE wb l.High, rdE wc l.Start, rdE wd l.Jumps, rdE we l.Bad, rdE vs s] H2 := hS3
    refine wpL_q (U := NoB) rfl (q_assign (v := (Value.slice none 0 0)) rfl rfl) ?_
    exact ⟨g1, a0_1, rfl, hS3⟩
  rintro f4 H4 ⟨g1, a4_1, a4_2, hS4⟩
  clear a0_0 a0_1
  refine wpF_seq ?_
  refine wpF_cut (fun f H => f 1 = vs ∧ f 2 = PT g1 0 ∧ f 5 = (Value.slice none 0 0) ∧ H4 = H) ?_ ?_
  · refine wpF_region ?_
    refine wpL_q (U := NoB) rfl (q_assign (v := (Value.slice none 0 0)) rfl rfl) ?_
    exact ⟨a4_1, a4_2, rfl, rfl⟩
  rintro f5 _ ⟨a5_1, a5_2, a5_5, rfl⟩
  clear a4_1 a4_2
  have hS6 : St H0 NoB (fun b => S b ∧ b < H0.size) [rowE 32 (Value.slice none 0 0) ([] : List (List Int)), blkE g1 (.cells #[wa, wb, wc, wd, we] 42), rdE wa l.Low, rdE wb l.High, rdE wc l.Start, rdE wd l.Jumps, rdE we l.Bad, rdE vs s] H4 := hS4.row0 32
  refine wpF_seq ?_
  refine wpF_seq ?_
  refine wpF_cut (fun f H => f 1 = vs ∧ f 2 = PT g1 0 ∧ f 5 = (Value.slice none 0 0) ∧ f 15 = wd ∧ f 16 = I ((l.Jumps.length : Int)) ∧ f 17 = I (0) ∧ H4 = H) ?_ ?_
  · refine wpF_region ?_
    refine wpL_q (U := NoB) rfl (q_fieldAddr rfl Try.underlying42 rfl Try.sizeOf40 a5_2) ?_
    refine wpL_q (U := NoB) rfl (q_loadBlk rfl rfl Try.isAgg40 (hS6.blk 1 rfl) rfl (fun h => h)) ?_
    refine wpL_q (U := NoB) rfl (q_lenRd rfl Try.underlying40 rfl (hS6.rdl 5 rfl)) ?_
    refine wpL_q (U := NoB) rfl (q_move (v := I (0)) rfl rfl) ?_
    exact ⟨a5_1, a5_2, a5_5, rfl, rfl, rfl, rfl⟩
  rintro f7 _ ⟨a7_1, a7_2, a7_5, a7_15, a7_16, a7_17, rfl⟩
  clear a5_1 a5_2 a5_5
  refine wpF_block ?_
  refine wpF_loop (fun mz f H => ∃ (k : Nat), ∃ (vo : Value), mz = l.Jumps.length - k ∧ (k ≤ l.Jumps.length) ∧ f 1 = vs ∧ f 2 = PT g1 0 ∧ f 5 = vo ∧ f 15 = wd ∧ f 16 = I ((l.Jumps.length : Int)) ∧ f 17 = I ((k : Int)) ∧ St H0 NoB (fun b => S b ∧ b < H0.size) [rowE 32 vo (nextTo l s k : List (List Int)), blkE g1 (.cells #[wa, wb, wc, wd, we] 42), rdE wa l.Low, rdE wb l.High, rdE wc l.Start, rdE wd l.Jumps, rdE we l.Bad, rdE vs s] H) (l.Jumps.length - 0) ?_ ?_
  · exact ⟨0, (Value.slice none 0 0), rfl, Nat.zero_le _, a7_1, a7_2, a7_5, a7_15, a7_16, (Eq.trans a7_17 (congrArg I (by omega))), (show St H0 NoB (fun b => S b ∧ b < H0.size) [rowE 32 (Value.slice none 0 0) (nextTo l s 0 : List (List Int)), blkE g1 (.cells #[wa, wb, wc, wd, we] 42), rdE wa l.Low, rdE wb l.High, rdE wc l.Start, rdE wd l.Jumps, rdE we l.Bad, rdE vs s] H4 from hS6)⟩
  intro m8 f8 H8 hI8
  obtain ⟨k, vo, hm8, hk, a8_1, a8_2, a8_5, a8_15, a8_16, a8_17, hS8⟩ := hI8
  clear a7_1 a7_15 a7_16 a7_17 a7_2 a7_5
  refine wpF_seq ?_
  refine wpF_cut (fun f H => f 1 = vs ∧ f 2 = PT g1 0 ∧ f 5 = vo ∧ f 15 = wd ∧ f 16 = I ((l.Jumps.length : Int)) ∧ f 17 = I ((k : Int)) ∧ f 18 = B (decide ((k : Int) < (l.Jumps.length : Int))) ∧ H8 = H) ?_ ?_
  · refine wpF_region ?_
    refine wpL_q (U := NoB) rfl (q_lss rfl a8_17 a8_16) ?_
    exact ⟨a8_1, a8_2, a8_5, a8_15, a8_16, a8_17, rfl, rfl⟩
  rintro f9 _ ⟨a9_1, a9_2, a9_5, a9_15, a9_16, a9_17, a9_18, rfl⟩
  clear a8_1 a8_15 a8_16 a8_17 a8_2 a8_5
  refine wpF_seq ?_
  refine wpF_condP a9_18 (fun hltk => ?t84) (fun hltk => ?e84)
  case e84 =>
    refine wpF_exit ?_
    refine atX_here ?_
    refine wpF_seq ?_
    refine wpF_cut (fun f H => f 4 = vo ∧ H8 = H) ?_ ?_
    · refine wpF_region ?_
      refine wpL_q (U := NoB) rfl (q_move (v := vo) rfl a9_5) ?_
      refine wpL_q (U := NoB) rfl (q_assign (v := vo) rfl rfl) ?_
      exact ⟨rfl, rfl⟩
    rintro f82 _ ⟨a82_4, rfl⟩
    clear a9_1 a9_15 a9_16 a9_17 a9_18 a9_2 a9_5
    refine wpF_ret ?_
    refine ⟨_, resT a82_4 resN, hS8.frame, ?_⟩
    show Rd (fun b => S b ∧ b < H0.size) H8 vo (nextL l s)
    have hS83 : St H0 NoB (fun b => S b ∧ b < H0.size) [rdE vo (nextTo l s k), blkE g1 (.cells #[wa, wb, wc, wd, we] 42), rdE wa l.Low, rdE wb l.High, rdE wc l.Start, rdE wd l.Jumps, rdE we l.Bad, rdE vs s] H8 := St.fin hS8
    have hke : k = l.Jumps.length := by omega
    rw [nextL, ← hke]
    exact (hS83.result (hS83.rdS 0 rfl))
  have hjk := hl.jump k (by omega)
  have hjl := hjk.len
  have hj : JW (nth l.Jumps k) s.length := by rw [hsl]; exact hjk
  have hn8 : s.length ≤ 8 := by omega
  have hjs := (Jump.small rwd (k := k) (by omega)).2
  have hnl := nextTo_len (l := l) (s := s) k
  refine wpF_skip ?_
  refine wpF_seq ?_
  refine wpF_block ?_
  refine wpF_seq ?_
  refine wpF_cut (fun f H => ∃ (u11n0 : Value), ∃ (u11n1 : Value), ∃ (g14 : Nat), f 1 = vs ∧ f 2 = PT g1 0 ∧ f 5 = vo ∧ f 7 = PT g14 0 ∧ f 15 = wd ∧ f 16 = I ((l.Jumps.length : Int)) ∧ f 17 = I ((k : Int)) ∧ St H0 NoB (fun b => S b ∧ b < H0.size) [blkE g14 (.cells #[u11n0, u11n1] 25), rdE u11n1 ((nth l.Jumps k).To), rdE u11n0 ((nth l.Jumps k).When), rowE 32 vo (nextTo l s k : List (List Int)), blkE g1 (.cells #[wa, wb, wc, wd, we] 42), rdE wa l.Low, rdE wb l.High, rdE wc l.Start, rdE wd l.Jumps, rdE we l.Bad, rdE vs s] H) ?_ ?_
  · refine wpF_region ?_
    refine wpL_q (U := NoB) rfl (q_indexRd (k := k) rfl Try.underlying40 el_Jump_25_LoopS4 a9_15 a9_17 (hS8.rdl 5 rfl) (by omega) (by omega)) ?_
    obtain ⟨u11, huu11, hlu11⟩ := (Rd.list.1 (hS8.rdS 5 rfl)).elem k (by omega)
    obtain ⟨u11n0, u11n1, rfl, hu110, hu111⟩ := Rd.jump.1 huu11
    have hS12 : St H0 NoB (fun b => S b ∧ b < H0.size) [rdE u11n0 ((nth l.Jumps k).When), rowE 32 vo (nextTo l s k : List (List Int)), blkE g1 (.cells #[wa, wb, wc, wd, we] 42), rdE wa l.Low, rdE wb l.High, rdE wc l.Start, rdE wd l.Jumps, rdE we l.Bad, rdE vs s] H8 := hS8.rd hu110
    have hS13 : St H0 NoB (fun b => S b ∧ b < H0.size) [rdE u11n1 ((nth l.Jumps k).To), rdE u11n0 ((nth l.Jumps k).When), rowE 32 vo (nextTo l s k : List (List Int)), blkE g1 (.cells #[wa, wb, wc, wd, we] 42), rdE wa l.Low, rdE wb l.High, rdE wc l.Start, rdE wd l.Jumps, rdE we l.Bad, rdE vs s] H8 := hS12.rd (hu111.sub fun _ hb => SL_rd hb)
    refine wpL_q (U := NoB) rfl (q_loadE rfl rfl (hlu11 Try.prog 25 _ el_Jump_25_LoopS4 (fun _ h => False.elim h))) ?_
    refine wpL_o rfl ?_
    refine e_alloc rfl Try.zeroValue25 hS13 (fun g14 H15 hS16 hxx => ?_)
    replace hS16 : St H0 NoB (fun b => S b ∧ b < H0.size) [blkE g14 (.cells #[(Value.slice none 0 0), (Value.slice none 0 0)] 25), rdE u11n1 ((nth l.Jumps k).To), rdE u11n0 ((nth l.Jumps k).When), rowE 32 vo (nextTo l s k : List (List Int)), blkE g1 (.cells #[wa, wb, wc, wd, we] 42), rdE wa l.Low, rdE wb l.High, rdE wc l.Start, rdE wd l.Jumps, rdE we l.Bad, rdE vs s] H15 := hS16
    refine wpL_o rfl ?_
    refine e_storeBlkA (cs' := #[u11n0, u11n1]) rfl rfl rfl Try.sizeOf25 rfl rfl (List.forall_mem_cons.2 ⟨(oneCell_rdL (hS16.rdl 2 rfl)), List.forall_mem_cons.2 ⟨(oneCell_rdL (hS16.rdl 1 rfl)), List.forall_mem_nil _⟩⟩) hS16 (fun H17 hS18 hxx => ?_)
    replace hS18 : St H0 NoB (fun b => S b ∧ b < H0.size) [blkE g14 (.cells #[u11n0, u11n1] 25), rdE u11n1 ((nth l.Jumps k).To), rdE u11n0 ((nth l.Jumps k).When), rowE 32 vo (nextTo l s k : List (List Int)), blkE g1 (.cells #[wa, wb, wc, wd, we] 42), rdE wa l.Low, rdE wb l.High, rdE wc l.Start, rdE wd l.Jumps, rdE we l.Bad, rdE vs s] H17 := hS18
    exact ⟨u11n0, u11n1, g14, a9_1, a9_2, a9_5, rfl, a9_15, a9_16, a9_17, hS18⟩
  rintro f19 H19 ⟨u11n0, u11n1, g14, a19_1, a19_2, a19_5, a19_7, a19_15, a19_16, a19_17, hS19⟩
  clear a9_1 a9_15 a9_16 a9_17 a9_18 a9_2 a9_5
  refine wpF_seq ?_
  refine wpF_seq ?_
  refine wpF_cut (fun f H => f 1 = vs ∧ f 2 = PT g1 0 ∧ f 5 = vo ∧ f 7 = PT g14 0 ∧ f 15 = wd ∧ f 16 = I ((l.Jumps.length : Int)) ∧ f 17 = I ((k : Int)) ∧ f 25 = B (!(holdB ((nth l.Jumps k).When) s)) ∧ St H0 NoB (fun b => S b ∧ b < H0.size) [blkE g14 (.cells #[u11n0, u11n1] 25), rdE u11n1 ((nth l.Jumps k).To), rdE u11n0 ((nth l.Jumps k).When), rowE 32 vo (nextTo l s k : List (List Int)), blkE g1 (.cells #[wa, wb, wc, wd, we] 42), rdE wa l.Low, rdE wb l.High, rdE wc l.Start, rdE wd l.Jumps, rdE we l.Bad, rdE vs s] H) ?_ ?_
  · refine wpF_region ?_
    refine wpL_q (U := NoB) rfl (q_fieldAddr rfl Try.underlying25 rfl Try.sizeOf22 a19_7) ?_
    refine wpL_q (U := NoB) rfl (q_loadBlk rfl rfl Try.isAgg22 (hS19.blk 0 rfl) rfl (fun h => h)) ?_
    refine wpL_q (U := NoB) rfl (q_move (v := vs) rfl a19_1) ?_
    refine wpL_o rfl ?_
    refine e_call rfl Try.call52 (arr2 (v0 := u11n0) (v1 := vs) rfl rfl) (Hold_L u11n0 vs ((nth l.Jumps k).When) s (hS19.rdN 2 rfl) (hS19.rdN 10 rfl) (HoldOk.of (hl.jump k (by omega)).when_ (by omega) hsm (by omega))) ?_
    rintro _ H20 ⟨hxx, rfl⟩
    have hS21 : St H0 NoB (fun b => S b ∧ b < H0.size) [blkE g14 (.cells #[u11n0, u11n1] 25), rdE u11n1 ((nth l.Jumps k).To), rdE u11n0 ((nth l.Jumps k).When), rowE 32 vo (nextTo l s k : List (List Int)), blkE g1 (.cells #[wa, wb, wc, wd, we] 42), rdE wa l.Low, rdE wb l.High, rdE wc l.Start, rdE wd l.Jumps, rdE we l.Bad, rdE vs s] H20 := hS19.ext hxx
    refine wpL_q (U := NoB) rfl (q_not rfl rfl) ?_
    exact ⟨a19_1, a19_2, a19_5, a19_7, a19_15, a19_16, a19_17, rfl, hS21⟩
  rintro f23 H23 ⟨a23_1, a23_2, a23_5, a23_7, a23_15, a23_16, a23_17, a23_25, hS23⟩
  clear a19_1 a19_15 a19_16 a19_17 a19_2 a19_5 a19_7
  refine wpF_cond a23_25 (fun h25 => ?t81) (fun h25 => ?e81)
  case t81 =>
    have hno : ¬ holdB (nth l.Jumps k).When s = true := by simpa using h25
    refine wpF_exit ?_
    refine atX_here ?_
    refine wpF_cut (fun f H => f 1 = vs ∧ f 2 = PT g1 0 ∧ f 5 = vo ∧ f 15 = wd ∧ f 16 = I ((l.Jumps.length : Int)) ∧ f 17 = I ((k : Int) + 1) ∧ H23 = H) ?_ ?_
    · refine wpF_region ?_
      refine wpL_q (U := NoB) rfl (q_add rfl a23_17 rfl (by constructor <;> omega)) ?_
      refine wpL_q (U := NoB) rfl (q_move (v := I ((k : Int) + 1)) rfl rfl) ?_
      exact ⟨a23_1, a23_2, a23_5, a23_15, a23_16, rfl, rfl⟩
    rintro f25 _ ⟨a25_1, a25_2, a25_5, a25_15, a25_16, a25_17, rfl⟩
    clear a23_1 a23_15 a23_16 a23_17 a23_2 a23_25 a23_5 a23_7
    refine ⟨_, ?_, k + 1, vo, rfl, (by omega), a25_1, a25_2, a25_5, a25_15, a25_16, (Eq.trans a25_17 (congrArg I (by omega))), (show St H0 NoB (fun b => S b ∧ b < H0.size) [rowE 32 vo (nextTo l s (k + 1) : List (List Int)), blkE g1 (.cells #[wa, wb, wc, wd, we] 42), rdE wa l.Low, rdE wb l.High, rdE wc l.Start, rdE wd l.Jumps, rdE we l.Bad, rdE vs s] H23 from (by have h__ := (hS23.drop (sn (sn (sn (sk (sk (sk (sk (sk (sk (sk (sk (List.Sublist.slnil))))))))))))); (first | rw [← nextTo_no hno] at h__ | rw [← nextTo_out hyes (by rw [hled] at h67; simpa using h67)] at h__); exact h__))⟩
    omega
  have hyes : holdB (nth l.Jumps k).When s = true := by simpa using h25
  refine wpF_skip ?_
  refine wpF_seq ?_
  refine wpF_cut (fun f H => f 1 = vs ∧ f 2 = PT g1 0 ∧ f 5 = vo ∧ f 7 = PT g14 0 ∧ f 8 = (Value.slice none 0 0) ∧ f 15 = wd ∧ f 16 = I ((l.Jumps.length : Int)) ∧ f 17 = I ((k : Int)) ∧ H23 = H) ?_ ?_
  · refine wpF_region ?_
    refine wpL_q (U := NoB) rfl (q_assign (v := (Value.slice none 0 0)) rfl rfl) ?_
    exact ⟨a23_1, a23_2, a23_5, a23_7, rfl, a23_15, a23_16, a23_17, rfl⟩
  rintro f26 _ ⟨a26_1, a26_2, a26_5, a26_7, a26_8, a26_15, a26_16, a26_17, rfl⟩
  clear a23_1 a23_15 a23_16 a23_17 a23_2 a23_25 a23_5 a23_7
  have hS27 : St H0 NoB (fun b => S b ∧ b < H0.size) [rowE 3 (Value.slice none 0 0) ([] : List Int), blkE g14 (.cells #[u11n0, u11n1] 25), rdE u11n1 ((nth l.Jumps k).To), rdE u11n0 ((nth l.Jumps k).When), rowE 32 vo (nextTo l s k : List (List Int)), blkE g1 (.cells #[wa, wb, wc, wd, we] 42), rdE wa l.Low, rdE wb l.High, rdE wc l.Start, rdE wd l.Jumps, rdE we l.Bad, rdE vs s] H23 := hS23.row0 3
  refine wpF_seq ?_
  refine wpF_seq ?_
  refine wpF_cut (fun f H => f 1 = vs ∧ f 2 = PT g1 0 ∧ f 5 = vo ∧ f 8 = (Value.slice none 0 0) ∧ f 15 = wd ∧ f 16 = I ((l.Jumps.length : Int)) ∧ f 17 = I ((k : Int)) ∧ f 27 = u11n1 ∧ f 28 = I ((((nth l.Jumps k).To).length : Int)) ∧ f 29 = I (0) ∧ H23 = H) ?_ ?_
  · refine wpF_region ?_
    refine wpL_q (U := NoB) rfl (q_fieldAddr rfl Try.underlying25 rfl Try.sizeOf23 a26_7) ?_
    refine wpL_q (U := NoB) rfl (q_loadBlk rfl rfl Try.isAgg23 (hS27.blk 1 rfl) rfl (fun h => h)) ?_
    refine wpL_q (U := NoB) rfl (q_lenRd rfl Try.underlying23 rfl (hS27.rdl 2 rfl)) ?_
    refine wpL_q (U := NoB) rfl (q_move (v := I (0)) rfl rfl) ?_
    exact ⟨a26_1, a26_2, a26_5, a26_8, a26_15, a26_16, a26_17, rfl, rfl, rfl, rfl⟩
  rintro f28 _ ⟨a28_1, a28_2, a28_5, a28_8, a28_15, a28_16, a28_17, a28_27, a28_28, a28_29, rfl⟩
  clear a26_1 a26_15 a26_16 a26_17 a26_2 a26_5 a26_7 a26_8
  refine wpF_block ?_
  refine wpF_loop (fun mz f H => ∃ (i : Nat), ∃ (vn : Value), mz = (nth l.Jumps k).To.length - i ∧ (i ≤ (nth l.Jumps k).To.length) ∧ f 1 = vs ∧ f 2 = PT g1 0 ∧ f 5 = vo ∧ f 8 = vn ∧ f 15 = wd ∧ f 16 = I ((l.Jumps.length : Int)) ∧ f 17 = I ((k : Int)) ∧ f 27 = u11n1 ∧ f 28 = I ((((nth l.Jumps k).To).length : Int)) ∧ f 29 = I ((i : Int)) ∧ St H0 NoB (fun b => S b ∧ b < H0.size) [rowE 3 vn (ledPre (nth l.Jumps k) s i : List Int), blkE g14 (.cells #[u11n0, u11n1] 25), rdE u11n1 ((nth l.Jumps k).To), rdE u11n0 ((nth l.Jumps k).When), rowE 32 vo (nextTo l s k : List (List Int)), blkE g1 (.cells #[wa, wb, wc, wd, we] 42), rdE wa l.Low, rdE wb l.High, rdE wc l.Start, rdE wd l.Jumps, rdE we l.Bad, rdE vs s] H) ((nth l.Jumps k).To.length - 0) ?_ ?_
  · exact ⟨0, (Value.slice none 0 0), rfl, Nat.zero_le _, a28_1, a28_2, a28_5, a28_8, a28_15, a28_16, a28_17, a28_27, a28_28, (Eq.trans a28_29 (congrArg I (by omega))), (show St H0 NoB (fun b => S b ∧ b < H0.size) [rowE 3 (Value.slice none 0 0) (ledPre (nth l.Jumps k) s 0 : List Int), blkE g14 (.cells #[u11n0, u11n1] 25), rdE u11n1 ((nth l.Jumps k).To), rdE u11n0 ((nth l.Jumps k).When), rowE 32 vo (nextTo l s k : List (List Int)), blkE g1 (.cells #[wa, wb, wc, wd, we] 42), rdE wa l.Low, rdE wb l.High, rdE wc l.Start, rdE wd l.Jumps, rdE we l.Bad, rdE vs s] H23 from hS27)⟩
  intro m29 f29 H29 hI29
  obtain ⟨i, vn, hm29, hi, a29_1, a29_2, a29_5, a29_8, a29_15, a29_16, a29_17, a29_27, a29_28, a29_29, hS29⟩ := hI29
  clear a28_1 a28_15 a28_16 a28_17 a28_2 a28_27 a28_28 a28_29 a28_5 a28_8
  refine wpF_seq ?_
  refine wpF_cut (fun f H => f 1 = vs ∧ f 2 = PT g1 0 ∧ f 5 = vo ∧ f 8 = vn ∧ f 15 = wd ∧ f 16 = I ((l.Jumps.length : Int)) ∧ f 17 = I ((k : Int)) ∧ f 27 = u11n1 ∧ f 28 = I ((((nth l.Jumps k).To).length : Int)) ∧ f 29 = I ((i : Int)) ∧ f 30 = B (decide ((i : Int) < (((nth l.Jumps k).To).length : Int))) ∧ H29 = H) ?_ ?_
  · refine wpF_region ?_
    refine wpL_q (U := NoB) rfl (q_lss rfl a29_29 a29_28) ?_
    exact ⟨a29_1, a29_2, a29_5, a29_8, a29_15, a29_16, a29_17, a29_27, a29_28, a29_29, rfl, rfl⟩
  rintro f30 _ ⟨a30_1, a30_2, a30_5, a30_8, a30_15, a30_16, a30_17, a30_27, a30_28, a30_29, a30_30, rfl⟩
  clear a29_1 a29_15 a29_16 a29_17 a29_2 a29_27 a29_28 a29_29 a29_5 a29_8
  refine wpF_seq ?_
  refine wpF_condP a30_30 (fun hlti => ?t80) (fun hlti => ?e80)
  case e80 =>
    have hie : i = (nth l.Jumps k).To.length := by omega
    have hled : ledPre (nth l.Jumps k) s i = ledL (nth l.Jumps k) s := by rw [hie]; rfl
    have hlpl : (ledPre (nth l.Jumps k) s i).length = l.Low.length := by rw [hled, ledL_len]; omega
    refine wpF_exit ?_
    refine atX_here ?_
    refine wpF_seq ?_
    refine wpF_cut (fun f H => f 1 = vs ∧ f 2 = PT g1 0 ∧ f 5 = vo ∧ f 8 = vn ∧ f 15 = wd ∧ f 16 = I ((l.Jumps.length : Int)) ∧ f 17 = I ((k : Int)) ∧ f 67 = B (decide (((insideB l (ledPre (nth l.Jumps k) s i)) = true) ∧ (¬ ((ledPre (nth l.Jumps k) s i) ∈ (nextTo l s k))))) ∧ St H0 NoB (fun b => S b ∧ b < H0.size) [rowE 3 vn (ledPre (nth l.Jumps k) s i : List Int), blkE g14 (.cells #[u11n0, u11n1] 25), rdE u11n1 ((nth l.Jumps k).To), rdE u11n0 ((nth l.Jumps k).When), rowE 32 vo (nextTo l s k : List (List Int)), blkE g1 (.cells #[wa, wb, wc, wd, we] 42), rdE wa l.Low, rdE wb l.High, rdE wc l.Start, rdE wd l.Jumps, rdE we l.Bad, rdE vs s] H) ?_ ?_
    · refine wpF_region ?_
      refine wpL_q (U := NoB) rfl (q_loadBlkA rfl a30_2 Try.isAgg42 Try.sizeOf42 rfl (hS29.blk 5 rfl) (fun h => h)) ?_
      refine wpL_q (U := NoB) rfl (q_move (v := vn) rfl a30_8) ?_
      refine wpL_o rfl ?_
      refine e_call rfl Try.call64 (arr2 (v0 := Value.agg #[wa, wb, wc, wd, we]) (v1 := vn) rfl rfl) (State_L wa wb wc wd we vn l (ledPre (nth l.Jumps k) s i) (hS29.rdN 6 rfl) (hS29.rdN 7 rfl) (hS29.rdN 8 rfl) (hS29.rdN 9 rfl) (hS29.rdN 10 rfl) (hS29.rowN 0 rfl) (by omega) (by omega)) ?_
      rintro _ H55 ⟨hxx, rfl⟩
      have hS56 : St H0 NoB (fun b => S b ∧ b < H0.size) [rowE 3 vn (ledPre (nth l.Jumps k) s i : List Int), blkE g14 (.cells #[u11n0, u11n1] 25), rdE u11n1 ((nth l.Jumps k).To), rdE u11n0 ((nth l.Jumps k).When), rowE 32 vo (nextTo l s k : List (List Int)), blkE g1 (.cells #[wa, wb, wc, wd, we] 42), rdE wa l.Low, rdE wb l.High, rdE wc l.Start, rdE wd l.Jumps, rdE we l.Bad, rdE vs s] H55 := hS29.ext hxx
      refine wpL_q (U := NoB) rfl (q_move (v := B (insideB l (ledPre (nth l.Jumps k) s i))) rfl rfl) ?_
      by_cases hg58 : (insideB l (ledPre (nth l.Jumps k) s i)) = true
      · have hb59 := Eq.trans rfl (congrArg B hg58)
        refine wpL_gq (U := NoB) rfl rfl rfl hb59 (q_move (v := vo) rfl a30_5) ?_
        refine wpL_gq (U := NoB) rfl rfl rfl hb59 (q_move (v := vn) rfl a30_8) ?_
        refine wpL_go rfl rfl rfl hb59 ?_
        refine e_call rfl Try.call56 (arr2 (v0 := vo) (v1 := vn) rfl rfl) (has_L vo vn (nextTo l s k) (ledPre (nth l.Jumps k) s i) (hS56.rowN 4 rfl) (hS56.rowN 0 rfl) ) ?_
        rintro _ H61 ⟨hxx, rfl⟩
        have hS62 : St H0 NoB (fun b => S b ∧ b < H0.size) [rowE 3 vn (ledPre (nth l.Jumps k) s i : List Int), blkE g14 (.cells #[u11n0, u11n1] 25), rdE u11n1 ((nth l.Jumps k).To), rdE u11n0 ((nth l.Jumps k).When), rowE 32 vo (nextTo l s k : List (List Int)), blkE g1 (.cells #[wa, wb, wc, wd, we] 42), rdE wa l.Low, rdE wb l.High, rdE wc l.Start, rdE wd l.Jumps, rdE we l.Bad, rdE vs s] H61 := hS56.ext hxx
        refine wpL_gq (U := NoB) rfl rfl rfl hb59 (q_notP rfl rfl) ?_
        refine wpL_q (U := NoB) rfl (q_pickT (v := B (decide (¬ ((ledPre (nth l.Jumps k) s i) ∈ (nextTo l s k))))) rfl hb59 rfl) ?_
        exact ⟨a30_1, a30_2, a30_5, a30_8, a30_15, a30_16, a30_17, (Eq.trans rfl (congrArg B (decide_congr_of (((not_congr Iff.rfl)).trans (((and_iff_right hg58).trans (not_congr Iff.rfl))).symm)))), hS62⟩
      · have hb60 := Eq.trans rfl (congrArg B (Bool.eq_false_iff.2 hg58))
        refine wpL_gs rfl rfl rfl hb60 rfl ?_
        refine wpL_gs rfl rfl rfl hb60 rfl ?_
        refine wpL_gs rfl rfl rfl hb60 rfl ?_
        refine wpL_gs rfl rfl rfl hb60 rfl ?_
        refine wpL_q (U := NoB) rfl (q_pickF (v := B (false)) rfl hb60 rfl) ?_
        exact ⟨a30_1, a30_2, a30_5, a30_8, a30_15, a30_16, a30_17, (Eq.trans rfl (congrArg B ((decide_eq_false (fun h => hg58 h.1)).symm))), hS56⟩
    rintro f64 H64 ⟨a64_1, a64_2, a64_5, a64_8, a64_15, a64_16, a64_17, a64_67, hS64⟩
    clear a30_1 a30_15 a30_16 a30_17 a30_2 a30_27 a30_28 a30_29 a30_30 a30_5 a30_8
    refine wpF_condP a64_67 (fun h67 => ?t79) (fun h67 => ?e79)
    case e79 =>
      refine wpF_skip ?_
      refine wpF_cut (fun f H => f 1 = vs ∧ f 2 = PT g1 0 ∧ f 5 = vo ∧ f 15 = wd ∧ f 16 = I ((l.Jumps.length : Int)) ∧ f 17 = I ((k : Int) + 1) ∧ H64 = H) ?_ ?_
      · refine wpF_region ?_
        refine wpL_q (U := NoB) rfl (q_add rfl a64_17 rfl (by constructor <;> omega)) ?_
        refine wpL_q (U := NoB) rfl (q_move (v := I ((k : Int) + 1)) rfl rfl) ?_
        exact ⟨a64_1, a64_2, a64_5, a64_15, a64_16, rfl, rfl⟩
      rintro f78 _ ⟨a78_1, a78_2, a78_5, a78_15, a78_16, a78_17, rfl⟩
      clear a64_1 a64_15 a64_16 a64_17 a64_2 a64_5 a64_67 a64_8
      refine ⟨_, ?_, k + 1, vo, rfl, (by omega), a78_1, a78_2, a78_5, a78_15, a78_16, (Eq.trans a78_17 (congrArg I (by omega))), (show St H0 NoB (fun b => S b ∧ b < H0.size) [rowE 32 vo (nextTo l s (k + 1) : List (List Int)), blkE g1 (.cells #[wa, wb, wc, wd, we] 42), rdE wa l.Low, rdE wb l.High, rdE wc l.Start, rdE wd l.Jumps, rdE we l.Bad, rdE vs s] H64 from (by have h__ := (hS64.drop (sn (sn (sn (sn (sk (sk (sk (sk (sk (sk (sk (sk (List.Sublist.slnil)))))))))))))); (first | rw [← nextTo_no hno] at h__ | rw [← nextTo_out hyes (by rw [hled] at h67; simpa using h67)] at h__); exact h__))⟩
      omega
    refine wpF_cut (fun f H => ∃ (v72 : Value), f 1 = vs ∧ f 2 = PT g1 0 ∧ f 5 = v72 ∧ f 15 = wd ∧ f 16 = I ((l.Jumps.length : Int)) ∧ f 17 = I ((k : Int)) ∧ St H0 NoB (fun b => S b ∧ b < H0.size) [rowE 32 v72 (nextTo l s (k + 1) : List (List Int)), blkE g14 (.cells #[u11n0, u11n1] 25), rdE u11n1 ((nth l.Jumps k).To), rdE u11n0 ((nth l.Jumps k).When), blkE g1 (.cells #[wa, wb, wc, wd, we] 42), rdE wa l.Low, rdE wb l.High, rdE wc l.Start, rdE wd l.Jumps, rdE we l.Bad, rdE vs s] H) ?_ ?_
    · refine wpF_region ?_
      refine wpL_q (U := NoB) rfl (q_move (v := vo) rfl a64_5) ?_
      refine wpL_q (U := NoB) rfl (q_move (v := vn) rfl a64_8) ?_
      have hS66 : St H0 NoB (fun b => S b ∧ b < H0.size) [rdE vn (ledPre (nth l.Jumps k) s i), blkE g14 (.cells #[u11n0, u11n1] 25), rdE u11n1 ((nth l.Jumps k).To), rdE u11n0 ((nth l.Jumps k).When), rowE 32 vo (nextTo l s k : List (List Int)), blkE g1 (.cells #[wa, wb, wc, wd, we] 42), rdE wa l.Low, rdE wb l.High, rdE wc l.Start, rdE wd l.Jumps, rdE we l.Bad, rdE vs s] H64 := St.fin hS64
      refine wpL_o rfl ?_
      refine e_buildSlice (vs := [vn]) (xs := ([ledPre (nth l.Jumps k) s i] : List (List Int))) rfl Try.underlying23 Try.zeroValue32 rfl Try.sizeOf32 (par1 (v0 := vn) rfl) rfl hS66 (RdVs.cons (hS66.rdS 0 rfl) (RdVs.nil)) (by decide) (by decide) (fun v67 H68 hS69 hxx hvv67 => ?_)
      replace hS69 : St H0 NoB (fun b => S b ∧ b < H0.size) [rowE 32 v67 ([ledPre (nth l.Jumps k) s i] : List (List Int)), rdE vn (ledPre (nth l.Jumps k) s i), blkE g14 (.cells #[u11n0, u11n1] 25), rdE u11n1 ((nth l.Jumps k).To), rdE u11n0 ((nth l.Jumps k).When), rowE 32 vo (nextTo l s k : List (List Int)), blkE g1 (.cells #[wa, wb, wc, wd, we] 42), rdE wa l.Low, rdE wb l.High, rdE wc l.Start, rdE wd l.Jumps, rdE we l.Bad, rdE vs s] H68 := hS69
      have hS70 : St H0 NoB (fun b => S b ∧ b < H0.size) [rdE v67 ([ledPre (nth l.Jumps k) s i] : List (List Int)), rdE vn (ledPre (nth l.Jumps k) s i), blkE g14 (.cells #[u11n0, u11n1] 25), rdE u11n1 ((nth l.Jumps k).To), rdE u11n0 ((nth l.Jumps k).When), rowE 32 vo (nextTo l s k : List (List Int)), blkE g1 (.cells #[wa, wb, wc, wd, we] 42), rdE wa l.Low, rdE wb l.High, rdE wc l.Start, rdE wd l.Jumps, rdE we l.Bad, rdE vs s] H68 := St.fin hS69
      have hS71 : St H0 NoB (fun b => S b ∧ b < H0.size) [rowE 32 vo (nextTo l s k : List (List Int)), rdE v67 ([ledPre (nth l.Jumps k) s i] : List (List Int)), rdE vn (ledPre (nth l.Jumps k) s i), blkE g14 (.cells #[u11n0, u11n1] 25), rdE u11n1 ((nth l.Jumps k).To), rdE u11n0 ((nth l.Jumps k).When), blkE g1 (.cells #[wa, wb, wc, wd, we] 42), rdE wa l.Low, rdE wb l.High, rdE wc l.Start, rdE wd l.Jumps, rdE we l.Bad, rdE vs s] H68 := (hS70.front 5 rfl)
      refine wpL_o rfl ?_
      refine e_append rfl Try.underlying23 em_LInt_32_LoopS4 rfl rfl hS71 (hS71.rdS 1 rfl) (fun _ h => h) (by have hb : GoT.bytes (List Int) = 24 := rfl; simp [hb]; omega) (by decide) (fun v72 H73 hS74 hxx => ?_)
      replace hS74 : St H0 NoB (fun b => S b ∧ b < H0.size) [rowE 32 v72 ((nextTo l s k) ++ ([ledPre (nth l.Jumps k) s i]) : List (List Int)), rdE v67 ([ledPre (nth l.Jumps k) s i] : List (List Int)), rdE vn (ledPre (nth l.Jumps k) s i), blkE g14 (.cells #[u11n0, u11n1] 25), rdE u11n1 ((nth l.Jumps k).To), rdE u11n0 ((nth l.Jumps k).When), blkE g1 (.cells #[wa, wb, wc, wd, we] 42), rdE wa l.Low, rdE wb l.High, rdE wc l.Start, rdE wd l.Jumps, rdE we l.Bad, rdE vs s] H73 := hS74
      have hS75 : St H0 NoB (fun b => S b ∧ b < H0.size) [rowE 32 v72 (nextTo l s (k + 1) : List (List Int)), rdE v67 ([ledPre (nth l.Jumps k) s i] : List (List Int)), rdE vn (ledPre (nth l.Jumps k) s i), blkE g14 (.cells #[u11n0, u11n1] 25), rdE u11n1 ((nth l.Jumps k).To), rdE u11n0 ((nth l.Jumps k).When), blkE g1 (.cells #[wa, wb, wc, wd, we] 42), rdE wa l.Low, rdE wb l.High, rdE wc l.Start, rdE wd l.Jumps, rdE we l.Bad, rdE vs s] H73 := by rw [show (nextTo l s (k + 1)) = ((nextTo l s k) ++ ([ledPre (nth l.Jumps k) s i])) from (by rw [hled, nextTo_in hyes (by rw [hled] at h67; simpa using h67)])]; exact hS74
      refine wpL_q (U := NoB) rfl (q_assign (v := v72) rfl rfl) ?_
      exact ⟨v72, a64_1, a64_2, rfl, a64_15, a64_16, a64_17, (hS75.drop (sk (sn (sn (sk (sk (sk (sk (sk (sk (sk (sk (sk (sk (List.Sublist.slnil)))))))))))))))⟩
    rintro f76 H76 ⟨v72, a76_1, a76_2, a76_5, a76_15, a76_16, a76_17, hS76⟩
    clear a64_1 a64_15 a64_16 a64_17 a64_2 a64_5 a64_67 a64_8
    refine wpF_cut (fun f H => f 1 = vs ∧ f 2 = PT g1 0 ∧ f 5 = v72 ∧ f 15 = wd ∧ f 16 = I ((l.Jumps.length : Int)) ∧ f 17 = I ((k : Int) + 1) ∧ H76 = H) ?_ ?_
    · refine wpF_region ?_
      refine wpL_q (U := NoB) rfl (q_add rfl a76_17 rfl (by constructor <;> omega)) ?_
      refine wpL_q (U := NoB) rfl (q_move (v := I ((k : Int) + 1)) rfl rfl) ?_
      exact ⟨a76_1, a76_2, a76_5, a76_15, a76_16, rfl, rfl⟩
    rintro f77 _ ⟨a77_1, a77_2, a77_5, a77_15, a77_16, a77_17, rfl⟩
    clear a76_1 a76_15 a76_16 a76_17 a76_2 a76_5
    refine ⟨_, ?_, k + 1, v72, rfl, (by omega), a77_1, a77_2, a77_5, a77_15, a77_16, (Eq.trans a77_17 (congrArg I (by omega))), (hS76.drop (sk (sn (sn (sn (sk (sk (sk (sk (sk (sk (sk (List.Sublist.slnil)))))))))))))⟩
    omega
  have hat := hj.at_ (i := i) (v := s.length) (by omega) (Int.le_refl _)
  refine wpF_skip ?_
  refine wpF_seq ?_
  refine wpF_block ?_
  refine wpF_seq ?_
  obtain ⟨u32, huu32, hlu32⟩ := (Rd.list.1 (hS29.rdS 2 rfl)).elem i (by omega)
  have hS33 : St H0 NoB (fun b => S b ∧ b < H0.size) [rdE u32 (nth ((nth l.Jumps k).To) i), rowE 3 vn (ledPre (nth l.Jumps k) s i : List Int), blkE g14 (.cells #[u11n0, u11n1] 25), rdE u11n1 ((nth l.Jumps k).To), rdE u11n0 ((nth l.Jumps k).When), rowE 32 vo (nextTo l s k : List (List Int)), blkE g1 (.cells #[wa, wb, wc, wd, we] 42), rdE wa l.Low, rdE wb l.High, rdE wc l.Start, rdE wd l.Jumps, rdE we l.Bad, rdE vs s] H29 := hS29.rd huu32
  refine wpF_cut (fun f H => f 1 = vs ∧ f 2 = PT g1 0 ∧ f 5 = vo ∧ f 8 = vn ∧ f 10 = u32 ∧ f 15 = wd ∧ f 16 = I ((l.Jumps.length : Int)) ∧ f 17 = I ((k : Int)) ∧ f 27 = u11n1 ∧ f 28 = I ((((nth l.Jumps k).To).length : Int)) ∧ f 29 = I ((i : Int)) ∧ St H0 NoB (fun b => S b ∧ b < H0.size) [rdE u32 (nth ((nth l.Jumps k).To) i), rowE 3 vn (ledPre (nth l.Jumps k) s i : List Int), blkE g14 (.cells #[u11n0, u11n1] 25), rdE u11n1 ((nth l.Jumps k).To), rdE u11n0 ((nth l.Jumps k).When), rowE 32 vo (nextTo l s k : List (List Int)), blkE g1 (.cells #[wa, wb, wc, wd, we] 42), rdE wa l.Low, rdE wb l.High, rdE wc l.Start, rdE wd l.Jumps, rdE we l.Bad, rdE vs s] H) ?_ ?_
  · refine wpF_region ?_
    refine wpL_q (U := NoB) rfl (q_indexRd (k := i) rfl Try.underlying23 el_LInt_32_LoopS4 a30_27 a30_29 (hS29.rdl 2 rfl) (by omega) (by omega)) ?_
    refine wpL_q (U := NoB) rfl (q_loadE rfl rfl (hlu32 Try.prog 32 _ el_LInt_32_LoopS4 (fun _ h => False.elim h))) ?_
    refine wpL_q (U := NoB) rfl (q_assign (v := u32) rfl rfl) ?_
    exact ⟨a30_1, a30_2, a30_5, a30_8, rfl, a30_15, a30_16, a30_17, a30_27, a30_28, a30_29, hS33⟩
  rintro f34 H34 ⟨a34_1, a34_2, a34_5, a34_8, a34_10, a34_15, a34_16, a34_17, a34_27, a34_28, a34_29, hS34⟩
  clear a30_1 a30_15 a30_16 a30_17 a30_2 a30_27 a30_28 a30_29 a30_30 a30_5 a30_8
  refine wpF_seq ?_
  refine wpF_cut (fun f H => f 1 = vs ∧ f 2 = PT g1 0 ∧ f 5 = vo ∧ f 8 = vn ∧ f 10 = u32 ∧ f 11 = I (nth (nth ((nth l.Jumps k).To) i) s.length) ∧ f 15 = wd ∧ f 16 = I ((l.Jumps.length : Int)) ∧ f 17 = I ((k : Int)) ∧ f 27 = u11n1 ∧ f 28 = I ((((nth l.Jumps k).To).length : Int)) ∧ f 29 = I ((i : Int)) ∧ H34 = H) ?_ ?_
  · refine wpF_region ?_
    refine wpL_q (U := NoB) rfl (q_move (v := u32) rfl a34_10) ?_
    refine wpL_q (U := NoB) rfl (q_move (v := vs) rfl a34_1) ?_
    refine wpL_q (U := NoB) rfl (q_lenRd rfl Try.underlying32 rfl (hS34.rdl 12 rfl)) ?_
    refine wpL_q (U := NoB) rfl (q_indexRd (k := s.length) rfl Try.underlying32 el_Int_3_LoopS4 rfl rfl (hS34.rdl 0 rfl) (by omega) (by omega)) ?_
    refine wpL_q (U := NoB) rfl (q_loadInt (k := s.length) rfl rfl el_Int_3_LoopS4 (hS34.rdl 0 rfl) (by omega) (fun _ h => h)) ?_
    refine wpL_q (U := NoB) rfl (q_assign (v := I (nth (nth ((nth l.Jumps k).To) i) s.length)) rfl rfl) ?_
    exact ⟨a34_1, a34_2, a34_5, a34_8, a34_10, rfl, a34_15, a34_16, a34_17, a34_27, a34_28, a34_29, rfl⟩
  rintro f35 _ ⟨a35_1, a35_2, a35_5, a35_8, a35_10, a35_11, a35_15, a35_16, a35_17, a35_27, a35_28, a35_29, rfl⟩
  clear a34_1 a34_10 a34_15 a34_16 a34_17 a34_2 a34_27 a34_28 a34_29 a34_5 a34_8
  refine wpF_seq ?_
  refine wpF_seq ?_
  refine wpF_cut (fun f H => f 1 = vs ∧ f 2 = PT g1 0 ∧ f 5 = vo ∧ f 8 = vn ∧ f 10 = u32 ∧ f 11 = I (nth (nth ((nth l.Jumps k).To) i) s.length) ∧ f 15 = wd ∧ f 16 = I ((l.Jumps.length : Int)) ∧ f 17 = I ((k : Int)) ∧ f 27 = u11n1 ∧ f 28 = I ((((nth l.Jumps k).To).length : Int)) ∧ f 29 = I ((i : Int)) ∧ f 38 = vs ∧ f 39 = I ((s.length : Int)) ∧ f 40 = I (0) ∧ H34 = H) ?_ ?_
  · refine wpF_region ?_
    refine wpL_q (U := NoB) rfl (q_move (v := vs) rfl a35_1) ?_
    refine wpL_q (U := NoB) rfl (q_lenRd rfl Try.underlying32 rfl (hS34.rdl 12 rfl)) ?_
    refine wpL_q (U := NoB) rfl (q_move (v := I (0)) rfl rfl) ?_
    exact ⟨a35_1, a35_2, a35_5, a35_8, a35_10, a35_11, a35_15, a35_16, a35_17, a35_27, a35_28, a35_29, rfl, rfl, rfl, rfl⟩
  rintro f36 _ ⟨a36_1, a36_2, a36_5, a36_8, a36_10, a36_11, a36_15, a36_16, a36_17, a36_27, a36_28, a36_29, a36_38, a36_39, a36_40, rfl⟩
  clear a35_1 a35_10 a35_11 a35_15 a35_16 a35_17 a35_2 a35_27 a35_28 a35_29 a35_5 a35_8
  refine wpF_block ?_
  refine wpF_loop (fun mz f H => ∃ (m : Nat), mz = s.length - m ∧ (m ≤ s.length) ∧ f 1 = vs ∧ f 2 = PT g1 0 ∧ f 5 = vo ∧ f 8 = vn ∧ f 10 = u32 ∧ f 11 = I (ledTo (nth l.Jumps k) s i m) ∧ f 15 = wd ∧ f 16 = I ((l.Jumps.length : Int)) ∧ f 17 = I ((k : Int)) ∧ f 27 = u11n1 ∧ f 28 = I ((((nth l.Jumps k).To).length : Int)) ∧ f 29 = I ((i : Int)) ∧ f 38 = vs ∧ f 39 = I ((s.length : Int)) ∧ f 40 = I ((m : Int)) ∧ St H0 NoB (fun b => S b ∧ b < H0.size) [rdE u32 (nth ((nth l.Jumps k).To) i), rowE 3 vn (ledPre (nth l.Jumps k) s i : List Int), blkE g14 (.cells #[u11n0, u11n1] 25), rdE u11n1 ((nth l.Jumps k).To), rdE u11n0 ((nth l.Jumps k).When), rowE 32 vo (nextTo l s k : List (List Int)), blkE g1 (.cells #[wa, wb, wc, wd, we] 42), rdE wa l.Low, rdE wb l.High, rdE wc l.Start, rdE wd l.Jumps, rdE we l.Bad, rdE vs s] H) (s.length - 0) ?_ ?_
  · exact ⟨0, rfl, Nat.zero_le _, a36_1, a36_2, a36_5, a36_8, a36_10, a36_11, a36_15, a36_16, a36_17, a36_27, a36_28, a36_29, a36_38, a36_39, (Eq.trans a36_40 (congrArg I (by omega))), hS34⟩
  intro m37 f37 H37 hI37
  obtain ⟨m, hm37, hm, a37_1, a37_2, a37_5, a37_8, a37_10, a37_11, a37_15, a37_16, a37_17, a37_27, a37_28, a37_29, a37_38, a37_39, a37_40, hS37⟩ := hI37
  clear a36_1 a36_10 a36_11 a36_15 a36_16 a36_17 a36_2 a36_27 a36_28 a36_29 a36_38 a36_39 a36_40 a36_5 a36_8
  refine wpF_seq ?_
  refine wpF_cut (fun f H => f 1 = vs ∧ f 2 = PT g1 0 ∧ f 5 = vo ∧ f 8 = vn ∧ f 10 = u32 ∧ f 11 = I (ledTo (nth l.Jumps k) s i m) ∧ f 15 = wd ∧ f 16 = I ((l.Jumps.length : Int)) ∧ f 17 = I ((k : Int)) ∧ f 27 = u11n1 ∧ f 28 = I ((((nth l.Jumps k).To).length : Int)) ∧ f 29 = I ((i : Int)) ∧ f 38 = vs ∧ f 39 = I ((s.length : Int)) ∧ f 40 = I ((m : Int)) ∧ f 41 = B (decide ((m : Int) < (s.length : Int))) ∧ H37 = H) ?_ ?_
  · refine wpF_region ?_
    refine wpL_q (U := NoB) rfl (q_lss rfl a37_40 a37_39) ?_
    exact ⟨a37_1, a37_2, a37_5, a37_8, a37_10, a37_11, a37_15, a37_16, a37_17, a37_27, a37_28, a37_29, a37_38, a37_39, a37_40, rfl, rfl⟩
  rintro f38 _ ⟨a38_1, a38_2, a38_5, a38_8, a38_10, a38_11, a38_15, a38_16, a38_17, a38_27, a38_28, a38_29, a38_38, a38_39, a38_40, a38_41, rfl⟩
  clear a37_1 a37_10 a37_11 a37_15 a37_16 a37_17 a37_2 a37_27 a37_28 a37_29 a37_38 a37_39 a37_40 a37_5 a37_8
  refine wpF_seq ?_
  refine wpF_condP a38_41 (fun hltm => ?t54) (fun hltm => ?e54)
  case e54 =>
    have hme : m = s.length := by omega
    have hlb := led_bound (j := nth l.Jumps k) (i := i) (k := m) hj rfl hn8 hsm (by omega) (by omega)
    refine wpF_exit ?_
    refine atX_here ?_
    refine wpF_cut (fun f H => ∃ (v48 : Value), f 1 = vs ∧ f 2 = PT g1 0 ∧ f 5 = vo ∧ f 8 = v48 ∧ f 15 = wd ∧ f 16 = I ((l.Jumps.length : Int)) ∧ f 17 = I ((k : Int)) ∧ f 27 = u11n1 ∧ f 28 = I ((((nth l.Jumps k).To).length : Int)) ∧ f 29 = I ((i : Int)) ∧ St H0 NoB (fun b => S b ∧ b < H0.size) [rowE 3 v48 (ledPre (nth l.Jumps k) s (i + 1) : List Int), blkE g14 (.cells #[u11n0, u11n1] 25), rdE u11n1 ((nth l.Jumps k).To), rdE u11n0 ((nth l.Jumps k).When), rowE 32 vo (nextTo l s k : List (List Int)), blkE g1 (.cells #[wa, wb, wc, wd, we] 42), rdE wa l.Low, rdE wb l.High, rdE wc l.Start, rdE wd l.Jumps, rdE we l.Bad, rdE vs s] H) ?_ ?_
    · refine wpF_region ?_
      refine wpL_q (U := NoB) rfl (q_move (v := vn) rfl a38_8) ?_
      refine wpL_q (U := NoB) rfl (q_move (v := I (ledTo (nth l.Jumps k) s i m)) rfl a38_11) ?_
      refine wpL_o rfl ?_
      refine e_buildSlice (vs := [I (ledTo (nth l.Jumps k) s i m)]) (xs := ([ledTo (nth l.Jumps k) s i m] : List Int)) rfl Try.underlying32 Try.zeroValue3 rfl Try.sizeOf3 (par1 (v0 := I (ledTo (nth l.Jumps k) s i m)) rfl) rfl hS37 (RdVs.cons (Rd.int.2 ⟨rfl, by constructor <;> omega⟩) (RdVs.nil)) (by decide) (by decide) (fun v43 H44 hS45 hxx hvv43 => ?_)
      replace hS45 : St H0 NoB (fun b => S b ∧ b < H0.size) [rowE 3 v43 ([ledTo (nth l.Jumps k) s i m] : List Int), rdE u32 (nth ((nth l.Jumps k).To) i), rowE 3 vn (ledPre (nth l.Jumps k) s i : List Int), blkE g14 (.cells #[u11n0, u11n1] 25), rdE u11n1 ((nth l.Jumps k).To), rdE u11n0 ((nth l.Jumps k).When), rowE 32 vo (nextTo l s k : List (List Int)), blkE g1 (.cells #[wa, wb, wc, wd, we] 42), rdE wa l.Low, rdE wb l.High, rdE wc l.Start, rdE wd l.Jumps, rdE we l.Bad, rdE vs s] H44 := hS45
      have hS46 : St H0 NoB (fun b => S b ∧ b < H0.size) [rdE v43 ([ledTo (nth l.Jumps k) s i m] : List Int), rdE u32 (nth ((nth l.Jumps k).To) i), rowE 3 vn (ledPre (nth l.Jumps k) s i : List Int), blkE g14 (.cells #[u11n0, u11n1] 25), rdE u11n1 ((nth l.Jumps k).To), rdE u11n0 ((nth l.Jumps k).When), rowE 32 vo (nextTo l s k : List (List Int)), blkE g1 (.cells #[wa, wb, wc, wd, we] 42), rdE wa l.Low, rdE wb l.High, rdE wc l.Start, rdE wd l.Jumps, rdE we l.Bad, rdE vs s] H44 := St.fin hS45
      have hS47 : St H0 NoB (fun b => S b ∧ b < H0.size) [rowE 3 vn (ledPre (nth l.Jumps k) s i : List Int), rdE v43 ([ledTo (nth l.Jumps k) s i m] : List Int), rdE u32 (nth ((nth l.Jumps k).To) i), blkE g14 (.cells #[u11n0, u11n1] 25), rdE u11n1 ((nth l.Jumps k).To), rdE u11n0 ((nth l.Jumps k).When), rowE 32 vo (nextTo l s k : List (List Int)), blkE g1 (.cells #[wa, wb, wc, wd, we] 42), rdE wa l.Low, rdE wb l.High, rdE wc l.Start, rdE wd l.Jumps, rdE we l.Bad, rdE vs s] H44 := (hS46.front 2 rfl)
      refine wpL_o rfl ?_
      refine e_append rfl Try.underlying32 em_Int_3_LoopS4 rfl rfl hS47 (hS47.rdS 1 rfl) (fun _ h => h) (by have hb : GoT.bytes Int = 8 := rfl; simp [ledPre, hb]; omega) (by decide) (fun v48 H49 hS50 hxx => ?_)
      replace hS50 : St H0 NoB (fun b => S b ∧ b < H0.size) [rowE 3 v48 ((ledPre (nth l.Jumps k) s i) ++ ([ledTo (nth l.Jumps k) s i m]) : List Int), rdE v43 ([ledTo (nth l.Jumps k) s i m] : List Int), rdE u32 (nth ((nth l.Jumps k).To) i), blkE g14 (.cells #[u11n0, u11n1] 25), rdE u11n1 ((nth l.Jumps k).To), rdE u11n0 ((nth l.Jumps k).When), rowE 32 vo (nextTo l s k : List (List Int)), blkE g1 (.cells #[wa, wb, wc, wd, we] 42), rdE wa l.Low, rdE wb l.High, rdE wc l.Start, rdE wd l.Jumps, rdE we l.Bad, rdE vs s] H49 := hS50
      have hS51 : St H0 NoB (fun b => S b ∧ b < H0.size) [rowE 3 v48 (ledPre (nth l.Jumps k) s (i + 1) : List Int), rdE v43 ([ledTo (nth l.Jumps k) s i m] : List Int), rdE u32 (nth ((nth l.Jumps k).To) i), blkE g14 (.cells #[u11n0, u11n1] 25), rdE u11n1 ((nth l.Jumps k).To), rdE u11n0 ((nth l.Jumps k).When), rowE 32 vo (nextTo l s k : List (List Int)), blkE g1 (.cells #[wa, wb, wc, wd, we] 42), rdE wa l.Low, rdE wb l.High, rdE wc l.Start, rdE wd l.Jumps, rdE we l.Bad, rdE vs s] H49 := by rw [show (ledPre (nth l.Jumps k) s (i + 1)) = ((ledPre (nth l.Jumps k) s i) ++ ([ledTo (nth l.Jumps k) s i m])) from (by rw [ledPre_next, hme])]; exact hS50
      refine wpL_q (U := NoB) rfl (q_assign (v := v48) rfl rfl) ?_
      exact ⟨v48, a38_1, a38_2, a38_5, rfl, a38_15, a38_16, a38_17, a38_27, a38_28, a38_29, (hS51.drop (sk (sn (sn (sk (sk (sk (sk (sk (sk (sk (sk (sk (sk (sk (List.Sublist.slnil))))))))))))))))⟩
    rintro f52 H52 ⟨v48, a52_1, a52_2, a52_5, a52_8, a52_15, a52_16, a52_17, a52_27, a52_28, a52_29, hS52⟩
    clear a38_1 a38_10 a38_11 a38_15 a38_16 a38_17 a38_2 a38_27 a38_28 a38_29 a38_38 a38_39 a38_40 a38_41 a38_5 a38_8
    refine wpF_cut (fun f H => f 1 = vs ∧ f 2 = PT g1 0 ∧ f 5 = vo ∧ f 8 = v48 ∧ f 15 = wd ∧ f 16 = I ((l.Jumps.length : Int)) ∧ f 17 = I ((k : Int)) ∧ f 27 = u11n1 ∧ f 28 = I ((((nth l.Jumps k).To).length : Int)) ∧ f 29 = I ((i : Int) + 1) ∧ H52 = H) ?_ ?_
    · refine wpF_region ?_
      refine wpL_q (U := NoB) rfl (q_add rfl a52_29 rfl (by constructor <;> omega)) ?_
      refine wpL_q (U := NoB) rfl (q_move (v := I ((i : Int) + 1)) rfl rfl) ?_
      exact ⟨a52_1, a52_2, a52_5, a52_8, a52_15, a52_16, a52_17, a52_27, a52_28, rfl, rfl⟩
    rintro f53 _ ⟨a53_1, a53_2, a53_5, a53_8, a53_15, a53_16, a53_17, a53_27, a53_28, a53_29, rfl⟩
    clear a52_1 a52_15 a52_16 a52_17 a52_2 a52_27 a52_28 a52_29 a52_5 a52_8
    refine ⟨_, ?_, i + 1, v48, rfl, (by omega), a53_1, a53_2, a53_5, a53_8, a53_15, a53_16, a53_17, a53_27, a53_28, (Eq.trans a53_29 (congrArg I (by omega))), hS52⟩
    omega
  have hlm := led_mul (j := (nth l.Jumps k)) (i := i) (k := m) hj rfl hsm (by omega) (by omega)
  have hlb := led_bound (j := (nth l.Jumps k)) (i := i) (k := m) hj rfl hn8 hsm (by omega) (by omega)
  have hat2 := hj.at_ (i := i) (v := m) (by omega) (by omega)
  refine wpF_skip ?_
  refine wpF_seq ?_
  refine wpF_block ?_
  refine wpF_seq ?_
  refine wpF_cut (fun f H => f 1 = vs ∧ f 2 = PT g1 0 ∧ f 5 = vo ∧ f 8 = vn ∧ f 10 = u32 ∧ f 11 = I (ledTo (nth l.Jumps k) s i m) ∧ f 12 = I ((m : Int)) ∧ f 13 = I (nth s m) ∧ f 15 = wd ∧ f 16 = I ((l.Jumps.length : Int)) ∧ f 17 = I ((k : Int)) ∧ f 27 = u11n1 ∧ f 28 = I ((((nth l.Jumps k).To).length : Int)) ∧ f 29 = I ((i : Int)) ∧ f 38 = vs ∧ f 39 = I ((s.length : Int)) ∧ f 40 = I ((m : Int)) ∧ H37 = H) ?_ ?_
  · refine wpF_region ?_
    refine wpL_q (U := NoB) rfl (q_move (v := I ((m : Int))) rfl a38_40) ?_
    refine wpL_q (U := NoB) rfl (q_indexRd (k := m) rfl Try.underlying32 el_Int_3_LoopS4 a38_38 a38_40 (hS37.rdl 12 rfl) (by omega) (by omega)) ?_
    refine wpL_q (U := NoB) rfl (q_loadInt (k := m) rfl rfl el_Int_3_LoopS4 (hS37.rdl 12 rfl) (by omega) (fun _ h => h)) ?_
    refine wpL_q (U := NoB) rfl (q_assign (v := I ((m : Int))) rfl rfl) ?_
    refine wpL_q (U := NoB) rfl (q_assign (v := I (nth s m)) rfl rfl) ?_
    exact ⟨a38_1, a38_2, a38_5, a38_8, a38_10, a38_11, rfl, rfl, a38_15, a38_16, a38_17, a38_27, a38_28, a38_29, a38_38, a38_39, a38_40, rfl⟩
  rintro f40 _ ⟨a40_1, a40_2, a40_5, a40_8, a40_10, a40_11, a40_12, a40_13, a40_15, a40_16, a40_17, a40_27, a40_28, a40_29, a40_38, a40_39, a40_40, rfl⟩
  clear a38_1 a38_10 a38_11 a38_15 a38_16 a38_17 a38_2 a38_27 a38_28 a38_29 a38_38 a38_39 a38_40 a38_41 a38_5 a38_8
  refine wpF_cut (fun f H => f 1 = vs ∧ f 2 = PT g1 0 ∧ f 5 = vo ∧ f 8 = vn ∧ f 10 = u32 ∧ f 11 = I ((ledTo (nth l.Jumps k) s i m) + ((nth (nth ((nth l.Jumps k).To) i) m) * (nth s m))) ∧ f 15 = wd ∧ f 16 = I ((l.Jumps.length : Int)) ∧ f 17 = I ((k : Int)) ∧ f 27 = u11n1 ∧ f 28 = I ((((nth l.Jumps k).To).length : Int)) ∧ f 29 = I ((i : Int)) ∧ f 38 = vs ∧ f 39 = I ((s.length : Int)) ∧ f 40 = I ((m : Int)) ∧ H37 = H) ?_ ?_
  · refine wpF_region ?_
    refine wpL_q (U := NoB) rfl (q_move (v := I (ledTo (nth l.Jumps k) s i m)) rfl a40_11) ?_
    refine wpL_q (U := NoB) rfl (q_move (v := u32) rfl a40_10) ?_
    refine wpL_q (U := NoB) rfl (q_move (v := I ((m : Int))) rfl a40_12) ?_
    refine wpL_q (U := NoB) rfl (q_indexRd (k := m) rfl Try.underlying32 el_Int_3_LoopS4 rfl rfl (hS37.rdl 0 rfl) (by omega) (by omega)) ?_
    refine wpL_q (U := NoB) rfl (q_loadInt (k := m) rfl rfl el_Int_3_LoopS4 (hS37.rdl 0 rfl) (by omega) (fun _ h => h)) ?_
    refine wpL_q (U := NoB) rfl (q_move (v := I (nth s m)) rfl a40_13) ?_
    refine wpL_q (U := NoB) rfl (q_mul rfl rfl rfl (by constructor <;> omega)) ?_
    refine wpL_q (U := NoB) rfl (q_add rfl rfl rfl (by constructor <;> omega)) ?_
    refine wpL_q (U := NoB) rfl (q_assign (v := I ((ledTo (nth l.Jumps k) s i m) + ((nth (nth ((nth l.Jumps k).To) i) m) * (nth s m)))) rfl rfl) ?_
    exact ⟨a40_1, a40_2, a40_5, a40_8, a40_10, rfl, a40_15, a40_16, a40_17, a40_27, a40_28, a40_29, a40_38, a40_39, a40_40, rfl⟩
  rintro f41 _ ⟨a41_1, a41_2, a41_5, a41_8, a41_10, a41_11, a41_15, a41_16, a41_17, a41_27, a41_28, a41_29, a41_38, a41_39, a41_40, rfl⟩
  clear a40_1 a40_10 a40_11 a40_12 a40_13 a40_15 a40_16 a40_17 a40_2 a40_27 a40_28 a40_29 a40_38 a40_39 a40_40 a40_5 a40_8
  refine wpF_cut (fun f H => f 1 = vs ∧ f 2 = PT g1 0 ∧ f 5 = vo ∧ f 8 = vn ∧ f 10 = u32 ∧ f 11 = I ((ledTo (nth l.Jumps k) s i m) + ((nth (nth ((nth l.Jumps k).To) i) m) * (nth s m))) ∧ f 15 = wd ∧ f 16 = I ((l.Jumps.length : Int)) ∧ f 17 = I ((k : Int)) ∧ f 27 = u11n1 ∧ f 28 = I ((((nth l.Jumps k).To).length : Int)) ∧ f 29 = I ((i : Int)) ∧ f 38 = vs ∧ f 39 = I ((s.length : Int)) ∧ f 40 = I ((m : Int) + 1) ∧ H37 = H) ?_ ?_
  · refine wpF_region ?_
    refine wpL_q (U := NoB) rfl (q_add rfl a41_40 rfl (by constructor <;> omega)) ?_
    refine wpL_q (U := NoB) rfl (q_move (v := I ((m : Int) + 1)) rfl rfl) ?_
    exact ⟨a41_1, a41_2, a41_5, a41_8, a41_10, a41_11, a41_15, a41_16, a41_17, a41_27, a41_28, a41_29, a41_38, a41_39, rfl, rfl⟩
  rintro f42 _ ⟨a42_1, a42_2, a42_5, a42_8, a42_10, a42_11, a42_15, a42_16, a42_17, a42_27, a42_28, a42_29, a42_38, a42_39, a42_40, rfl⟩
  clear a41_1 a41_10 a41_11 a41_15 a41_16 a41_17 a41_2 a41_27 a41_28 a41_29 a41_38 a41_39 a41_40 a41_5 a41_8
  refine ⟨_, ?_, m + 1, rfl, (by omega), a42_1, a42_2, a42_5, a42_8, a42_10, a42_11, a42_15, a42_16, a42_17, a42_27, a42_28, a42_29, a42_38, a42_39, (Eq.trans a42_40 (congrArg I (by omega))), hS37⟩
  omega

set_option maxRecDepth 100000 in
theorem Next_L {H0 : Heap} {S : Nat → Prop} (wa wb wc wd we vs : Value) (l : Loop) (s : List Int) (rwa : Rd S H0 wa l.Low) (rwb : Rd S H0 wb l.High) (rwc : Rd S H0 wc l.Start) (rwd : Rd S H0 wd l.Jumps) (rwe : Rd S H0 we l.Bad) (rs : Rd S H0 vs s) : CallsH Try.prog 25 #[Value.agg #[wa, wb, wc, wd, we], vs] H0 (fun rv_ H' => Ext NoB H0 H' ∧ ∃ w0_, rv_ = Value.tuple #[w0_, Value.agg #[I (nextFault l s).1, I (nextFault l s).2]] ∧ Rd (fun b => S b ∧ b < H0.size) H' w0_ (nextOut l s)) := by
  have hs1 := (Rd.list.1 rwa).small
  have hs2 := (Rd.list.1 rwb).small
  have hs4 := (Rd.list.1 rwd).small
  have hss := (Rd.list.1 rs).small
  have hS0 : St H0 NoB (fun b => S b ∧ b < H0.size) [rdE wa l.Low, rdE wb l.High, rdE wc l.Start, rdE wd l.Jumps, rdE we l.Bad, rdE vs s] H0 := St.arg (St.arg (St.arg (St.arg (St.arg (St.arg (St.start (fun _ h => h.2)) (Bl0.nil) rs (fun _ h => h.1)) (Bl0.cons (Bl0.nil)) rwe (fun _ h => h.1)) (Bl0.cons (Bl0.cons (Bl0.nil))) rwd (fun _ h => h.1)) (Bl0.cons (Bl0.cons (Bl0.cons (Bl0.nil)))) rwc (fun _ h => h.1)) (Bl0.cons (Bl0.cons (Bl0.cons (Bl0.cons (Bl0.nil))))) rwb (fun _ h => h.1)) (Bl0.cons (Bl0.cons (Bl0.cons (Bl0.cons (Bl0.cons (Bl0.nil)))))) rwa (fun _ h => h.1)
  refine callsH_of_wpF (args := [Value.agg #[wa, wb, wc, wd, we], vs]) (rs := [.tmp 4, .cell 5 27]) Try.func25 rfl Try.ntmps25 Try.results25 (by kernel_rfl) (Nat.le_of_ble_eq_true rfl) ?_
  have a0_0 : argF [Value.agg #[wa, wb, wc, wd, we], vs] 0 = Value.agg #[wa, wb, wc, wd, we] := rfl
  have a0_1 : argF [Value.agg #[wa, wb, wc, wd, we], vs] 1 = vs := rfl
  generalize argF [Value.agg #[wa, wb, wc, wd, we], vs] = f0 at *
  refine wpF_seq ?_
  refine wpF_cut (fun f H => ∃ (g1 : Nat), ∃ (g4 : Nat), f 1 = vs ∧ f 2 = PT g1 0 ∧ f 5 = PT g4 0 ∧ St H0 NoB (fun b => S b ∧ b < H0.size) [blkE g4 (.cells #[I (0), I (0)] 27), blkE g1 (.cells #[wa, wb, wc, wd, we] 42), rdE wa l.Low, rdE wb l.High, rdE wc l.Start, rdE wd l.Jumps, rdE we l.Bad, rdE vs s] H) ?_ ?_
  · refine wpF_region ?_
    refine wpL_o rfl ?_
    refine e_box (v := Value.agg #[wa, wb, wc, wd, we]) rfl a0_0 hS0 (fun g1 H2 hS3 hxx => ?_)
    replace hS3 : St H0 NoB (fun b => S b ∧ b < H0.size) [blkE g1 (.cells #[wa, wb, wc, wd, we] 42), rdE wa l.Low, rdE wb l.High, rdE wc l.Start, rdE wd l.Jumps, rdE we l.Bad, rdE vs s] H2 := hS3
    refine wpL_q (U := NoB) rfl (q_assign (v := (Value.slice none 0 0)) rfl rfl) ?_
    refine wpL_o rfl ?_
    refine e_alloc rfl Try.zeroValue27 hS3 (fun g4 H5 hS6 hxx => ?_)
    replace hS6 : St H0 NoB (fun b => S b ∧ b < H0.size) [blkE g4 (.cells #[I (0), I (0)] 27), blkE g1 (.cells #[wa, wb, wc, wd, we] 42), rdE wa l.Low, rdE wb l.High, rdE wc l.Start, rdE wd l.Jumps, rdE we l.Bad, rdE vs s] H5 := hS6
    exact ⟨g1, g4, a0_1, rfl, rfl, hS6⟩
  rintro f7 H7 ⟨g1, g4, a7_1, a7_2, a7_5, hS7⟩
  clear a0_0 a0_1
  refine wpF_seq ?_
  refine wpF_seq ?_
  refine wpF_cut (fun f H => ∃ (g11 : Nat), f 1 = vs ∧ f 2 = PT g1 0 ∧ f 5 = PT g4 0 ∧ f 6 = PT g11 0 ∧ St H0 NoB (fun b => S b ∧ b < H0.size) [blkE g11 (.cells #[I ((loopFault l).1), I ((loopFault l).2)] 27), blkE g4 (.cells #[I (0), I (0)] 27), blkE g1 (.cells #[wa, wb, wc, wd, we] 42), rdE wa l.Low, rdE wb l.High, rdE wc l.Start, rdE wd l.Jumps, rdE we l.Bad, rdE vs s] H) ?_ ?_
  · refine wpF_region ?_
    refine wpL_q (U := NoB) rfl (q_loadBlkA rfl a7_2 Try.isAgg42 Try.sizeOf42 rfl (hS7.blk 1 rfl) (fun h => h)) ?_
    refine wpL_o rfl ?_
    refine e_call rfl Try.call27 (arr1 (v0 := Value.agg #[wa, wb, wc, wd, we]) rfl) (Check_L wa wb wc wd we l (hS7.rdN 2 rfl) (hS7.rdN 3 rfl) (hS7.rdN 4 rfl) (hS7.rdN 5 rfl) (hS7.rdN 6 rfl) ) ?_
    rintro _ H8 ⟨hxx, rfl⟩
    have hS9 : St H0 NoB (fun b => S b ∧ b < H0.size) [blkE g4 (.cells #[I (0), I (0)] 27), blkE g1 (.cells #[wa, wb, wc, wd, we] 42), rdE wa l.Low, rdE wb l.High, rdE wc l.Start, rdE wd l.Jumps, rdE we l.Bad, rdE vs s] H8 := hS7.ext hxx
    refine wpL_o rfl ?_
    refine e_alloc rfl Try.zeroValue27 hS9 (fun g11 H12 hS13 hxx => ?_)
    replace hS13 : St H0 NoB (fun b => S b ∧ b < H0.size) [blkE g11 (.cells #[I (0), I (0)] 27), blkE g4 (.cells #[I (0), I (0)] 27), blkE g1 (.cells #[wa, wb, wc, wd, we] 42), rdE wa l.Low, rdE wb l.High, rdE wc l.Start, rdE wd l.Jumps, rdE we l.Bad, rdE vs s] H12 := hS13
    refine wpL_o rfl ?_
    refine e_storeBlkA (cs' := #[I ((loopFault l).1), I ((loopFault l).2)]) rfl rfl rfl Try.sizeOf27 rfl rfl (List.forall_mem_cons.2 ⟨rfl, List.forall_mem_cons.2 ⟨rfl, List.forall_mem_nil _⟩⟩) hS13 (fun H14 hS15 hxx => ?_)
    replace hS15 : St H0 NoB (fun b => S b ∧ b < H0.size) [blkE g11 (.cells #[I ((loopFault l).1), I ((loopFault l).2)] 27), blkE g4 (.cells #[I (0), I (0)] 27), blkE g1 (.cells #[wa, wb, wc, wd, we] 42), rdE wa l.Low, rdE wb l.High, rdE wc l.Start, rdE wd l.Jumps, rdE we l.Bad, rdE vs s] H14 := hS15
    exact ⟨g11, a7_1, a7_2, a7_5, rfl, hS15⟩
  rintro f16 H16 ⟨g11, a16_1, a16_2, a16_5, a16_6, hS16⟩
  clear a7_1 a7_2 a7_5
  refine wpF_seq ?_
  refine wpF_cut (fun f H => f 1 = vs ∧ f 2 = PT g1 0 ∧ f 5 = PT g4 0 ∧ f 6 = PT g11 0 ∧ f 11 = B (decide (((loopFault l).1) ≠ 0)) ∧ H16 = H) ?_ ?_
  · refine wpF_region ?_
    refine wpL_q (U := NoB) rfl (q_fieldAddr rfl Try.underlying27 rfl Try.sizeOf3 a16_6) ?_
    refine wpL_q (U := NoB) rfl (q_loadBlk rfl rfl Try.isAgg3 (hS16.blk 0 rfl) rfl (fun h => h)) ?_
    refine wpL_q (U := NoB) rfl (q_neq rfl rfl rfl) ?_
    exact ⟨a16_1, a16_2, a16_5, a16_6, rfl, rfl⟩
  rintro f17 _ ⟨a17_1, a17_2, a17_5, a17_6, a17_11, rfl⟩
  clear a16_1 a16_2 a16_5 a16_6
  refine wpF_condP a17_11 (fun h1 => ?t43) (fun h1 => ?e43)
  case t43 =>
    refine wpF_seq ?_
    refine wpF_cut (fun f H => f 4 = (Value.slice none 0 0) ∧ f 5 = PT g4 0 ∧ St H0 NoB (fun b => S b ∧ b < H0.size) [blkE g4 (.cells #[I ((loopFault l).1), I ((loopFault l).2)] 27), blkE g11 (.cells #[I ((loopFault l).1), I ((loopFault l).2)] 27), blkE g1 (.cells #[wa, wb, wc, wd, we] 42), rdE wa l.Low, rdE wb l.High, rdE wc l.Start, rdE wd l.Jumps, rdE we l.Bad, rdE vs s] H) ?_ ?_
    · refine wpF_drawn [none, none, some 0] [[], [], []] (fun l b => match l with | 0 => True | _ => False) (by kernel_rfl) (by kernel_rfl) ?_
      refine wpR_q 0 (by kernel_rfl) rfl (quietAt rfl rfl (q_loadBlkA rfl a17_6 Try.isAgg27 Try.sizeOf27 rfl (hS16.blk 0 rfl) (labU_not [] rfl (List.forall_mem_nil _)))) ?_
      refine wpR_q 1 (by kernel_rfl) rfl (quietAt rfl rfl (q_assign (v := (Value.slice none 0 0)) rfl rfl)) ?_
      refine wpR_n [2] (by kernel_rfl) ?_
      refine List.forall_mem_cons.2 ⟨?_, List.forall_mem_nil _⟩
      refine exE rfl rfl ?_
      refine e_storeBlkA (cs' := #[I ((loopFault l).1), I ((loopFault l).2)]) rfl a17_5 rfl Try.sizeOf27 rfl rfl (List.forall_mem_cons.2 ⟨rfl, List.forall_mem_cons.2 ⟨rfl, List.forall_mem_nil _⟩⟩) (hS16.front 1 rfl) (fun H19o2 hS19o2 hxx => ?_)
      replace hS19o2 : St H0 NoB (fun b => S b ∧ b < H0.size) [blkE g4 (.cells #[I ((loopFault l).1), I ((loopFault l).2)] 27), blkE g11 (.cells #[I ((loopFault l).1), I ((loopFault l).2)] 27), blkE g1 (.cells #[wa, wb, wc, wd, we] 42), rdE wa l.Low, rdE wb l.High, rdE wc l.Start, rdE wd l.Jumps, rdE we l.Bad, rdE vs s] H19o2 := hS19o2
      refine ⟨Ext.mono hxx (labS_of 0 rfl (fun _ _ => trivial)), ?_⟩
      refine wpR_end (by kernel_rfl) ?_
      exact ⟨rfl, a17_5, hS19o2⟩
    rintro f20 H20 ⟨a20_4, a20_5, hS20⟩
    clear a17_1 a17_11 a17_2 a17_5 a17_6
    refine wpF_ret ?_
    refine ⟨_, resT a20_4 (resC a20_5 (loadV_blkA Try.isAgg27 Try.sizeOf27 rfl (hS20.blk 0 rfl)) (resN)), hS20.frame, ?_⟩
    show ∃ w0_, (Value.tuple #[(Value.slice none 0 0), Value.agg #[I ((loopFault l).1), I ((loopFault l).2)]]) = Value.tuple #[w0_, Value.agg #[I (nextFault l s).1, I (nextFault l s).2]] ∧ Rd (fun b => S b ∧ b < H0.size) H20 w0_ (nextOut l s)
    have hq : nextFault l s = loopFault l := by rw [nextFault, if_pos h1]
    have hq2 : nextOut l s = [] := if_pos (by rw [hq]; exact h1)
    exact ⟨(Value.slice none 0 0), by rw [hq], by rw [hq2]; exact rdNil⟩
  have hl := LW.of (Decidable.of_not_not h1)
  refine wpF_skip ?_
  refine wpF_seq ?_
  refine wpF_block ?_
  refine wpF_seq ?_
  refine wpF_cut (fun f H => f 1 = vs ∧ f 2 = PT g1 0 ∧ f 5 = PT g4 0 ∧ f 13 = B (decide ((s.length : Int) ≠ (l.Low.length : Int))) ∧ H16 = H) ?_ ?_
  · refine wpF_region ?_
    refine wpL_q (U := NoB) rfl (q_move (v := vs) rfl a17_1) ?_
    refine wpL_q (U := NoB) rfl (q_lenRd rfl Try.underlying32 rfl (hS16.rdl 8 rfl)) ?_
    refine wpL_q (U := NoB) rfl (q_fieldAddr rfl Try.underlying42 rfl Try.sizeOf32 a17_2) ?_
    refine wpL_q (U := NoB) rfl (q_loadBlk rfl rfl Try.isAgg32 (hS16.blk 2 rfl) rfl (fun h => h)) ?_
    refine wpL_q (U := NoB) rfl (q_lenRd rfl Try.underlying32 rfl (hS16.rdl 3 rfl)) ?_
    refine wpL_q (U := NoB) rfl (q_neq rfl rfl rfl) ?_
    refine wpL_q (U := NoB) rfl (q_assign (v := B (decide ((s.length : Int) ≠ (l.Low.length : Int)))) rfl rfl) ?_
    exact ⟨a17_1, a17_2, a17_5, rfl, rfl⟩
  rintro f21 _ ⟨a21_1, a21_2, a21_5, a21_13, rfl⟩
  clear a17_1 a17_11 a17_2 a17_5 a17_6
  refine wpF_condP a21_13 (fun h2 => ?t42) (fun h2 => ?e42)
  case t42 =>
    refine wpF_seq ?_
    refine wpF_cut (fun f H => f 4 = (Value.slice none 0 0) ∧ f 5 = PT g4 0 ∧ St H0 NoB (fun b => S b ∧ b < H0.size) [blkE g4 (.cells #[I (9), I (-4)] 27), blkE g11 (.cells #[I ((loopFault l).1), I ((loopFault l).2)] 27), blkE g1 (.cells #[wa, wb, wc, wd, we] 42), rdE wa l.Low, rdE wb l.High, rdE wc l.Start, rdE wd l.Jumps, rdE we l.Bad, rdE vs s] H) ?_ ?_
    · refine wpF_region ?_
      refine wpL_q (U := NoB) rfl (q_build (v := Value.agg #[I (9), I (-4)]) rfl (par2 (v0 := I (9)) (v1 := I (-4)) rfl rfl) (fun w => by kernel_rfl)) ?_
      refine wpL_q (U := NoB) rfl (q_assign (v := (Value.slice none 0 0)) rfl rfl) ?_
      refine wpL_o rfl ?_
      refine e_storeBlkA (cs' := #[I (9), I (-4)]) rfl a21_5 rfl Try.sizeOf27 rfl rfl (List.forall_mem_cons.2 ⟨rfl, List.forall_mem_cons.2 ⟨rfl, List.forall_mem_nil _⟩⟩) (hS16.front 1 rfl) (fun H23 hS24 hxx => ?_)
      replace hS24 : St H0 NoB (fun b => S b ∧ b < H0.size) [blkE g4 (.cells #[I (9), I (-4)] 27), blkE g11 (.cells #[I ((loopFault l).1), I ((loopFault l).2)] 27), blkE g1 (.cells #[wa, wb, wc, wd, we] 42), rdE wa l.Low, rdE wb l.High, rdE wc l.Start, rdE wd l.Jumps, rdE we l.Bad, rdE vs s] H23 := hS24
      exact ⟨rfl, a21_5, hS24⟩
    rintro f25 H25 ⟨a25_4, a25_5, hS25⟩
    clear a21_1 a21_13 a21_2 a21_5
    refine wpF_ret ?_
    refine ⟨_, resT a25_4 (resC a25_5 (loadV_blkA Try.isAgg27 Try.sizeOf27 rfl (hS25.blk 0 rfl)) (resN)), hS25.frame, ?_⟩
    show ∃ w0_, (Value.tuple #[(Value.slice none 0 0), Value.agg #[I (9), I (-4)]]) = Value.tuple #[w0_, Value.agg #[I (nextFault l s).1, I (nextFault l s).2]] ∧ Rd (fun b => S b ∧ b < H0.size) H25 w0_ (nextOut l s)
    have hq : nextFault l s = (9, -4) := by rw [nextFault, if_neg h1, if_pos h2]
    have hq2 : nextOut l s = [] := if_pos (by rw [hq]; exact (by decide : (9 : Int) ≠ 0))
    exact ⟨(Value.slice none 0 0), by rw [hq], by rw [hq2]; exact rdNil⟩
  refine wpF_seq ?_
  refine wpF_cut (fun f H => f 1 = vs ∧ f 2 = PT g1 0 ∧ f 5 = PT g4 0 ∧ f 21 = B (!(insideB l s)) ∧ St H0 NoB (fun b => S b ∧ b < H0.size) [blkE g11 (.cells #[I ((loopFault l).1), I ((loopFault l).2)] 27), blkE g4 (.cells #[I (0), I (0)] 27), blkE g1 (.cells #[wa, wb, wc, wd, we] 42), rdE wa l.Low, rdE wb l.High, rdE wc l.Start, rdE wd l.Jumps, rdE we l.Bad, rdE vs s] H) ?_ ?_
  · refine wpF_region ?_
    refine wpL_q (U := NoB) rfl (q_loadBlkA rfl a21_2 Try.isAgg42 Try.sizeOf42 rfl (hS16.blk 2 rfl) (fun h => h)) ?_
    refine wpL_q (U := NoB) rfl (q_move (v := vs) rfl a21_1) ?_
    refine wpL_o rfl ?_
    refine e_call rfl Try.call64 (arr2 (v0 := Value.agg #[wa, wb, wc, wd, we]) (v1 := vs) rfl rfl) (State_L wa wb wc wd we vs l s (hS16.rdN 3 rfl) (hS16.rdN 4 rfl) (hS16.rdN 5 rfl) (hS16.rdN 6 rfl) (hS16.rdN 7 rfl) (hS16.rdN 8 rfl) (by omega) (by have := hl.high; omega)) ?_
    rintro _ H26 ⟨hxx, rfl⟩
    have hS27 : St H0 NoB (fun b => S b ∧ b < H0.size) [blkE g11 (.cells #[I ((loopFault l).1), I ((loopFault l).2)] 27), blkE g4 (.cells #[I (0), I (0)] 27), blkE g1 (.cells #[wa, wb, wc, wd, we] 42), rdE wa l.Low, rdE wb l.High, rdE wc l.Start, rdE wd l.Jumps, rdE we l.Bad, rdE vs s] H26 := hS16.ext hxx
    refine wpL_q (U := NoB) rfl (q_not rfl rfl) ?_
    refine wpL_q (U := NoB) rfl (q_assign (v := B (!(insideB l s))) rfl rfl) ?_
    exact ⟨a21_1, a21_2, a21_5, rfl, hS27⟩
  rintro f29 H29 ⟨a29_1, a29_2, a29_5, a29_21, hS29⟩
  clear a21_1 a21_13 a21_2 a21_5
  refine wpF_cond a29_21 (fun h3 => ?t41) (fun h3 => ?e41)
  case t41 =>
    refine wpF_seq ?_
    refine wpF_cut (fun f H => f 4 = (Value.slice none 0 0) ∧ f 5 = PT g4 0 ∧ St H0 NoB (fun b => S b ∧ b < H0.size) [blkE g4 (.cells #[I (3), I (-4)] 27), blkE g11 (.cells #[I ((loopFault l).1), I ((loopFault l).2)] 27), blkE g1 (.cells #[wa, wb, wc, wd, we] 42), rdE wa l.Low, rdE wb l.High, rdE wc l.Start, rdE wd l.Jumps, rdE we l.Bad, rdE vs s] H) ?_ ?_
    · refine wpF_region ?_
      refine wpL_q (U := NoB) rfl (q_build (v := Value.agg #[I (3), I (-4)]) rfl (par2 (v0 := I (3)) (v1 := I (-4)) rfl rfl) (fun w => by kernel_rfl)) ?_
      refine wpL_q (U := NoB) rfl (q_assign (v := (Value.slice none 0 0)) rfl rfl) ?_
      refine wpL_o rfl ?_
      refine e_storeBlkA (cs' := #[I (3), I (-4)]) rfl a29_5 rfl Try.sizeOf27 rfl rfl (List.forall_mem_cons.2 ⟨rfl, List.forall_mem_cons.2 ⟨rfl, List.forall_mem_nil _⟩⟩) (hS29.front 1 rfl) (fun H31 hS32 hxx => ?_)
      replace hS32 : St H0 NoB (fun b => S b ∧ b < H0.size) [blkE g4 (.cells #[I (3), I (-4)] 27), blkE g11 (.cells #[I ((loopFault l).1), I ((loopFault l).2)] 27), blkE g1 (.cells #[wa, wb, wc, wd, we] 42), rdE wa l.Low, rdE wb l.High, rdE wc l.Start, rdE wd l.Jumps, rdE we l.Bad, rdE vs s] H31 := hS32
      exact ⟨rfl, a29_5, hS32⟩
    rintro f33 H33 ⟨a33_4, a33_5, hS33⟩
    clear a29_1 a29_2 a29_21 a29_5
    refine wpF_ret ?_
    refine ⟨_, resT a33_4 (resC a33_5 (loadV_blkA Try.isAgg27 Try.sizeOf27 rfl (hS33.blk 0 rfl)) (resN)), hS33.frame, ?_⟩
    show ∃ w0_, (Value.tuple #[(Value.slice none 0 0), Value.agg #[I (3), I (-4)]]) = Value.tuple #[w0_, Value.agg #[I (nextFault l s).1, I (nextFault l s).2]] ∧ Rd (fun b => S b ∧ b < H0.size) H33 w0_ (nextOut l s)
    have hq : nextFault l s = (3, -4) := by rw [nextFault, if_neg h1, if_neg h2, if_neg (by simpa using h3)]
    have hq2 : nextOut l s = [] := if_pos (by rw [hq]; exact (by decide : (3 : Int) ≠ 0))
    exact ⟨(Value.slice none 0 0), by rw [hq], by rw [hq2]; exact rdNil⟩
  refine wpF_skip ?_
  refine wpF_seq ?_
  refine wpF_cut (fun f H => ∃ (r34 : Value), f 4 = r34 ∧ f 5 = PT g4 0 ∧ St H0 NoB (fun b => S b ∧ b < H0.size) [blkE g4 (.cells #[I (0), I (0)] 27), rdE r34 (nextL l s), blkE g11 (.cells #[I ((loopFault l).1), I ((loopFault l).2)] 27), blkE g1 (.cells #[wa, wb, wc, wd, we] 42), rdE wa l.Low, rdE wb l.High, rdE wc l.Start, rdE wd l.Jumps, rdE we l.Bad, rdE vs s] H) ?_ ?_
  · refine wpF_region ?_
    refine wpL_q (U := NoB) rfl (q_loadBlkA rfl a29_2 Try.isAgg42 Try.sizeOf42 rfl (hS29.blk 2 rfl) (fun h => h)) ?_
    refine wpL_q (U := NoB) rfl (q_move (v := vs) rfl a29_1) ?_
    refine wpL_o rfl ?_
    refine e_call rfl Try.call55 (arr2 (v0 := Value.agg #[wa, wb, wc, wd, we]) (v1 := vs) rfl rfl) (Succ_L wa wb wc wd we vs l s (hS29.rdS 3 rfl) (hS29.rdS 4 rfl) (hS29.rdS 5 rfl) (hS29.rdS 6 rfl) (hS29.rdS 7 rfl) (hS29.rdS 8 rfl) hl (by omega) (inside_small hl (by omega) (by simpa using h3))) ?_
    rintro r34 H35 ⟨hxx, hrr34⟩
    have hS36 : St H0 NoB (fun b => S b ∧ b < H0.size) [rdE r34 (nextL l s), blkE g11 (.cells #[I ((loopFault l).1), I ((loopFault l).2)] 27), blkE g4 (.cells #[I (0), I (0)] 27), blkE g1 (.cells #[wa, wb, wc, wd, we] 42), rdE wa l.Low, rdE wb l.High, rdE wc l.Start, rdE wd l.Jumps, rdE we l.Bad, rdE vs s] H35 := hS29.res hxx hrr34
    refine wpL_q (U := NoB) rfl (q_build (v := Value.agg #[I (0), I (0)]) rfl par0 (fun w => by kernel_rfl)) ?_
    refine wpL_q (U := NoB) rfl (q_assign (v := r34) rfl rfl) ?_
    refine wpL_o rfl ?_
    refine e_storeBlkA (cs' := #[I (0), I (0)]) rfl a29_5 rfl Try.sizeOf27 rfl rfl (List.forall_mem_cons.2 ⟨rfl, List.forall_mem_cons.2 ⟨rfl, List.forall_mem_nil _⟩⟩) (hS36.front 2 rfl) (fun H38 hS39 hxx => ?_)
    replace hS39 : St H0 NoB (fun b => S b ∧ b < H0.size) [blkE g4 (.cells #[I (0), I (0)] 27), rdE r34 (nextL l s), blkE g11 (.cells #[I ((loopFault l).1), I ((loopFault l).2)] 27), blkE g1 (.cells #[wa, wb, wc, wd, we] 42), rdE wa l.Low, rdE wb l.High, rdE wc l.Start, rdE wd l.Jumps, rdE we l.Bad, rdE vs s] H38 := hS39
    exact ⟨r34, rfl, a29_5, hS39⟩
  rintro f40 H40 ⟨r34, a40_4, a40_5, hS40⟩
  clear a29_1 a29_2 a29_21 a29_5
  refine wpF_ret ?_
  refine ⟨_, resT a40_4 (resC a40_5 (loadV_blkA Try.isAgg27 Try.sizeOf27 rfl (hS40.blk 0 rfl)) (resN)), hS40.frame, ?_⟩
  show ∃ w0_, (Value.tuple #[r34, Value.agg #[I (0), I (0)]]) = Value.tuple #[w0_, Value.agg #[I (nextFault l s).1, I (nextFault l s).2]] ∧ Rd (fun b => S b ∧ b < H0.size) H40 w0_ (nextOut l s)
  have hq : nextFault l s = (0, 0) := by rw [nextFault, if_neg h1, if_neg h2, if_pos (by simpa using h3)]
  have hq2 : nextOut l s = nextL l s := if_neg (by rw [hq]; decide)
  exact ⟨r34, by rw [hq], by rw [hq2]; exact (hS40.result (hS40.rdS 1 rfl))⟩

end Go.Um
