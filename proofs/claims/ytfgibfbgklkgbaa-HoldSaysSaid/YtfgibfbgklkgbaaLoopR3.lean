import Derived.Test.YtfgibfbgklkgbaaProg
import Derived.Test.YtfgibfbgklkgbaaLoopR2
import Derived.Test.YtfgibfbgklkgbaaLoopS2
import Derived.Test.YtfgibfbgklkgbaaSaysPlain
import Derived.Test.YtfgibfbgklkgbaaUmSub
namespace Go.Um
open Go.Proofs
open GoT (sz ag rdc)
open KeyT (kv)

theorem el_LInt_32_LoopR3 : ElT Try.prog (List Int) 32 := ⟨Try.isAgg32, Try.sizeOf32⟩
theorem em_Int_3_LoopR3 : ElemOk Try.prog Int 3 := ⟨Try.t3, (.int .i64 0), by kernel_rfl, by kernel_rfl, by kernel_rfl, by kernel_rfl, by kernel_rfl⟩
theorem em_LInt_32_LoopR3 : ElemOk Try.prog (List Int) 32 := ⟨Try.t32, (.slice none 0 0), by kernel_rfl, by kernel_rfl, by kernel_rfl, by kernel_rfl, by kernel_rfl⟩

set_option maxHeartbeats 2000000 in
set_option maxRecDepth 100000 in
theorem Come_R {H0 : Heap} {S : Nat → Prop} (wa wb wc wd we : Value) (l : Loop) (rwa : Rd S H0 wa l.Low) (rwb : Rd S H0 wb l.High) (rwc : Rd S H0 wc l.Start) (rwd : Rd S H0 wd l.Jumps) (rwe : Rd S H0 we l.Bad) (hl : LW l) : CallsH Try.prog 28 #[Value.agg #[wa, wb, wc, wd, we]] H0 (fun rv_ H' => Ext NoB H0 H' ∧ ∃ w0_ w1_ fr_, rv_ = Value.tuple #[w0_, w1_] ∧ fr_.length = (comeL l).length ∧ FromOk l fr_ ∧ Rd (fun b => S b ∧ b < H0.size) H' w0_ (comeL l) ∧ Rd (fun b => S b ∧ b < H0.size) H' w1_ (fr_ : List Int)) := by
  have hs1 := (Rd.list.1 rwa).small
  have hs2 := (Rd.list.1 rwb).small
  have hs4 := (Rd.list.1 rwd).small
  have hmany := hl.many
  have hS0 : St H0 NoB (fun b => S b ∧ b < H0.size) [rdE wa l.Low, rdE wb l.High, rdE wc l.Start, rdE wd l.Jumps, rdE we l.Bad] H0 := St.arg (St.arg (St.arg (St.arg (St.arg (St.start (fun _ h => h.2)) (Bl0.nil) rwe (fun _ h => h.1)) (Bl0.cons (Bl0.nil)) rwd (fun _ h => h.1)) (Bl0.cons (Bl0.cons (Bl0.nil))) rwc (fun _ h => h.1)) (Bl0.cons (Bl0.cons (Bl0.cons (Bl0.nil)))) rwb (fun _ h => h.1)) (Bl0.cons (Bl0.cons (Bl0.cons (Bl0.cons (Bl0.nil))))) rwa (fun _ h => h.1)
  refine callsH_of_wpF (args := [Value.agg #[wa, wb, wc, wd, we]]) (rs := [.tmp 2, .tmp 3]) Try.func28 rfl Try.ntmps28 Try.results28 (by kernel_rfl) (Nat.le_of_ble_eq_true rfl) ?_
  have a0_0 : argF [Value.agg #[wa, wb, wc, wd, we]] 0 = Value.agg #[wa, wb, wc, wd, we] := rfl
  generalize argF [Value.agg #[wa, wb, wc, wd, we]] = f0 at *
  refine wpF_seq ?_
  refine wpF_cut (fun f H => ∃ (g1 : Nat), f 1 = PT g1 0 ∧ St H0 NoB (fun b => S b ∧ b < H0.size) [blkE g1 (.cells #[wa, wb, wc, wd, we] 42), rdE wa l.Low, rdE wb l.High, rdE wc l.Start, rdE wd l.Jumps, rdE we l.Bad] H) ?_ ?_
  · refine wpF_region ?_
    refine wpL_o rfl ?_
    refine e_box (v := Value.agg #[wa, wb, wc, wd, we]) rfl a0_0 hS0 (fun g1 H2 hS3 hxx => ?_)
    replace hS3 : St H0 NoB (fun b => S b ∧ b < H0.size) [blkE g1 (.cells #[wa, wb, wc, wd, we] 42), rdE wa l.Low, rdE wb l.High, rdE wc l.Start, rdE wd l.Jumps, rdE we l.Bad] H2 := hS3
    refine wpL_q (U := NoB) rfl (q_assign (v := (Value.slice none 0 0)) rfl rfl) ?_
    refine wpL_q (U := NoB) rfl (q_assign (v := (Value.slice none 0 0)) rfl rfl) ?_
    exact ⟨g1, rfl, hS3⟩
  rintro f4 H4 ⟨g1, a4_1, hS4⟩
  clear a0_0
  refine wpF_seq ?_
  refine wpF_cut (fun f H => ∃ (v5 : Value), f 1 = PT g1 0 ∧ f 4 = v5 ∧ St H0 NoB (fun b => S b ∧ b < H0.size) [rowE 32 v5 (startsL l : List (List Int)), blkE g1 (.cells #[wa, wb, wc, wd, we] 42), rdE wa l.Low, rdE wb l.High, rdE wc l.Start, rdE wd l.Jumps, rdE we l.Bad] H) ?_ ?_
  · refine wpF_region ?_
    refine wpL_q (U := NoB) rfl (q_loadBlkA rfl a4_1 Try.isAgg42 Try.sizeOf42 rfl (hS4.blk 0 rfl) (fun h => h)) ?_
    refine wpL_o rfl ?_
    refine e_call rfl Try.call36 (arr1 (v0 := Value.agg #[wa, wb, wc, wd, we]) rfl) (Starts_R wa wb wc wd we l (hS4.rdS 1 rfl) (hS4.rdS 2 rfl) (hS4.rdS 3 rfl) (hS4.rdS 4 rfl) (hS4.rdS 5 rfl) hl) ?_
    rintro v5 H6 ⟨hxx, hok, hge⟩
    have hS7 : St H0 NoB (fun b => S b ∧ b < H0.size) [rowE 32 v5 (startsL l : List (List Int)), blkE g1 (.cells #[wa, wb, wc, wd, we] 42), rdE wa l.Low, rdE wb l.High, rdE wc l.Start, rdE wd l.Jumps, rdE we l.Bad] H6 := St.gotRow hS4 hxx hok hge
    refine wpL_q (U := NoB) rfl (q_assign (v := v5) rfl rfl) ?_
    exact ⟨v5, a4_1, rfl, hS7⟩
  rintro f9 H9 ⟨v5, a9_1, a9_4, hS9⟩
  clear a4_1
  refine wpF_seq ?_
  refine wpF_cut (fun f H => f 1 = PT g1 0 ∧ f 4 = v5 ∧ f 5 = (Value.slice none 0 0) ∧ H9 = H) ?_ ?_
  · refine wpF_region ?_
    refine wpL_q (U := NoB) rfl (q_assign (v := (Value.slice none 0 0)) rfl rfl) ?_
    exact ⟨a9_1, a9_4, rfl, rfl⟩
  rintro f10 _ ⟨a10_1, a10_4, a10_5, rfl⟩
  clear a9_1 a9_4
  have hS11 : St H0 NoB (fun b => S b ∧ b < H0.size) [rowE 3 (Value.slice none 0 0) ([] : List Int), rowE 32 v5 (startsL l : List (List Int)), blkE g1 (.cells #[wa, wb, wc, wd, we] 42), rdE wa l.Low, rdE wb l.High, rdE wc l.Start, rdE wd l.Jumps, rdE we l.Bad] H9 := hS9.row0 3
  refine wpF_seq ?_
  refine wpF_seq ?_
  refine wpF_cut (fun f H => f 1 = PT g1 0 ∧ f 4 = v5 ∧ f 5 = (Value.slice none 0 0) ∧ f 6 = I (0) ∧ H9 = H) ?_ ?_
  · refine wpF_region ?_
    refine wpL_q (U := NoB) rfl (q_assign (v := I (0)) rfl rfl) ?_
    exact ⟨a10_1, a10_4, a10_5, rfl, rfl⟩
  rintro f12 _ ⟨a12_1, a12_4, a12_5, a12_6, rfl⟩
  clear a10_1 a10_4 a10_5
  refine wpF_block ?_
  refine wpF_loop (fun mz f H => ∃ (u : Nat), ∃ (vf : Value), ∃ (fr : List Int), mz = (startsL l).length - u ∧ (u ≤ (startsL l).length) ∧ (fr.length = u) ∧ (fr = List.replicate u (-1)) ∧ f 1 = PT g1 0 ∧ f 4 = v5 ∧ f 5 = vf ∧ f 6 = I ((u : Int)) ∧ St H0 NoB (fun b => S b ∧ b < H0.size) [rowE 3 vf (fr : List Int), rowE 32 v5 (startsL l : List (List Int)), blkE g1 (.cells #[wa, wb, wc, wd, we] 42), rdE wa l.Low, rdE wb l.High, rdE wc l.Start, rdE wd l.Jumps, rdE we l.Bad] H) ((startsL l).length - 0) ?_ ?_
  · exact ⟨0, (Value.slice none 0 0), [], rfl, Nat.zero_le _, rfl, rfl, a12_1, a12_4, a12_5, (Eq.trans a12_6 (congrArg I (by omega))), (show St H0 NoB (fun b => S b ∧ b < H0.size) [rowE 3 (Value.slice none 0 0) (([]) : List Int), rowE 32 v5 (startsL l : List (List Int)), blkE g1 (.cells #[wa, wb, wc, wd, we] 42), rdE wa l.Low, rdE wb l.High, rdE wc l.Start, rdE wd l.Jumps, rdE we l.Bad] H9 from hS11)⟩
  intro m13 f13 H13 hI13
  obtain ⟨u, vf, fr, hm13, hu, hfr, hfo, a13_1, a13_4, a13_5, a13_6, hS13⟩ := hI13
  clear a12_1 a12_4 a12_5 a12_6
  refine wpF_seq ?_
  refine wpF_seq ?_
  refine wpF_cut (fun f H => f 1 = PT g1 0 ∧ f 4 = v5 ∧ f 5 = vf ∧ f 6 = I ((u : Int)) ∧ f 15 = B (decide ((u : Int) < ((startsL l).length : Int))) ∧ H13 = H) ?_ ?_
  · refine wpF_region ?_
    refine wpL_q (U := NoB) rfl (q_move (v := I ((u : Int))) rfl a13_6) ?_
    refine wpL_q (U := NoB) rfl (q_move (v := v5) rfl a13_4) ?_
    refine wpL_q (U := NoB) rfl (q_lenRd rfl Try.underlying23 rfl (hS13.rowl 1 rfl)) ?_
    refine wpL_q (U := NoB) rfl (q_lss rfl rfl rfl) ?_
    exact ⟨a13_1, a13_4, a13_5, a13_6, rfl, rfl⟩
  rintro f14 _ ⟨a14_1, a14_4, a14_5, a14_6, a14_15, rfl⟩
  clear a13_1 a13_4 a13_5 a13_6
  refine wpF_condP a14_15 (fun hlt0 => ?t73) (fun hlt0 => ?e73)
  case t73 =>
    have hcs := comeAt_few hl 0
    have hcs2 : (startsL l).length ≤ 1200 := hcs
    refine wpF_skip ?_
    refine wpF_seq ?_
    refine wpF_block ?_
    refine wpF_cut (fun f H => ∃ (v21 : Value), f 1 = PT g1 0 ∧ f 4 = v5 ∧ f 5 = v21 ∧ f 6 = I ((u : Int)) ∧ St H0 NoB (fun b => S b ∧ b < H0.size) [rowE 3 v21 (fr ++ ([-1]) : List Int), rowE 32 v5 (startsL l : List (List Int)), blkE g1 (.cells #[wa, wb, wc, wd, we] 42), rdE wa l.Low, rdE wb l.High, rdE wc l.Start, rdE wd l.Jumps, rdE we l.Bad] H) ?_ ?_
    · refine wpF_region ?_
      refine wpL_q (U := NoB) rfl (q_move (v := vf) rfl a14_5) ?_
      refine wpL_o rfl ?_
      refine e_buildSlice (vs := [I (-1)]) (xs := ([-1] : List Int)) rfl Try.underlying32 Try.zeroValue3 rfl Try.sizeOf3 (par1 (v0 := I (-1)) rfl) rfl hS13 (RdVs.cons (Rd.int.2 ⟨rfl, by constructor <;> omega⟩) (RdVs.nil)) (by decide) (by decide) (fun v16 H17 hS18 hxx hvv16 => ?_)
      replace hS18 : St H0 NoB (fun b => S b ∧ b < H0.size) [rowE 3 v16 ([-1] : List Int), rowE 3 vf (fr : List Int), rowE 32 v5 (startsL l : List (List Int)), blkE g1 (.cells #[wa, wb, wc, wd, we] 42), rdE wa l.Low, rdE wb l.High, rdE wc l.Start, rdE wd l.Jumps, rdE we l.Bad] H17 := hS18
      have hS19 : St H0 NoB (fun b => S b ∧ b < H0.size) [rdE v16 ([-1] : List Int), rowE 3 vf (fr : List Int), rowE 32 v5 (startsL l : List (List Int)), blkE g1 (.cells #[wa, wb, wc, wd, we] 42), rdE wa l.Low, rdE wb l.High, rdE wc l.Start, rdE wd l.Jumps, rdE we l.Bad] H17 := St.fin hS18
      have hS20 : St H0 NoB (fun b => S b ∧ b < H0.size) [rowE 3 vf (fr : List Int), rdE v16 ([-1] : List Int), rowE 32 v5 (startsL l : List (List Int)), blkE g1 (.cells #[wa, wb, wc, wd, we] 42), rdE wa l.Low, rdE wb l.High, rdE wc l.Start, rdE wd l.Jumps, rdE we l.Bad] H17 := (hS19.front 1 rfl)
      refine wpL_o rfl ?_
      refine e_append rfl Try.underlying32 em_Int_3_LoopR3 rfl rfl hS20 (hS20.rdS 1 rfl) (fun _ h => h) (by have hb : GoT.bytes Int = 8 := rfl; simp [hb]; omega) (by decide) (fun v21 H22 hS23 hxx => ?_)
      replace hS23 : St H0 NoB (fun b => S b ∧ b < H0.size) [rowE 3 v21 (fr ++ ([-1]) : List Int), rdE v16 ([-1] : List Int), rowE 32 v5 (startsL l : List (List Int)), blkE g1 (.cells #[wa, wb, wc, wd, we] 42), rdE wa l.Low, rdE wb l.High, rdE wc l.Start, rdE wd l.Jumps, rdE we l.Bad] H22 := hS23
      refine wpL_q (U := NoB) rfl (q_assign (v := v21) rfl rfl) ?_
      exact ⟨v21, a14_1, a14_4, rfl, a14_6, (hS23.drop (sk (sn (sk (sk (sk (sk (sk (sk (sk (List.Sublist.slnil)))))))))))⟩
    rintro f24 H24 ⟨v21, a24_1, a24_4, a24_5, a24_6, hS24⟩
    clear a14_1 a14_15 a14_4 a14_5 a14_6
    refine wpF_cut (fun f H => f 1 = PT g1 0 ∧ f 4 = v5 ∧ f 5 = v21 ∧ f 6 = I ((u : Int) + 1) ∧ H24 = H) ?_ ?_
    · refine wpF_region ?_
      refine wpL_q (U := NoB) rfl (q_move (v := I ((u : Int))) rfl a24_6) ?_
      refine wpL_q (U := NoB) rfl (q_add rfl rfl rfl (by constructor <;> omega)) ?_
      refine wpL_q (U := NoB) rfl (q_assign (v := I ((u : Int) + 1)) rfl rfl) ?_
      exact ⟨a24_1, a24_4, a24_5, rfl, rfl⟩
    rintro f25 _ ⟨a25_1, a25_4, a25_5, a25_6, rfl⟩
    clear a24_1 a24_4 a24_5 a24_6
    refine ⟨_, ?_, u + 1, v21, fr ++ ([-1]), rfl, (by omega), (by simp [hfr]), (by rw [hfo, ← List.replicate_succ']), a25_1, a25_4, a25_5, (Eq.trans a25_6 (congrArg I (by omega))), (show St H0 NoB (fun b => S b ∧ b < H0.size) [rowE 3 v21 ((fr ++ ([-1])) : List Int), rowE 32 v5 (startsL l : List (List Int)), blkE g1 (.cells #[wa, wb, wc, wd, we] 42), rdE wa l.Low, rdE wb l.High, rdE wc l.Start, rdE wd l.Jumps, rdE we l.Bad] H24 from hS24)⟩
    omega
  refine wpF_exit ?_
  refine atX_here ?_
  refine wpF_seq ?_
  refine wpF_seq ?_
  refine wpF_cut (fun f H => f 1 = PT g1 0 ∧ f 4 = v5 ∧ f 5 = vf ∧ f 7 = I (0) ∧ H13 = H) ?_ ?_
  · refine wpF_region ?_
    refine wpL_q (U := NoB) rfl (q_assign (v := I (0)) rfl rfl) ?_
    exact ⟨a14_1, a14_4, a14_5, rfl, rfl⟩
  rintro f26 _ ⟨a26_1, a26_4, a26_5, a26_7, rfl⟩
  clear a14_1 a14_15 a14_4 a14_5 a14_6
  refine wpF_block ?_
  refine wpF_loop (fun mz f H => ∃ (i : Nat), ∃ (vp : Value), ∃ (vf2 : Value), ∃ (fr2 : List Int), mz = 1201 - i ∧ (i ≤ (comeAt l i).length) ∧ (fr2.length = (comeAt l i).length) ∧ (FromOk l fr2) ∧ f 1 = PT g1 0 ∧ f 4 = vp ∧ f 5 = vf2 ∧ f 7 = I ((i : Int)) ∧ St H0 NoB (fun b => S b ∧ b < H0.size) [rowE 3 vf2 (fr2 : List Int), rowE 32 vp (comeAt l i : List (List Int)), blkE g1 (.cells #[wa, wb, wc, wd, we] 42), rdE wa l.Low, rdE wb l.High, rdE wc l.Start, rdE wd l.Jumps, rdE we l.Bad] H) (1201 - 0) ?_ ?_
  · exact ⟨0, v5, vf, fr, rfl, Nat.zero_le _, (by rw [hfr]; show u = (startsL l).length; omega), (by rw [hfo]; exact FromOk.start (by omega)), a26_1, a26_4, a26_5, (Eq.trans a26_7 (congrArg I (by omega))), (show St H0 NoB (fun b => S b ∧ b < H0.size) [rowE 3 vf (fr : List Int), rowE 32 v5 (comeAt l 0 : List (List Int)), blkE g1 (.cells #[wa, wb, wc, wd, we] 42), rdE wa l.Low, rdE wb l.High, rdE wc l.Start, rdE wd l.Jumps, rdE we l.Bad] H13 from hS13)⟩
  intro m27 f27 H27 hI27
  obtain ⟨i, vp, vf2, fr2, hm27, hi, hfr2, hFo, a27_1, a27_4, a27_5, a27_7, hS27⟩ := hI27
  clear a26_1 a26_4 a26_5 a26_7
  refine wpF_seq ?_
  refine wpF_seq ?_
  refine wpF_cut (fun f H => f 1 = PT g1 0 ∧ f 4 = vp ∧ f 5 = vf2 ∧ f 7 = I ((i : Int)) ∧ f 24 = B (decide ((i : Int) < ((comeAt l i).length : Int))) ∧ H27 = H) ?_ ?_
  · refine wpF_region ?_
    refine wpL_q (U := NoB) rfl (q_move (v := I ((i : Int))) rfl a27_7) ?_
    refine wpL_q (U := NoB) rfl (q_move (v := vp) rfl a27_4) ?_
    refine wpL_q (U := NoB) rfl (q_lenRd rfl Try.underlying23 rfl (hS27.rowl 1 rfl)) ?_
    refine wpL_q (U := NoB) rfl (q_lss rfl rfl rfl) ?_
    exact ⟨a27_1, a27_4, a27_5, a27_7, rfl, rfl⟩
  rintro f28 _ ⟨a28_1, a28_4, a28_5, a28_7, a28_24, rfl⟩
  clear a27_1 a27_4 a27_5 a27_7
  refine wpF_condP a28_24 (fun hlt2 => ?t72) (fun hlt2 => ?e72)
  case e72 =>
    refine wpF_exit ?_
    refine atX_here ?_
    refine wpF_seq ?_
    refine wpF_cut (fun f H => f 2 = vp ∧ f 3 = vf2 ∧ H27 = H) ?_ ?_
    · refine wpF_region ?_
      refine wpL_q (U := NoB) rfl (q_move (v := vp) rfl a28_4) ?_
      refine wpL_q (U := NoB) rfl (q_move (v := vf2) rfl a28_5) ?_
      refine wpL_q (U := NoB) rfl (q_assign (v := vp) rfl rfl) ?_
      refine wpL_q (U := NoB) rfl (q_assign (v := vf2) rfl rfl) ?_
      exact ⟨rfl, rfl, rfl⟩
    rintro f69 _ ⟨a69_2, a69_3, rfl⟩
    clear a28_1 a28_24 a28_4 a28_5 a28_7
    refine wpF_ret ?_
    refine ⟨_, resT a69_2 (resT a69_3 resN), hS27.frame, ?_⟩
    show ∃ w0_ w1_ fr_, (Value.tuple #[vp, vf2]) = Value.tuple #[w0_, w1_] ∧ fr_.length = (comeL l).length ∧ FromOk l fr_ ∧ Rd (fun b => S b ∧ b < H0.size) H27 w0_ (comeL l) ∧ Rd (fun b => S b ∧ b < H0.size) H27 w1_ (fr_ : List Int)
    have hS70 : St H0 NoB (fun b => S b ∧ b < H0.size) [rdE vp (comeAt l i), rowE 3 vf2 (fr2 : List Int), blkE g1 (.cells #[wa, wb, wc, wd, we] 42), rdE wa l.Low, rdE wb l.High, rdE wc l.Start, rdE wd l.Jumps, rdE we l.Bad] H27 := St.fin (hS27.front 1 rfl)
    have hS71 : St H0 NoB (fun b => S b ∧ b < H0.size) [rdE vf2 fr2, rdE vp (comeAt l i), blkE g1 (.cells #[wa, wb, wc, wd, we] 42), rdE wa l.Low, rdE wb l.High, rdE wc l.Start, rdE wd l.Jumps, rdE we l.Bad] H27 := St.fin (hS70.front 1 rfl)
    have hq : comeL l = comeAt l i := comeL_of (i := i) (by have := comeAt_few hl i; omega) (by omega)
    exact ⟨vp, vf2, fr2, rfl, by rw [hq]; exact hfr2, hFo, by rw [hq]; exact (hS71.result (hS71.rdS 1 rfl)), (hS71.result (hS71.rdS 0 rfl))⟩
  have hil : i < (comeAt l i).length := by omega
  have hfw := comeAt_few hl i
  have hci := comeAt_all hl i _ (nth_mem hil)
  have hgl := growS_len (L := comeAt l i) (ss := nextL l (nth (comeAt l i) i))
  have hnxl : (nextL l (nth (comeAt l i) i)).length ≤ 6 := Nat.le_trans (nextTo_len _) hl.jumps
  refine wpF_skip ?_
  refine wpF_seq ?_
  refine wpF_block ?_
  refine wpF_seq ?_
  obtain ⟨u30o4, huu30o4, hlu30o4⟩ := hS27.rowElem 1 rfl i (by omega)
  have hS30o4 : St H0 NoB (fun b => S b ∧ b < H0.size) [rdE u30o4 (nth (comeAt l i) i), rowE 3 vf2 (fr2 : List Int), rowE 32 vp (comeAt l i : List (List Int)), blkE g1 (.cells #[wa, wb, wc, wd, we] 42), rdE wa l.Low, rdE wb l.High, rdE wc l.Start, rdE wd l.Jumps, rdE we l.Bad] H27 := hS27.rd huu30o4
  refine wpF_cut (fun f H => ∃ (r30o5 : Value), f 1 = PT g1 0 ∧ f 4 = vp ∧ f 5 = vf2 ∧ f 7 = I ((i : Int)) ∧ f 8 = r30o5 ∧ St H0 NoB (fun b => S b ∧ b < H0.size) [rdE r30o5 (nextL l (nth (comeAt l i) i)), rowE 3 vf2 (fr2 : List Int), rowE 32 vp (comeAt l i : List (List Int)), blkE g1 (.cells #[wa, wb, wc, wd, we] 42), rdE wa l.Low, rdE wb l.High, rdE wc l.Start, rdE wd l.Jumps, rdE we l.Bad] H) ?_ ?_
  · refine wpF_drawn [] [] (fun _ _ => False) (by kernel_rfl) (by kernel_rfl) ?_
    refine wpR_q 0 (by kernel_rfl) rfl (quietAt rfl rfl (q_loadBlkA rfl a28_1 Try.isAgg42 Try.sizeOf42 rfl (hS27.blk 2 rfl) (labU_not [] rfl (List.forall_mem_nil _)))) ?_
    refine wpR_q 1 (by kernel_rfl) rfl (quietAt rfl rfl (q_move (v := vp) rfl a28_4)) ?_
    refine wpR_q 2 (by kernel_rfl) rfl (quietAt rfl rfl (q_move (v := I ((i : Int))) rfl a28_7)) ?_
    refine wpR_q 3 (by kernel_rfl) rfl (quietAt rfl rfl (q_indexRd (k := i) rfl Try.underlying23 el_LInt_32_LoopR3 rfl rfl (hS27.rowl 1 rfl) (by omega) (by omega))) ?_
    refine wpR_q 4 (by kernel_rfl) rfl (quietAt rfl rfl (q_loadE rfl rfl (hlu30o4 Try.prog 32 _ el_LInt_32_LoopR3 (labU_sub [] rfl (List.forall_mem_nil _))))) ?_
    refine wpR_n [5] (by kernel_rfl) ?_
    refine List.forall_mem_cons.2 ⟨?_, List.forall_mem_nil _⟩
    refine exE rfl rfl ?_
    refine e_call rfl Try.call31 (arr2 (v0 := Value.agg #[wa, wb, wc, wd, we]) (v1 := u30o4) rfl rfl) (Next_R wa wb wc wd we u30o4 l (nth (comeAt l i) i) (hS30o4.rdS 4 rfl) (hS30o4.rdS 5 rfl) (hS30o4.rdS 6 rfl) (hS30o4.rdS 7 rfl) (hS30o4.rdS 8 rfl) (hS30o4.rdS 0 rfl) hl hci.1 (inside_small hl hci.1 hci.2)) ?_
    rintro r30o5 H30o5 ⟨hxx, hrr30o5⟩
    have hS30o5 : St H0 NoB (fun b => S b ∧ b < H0.size) [rdE r30o5 (nextL l (nth (comeAt l i) i)), rdE u30o4 (nth (comeAt l i) i), rowE 3 vf2 (fr2 : List Int), rowE 32 vp (comeAt l i : List (List Int)), blkE g1 (.cells #[wa, wb, wc, wd, we] 42), rdE wa l.Low, rdE wb l.High, rdE wc l.Start, rdE wd l.Jumps, rdE we l.Bad] H30o5 := hS30o4.res hxx hrr30o5
    refine ⟨Ext.mono hxx (fun _ h => h.elim), ?_⟩
    refine wpR_q 6 (by kernel_rfl) rfl (quietAt rfl rfl (q_assign (v := r30o5) rfl rfl)) ?_
    refine wpR_end (by kernel_rfl) ?_
    exact ⟨r30o5, a28_1, a28_4, a28_5, a28_7, rfl, (hS30o5.drop (sk (sn (sk (sk (sk (sk (sk (sk (sk (sk (List.Sublist.slnil))))))))))))⟩
  rintro f31 H31 ⟨r30o5, a31_1, a31_4, a31_5, a31_7, a31_8, hS31⟩
  clear a28_1 a28_24 a28_4 a28_5 a28_7
  refine wpF_seq ?_
  refine wpF_cut (fun f H => f 1 = PT g1 0 ∧ f 4 = vp ∧ f 5 = vf2 ∧ f 7 = I ((i : Int)) ∧ f 8 = r30o5 ∧ f 9 = I (0) ∧ H31 = H) ?_ ?_
  · refine wpF_region ?_
    refine wpL_q (U := NoB) rfl (q_assign (v := I (0)) rfl rfl) ?_
    exact ⟨a31_1, a31_4, a31_5, a31_7, a31_8, rfl, rfl⟩
  rintro f32 _ ⟨a32_1, a32_4, a32_5, a32_7, a32_8, a32_9, rfl⟩
  clear a31_1 a31_4 a31_5 a31_7 a31_8
  refine wpF_block ?_
  refine wpF_loop (fun mz f H => ∃ (k : Nat), ∃ (vq : Value), ∃ (vf3 : Value), ∃ (fr3 : List Int), mz = (nextL l (nth (comeAt l i) i)).length - k ∧ (k ≤ (nextL l (nth (comeAt l i) i)).length) ∧ (fr3.length = (growS (comeAt l i) ((nextL l (nth (comeAt l i) i)).take k)).length) ∧ (FromIn fr2 fr3 i) ∧ f 1 = PT g1 0 ∧ f 4 = vq ∧ f 5 = vf3 ∧ f 7 = I ((i : Int)) ∧ f 8 = r30o5 ∧ f 9 = I ((k : Int)) ∧ St H0 NoB (fun b => S b ∧ b < H0.size) [rowE 3 vf3 (fr3 : List Int), rowE 32 vq (growS (comeAt l i) ((nextL l (nth (comeAt l i) i)).take k) : List (List Int)), rdE r30o5 (nextL l (nth (comeAt l i) i)), blkE g1 (.cells #[wa, wb, wc, wd, we] 42), rdE wa l.Low, rdE wb l.High, rdE wc l.Start, rdE wd l.Jumps, rdE we l.Bad] H) ((nextL l (nth (comeAt l i) i)).length - 0) ?_ ?_
  · exact ⟨0, vp, vf2, fr2, rfl, Nat.zero_le _, hfr2, FromIn.start, a32_1, a32_4, a32_5, a32_7, a32_8, (Eq.trans a32_9 (congrArg I (by omega))), (show St H0 NoB (fun b => S b ∧ b < H0.size) [rowE 3 vf2 (fr2 : List Int), rowE 32 vp (growS (comeAt l i) ((nextL l (nth (comeAt l i) i)).take 0) : List (List Int)), rdE r30o5 (nextL l (nth (comeAt l i) i)), blkE g1 (.cells #[wa, wb, wc, wd, we] 42), rdE wa l.Low, rdE wb l.High, rdE wc l.Start, rdE wd l.Jumps, rdE we l.Bad] H31 from (St.drop (show St H0 NoB (fun b => S b ∧ b < H0.size) [rowE 3 vf2 (fr2 : List Int), rowE 32 vp (comeAt l i : List (List Int)), rdE r30o5 (nextL l (nth (comeAt l i) i)), blkE g1 (.cells #[wa, wb, wc, wd, we] 42), rdE wa l.Low, rdE wb l.High, rdE wc l.Start, rdE wd l.Jumps, rdE we l.Bad] H31 from ((hS31.front 2 rfl).front 2 rfl)) (sk (sk (sk (sk (sk (sk (sk (sk (sk (List.Sublist.slnil))))))))))))⟩
  intro m33 f33 H33 hI33
  obtain ⟨k, vq, vf3, fr3, hm33, hk, hfr3, hFi, a33_1, a33_4, a33_5, a33_7, a33_8, a33_9, hS33⟩ := hI33
  clear a32_1 a32_4 a32_5 a32_7 a32_8 a32_9
  refine wpF_seq ?_
  refine wpF_seq ?_
  refine wpF_cut (fun f H => f 1 = PT g1 0 ∧ f 4 = vq ∧ f 5 = vf3 ∧ f 7 = I ((i : Int)) ∧ f 8 = r30o5 ∧ f 9 = I ((k : Int)) ∧ f 36 = B (decide ((k : Int) < ((nextL l (nth (comeAt l i) i)).length : Int))) ∧ H33 = H) ?_ ?_
  · refine wpF_region ?_
    refine wpL_q (U := NoB) rfl (q_move (v := I ((k : Int))) rfl a33_9) ?_
    refine wpL_q (U := NoB) rfl (q_move (v := r30o5) rfl a33_8) ?_
    refine wpL_q (U := NoB) rfl (q_lenRd rfl Try.underlying23 rfl (hS33.rdl 2 rfl)) ?_
    refine wpL_q (U := NoB) rfl (q_lss rfl rfl rfl) ?_
    exact ⟨a33_1, a33_4, a33_5, a33_7, a33_8, a33_9, rfl, rfl⟩
  rintro f34 _ ⟨a34_1, a34_4, a34_5, a34_7, a34_8, a34_9, a34_36, rfl⟩
  clear a33_1 a33_4 a33_5 a33_7 a33_8 a33_9
  refine wpF_condP a34_36 (fun hlt3 => ?t68) (fun hlt3 => ?e68)
  case e68 =>
    refine wpF_exit ?_
    refine atX_here ?_
    refine wpF_cut (fun f H => f 1 = PT g1 0 ∧ f 4 = vq ∧ f 5 = vf3 ∧ f 7 = I ((i : Int) + 1) ∧ H33 = H) ?_ ?_
    · refine wpF_region ?_
      refine wpL_q (U := NoB) rfl (q_move (v := I ((i : Int))) rfl a34_7) ?_
      refine wpL_q (U := NoB) rfl (q_add rfl rfl rfl (by constructor <;> omega)) ?_
      refine wpL_q (U := NoB) rfl (q_assign (v := I ((i : Int) + 1)) rfl rfl) ?_
      exact ⟨a34_1, a34_4, a34_5, rfl, rfl⟩
    rintro f67 _ ⟨a67_1, a67_4, a67_5, a67_7, rfl⟩
    clear a34_1 a34_36 a34_4 a34_5 a34_7 a34_8 a34_9
    refine ⟨_, ?_, i + 1, vq, vf3, fr3, rfl, (by have := comeAt_len (l := l) i; omega), (by rw [hfr3, List.take_of_length_le (by omega), ← comeAt_step hil]), (hFo.next hFi hfr2 (by rw [hfr3, List.take_of_length_le (by omega), ← comeAt_step hil])), a67_1, a67_4, a67_5, (Eq.trans a67_7 (congrArg I (by omega))), (show St H0 NoB (fun b => S b ∧ b < H0.size) [rowE 3 vf3 (fr3 : List Int), rowE 32 vq (comeAt l (i + 1) : List (List Int)), blkE g1 (.cells #[wa, wb, wc, wd, we] 42), rdE wa l.Low, rdE wb l.High, rdE wc l.Start, rdE wd l.Jumps, rdE we l.Bad] H33 from (by have h__ := (hS33.drop (sk (sk (sn (sk (sk (sk (sk (sk (sk (List.Sublist.slnil))))))))))); rw [List.take_of_length_le (by omega), ← comeAt_step hil] at h__; exact h__))⟩
    omega
  have hgf := growS_few hl hil k
  refine wpF_skip ?_
  refine wpF_seq ?_
  refine wpF_block ?_
  refine wpF_seq ?_
  obtain ⟨u36, huu36, hlu36⟩ := (Rd.list.1 (hS33.rdS 2 rfl)).elem k (by omega)
  have hS37 : St H0 NoB (fun b => S b ∧ b < H0.size) [rdE u36 (nth (nextL l (nth (comeAt l i) i)) k), rowE 3 vf3 (fr3 : List Int), rowE 32 vq (growS (comeAt l i) ((nextL l (nth (comeAt l i) i)).take k) : List (List Int)), rdE r30o5 (nextL l (nth (comeAt l i) i)), blkE g1 (.cells #[wa, wb, wc, wd, we] 42), rdE wa l.Low, rdE wb l.High, rdE wc l.Start, rdE wd l.Jumps, rdE we l.Bad] H33 := hS33.rd huu36
  refine wpF_cut (fun f H => f 1 = PT g1 0 ∧ f 4 = vq ∧ f 5 = vf3 ∧ f 7 = I ((i : Int)) ∧ f 8 = r30o5 ∧ f 9 = I ((k : Int)) ∧ f 45 = B (decide (¬ ((nth (nextL l (nth (comeAt l i) i)) k) ∈ (growS (comeAt l i) ((nextL l (nth (comeAt l i) i)).take k))))) ∧ St H0 NoB (fun b => S b ∧ b < H0.size) [rowE 3 vf3 (fr3 : List Int), rowE 32 vq (growS (comeAt l i) ((nextL l (nth (comeAt l i) i)).take k) : List (List Int)), rdE r30o5 (nextL l (nth (comeAt l i) i)), blkE g1 (.cells #[wa, wb, wc, wd, we] 42), rdE wa l.Low, rdE wb l.High, rdE wc l.Start, rdE wd l.Jumps, rdE we l.Bad] H) ?_ ?_
  · refine wpF_region ?_
    refine wpL_q (U := NoB) rfl (q_move (v := vq) rfl a34_4) ?_
    refine wpL_q (U := NoB) rfl (q_move (v := r30o5) rfl a34_8) ?_
    refine wpL_q (U := NoB) rfl (q_move (v := I ((k : Int))) rfl a34_9) ?_
    refine wpL_q (U := NoB) rfl (q_indexRd (k := k) rfl Try.underlying23 el_LInt_32_LoopR3 rfl rfl (hS33.rdl 2 rfl) (by omega) (by omega)) ?_
    refine wpL_q (U := NoB) rfl (q_loadE rfl rfl (hlu36 Try.prog 32 _ el_LInt_32_LoopR3 (fun _ h => False.elim h))) ?_
    refine wpL_o rfl ?_
    refine e_call rfl Try.call35 (arr2 (v0 := vq) (v1 := u36) rfl rfl) (Is_R vq u36 (growS (comeAt l i) ((nextL l (nth (comeAt l i) i)).take k)) (nth (nextL l (nth (comeAt l i) i)) k) (hS37.rowN 2 rfl) (hS37.rdN 0 rfl) ) ?_
    rintro _ H38 ⟨hxx, rfl⟩
    have hS39 : St H0 NoB (fun b => S b ∧ b < H0.size) [rdE u36 (nth (nextL l (nth (comeAt l i) i)) k), rowE 3 vf3 (fr3 : List Int), rowE 32 vq (growS (comeAt l i) ((nextL l (nth (comeAt l i) i)).take k) : List (List Int)), rdE r30o5 (nextL l (nth (comeAt l i) i)), blkE g1 (.cells #[wa, wb, wc, wd, we] 42), rdE wa l.Low, rdE wb l.High, rdE wc l.Start, rdE wd l.Jumps, rdE we l.Bad] H38 := hS37.ext hxx
    refine wpL_q (U := NoB) rfl (q_notP rfl rfl) ?_
    exact ⟨a34_1, a34_4, a34_5, a34_7, a34_8, a34_9, rfl, (hS39.drop (sn (sk (sk (sk (sk (sk (sk (sk (sk (sk (List.Sublist.slnil))))))))))))⟩
  rintro f41 H41 ⟨a41_1, a41_4, a41_5, a41_7, a41_8, a41_9, a41_45, hS41⟩
  clear a34_1 a34_36 a34_4 a34_5 a34_7 a34_8 a34_9
  refine wpF_condP a41_45 (fun h45 => ?t66) (fun h45 => ?e66)
  case e66 =>
    refine wpF_skip ?_
    refine wpF_cut (fun f H => f 1 = PT g1 0 ∧ f 4 = vq ∧ f 5 = vf3 ∧ f 7 = I ((i : Int)) ∧ f 8 = r30o5 ∧ f 9 = I ((k : Int) + 1) ∧ H41 = H) ?_ ?_
    · refine wpF_region ?_
      refine wpL_q (U := NoB) rfl (q_move (v := I ((k : Int))) rfl a41_9) ?_
      refine wpL_q (U := NoB) rfl (q_add rfl rfl rfl (by constructor <;> omega)) ?_
      refine wpL_q (U := NoB) rfl (q_assign (v := I ((k : Int) + 1)) rfl rfl) ?_
      exact ⟨a41_1, a41_4, a41_5, a41_7, a41_8, rfl, rfl⟩
    rintro f65 _ ⟨a65_1, a65_4, a65_5, a65_7, a65_8, a65_9, rfl⟩
    clear a41_1 a41_4 a41_45 a41_5 a41_7 a41_8 a41_9
    refine ⟨_, ?_, k + 1, vq, vf3, fr3, rfl, (by omega), (by rw [hfr3, growS_take (by omega), addN, if_pos (by simpa using h45)]), hFi, a65_1, a65_4, a65_5, a65_7, a65_8, (Eq.trans a65_9 (congrArg I (by omega))), (show St H0 NoB (fun b => S b ∧ b < H0.size) [rowE 3 vf3 (fr3 : List Int), rowE 32 vq (growS (comeAt l i) ((nextL l (nth (comeAt l i) i)).take (k + 1)) : List (List Int)), rdE r30o5 (nextL l (nth (comeAt l i) i)), blkE g1 (.cells #[wa, wb, wc, wd, we] 42), rdE wa l.Low, rdE wb l.High, rdE wc l.Start, rdE wd l.Jumps, rdE we l.Bad] H41 from (by have h__ := hS41; (first | rw [show growS (comeAt l i) ((nextL l (nth (comeAt l i) i)).take k) = growS (comeAt l i) ((nextL l (nth (comeAt l i) i)).take (k + 1)) from (by rw [growS_take (by omega), addN, if_pos (by simpa using h45)])] at h__ | skip); exact h__))⟩
    omega
  refine wpF_seq ?_
  obtain ⟨u43, huu43, hlu43⟩ := (Rd.list.1 (hS41.rdS 2 rfl)).elem k (by omega)
  have hS44 : St H0 NoB (fun b => S b ∧ b < H0.size) [rdE u43 (nth (nextL l (nth (comeAt l i) i)) k), rowE 3 vf3 (fr3 : List Int), rowE 32 vq (growS (comeAt l i) ((nextL l (nth (comeAt l i) i)).take k) : List (List Int)), rdE r30o5 (nextL l (nth (comeAt l i) i)), blkE g1 (.cells #[wa, wb, wc, wd, we] 42), rdE wa l.Low, rdE wb l.High, rdE wc l.Start, rdE wd l.Jumps, rdE we l.Bad] H41 := hS41.rd huu43
  refine wpF_cut (fun f H => ∃ (v50 : Value), f 1 = PT g1 0 ∧ f 4 = v50 ∧ f 5 = vf3 ∧ f 7 = I ((i : Int)) ∧ f 8 = r30o5 ∧ f 9 = I ((k : Int)) ∧ St H0 NoB (fun b => S b ∧ b < H0.size) [rowE 32 v50 (growS (comeAt l i) ((nextL l (nth (comeAt l i) i)).take (k + 1)) : List (List Int)), rowE 3 vf3 (fr3 : List Int), rdE r30o5 (nextL l (nth (comeAt l i) i)), blkE g1 (.cells #[wa, wb, wc, wd, we] 42), rdE wa l.Low, rdE wb l.High, rdE wc l.Start, rdE wd l.Jumps, rdE we l.Bad] H) ?_ ?_
  · refine wpF_region ?_
    refine wpL_q (U := NoB) rfl (q_move (v := vq) rfl a41_4) ?_
    refine wpL_q (U := NoB) rfl (q_move (v := r30o5) rfl a41_8) ?_
    refine wpL_q (U := NoB) rfl (q_move (v := I ((k : Int))) rfl a41_9) ?_
    refine wpL_q (U := NoB) rfl (q_indexRd (k := k) rfl Try.underlying23 el_LInt_32_LoopR3 rfl rfl (hS41.rdl 2 rfl) (by omega) (by omega)) ?_
    refine wpL_q (U := NoB) rfl (q_loadE rfl rfl (hlu43 Try.prog 32 _ el_LInt_32_LoopR3 (fun _ h => False.elim h))) ?_
    refine wpL_o rfl ?_
    refine e_buildSlice (vs := [u43]) (xs := ([nth (nextL l (nth (comeAt l i) i)) k] : List (List Int))) rfl Try.underlying23 Try.zeroValue32 rfl Try.sizeOf32 (par1 (v0 := u43) rfl) rfl hS44 (RdVs.cons (hS44.rdS 0 rfl) (RdVs.nil)) (by decide) (by decide) (fun v45 H46 hS47 hxx hvv45 => ?_)
    replace hS47 : St H0 NoB (fun b => S b ∧ b < H0.size) [rowE 32 v45 ([nth (nextL l (nth (comeAt l i) i)) k] : List (List Int)), rdE u43 (nth (nextL l (nth (comeAt l i) i)) k), rowE 3 vf3 (fr3 : List Int), rowE 32 vq (growS (comeAt l i) ((nextL l (nth (comeAt l i) i)).take k) : List (List Int)), rdE r30o5 (nextL l (nth (comeAt l i) i)), blkE g1 (.cells #[wa, wb, wc, wd, we] 42), rdE wa l.Low, rdE wb l.High, rdE wc l.Start, rdE wd l.Jumps, rdE we l.Bad] H46 := hS47
    have hS48 : St H0 NoB (fun b => S b ∧ b < H0.size) [rdE v45 ([nth (nextL l (nth (comeAt l i) i)) k] : List (List Int)), rdE u43 (nth (nextL l (nth (comeAt l i) i)) k), rowE 3 vf3 (fr3 : List Int), rowE 32 vq (growS (comeAt l i) ((nextL l (nth (comeAt l i) i)).take k) : List (List Int)), rdE r30o5 (nextL l (nth (comeAt l i) i)), blkE g1 (.cells #[wa, wb, wc, wd, we] 42), rdE wa l.Low, rdE wb l.High, rdE wc l.Start, rdE wd l.Jumps, rdE we l.Bad] H46 := St.fin hS47
    have hS49 : St H0 NoB (fun b => S b ∧ b < H0.size) [rowE 32 vq (growS (comeAt l i) ((nextL l (nth (comeAt l i) i)).take k) : List (List Int)), rdE v45 ([nth (nextL l (nth (comeAt l i) i)) k] : List (List Int)), rdE u43 (nth (nextL l (nth (comeAt l i) i)) k), rowE 3 vf3 (fr3 : List Int), rdE r30o5 (nextL l (nth (comeAt l i) i)), blkE g1 (.cells #[wa, wb, wc, wd, we] 42), rdE wa l.Low, rdE wb l.High, rdE wc l.Start, rdE wd l.Jumps, rdE we l.Bad] H46 := (hS48.front 3 rfl)
    refine wpL_o rfl ?_
    refine e_append rfl Try.underlying23 em_LInt_32_LoopR3 rfl rfl hS49 (hS49.rdS 1 rfl) (fun _ h => h) (by have hb : GoT.bytes (List Int) = 24 := rfl; simp [hb]; omega) (by decide) (fun v50 H51 hS52 hxx => ?_)
    replace hS52 : St H0 NoB (fun b => S b ∧ b < H0.size) [rowE 32 v50 ((growS (comeAt l i) ((nextL l (nth (comeAt l i) i)).take k)) ++ ([nth (nextL l (nth (comeAt l i) i)) k]) : List (List Int)), rdE v45 ([nth (nextL l (nth (comeAt l i) i)) k] : List (List Int)), rdE u43 (nth (nextL l (nth (comeAt l i) i)) k), rowE 3 vf3 (fr3 : List Int), rdE r30o5 (nextL l (nth (comeAt l i) i)), blkE g1 (.cells #[wa, wb, wc, wd, we] 42), rdE wa l.Low, rdE wb l.High, rdE wc l.Start, rdE wd l.Jumps, rdE we l.Bad] H51 := hS52
    have hS53 : St H0 NoB (fun b => S b ∧ b < H0.size) [rowE 32 v50 (growS (comeAt l i) ((nextL l (nth (comeAt l i) i)).take (k + 1)) : List (List Int)), rdE v45 ([nth (nextL l (nth (comeAt l i) i)) k] : List (List Int)), rdE u43 (nth (nextL l (nth (comeAt l i) i)) k), rowE 3 vf3 (fr3 : List Int), rdE r30o5 (nextL l (nth (comeAt l i) i)), blkE g1 (.cells #[wa, wb, wc, wd, we] 42), rdE wa l.Low, rdE wb l.High, rdE wc l.Start, rdE wd l.Jumps, rdE we l.Bad] H51 := by rw [show (growS (comeAt l i) ((nextL l (nth (comeAt l i) i)).take (k + 1))) = ((growS (comeAt l i) ((nextL l (nth (comeAt l i) i)).take k)) ++ ([nth (nextL l (nth (comeAt l i) i)) k])) from (by rw [growS_take (by omega), addN, if_neg h45])]; exact hS52
    refine wpL_q (U := NoB) rfl (q_assign (v := v50) rfl rfl) ?_
    exact ⟨v50, a41_1, rfl, a41_5, a41_7, a41_8, a41_9, (hS53.drop (sk (sn (sn (sk (sk (sk (sk (sk (sk (sk (sk (List.Sublist.slnil)))))))))))))⟩
  rintro f54 H54 ⟨v50, a54_1, a54_4, a54_5, a54_7, a54_8, a54_9, hS54⟩
  clear a41_1 a41_4 a41_45 a41_5 a41_7 a41_8 a41_9
  refine wpF_cut (fun f H => ∃ (v60 : Value), f 1 = PT g1 0 ∧ f 4 = v50 ∧ f 5 = v60 ∧ f 7 = I ((i : Int)) ∧ f 8 = r30o5 ∧ f 9 = I ((k : Int)) ∧ St H0 NoB (fun b => S b ∧ b < H0.size) [rowE 3 v60 (fr3 ++ ([(i : Int)]) : List Int), rowE 32 v50 (growS (comeAt l i) ((nextL l (nth (comeAt l i) i)).take (k + 1)) : List (List Int)), rdE r30o5 (nextL l (nth (comeAt l i) i)), blkE g1 (.cells #[wa, wb, wc, wd, we] 42), rdE wa l.Low, rdE wb l.High, rdE wc l.Start, rdE wd l.Jumps, rdE we l.Bad] H) ?_ ?_
  · refine wpF_region ?_
    refine wpL_q (U := NoB) rfl (q_move (v := vf3) rfl a54_5) ?_
    refine wpL_q (U := NoB) rfl (q_move (v := I ((i : Int))) rfl a54_7) ?_
    refine wpL_o rfl ?_
    refine e_buildSlice (vs := [I ((i : Int))]) (xs := ([(i : Int)] : List Int)) rfl Try.underlying32 Try.zeroValue3 rfl Try.sizeOf3 (par1 (v0 := I ((i : Int))) rfl) rfl hS54 (RdVs.cons (Rd.int.2 ⟨rfl, by constructor <;> omega⟩) (RdVs.nil)) (by decide) (by decide) (fun v55 H56 hS57 hxx hvv55 => ?_)
    replace hS57 : St H0 NoB (fun b => S b ∧ b < H0.size) [rowE 3 v55 ([(i : Int)] : List Int), rowE 32 v50 (growS (comeAt l i) ((nextL l (nth (comeAt l i) i)).take (k + 1)) : List (List Int)), rowE 3 vf3 (fr3 : List Int), rdE r30o5 (nextL l (nth (comeAt l i) i)), blkE g1 (.cells #[wa, wb, wc, wd, we] 42), rdE wa l.Low, rdE wb l.High, rdE wc l.Start, rdE wd l.Jumps, rdE we l.Bad] H56 := hS57
    have hS58 : St H0 NoB (fun b => S b ∧ b < H0.size) [rdE v55 ([(i : Int)] : List Int), rowE 32 v50 (growS (comeAt l i) ((nextL l (nth (comeAt l i) i)).take (k + 1)) : List (List Int)), rowE 3 vf3 (fr3 : List Int), rdE r30o5 (nextL l (nth (comeAt l i) i)), blkE g1 (.cells #[wa, wb, wc, wd, we] 42), rdE wa l.Low, rdE wb l.High, rdE wc l.Start, rdE wd l.Jumps, rdE we l.Bad] H56 := St.fin hS57
    have hS59 : St H0 NoB (fun b => S b ∧ b < H0.size) [rowE 3 vf3 (fr3 : List Int), rdE v55 ([(i : Int)] : List Int), rowE 32 v50 (growS (comeAt l i) ((nextL l (nth (comeAt l i) i)).take (k + 1)) : List (List Int)), rdE r30o5 (nextL l (nth (comeAt l i) i)), blkE g1 (.cells #[wa, wb, wc, wd, we] 42), rdE wa l.Low, rdE wb l.High, rdE wc l.Start, rdE wd l.Jumps, rdE we l.Bad] H56 := (hS58.front 2 rfl)
    refine wpL_o rfl ?_
    refine e_append rfl Try.underlying32 em_Int_3_LoopR3 rfl rfl hS59 (hS59.rdS 1 rfl) (fun _ h => h) (by have hb : GoT.bytes Int = 8 := rfl; simp [hb]; omega) (by decide) (fun v60 H61 hS62 hxx => ?_)
    replace hS62 : St H0 NoB (fun b => S b ∧ b < H0.size) [rowE 3 v60 (fr3 ++ ([(i : Int)]) : List Int), rdE v55 ([(i : Int)] : List Int), rowE 32 v50 (growS (comeAt l i) ((nextL l (nth (comeAt l i) i)).take (k + 1)) : List (List Int)), rdE r30o5 (nextL l (nth (comeAt l i) i)), blkE g1 (.cells #[wa, wb, wc, wd, we] 42), rdE wa l.Low, rdE wb l.High, rdE wc l.Start, rdE wd l.Jumps, rdE we l.Bad] H61 := hS62
    refine wpL_q (U := NoB) rfl (q_assign (v := v60) rfl rfl) ?_
    exact ⟨v60, a54_1, a54_4, rfl, a54_7, a54_8, a54_9, (hS62.drop (sk (sn (sk (sk (sk (sk (sk (sk (sk (sk (List.Sublist.slnil))))))))))))⟩
  rintro f63 H63 ⟨v60, a63_1, a63_4, a63_5, a63_7, a63_8, a63_9, hS63⟩
  clear a54_1 a54_4 a54_5 a54_7 a54_8 a54_9
  refine wpF_cut (fun f H => f 1 = PT g1 0 ∧ f 4 = v50 ∧ f 5 = v60 ∧ f 7 = I ((i : Int)) ∧ f 8 = r30o5 ∧ f 9 = I ((k : Int) + 1) ∧ H63 = H) ?_ ?_
  · refine wpF_region ?_
    refine wpL_q (U := NoB) rfl (q_move (v := I ((k : Int))) rfl a63_9) ?_
    refine wpL_q (U := NoB) rfl (q_add rfl rfl rfl (by constructor <;> omega)) ?_
    refine wpL_q (U := NoB) rfl (q_assign (v := I ((k : Int) + 1)) rfl rfl) ?_
    exact ⟨a63_1, a63_4, a63_5, a63_7, a63_8, rfl, rfl⟩
  rintro f64 _ ⟨a64_1, a64_4, a64_5, a64_7, a64_8, a64_9, rfl⟩
  clear a63_1 a63_4 a63_5 a63_7 a63_8 a63_9
  refine ⟨_, ?_, k + 1, v50, v60, fr3 ++ ([(i : Int)]), rfl, (by omega), (by rw [List.length_append, hfr3, growS_take (by omega), addN, if_neg h45, List.length_append]; rfl), hFi.add, a64_1, a64_4, a64_5, a64_7, a64_8, (Eq.trans a64_9 (congrArg I (by omega))), (show St H0 NoB (fun b => S b ∧ b < H0.size) [rowE 3 v60 ((fr3 ++ ([(i : Int)])) : List Int), rowE 32 v50 (growS (comeAt l i) ((nextL l (nth (comeAt l i) i)).take (k + 1)) : List (List Int)), rdE r30o5 (nextL l (nth (comeAt l i) i)), blkE g1 (.cells #[wa, wb, wc, wd, we] 42), rdE wa l.Low, rdE wb l.High, rdE wc l.Start, rdE wd l.Jumps, rdE we l.Bad] H63 from (by have h__ := hS63; (first | rw [show growS (comeAt l i) ((nextL l (nth (comeAt l i) i)).take k) = growS (comeAt l i) ((nextL l (nth (comeAt l i) i)).take (k + 1)) from (by rw [growS_take (by omega), addN, if_pos (by simpa using h45)])] at h__ | skip); exact h__))⟩
  omega

end Go.Um
