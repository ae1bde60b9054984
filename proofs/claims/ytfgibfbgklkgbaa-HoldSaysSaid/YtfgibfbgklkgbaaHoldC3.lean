import Derived.Test.YtfgibfbgklkgbaaProg
import Derived.Test.YtfgibfbgklkgbaaHoldC2
import Derived.Test.YtfgibfbgklkgbaaUmSub
namespace Go.Um
open Go.Proofs
open GoT (sz ag rdc)
open KeyT (kv)

theorem el_LInt_32_HoldC3 : ElT Try.prog (List Int) 32 := ⟨Try.isAgg32, Try.sizeOf32⟩
theorem em_LInt_32_HoldC3 : ElemOk Try.prog (List Int) 32 := ⟨Try.t32, (.slice none 0 0), by kernel_rfl, by kernel_rfl, by kernel_rfl, by kernel_rfl, by kernel_rfl⟩

set_option maxRecDepth 100000 in
theorem Bad_1 {H0 : Heap} (vx : Value) (g1 : Nat) (wa wb wc wd we : Value) (x : List Int) (l : Loop) (hb : H0[g1]? = some (.cells #[wa, wb, wc, wd, we] 42)) (rx : Rd NoB H0 vx x) (rwa : Rd NoB H0 wa l.Low) (rwb : Rd NoB H0 wb l.High) (rwc : Rd NoB H0 wc l.Start) (rwd : Rd NoB H0 wd l.Jumps) (rwe : Rd NoB H0 we l.Bad) (hok : HoldOk l.Bad x) : CallsH Try.prog 58 #[vx, PT g1 0] H0 (fun rv_ H' => Ext NoB H0 H' ∧ rv_ = B (holdB l.Bad x)) := by
  have hS0 : St H0 NoB NoB [fixE g1 (.cells #[wa, wb, wc, wd, we] 42), rdE vx x, rdE wa l.Low, rdE wb l.High, rdE wc l.Start, rdE wd l.Jumps, rdE we l.Bad] H0 := St.argFix (St.arg (St.arg (St.arg (St.arg (St.arg (St.arg (St.start (fun _ h => h.elim)) (Bl0.nil) rwe (fun _ h => h)) (Bl0.cons (Bl0.nil)) rwd (fun _ h => h)) (Bl0.cons (Bl0.cons (Bl0.nil))) rwc (fun _ h => h)) (Bl0.cons (Bl0.cons (Bl0.cons (Bl0.nil)))) rwb (fun _ h => h)) (Bl0.cons (Bl0.cons (Bl0.cons (Bl0.cons (Bl0.nil))))) rwa (fun _ h => h)) (Bl0.cons (Bl0.cons (Bl0.cons (Bl0.cons (Bl0.cons (Bl0.nil)))))) rx (fun _ h => h)) (Bl0.cons (Bl0.cons (Bl0.cons (Bl0.cons (Bl0.cons (Bl0.cons (Bl0.nil))))))) hb (fun h => h)
  refine callsH_of_wpF (args := [vx, PT g1 0]) (rs := [.tmp 3]) Try.func58 rfl Try.ntmps58 Try.results58 (by kernel_rfl) (Nat.le_of_ble_eq_true rfl) ?_
  have a0_0 : argF [vx, PT g1 0] 0 = vx := rfl
  have a0_1 : argF [vx, PT g1 0] 1 = PT g1 0 := rfl
  generalize argF [vx, PT g1 0] = f0 at *
  refine wpF_seq ?_
  refine wpF_cut (fun f H => f 0 = vx ∧ f 1 = PT g1 0 ∧ H0 = H) ?_ ?_
  · refine wpF_region ?_
    refine wpL_q (U := NoB) rfl (q_assign (v := B (false)) rfl rfl) ?_
    exact ⟨a0_0, a0_1, rfl⟩
  rintro f1 _ ⟨a1_0, a1_1, rfl⟩
  clear a0_0 a0_1
  refine wpF_seq ?_
  refine wpF_cut (fun f H => f 3 = B (holdB l.Bad x) ∧ St H0 NoB NoB [fixE g1 (.cells #[wa, wb, wc, wd, we] 42), rdE vx x, rdE wa l.Low, rdE wb l.High, rdE wc l.Start, rdE wd l.Jumps, rdE we l.Bad] H) ?_ ?_
  · refine wpF_region ?_
    refine wpL_q (U := NoB) rfl (q_fieldAddr rfl Try.underlying42 rfl Try.sizeOf22 a1_1) ?_
    refine wpL_q (U := NoB) rfl (q_loadBlk rfl rfl Try.isAgg22 (hS0.fixd 0 rfl) rfl (fun h => h)) ?_
    refine wpL_q (U := NoB) rfl (q_move (v := vx) rfl a1_0) ?_
    refine wpL_o rfl ?_
    refine e_call rfl Try.call52 (arr2 (v0 := we) (v1 := vx) rfl rfl) (Hold_L we vx l.Bad x (hS0.rdN 6 rfl) (hS0.rdN 1 rfl) hok) ?_
    rintro _ H2 ⟨hxx, rfl⟩
    have hS3 : St H0 NoB NoB [fixE g1 (.cells #[wa, wb, wc, wd, we] 42), rdE vx x, rdE wa l.Low, rdE wb l.High, rdE wc l.Start, rdE wd l.Jumps, rdE we l.Bad] H2 := hS0.ext hxx
    refine wpL_q (U := NoB) rfl (q_assign (v := B (holdB l.Bad x)) rfl rfl) ?_
    exact ⟨rfl, hS3⟩
  rintro f5 H5 ⟨a5_3, hS5⟩
  clear a1_0 a1_1
  refine wpF_ret ?_
  refine ⟨_, resT a5_3 resN, hS5.frame, ?_⟩
  show (B (holdB l.Bad x)) = B (holdB l.Bad x)
  rfl

set_option maxRecDepth 100000 in
theorem Bad_21 {H0 : Heap} (vx : Value) (g5 g7 : Nat) (vR : Value) (x : List Int) (R : List (List Int)) (n : Int) (hb : H0[g5]? = some (.cells #[vR] 23)) (hb2 : H0[g7]? = some (.cells #[I n] 3)) (rx : Rd NoB H0 vx x) (rR : Rd NoB H0 vR R) (hn : 0 ≤ n ∧ n < (R.length : Int)) : CallsH Try.prog 61 #[vx, PT g5 0, PT g7 0] H0 (fun rv_ H' => Ext NoB H0 H' ∧ rv_ = B (decide (x = nth R n.toNat))) := by
  have hS0 : St H0 NoB NoB [fixE g5 (.cells #[vR] 23), fixE g7 (.cells #[I (n)] 3), rdE vx x, rdE vR R] H0 := St.argFix (St.argFix (St.arg (St.arg (St.start (fun _ h => h.elim)) (Bl0.nil) rR (fun _ h => h)) (Bl0.cons (Bl0.nil)) rx (fun _ h => h)) (Bl0.cons (Bl0.cons (Bl0.nil))) hb2 (fun h => h)) (Bl0.consF (Bl0.cons (Bl0.cons (Bl0.nil)))) hb (fun h => h)
  refine callsH_of_wpF (args := [vx, PT g5 0, PT g7 0]) (rs := [.tmp 4]) Try.func61 rfl Try.ntmps61 Try.results61 (by kernel_rfl) (Nat.le_of_ble_eq_true rfl) ?_
  have a0_0 : argF [vx, PT g5 0, PT g7 0] 0 = vx := rfl
  have a0_1 : argF [vx, PT g5 0, PT g7 0] 1 = PT g5 0 := rfl
  have a0_2 : argF [vx, PT g5 0, PT g7 0] 2 = PT g7 0 := rfl
  generalize argF [vx, PT g5 0, PT g7 0] = f0 at *
  refine wpF_seq ?_
  refine wpF_cut (fun f H => f 0 = vx ∧ f 1 = PT g5 0 ∧ f 2 = PT g7 0 ∧ H0 = H) ?_ ?_
  · refine wpF_region ?_
    refine wpL_q (U := NoB) rfl (q_assign (v := B (false)) rfl rfl) ?_
    exact ⟨a0_0, a0_1, a0_2, rfl⟩
  rintro f1 _ ⟨a1_0, a1_1, a1_2, rfl⟩
  clear a0_0 a0_1 a0_2
  refine wpF_seq ?_
  obtain ⟨u2, huu2, hlu2⟩ := (Rd.list.1 (hS0.rdS 3 rfl)).elem ((n).toNat) (by omega)
  have hS3 : St H0 NoB NoB [rdE u2 (nth R ((n).toNat)), fixE g5 (.cells #[vR] 23), fixE g7 (.cells #[I (n)] 3), rdE vx x, rdE vR R] H0 := hS0.rd huu2
  refine wpF_cut (fun f H => f 4 = B (decide (x = (nth R ((n).toNat)))) ∧ St H0 NoB NoB [fixE g5 (.cells #[vR] 23), fixE g7 (.cells #[I (n)] 3), rdE vx x, rdE vR R] H) ?_ ?_
  · refine wpF_region ?_
    refine wpL_q (U := NoB) rfl (q_move (v := vx) rfl a1_0) ?_
    refine wpL_q (U := NoB) rfl (q_loadBlk rfl a1_1 Try.isAgg23 (hS0.fixd 0 rfl) rfl (fun h => h)) ?_
    refine wpL_q (U := NoB) rfl (q_loadBlk rfl a1_2 Try.isAgg3 (hS0.fixd 1 rfl) rfl (fun h => h)) ?_
    refine wpL_q (U := NoB) rfl (q_indexRd (k := (n).toNat) rfl Try.underlying23 el_LInt_32_HoldC3 rfl rfl (hS0.rdl 3 rfl) (by omega) (by omega)) ?_
    refine wpL_q (U := NoB) rfl (q_loadE rfl rfl (hlu2 Try.prog 32 _ el_LInt_32_HoldC3 (fun _ h => False.elim h))) ?_
    refine wpL_o rfl ?_
    refine e_call rfl Try.call62 (arr2 (v0 := vx) (v1 := u2) rfl rfl) (Equal vx u2 _ _ (hS3.rdN 3 rfl) (hS3.rdN 0 rfl)) ?_
    rintro _ H4 ⟨hxx, rfl⟩
    have hS5 : St H0 NoB NoB [rdE u2 (nth R ((n).toNat)), fixE g5 (.cells #[vR] 23), fixE g7 (.cells #[I (n)] 3), rdE vx x, rdE vR R] H4 := hS3.ext hxx
    refine wpL_q (U := NoB) rfl (q_assign (v := B (decide (x = (nth R ((n).toNat))))) rfl rfl) ?_
    exact ⟨rfl, (hS5.drop (sn (sk (sk (sk (sk (List.Sublist.slnil)))))))⟩
  rintro f7 H7 ⟨a7_4, hS7⟩
  clear a1_0 a1_1 a1_2
  refine wpF_ret ?_
  refine ⟨_, resT a7_4 resN, hS7.frame, ?_⟩
  show (B (decide (x = (nth R ((n).toNat))))) = B (decide (x = nth R n.toNat))
  rfl

set_option maxRecDepth 100000 in
theorem Bad_2 {H0 : Heap} (vx : Value) (g1 g5 g7 : Nat) (wa wb wc wd we vR : Value) (x : List Int) (l : Loop) (R : List (List Int)) (n : Int) (hb : H0[g1]? = some (.cells #[wa, wb, wc, wd, we] 42)) (hb5 : H0[g5]? = some (.cells #[vR] 23)) (hb7 : H0[g7]? = some (.cells #[I n] 3)) (rx : Rd NoB H0 vx x) (rwa : Rd NoB H0 wa l.Low) (rwb : Rd NoB H0 wb l.High) (rwc : Rd NoB H0 wc l.Start) (rwd : Rd NoB H0 wd l.Jumps) (rwe : Rd NoB H0 we l.Bad) (rR : Rd NoB H0 vR R) (hl : LW l) (hst : St_ l x) (hnR : 0 ≤ n ∧ n < (R.length : Int)) : CallsH Try.prog 59 #[vx, PT g1 0, PT g5 0, PT g7 0] H0 (fun rv_ H' => Ext NoB H0 H' ∧ rv_ = B ((nextL l x).any fun t => decide (t = nth R n.toNat))) := by
  have hS0 : St H0 NoB NoB [fixE g1 (.cells #[wa, wb, wc, wd, we] 42), fixE g5 (.cells #[vR] 23), fixE g7 (.cells #[I (n)] 3), rdE vx x, rdE wa l.Low, rdE wb l.High, rdE wc l.Start, rdE wd l.Jumps, rdE we l.Bad, rdE vR R] H0 := St.argFix (St.argFix (St.argFix (St.arg (St.arg (St.arg (St.arg (St.arg (St.arg (St.arg (St.start (fun _ h => h.elim)) (Bl0.nil) rR (fun _ h => h)) (Bl0.cons (Bl0.nil)) rwe (fun _ h => h)) (Bl0.cons (Bl0.cons (Bl0.nil))) rwd (fun _ h => h)) (Bl0.cons (Bl0.cons (Bl0.cons (Bl0.nil)))) rwc (fun _ h => h)) (Bl0.cons (Bl0.cons (Bl0.cons (Bl0.cons (Bl0.nil))))) rwb (fun _ h => h)) (Bl0.cons (Bl0.cons (Bl0.cons (Bl0.cons (Bl0.cons (Bl0.nil)))))) rwa (fun _ h => h)) (Bl0.cons (Bl0.cons (Bl0.cons (Bl0.cons (Bl0.cons (Bl0.cons (Bl0.nil))))))) rx (fun _ h => h)) (Bl0.cons (Bl0.cons (Bl0.cons (Bl0.cons (Bl0.cons (Bl0.cons (Bl0.cons (Bl0.nil)))))))) hb7 (fun h => h)) (Bl0.consF (Bl0.cons (Bl0.cons (Bl0.cons (Bl0.cons (Bl0.cons (Bl0.cons (Bl0.cons (Bl0.nil))))))))) hb5 (fun h => h)) (Bl0.consF (Bl0.consF (Bl0.cons (Bl0.cons (Bl0.cons (Bl0.cons (Bl0.cons (Bl0.cons (Bl0.cons (Bl0.nil)))))))))) hb (fun h => h)
  refine callsH_of_wpF (args := [vx, PT g1 0, PT g5 0, PT g7 0]) (rs := [.tmp 5]) Try.func59 rfl Try.ntmps59 Try.results59 (by kernel_rfl) (Nat.le_of_ble_eq_true rfl) ?_
  have a0_0 : argF [vx, PT g1 0, PT g5 0, PT g7 0] 0 = vx := rfl
  have a0_1 : argF [vx, PT g1 0, PT g5 0, PT g7 0] 1 = PT g1 0 := rfl
  have a0_2 : argF [vx, PT g1 0, PT g5 0, PT g7 0] 2 = PT g5 0 := rfl
  have a0_3 : argF [vx, PT g1 0, PT g5 0, PT g7 0] 3 = PT g7 0 := rfl
  generalize argF [vx, PT g1 0, PT g5 0, PT g7 0] = f0 at *
  refine wpF_seq ?_
  refine wpF_cut (fun f H => f 0 = vx ∧ f 1 = PT g1 0 ∧ f 2 = PT g5 0 ∧ f 3 = PT g7 0 ∧ H0 = H) ?_ ?_
  · refine wpF_region ?_
    refine wpL_q (U := NoB) rfl (q_assign (v := B (false)) rfl rfl) ?_
    exact ⟨a0_0, a0_1, a0_2, a0_3, rfl⟩
  rintro f1 _ ⟨a1_0, a1_1, a1_2, a1_3, rfl⟩
  clear a0_0 a0_1 a0_2 a0_3
  refine wpF_seq ?_
  refine wpF_cut (fun f H => f 5 = B ((nextL l x).any (fun t => decide (t = nth R n.toNat))) ∧ St H0 NoB NoB [fixE g1 (.cells #[wa, wb, wc, wd, we] 42), fixE g5 (.cells #[vR] 23), fixE g7 (.cells #[I (n)] 3), rdE vx x, rdE wa l.Low, rdE wb l.High, rdE wc l.Start, rdE wd l.Jumps, rdE we l.Bad, rdE vR R] H) ?_ ?_
  · refine wpF_region ?_
    refine wpL_q (U := NoB) rfl (q_loadBlkA rfl a1_1 Try.isAgg42 Try.sizeOf42 rfl (hS0.fixd 0 rfl) (fun h => h)) ?_
    refine wpL_q (U := NoB) rfl (q_move (v := vx) rfl a1_0) ?_
    refine wpL_o rfl ?_
    refine e_call rfl Try.call55 (arr2 (v0 := Value.agg #[wa, wb, wc, wd, we]) (v1 := vx) rfl rfl) (Succ_L wa wb wc wd we vx l x (hS0.rdS 4 rfl) (hS0.rdS 5 rfl) (hS0.rdS 6 rfl) (hS0.rdS 7 rfl) (hS0.rdS 8 rfl) (hS0.rdS 3 rfl) hl hst.1 (inside_small hl hst.1 hst.2)) ?_
    rintro r2 H3 ⟨hxx, hrr2⟩
    have hS4 : St H0 NoB NoB [rdE r2 (nextL l x), fixE g1 (.cells #[wa, wb, wc, wd, we] 42), fixE g5 (.cells #[vR] 23), fixE g7 (.cells #[I (n)] 3), rdE vx x, rdE wa l.Low, rdE wb l.High, rdE wc l.Start, rdE wd l.Jumps, rdE we l.Bad, rdE vR R] H3 := hS0.res hxx hrr2
    refine wpL_q (U := NoB) rfl (q_makeFunc (fi' := #[]) rfl (by simp) (arr2 (v0 := PT g5 0) (v1 := PT g7 0) a1_2 a1_3)) ?_
    refine wpL_o rfl ?_
    refine e_call rfl Try.call60 (arr2 (v0 := r2) (v1 := Value.func (.func 61) #[] #[PT g5 0, PT g7 0]) rfl rfl) (ContainsFuncL r2 (Value.func (.func 61) #[] #[PT g5 0, PT g7 0]) (nextL l x) (fun t => decide (t = nth R n.toNat)) (hS4.rdN 0 rfl) (fun u x hx H hE hr => ⟨_, _, rfl, Try.call61, Bad_21 u g5 g7 vR x R n (hE.blk (hS4.fixd 2 rfl)) (hE.blk (hS4.fixd 3 rfl)) hr ((hS4.rdN 10 rfl).extN hE) hnR⟩)) ?_
    rintro _ H6 ⟨hxx, rfl⟩
    have hS7 : St H0 NoB NoB [rdE r2 (nextL l x), fixE g1 (.cells #[wa, wb, wc, wd, we] 42), fixE g5 (.cells #[vR] 23), fixE g7 (.cells #[I (n)] 3), rdE vx x, rdE wa l.Low, rdE wb l.High, rdE wc l.Start, rdE wd l.Jumps, rdE we l.Bad, rdE vR R] H6 := hS4.ext hxx
    refine wpL_q (U := NoB) rfl (q_assign (v := B ((nextL l x).any (fun t => decide (t = nth R n.toNat)))) rfl rfl) ?_
    exact ⟨rfl, (hS7.drop (sn (sk (sk (sk (sk (sk (sk (sk (sk (sk (sk (List.Sublist.slnil)))))))))))))⟩
  rintro f9 H9 ⟨a9_5, hS9⟩
  clear a1_0 a1_1 a1_2 a1_3
  refine wpF_ret ?_
  refine ⟨_, resT a9_5 resN, hS9.frame, ?_⟩
  show (B ((nextL l x).any (fun t => decide (t = nth R n.toNat)))) = B ((nextL l x).any fun t => decide (t = nth R n.toNat))
  rfl

set_option maxHeartbeats 2000000 in
set_option maxRecDepth 100000 in
theorem Bad_L {H0 : Heap} {S : Nat → Prop} (wa wb wc wd we : Value) (l : Loop) (rwa : Rd S H0 wa l.Low) (rwb : Rd S H0 wb l.High) (rwc : Rd S H0 wc l.Start) (rwd : Rd S H0 wd l.Jumps) (rwe : Rd S H0 we l.Bad) : CallsH Try.prog 23 #[Value.agg #[wa, wb, wc, wd, we]] H0 (fun rv_ H' => Ext NoB H0 H' ∧ ∃ w0_, rv_ = Value.tuple #[w0_, B (badB l), Value.agg #[I (loopFault l).1, I (loopFault l).2]] ∧ Rd (fun b => S b ∧ b < H0.size) H' w0_ (badL l)) := by
  have hs1 := (Rd.list.1 rwa).small
  have hs2 := (Rd.list.1 rwb).small
  have hs4 := (Rd.list.1 rwd).small
  have hS0 : St H0 NoB (fun b => S b ∧ b < H0.size) [rdE wa l.Low, rdE wb l.High, rdE wc l.Start, rdE wd l.Jumps, rdE we l.Bad] H0 := St.arg (St.arg (St.arg (St.arg (St.arg (St.start (fun _ h => h.2)) (Bl0.nil) rwe (fun _ h => h.1)) (Bl0.cons (Bl0.nil)) rwd (fun _ h => h.1)) (Bl0.cons (Bl0.cons (Bl0.nil))) rwc (fun _ h => h.1)) (Bl0.cons (Bl0.cons (Bl0.cons (Bl0.nil)))) rwb (fun _ h => h.1)) (Bl0.cons (Bl0.cons (Bl0.cons (Bl0.cons (Bl0.nil))))) rwa (fun _ h => h.1)
  refine callsH_of_wpF (args := [Value.agg #[wa, wb, wc, wd, we]]) (rs := [.tmp 2, .tmp 3, .cell 4 27]) Try.func23 rfl Try.ntmps23 Try.results23 (by kernel_rfl) (Nat.le_of_ble_eq_true rfl) ?_
  have a0_0 : argF [Value.agg #[wa, wb, wc, wd, we]] 0 = Value.agg #[wa, wb, wc, wd, we] := rfl
  generalize argF [Value.agg #[wa, wb, wc, wd, we]] = f0 at *
  refine wpF_seq ?_
  refine wpF_cut (fun f H => ∃ (g1 : Nat), ∃ (g4 : Nat), f 1 = PT g1 0 ∧ f 4 = PT g4 0 ∧ St H0 NoB (fun b => S b ∧ b < H0.size) [blkE g4 (.cells #[I (0), I (0)] 27), blkE g1 (.cells #[wa, wb, wc, wd, we] 42), rdE wa l.Low, rdE wb l.High, rdE wc l.Start, rdE wd l.Jumps, rdE we l.Bad] H) ?_ ?_
  · refine wpF_region ?_
    refine wpL_o rfl ?_
    refine e_box (v := Value.agg #[wa, wb, wc, wd, we]) rfl a0_0 hS0 (fun g1 H2 hS3 hxx => ?_)
    replace hS3 : St H0 NoB (fun b => S b ∧ b < H0.size) [blkE g1 (.cells #[wa, wb, wc, wd, we] 42), rdE wa l.Low, rdE wb l.High, rdE wc l.Start, rdE wd l.Jumps, rdE we l.Bad] H2 := hS3
    refine wpL_q (U := NoB) rfl (q_assign (v := (Value.slice none 0 0)) rfl rfl) ?_
    refine wpL_q (U := NoB) rfl (q_assign (v := B (false)) rfl rfl) ?_
    refine wpL_o rfl ?_
    refine e_alloc rfl Try.zeroValue27 hS3 (fun g4 H5 hS6 hxx => ?_)
    replace hS6 : St H0 NoB (fun b => S b ∧ b < H0.size) [blkE g4 (.cells #[I (0), I (0)] 27), blkE g1 (.cells #[wa, wb, wc, wd, we] 42), rdE wa l.Low, rdE wb l.High, rdE wc l.Start, rdE wd l.Jumps, rdE we l.Bad] H5 := hS6
    exact ⟨g1, g4, rfl, rfl, hS6⟩
  rintro f7 H7 ⟨g1, g4, a7_1, a7_4, hS7⟩
  clear a0_0
  refine wpF_seq ?_
  refine wpF_cut (fun f H => ∃ (r8 : Value), ∃ (g12 : Nat), ∃ (g15 : Nat), f 1 = PT g1 0 ∧ f 4 = PT g4 0 ∧ f 5 = PT g12 0 ∧ f 6 = PT g15 0 ∧ St H0 NoB (fun b => S b ∧ b < H0.size) [blkE g15 (.cells #[I ((loopFault l).1), I ((loopFault l).2)] 27), blkE g12 (.cells #[r8] 23), rdE r8 (runsOut l), blkE g4 (.cells #[I (0), I (0)] 27), blkE g1 (.cells #[wa, wb, wc, wd, we] 42), rdE wa l.Low, rdE wb l.High, rdE wc l.Start, rdE wd l.Jumps, rdE we l.Bad] H) ?_ ?_
  · refine wpF_region ?_
    refine wpL_q (U := NoB) rfl (q_loadBlkA rfl a7_1 Try.isAgg42 Try.sizeOf42 rfl (hS7.blk 1 rfl) (fun h => h)) ?_
    refine wpL_o rfl ?_
    refine e_call rfl Try.call22 (arr1 (v0 := Value.agg #[wa, wb, wc, wd, we]) rfl) (Runs_L wa wb wc wd we l (hS7.rdS 2 rfl) (hS7.rdS 3 rfl) (hS7.rdS 4 rfl) (hS7.rdS 5 rfl) (hS7.rdS 6 rfl) ) ?_
    rintro _ H9 ⟨hxx, r8, rfl, hrr8⟩
    have hS10 : St H0 NoB (fun b => S b ∧ b < H0.size) [rdE r8 (runsOut l), blkE g4 (.cells #[I (0), I (0)] 27), blkE g1 (.cells #[wa, wb, wc, wd, we] 42), rdE wa l.Low, rdE wb l.High, rdE wc l.Start, rdE wd l.Jumps, rdE we l.Bad] H9 := hS7.res hxx hrr8
    refine wpL_q (U := NoB) rfl (q_move (v := Value.tuple #[r8, Value.agg #[I ((loopFault l).1), I ((loopFault l).2)]]) rfl rfl) ?_
    refine wpL_q (U := NoB) rfl (q_extract (vs := #[r8, Value.agg #[I ((loopFault l).1), I ((loopFault l).2)]]) (v := r8) rfl rfl rfl) ?_
    refine wpL_q (U := NoB) rfl (q_extract (vs := #[r8, Value.agg #[I ((loopFault l).1), I ((loopFault l).2)]]) (v := Value.agg #[I ((loopFault l).1), I ((loopFault l).2)]) rfl rfl rfl) ?_
    refine wpL_o rfl ?_
    refine e_alloc rfl Try.zeroValue23 hS10 (fun g12 H13 hS14 hxx => ?_)
    replace hS14 : St H0 NoB (fun b => S b ∧ b < H0.size) [blkE g12 (.cells #[(Value.slice none 0 0)] 23), rdE r8 (runsOut l), blkE g4 (.cells #[I (0), I (0)] 27), blkE g1 (.cells #[wa, wb, wc, wd, we] 42), rdE wa l.Low, rdE wb l.High, rdE wc l.Start, rdE wd l.Jumps, rdE we l.Bad] H13 := hS14
    refine wpL_o rfl ?_
    refine e_alloc rfl Try.zeroValue27 hS14 (fun g15 H16 hS17 hxx => ?_)
    replace hS17 : St H0 NoB (fun b => S b ∧ b < H0.size) [blkE g15 (.cells #[I (0), I (0)] 27), blkE g12 (.cells #[(Value.slice none 0 0)] 23), rdE r8 (runsOut l), blkE g4 (.cells #[I (0), I (0)] 27), blkE g1 (.cells #[wa, wb, wc, wd, we] 42), rdE wa l.Low, rdE wb l.High, rdE wc l.Start, rdE wd l.Jumps, rdE we l.Bad] H16 := hS17
    refine wpL_o rfl ?_
    refine e_storeBlk (v := r8) rfl rfl rfl (oneCell_rdL (hS17.rdl 2 rfl)) Try.sizeOf23 (by show _ < 1; decide) (hS17.front 1 rfl) (fun H18 hS19 hxx => ?_)
    replace hS19 : St H0 NoB (fun b => S b ∧ b < H0.size) [blkE g12 (.cells #[r8] 23), blkE g15 (.cells #[I (0), I (0)] 27), rdE r8 (runsOut l), blkE g4 (.cells #[I (0), I (0)] 27), blkE g1 (.cells #[wa, wb, wc, wd, we] 42), rdE wa l.Low, rdE wb l.High, rdE wc l.Start, rdE wd l.Jumps, rdE we l.Bad] H18 := hS19
    refine wpL_o rfl ?_
    refine e_storeBlkA (cs' := #[I ((loopFault l).1), I ((loopFault l).2)]) rfl rfl rfl Try.sizeOf27 rfl rfl (List.forall_mem_cons.2 ⟨rfl, List.forall_mem_cons.2 ⟨rfl, List.forall_mem_nil _⟩⟩) (hS19.front 1 rfl) (fun H20 hS21 hxx => ?_)
    replace hS21 : St H0 NoB (fun b => S b ∧ b < H0.size) [blkE g15 (.cells #[I ((loopFault l).1), I ((loopFault l).2)] 27), blkE g12 (.cells #[r8] 23), rdE r8 (runsOut l), blkE g4 (.cells #[I (0), I (0)] 27), blkE g1 (.cells #[wa, wb, wc, wd, we] 42), rdE wa l.Low, rdE wb l.High, rdE wc l.Start, rdE wd l.Jumps, rdE we l.Bad] H20 := hS21
    exact ⟨r8, g12, g15, a7_1, a7_4, rfl, rfl, hS21⟩
  rintro f22 H22 ⟨r8, g12, g15, a22_1, a22_4, a22_5, a22_6, hS22⟩
  clear a7_1 a7_4
  refine wpF_seq ?_
  refine wpF_seq ?_
  refine wpF_cut (fun f H => f 1 = PT g1 0 ∧ f 4 = PT g4 0 ∧ f 5 = PT g12 0 ∧ f 6 = PT g15 0 ∧ f 16 = B (decide (((loopFault l).1) ≠ 0)) ∧ H22 = H) ?_ ?_
  · refine wpF_region ?_
    refine wpL_q (U := NoB) rfl (q_fieldAddr rfl Try.underlying27 rfl Try.sizeOf3 a22_6) ?_
    refine wpL_q (U := NoB) rfl (q_loadBlk rfl rfl Try.isAgg3 (hS22.blk 0 rfl) rfl (fun h => h)) ?_
    refine wpL_q (U := NoB) rfl (q_neq rfl rfl rfl) ?_
    exact ⟨a22_1, a22_4, a22_5, a22_6, rfl, rfl⟩
  rintro f23 _ ⟨a23_1, a23_4, a23_5, a23_6, a23_16, rfl⟩
  clear a22_1 a22_4 a22_5 a22_6
  refine wpF_condP a23_16 (fun h1 => ?t90) (fun h1 => ?e90)
  case t90 =>
    refine wpF_seq ?_
    refine wpF_cut (fun f H => f 2 = (Value.slice none 0 0) ∧ f 3 = B (false) ∧ f 4 = PT g4 0 ∧ St H0 NoB (fun b => S b ∧ b < H0.size) [blkE g4 (.cells #[I ((loopFault l).1), I ((loopFault l).2)] 27), blkE g15 (.cells #[I ((loopFault l).1), I ((loopFault l).2)] 27), blkE g12 (.cells #[r8] 23), rdE r8 (runsOut l), blkE g1 (.cells #[wa, wb, wc, wd, we] 42), rdE wa l.Low, rdE wb l.High, rdE wc l.Start, rdE wd l.Jumps, rdE we l.Bad] H) ?_ ?_
    · refine wpF_drawn [none, none, none, some 0] [[], [], [], []] (fun l b => match l with | 0 => True | _ => False) (by kernel_rfl) (by kernel_rfl) ?_
      refine wpR_q 0 (by kernel_rfl) rfl (quietAt rfl rfl (q_loadBlkA rfl a23_6 Try.isAgg27 Try.sizeOf27 rfl (hS22.blk 0 rfl) (labU_not [] rfl (List.forall_mem_nil _)))) ?_
      refine wpR_q 1 (by kernel_rfl) rfl (quietAt rfl rfl (q_assign (v := (Value.slice none 0 0)) rfl rfl)) ?_
      refine wpR_q 2 (by kernel_rfl) rfl (quietAt rfl rfl (q_assign (v := B (false)) rfl rfl)) ?_
      refine wpR_n [3] (by kernel_rfl) ?_
      refine List.forall_mem_cons.2 ⟨?_, List.forall_mem_nil _⟩
      refine exE rfl rfl ?_
      refine e_storeBlkA (cs' := #[I ((loopFault l).1), I ((loopFault l).2)]) rfl a23_4 rfl Try.sizeOf27 rfl rfl (List.forall_mem_cons.2 ⟨rfl, List.forall_mem_cons.2 ⟨rfl, List.forall_mem_nil _⟩⟩) (hS22.front 3 rfl) (fun H25o3 hS25o3 hxx => ?_)
      replace hS25o3 : St H0 NoB (fun b => S b ∧ b < H0.size) [blkE g4 (.cells #[I ((loopFault l).1), I ((loopFault l).2)] 27), blkE g15 (.cells #[I ((loopFault l).1), I ((loopFault l).2)] 27), blkE g12 (.cells #[r8] 23), rdE r8 (runsOut l), blkE g1 (.cells #[wa, wb, wc, wd, we] 42), rdE wa l.Low, rdE wb l.High, rdE wc l.Start, rdE wd l.Jumps, rdE we l.Bad] H25o3 := hS25o3
      refine ⟨Ext.mono hxx (labS_of 0 rfl (fun _ _ => trivial)), ?_⟩
      refine wpR_end (by kernel_rfl) ?_
      exact ⟨rfl, rfl, a23_4, hS25o3⟩
    rintro f26 H26 ⟨a26_2, a26_3, a26_4, hS26⟩
    clear a23_1 a23_16 a23_4 a23_5 a23_6
    refine wpF_ret ?_
    refine ⟨_, resT a26_2 (resT a26_3 (resC a26_4 (loadV_blkA Try.isAgg27 Try.sizeOf27 rfl (hS26.blk 0 rfl)) (resN))), hS26.frame, ?_⟩
    show ∃ w0_, (Value.tuple #[(Value.slice none 0 0), B (false), Value.agg #[I ((loopFault l).1), I ((loopFault l).2)]]) = Value.tuple #[w0_, B (badB l), Value.agg #[I (loopFault l).1, I (loopFault l).2]] ∧ Rd (fun b => S b ∧ b < H0.size) H26 w0_ (badL l)
    have q1 : badL l = [] := if_pos h1
    have q2 : badB l = false := if_pos h1
    exact ⟨(Value.slice none 0 0), by rw [q2], by rw [q1]; exact rdNil⟩
  have hl := LW.of (Decidable.of_not_not h1)
  have hro : runsOut l = comeL l := if_neg h1
  have hstR : ∀ x ∈ runsOut l, St_ l x := fun x hx => comeL_st hl (by rw [← hro]; exact hx)
  have hokT : ∀ x ∈ runsOut l, HoldOk l.Bad x := fun x hx => holdok_st hl hl.bad (hstR x hx)
  have hrl : (runsOut l).length ≤ 1200 := by rw [hro]; exact comeL_few hl
  have hrl2 : (runsOut l).length = (comeL l).length := by rw [hro]
  refine wpF_skip ?_
  refine wpF_seq ?_
  refine wpF_cut (fun f H => ∃ (g30 : Nat), f 1 = PT g1 0 ∧ f 4 = PT g4 0 ∧ f 5 = PT g12 0 ∧ f 7 = PT g30 0 ∧ St H0 NoB (fun b => S b ∧ b < H0.size) [blkE g30 (.cells #[I (idxOf (fun x => holdB l.Bad x) (runsOut l))] 3), blkE g15 (.cells #[I ((loopFault l).1), I ((loopFault l).2)] 27), blkE g12 (.cells #[r8] 23), rdE r8 (runsOut l), blkE g4 (.cells #[I (0), I (0)] 27), blkE g1 (.cells #[wa, wb, wc, wd, we] 42), rdE wa l.Low, rdE wb l.High, rdE wc l.Start, rdE wd l.Jumps, rdE we l.Bad] H) ?_ ?_
  · refine wpF_region ?_
    refine wpL_q (U := NoB) rfl (q_loadBlk rfl a23_5 Try.isAgg23 (hS22.blk 1 rfl) rfl (fun h => h)) ?_
    refine wpL_q (U := NoB) rfl (q_makeFunc (fi' := #[]) rfl (by simp) (arr1 (v0 := PT g1 0) a23_1)) ?_
    refine wpL_o rfl ?_
    refine e_call rfl Try.call57 (arr2 (v0 := r8) (v1 := Value.func (.func 58) #[] #[PT g1 0]) rfl rfl) (IndexFuncL r8 (Value.func (.func 58) #[] #[PT g1 0]) (runsOut l) (fun x => holdB l.Bad x) (hS22.rdN 2 rfl) (fun u x hx H hE hr => ⟨_, _, rfl, Try.call58, Bad_1 u g1 wa wb wc wd we x l (hE.blk (hS22.blk 4 rfl)) hr ((hS22.rdN 5 rfl).extN hE) ((hS22.rdN 6 rfl).extN hE) ((hS22.rdN 7 rfl).extN hE) ((hS22.rdN 8 rfl).extN hE) ((hS22.rdN 9 rfl).extN hE) (hokT x hx)⟩)) ?_
    rintro _ H27 ⟨hxx, rfl⟩
    have hS28 : St H0 NoB (fun b => S b ∧ b < H0.size) [blkE g15 (.cells #[I ((loopFault l).1), I ((loopFault l).2)] 27), blkE g12 (.cells #[r8] 23), rdE r8 (runsOut l), blkE g4 (.cells #[I (0), I (0)] 27), blkE g1 (.cells #[wa, wb, wc, wd, we] 42), rdE wa l.Low, rdE wb l.High, rdE wc l.Start, rdE wd l.Jumps, rdE we l.Bad] H27 := hS22.ext hxx
    refine wpL_o rfl ?_
    refine e_alloc rfl Try.zeroValue3 hS28 (fun g30 H31 hS32 hxx => ?_)
    replace hS32 : St H0 NoB (fun b => S b ∧ b < H0.size) [blkE g30 (.cells #[I (0)] 3), blkE g15 (.cells #[I ((loopFault l).1), I ((loopFault l).2)] 27), blkE g12 (.cells #[r8] 23), rdE r8 (runsOut l), blkE g4 (.cells #[I (0), I (0)] 27), blkE g1 (.cells #[wa, wb, wc, wd, we] 42), rdE wa l.Low, rdE wb l.High, rdE wc l.Start, rdE wd l.Jumps, rdE we l.Bad] H31 := hS32
    refine wpL_o rfl ?_
    refine e_storeBlk (v := I (idxOf (fun x => holdB l.Bad x) (runsOut l))) rfl rfl rfl rfl Try.sizeOf3 (by show _ < 1; decide) hS32 (fun H33 hS34 hxx => ?_)
    replace hS34 : St H0 NoB (fun b => S b ∧ b < H0.size) [blkE g30 (.cells #[I (idxOf (fun x => holdB l.Bad x) (runsOut l))] 3), blkE g15 (.cells #[I ((loopFault l).1), I ((loopFault l).2)] 27), blkE g12 (.cells #[r8] 23), rdE r8 (runsOut l), blkE g4 (.cells #[I (0), I (0)] 27), blkE g1 (.cells #[wa, wb, wc, wd, we] 42), rdE wa l.Low, rdE wb l.High, rdE wc l.Start, rdE wd l.Jumps, rdE we l.Bad] H33 := hS34
    exact ⟨g30, a23_1, a23_4, a23_5, rfl, hS34⟩
  rintro f35 H35 ⟨g30, a35_1, a35_4, a35_5, a35_7, hS35⟩
  clear a23_1 a23_16 a23_4 a23_5 a23_6
  refine wpF_seq ?_
  refine wpF_seq ?_
  refine wpF_cut (fun f H => f 1 = PT g1 0 ∧ f 4 = PT g4 0 ∧ f 5 = PT g12 0 ∧ f 7 = PT g30 0 ∧ f 22 = B (decide ((idxOf (fun x => holdB l.Bad x) (runsOut l)) < 0)) ∧ H35 = H) ?_ ?_
  · refine wpF_region ?_
    refine wpL_q (U := NoB) rfl (q_loadBlk rfl a35_7 Try.isAgg3 (hS35.blk 0 rfl) rfl (fun h => h)) ?_
    refine wpL_q (U := NoB) rfl (q_lss rfl rfl rfl) ?_
    exact ⟨a35_1, a35_4, a35_5, a35_7, rfl, rfl⟩
  rintro f36 _ ⟨a36_1, a36_4, a36_5, a36_7, a36_22, rfl⟩
  clear a35_1 a35_4 a35_5 a35_7
  refine wpF_condP a36_22 (fun h22 => ?t89) (fun h22 => ?e89)
  case t89 =>
    refine wpF_seq ?_
    refine wpF_cut (fun f H => f 2 = (Value.slice none 0 0) ∧ f 3 = B (false) ∧ f 4 = PT g4 0 ∧ St H0 NoB (fun b => S b ∧ b < H0.size) [blkE g4 (.cells #[I (0), I (0)] 27), blkE g30 (.cells #[I (idxOf (fun x => holdB l.Bad x) (runsOut l))] 3), blkE g15 (.cells #[I ((loopFault l).1), I ((loopFault l).2)] 27), blkE g12 (.cells #[r8] 23), rdE r8 (runsOut l), blkE g1 (.cells #[wa, wb, wc, wd, we] 42), rdE wa l.Low, rdE wb l.High, rdE wc l.Start, rdE wd l.Jumps, rdE we l.Bad] H) ?_ ?_
    · refine wpF_region ?_
      refine wpL_q (U := NoB) rfl (q_build (v := Value.agg #[I (0), I (0)]) rfl par0 (fun w => by kernel_rfl)) ?_
      refine wpL_q (U := NoB) rfl (q_assign (v := (Value.slice none 0 0)) rfl rfl) ?_
      refine wpL_q (U := NoB) rfl (q_assign (v := B (false)) rfl rfl) ?_
      refine wpL_o rfl ?_
      refine e_storeBlkA (cs' := #[I (0), I (0)]) rfl a36_4 rfl Try.sizeOf27 rfl rfl (List.forall_mem_cons.2 ⟨rfl, List.forall_mem_cons.2 ⟨rfl, List.forall_mem_nil _⟩⟩) (hS35.front 4 rfl) (fun H39 hS40 hxx => ?_)
      replace hS40 : St H0 NoB (fun b => S b ∧ b < H0.size) [blkE g4 (.cells #[I (0), I (0)] 27), blkE g30 (.cells #[I (idxOf (fun x => holdB l.Bad x) (runsOut l))] 3), blkE g15 (.cells #[I ((loopFault l).1), I ((loopFault l).2)] 27), blkE g12 (.cells #[r8] 23), rdE r8 (runsOut l), blkE g1 (.cells #[wa, wb, wc, wd, we] 42), rdE wa l.Low, rdE wb l.High, rdE wc l.Start, rdE wd l.Jumps, rdE we l.Bad] H39 := hS40
      exact ⟨rfl, rfl, a36_4, hS40⟩
    rintro f41 H41 ⟨a41_2, a41_3, a41_4, hS41⟩
    clear a36_1 a36_22 a36_4 a36_5 a36_7
    refine wpF_ret ?_
    refine ⟨_, resT a41_2 (resT a41_3 (resC a41_4 (loadV_blkA Try.isAgg27 Try.sizeOf27 rfl (hS41.blk 0 rfl)) (resN))), hS41.frame, ?_⟩
    show ∃ w0_, (Value.tuple #[(Value.slice none 0 0), B (false), Value.agg #[I (0), I (0)]]) = Value.tuple #[w0_, B (badB l), Value.agg #[I (loopFault l).1, I (loopFault l).2]] ∧ Rd (fun b => S b ∧ b < H0.size) H41 w0_ (badL l)
    have hbn := badL_no h1 (show badAtI l < 0 by rw [badAtI, ← hro]; exact h22)
    exact ⟨(Value.slice none 0 0), by rw [hbn.2, hl.code], by rw [hbn.1]; exact rdNil⟩
  obtain ⟨a0, ha0⟩ : ∃ a0 : Nat, idxOf (fun x => holdB l.Bad x) (runsOut l) = (a0 : Int) := ⟨_, (Int.toNat_of_nonneg (by omega)).symm⟩
  have hS38 : St H0 NoB (fun b => S b ∧ b < H0.size) [blkE g30 (.cells #[I ((a0 : Int))] 3), blkE g15 (.cells #[I ((loopFault l).1), I ((loopFault l).2)] 27), blkE g12 (.cells #[r8] 23), rdE r8 (runsOut l), blkE g4 (.cells #[I (0), I (0)] 27), blkE g1 (.cells #[wa, wb, wc, wd, we] 42), rdE wa l.Low, rdE wb l.High, rdE wc l.Start, rdE wd l.Jumps, rdE we l.Bad] H35 := by have h__ := hS35; rw [ha0] at h__; exact h__
  have hba : badAtI l = (a0 : Int) := by rw [← ha0, hro]; rfl
  have ha0l : a0 < (runsOut l).length := by have := idxOf_lt (g := fun x => holdB l.Bad x) (l := runsOut l); omega
  refine wpF_skip ?_
  refine wpF_seq ?_
  obtain ⟨u42, huu42, hlu42⟩ := (Rd.list.1 (hS38.rdS 3 rfl)).elem a0 (by omega)
  have hS43 : St H0 NoB (fun b => S b ∧ b < H0.size) [rdE u42 (nth (runsOut l) a0), blkE g30 (.cells #[I ((a0 : Int))] 3), blkE g15 (.cells #[I ((loopFault l).1), I ((loopFault l).2)] 27), blkE g12 (.cells #[r8] 23), rdE r8 (runsOut l), blkE g4 (.cells #[I (0), I (0)] 27), blkE g1 (.cells #[wa, wb, wc, wd, we] 42), rdE wa l.Low, rdE wb l.High, rdE wc l.Start, rdE wd l.Jumps, rdE we l.Bad] H35 := hS38.rd huu42
  refine wpF_cut (fun f H => ∃ (v48 : Value), f 1 = PT g1 0 ∧ f 4 = PT g4 0 ∧ f 5 = PT g12 0 ∧ f 7 = PT g30 0 ∧ f 8 = v48 ∧ St H0 NoB (fun b => S b ∧ b < H0.size) [rowE 32 v48 ([(nth (runsOut l) a0)] : List (List Int)), blkE g30 (.cells #[I ((a0 : Int))] 3), blkE g15 (.cells #[I ((loopFault l).1), I ((loopFault l).2)] 27), blkE g12 (.cells #[r8] 23), rdE r8 (runsOut l), blkE g4 (.cells #[I (0), I (0)] 27), blkE g1 (.cells #[wa, wb, wc, wd, we] 42), rdE wa l.Low, rdE wb l.High, rdE wc l.Start, rdE wd l.Jumps, rdE we l.Bad] H) ?_ ?_
  · refine wpF_region ?_
    refine wpL_q (U := NoB) rfl (q_loadBlk rfl a36_5 Try.isAgg23 (hS38.blk 2 rfl) rfl (fun h => h)) ?_
    refine wpL_q (U := NoB) rfl (q_loadBlk rfl a36_7 Try.isAgg3 (hS38.blk 0 rfl) rfl (fun h => h)) ?_
    refine wpL_q (U := NoB) rfl (q_indexRd (k := a0) rfl Try.underlying23 el_LInt_32_HoldC3 rfl rfl (hS38.rdl 3 rfl) (by omega) (by omega)) ?_
    refine wpL_q (U := NoB) rfl (q_loadE rfl rfl (hlu42 Try.prog 32 _ el_LInt_32_HoldC3 (fun _ h => False.elim h))) ?_
    refine wpL_o rfl ?_
    refine e_call rfl Try.call53 (arr1 (v0 := u42) rfl) (Clone u42 _ (hS43.rdS 0 rfl)) ?_
    rintro r44 H45 ⟨hxx, hrr44⟩
    have hS46 : St H0 NoB (fun b => S b ∧ b < H0.size) [rdE r44 ((nth (runsOut l) a0)), rdE u42 (nth (runsOut l) a0), blkE g30 (.cells #[I ((a0 : Int))] 3), blkE g15 (.cells #[I ((loopFault l).1), I ((loopFault l).2)] 27), blkE g12 (.cells #[r8] 23), rdE r8 (runsOut l), blkE g4 (.cells #[I (0), I (0)] 27), blkE g1 (.cells #[wa, wb, wc, wd, we] 42), rdE wa l.Low, rdE wb l.High, rdE wc l.Start, rdE wd l.Jumps, rdE we l.Bad] H45 := hS43.res hxx hrr44
    refine wpL_o rfl ?_
    refine e_buildSlice (vs := [r44]) (xs := ([(nth (runsOut l) a0)] : List (List Int))) rfl Try.underlying23 Try.zeroValue32 rfl Try.sizeOf32 (par1 (v0 := r44) rfl) rfl hS46 (RdVs.cons (hS46.rdS 0 rfl) (RdVs.nil)) (by decide) (by decide) (fun v48 H49 hS50 hxx hvv48 => ?_)
    replace hS50 : St H0 NoB (fun b => S b ∧ b < H0.size) [rowE 32 v48 ([(nth (runsOut l) a0)] : List (List Int)), rdE r44 ((nth (runsOut l) a0)), rdE u42 (nth (runsOut l) a0), blkE g30 (.cells #[I ((a0 : Int))] 3), blkE g15 (.cells #[I ((loopFault l).1), I ((loopFault l).2)] 27), blkE g12 (.cells #[r8] 23), rdE r8 (runsOut l), blkE g4 (.cells #[I (0), I (0)] 27), blkE g1 (.cells #[wa, wb, wc, wd, we] 42), rdE wa l.Low, rdE wb l.High, rdE wc l.Start, rdE wd l.Jumps, rdE we l.Bad] H49 := hS50
    refine wpL_q (U := NoB) rfl (q_assign (v := v48) rfl rfl) ?_
    exact ⟨v48, a36_1, a36_4, a36_5, a36_7, rfl, (hS50.drop (sk (sn (sn (sk (sk (sk (sk (sk (sk (sk (sk (sk (sk (sk (List.Sublist.slnil))))))))))))))))⟩
  rintro f51 H51 ⟨v48, a51_1, a51_4, a51_5, a51_7, a51_8, hS51⟩
  clear a36_1 a36_22 a36_4 a36_5 a36_7
  refine wpF_seq ?_
  refine wpF_block ?_
  refine wpF_loop (fun mz f H => ∃ (a : Nat), ∃ (pr : List Nat), ∃ (vo : Value), mz = a ∧ (a < (runsOut l).length) ∧ (chain l a0 = pr ++ chain l a) ∧ (pr.length + a ≤ a0) ∧ f 1 = PT g1 0 ∧ f 4 = PT g4 0 ∧ f 5 = PT g12 0 ∧ f 7 = PT g30 0 ∧ f 8 = vo ∧ St H0 NoB (fun b => S b ∧ b < H0.size) [rowE 32 vo ((pr ++ [a]).map (nth (runsOut l)) : List (List Int)), blkE g30 (.cells #[I ((a : Int))] 3), blkE g15 (.cells #[I ((loopFault l).1), I ((loopFault l).2)] 27), blkE g12 (.cells #[r8] 23), rdE r8 (runsOut l), blkE g4 (.cells #[I (0), I (0)] 27), blkE g1 (.cells #[wa, wb, wc, wd, we] 42), rdE wa l.Low, rdE wb l.High, rdE wc l.Start, rdE wd l.Jumps, rdE we l.Bad] H) (a0) ?_ ?_
  · exact ⟨a0, [], v48, rfl, ha0l, rfl, (by simp), a51_1, a51_4, a51_5, a51_7, a51_8, (show St H0 NoB (fun b => S b ∧ b < H0.size) [rowE 32 v48 ((([]) ++ [a0]).map (nth (runsOut l)) : List (List Int)), blkE g30 (.cells #[I ((a0 : Int))] 3), blkE g15 (.cells #[I ((loopFault l).1), I ((loopFault l).2)] 27), blkE g12 (.cells #[r8] 23), rdE r8 (runsOut l), blkE g4 (.cells #[I (0), I (0)] 27), blkE g1 (.cells #[wa, wb, wc, wd, we] 42), rdE wa l.Low, rdE wb l.High, rdE wc l.Start, rdE wd l.Jumps, rdE we l.Bad] H51 from hS51)⟩
  intro m52 f52 H52 hI52
  obtain ⟨a, pr, vo, hm52, hal, hch, hpl, a52_1, a52_4, a52_5, a52_7, a52_8, hS52⟩ := hI52
  clear a51_1 a51_4 a51_5 a51_7 a51_8
  refine wpF_seq ?_
  refine wpF_seq ?_
  have hsta := hstR _ (nth_mem (l := runsOut l) (k := a) hal)
  have hnR : 0 ≤ (a : Int) ∧ (a : Int) < ((runsOut l).length : Int) := by omega
  obtain ⟨u53o5, huu53o5, hlu53o5⟩ := (Rd.list.1 (hS52.rdS 4 rfl)).elem a (by omega)
  have hS53o5 : St H0 NoB (fun b => S b ∧ b < H0.size) [rdE u53o5 (nth (runsOut l) a), rowE 32 vo ((pr ++ [a]).map (nth (runsOut l)) : List (List Int)), blkE g30 (.cells #[I ((a : Int))] 3), blkE g15 (.cells #[I ((loopFault l).1), I ((loopFault l).2)] 27), blkE g12 (.cells #[r8] 23), rdE r8 (runsOut l), blkE g4 (.cells #[I (0), I (0)] 27), blkE g1 (.cells #[wa, wb, wc, wd, we] 42), rdE wa l.Low, rdE wb l.High, rdE wc l.Start, rdE wd l.Jumps, rdE we l.Bad] H52 := hS52.rd huu53o5
  refine wpF_cut (fun f H => f 1 = PT g1 0 ∧ f 4 = PT g4 0 ∧ f 5 = PT g12 0 ∧ f 7 = PT g30 0 ∧ f 8 = vo ∧ f 37 = B (!(holdB l.Start (nth (runsOut l) a))) ∧ St H0 NoB (fun b => S b ∧ b < H0.size) [rowE 32 vo ((pr ++ [a]).map (nth (runsOut l)) : List (List Int)), blkE g30 (.cells #[I ((a : Int))] 3), blkE g15 (.cells #[I ((loopFault l).1), I ((loopFault l).2)] 27), blkE g12 (.cells #[r8] 23), rdE r8 (runsOut l), blkE g4 (.cells #[I (0), I (0)] 27), blkE g1 (.cells #[wa, wb, wc, wd, we] 42), rdE wa l.Low, rdE wb l.High, rdE wc l.Start, rdE wd l.Jumps, rdE we l.Bad] H) ?_ ?_
  · refine wpF_drawn [] [] (fun _ _ => False) (by kernel_rfl) (by kernel_rfl) ?_
    refine wpR_q 0 (by kernel_rfl) rfl (quietAt rfl rfl (q_fieldAddr rfl Try.underlying42 rfl Try.sizeOf22 a52_1)) ?_
    refine wpR_q 1 (by kernel_rfl) rfl (quietAt rfl rfl (q_loadBlk rfl rfl Try.isAgg22 (hS52.blk 6 rfl) rfl (labU_not [] rfl (List.forall_mem_nil _)))) ?_
    refine wpR_q 2 (by kernel_rfl) rfl (quietAt rfl rfl (q_loadBlk rfl a52_5 Try.isAgg23 (hS52.blk 3 rfl) rfl (labU_not [] rfl (List.forall_mem_nil _)))) ?_
    refine wpR_q 3 (by kernel_rfl) rfl (quietAt rfl rfl (q_loadBlk rfl a52_7 Try.isAgg3 (hS52.blk 1 rfl) rfl (labU_not [] rfl (List.forall_mem_nil _)))) ?_
    refine wpR_q 4 (by kernel_rfl) rfl (quietAt rfl rfl (q_indexRd (k := a) rfl Try.underlying23 el_LInt_32_HoldC3 rfl rfl (hS52.rdl 4 rfl) (by omega) (by omega))) ?_
    refine wpR_q 5 (by kernel_rfl) rfl (quietAt rfl rfl (q_loadE rfl rfl (hlu53o5 Try.prog 32 _ el_LInt_32_HoldC3 (labU_sub [] rfl (List.forall_mem_nil _))))) ?_
    refine wpR_n [6] (by kernel_rfl) ?_
    refine List.forall_mem_cons.2 ⟨?_, List.forall_mem_nil _⟩
    refine exE rfl rfl ?_
    refine e_call rfl Try.call52 (arr2 (v0 := wc) (v1 := u53o5) rfl rfl) (Hold_L wc u53o5 l.Start (nth (runsOut l) a) (hS53o5.rdN 10 rfl) (hS53o5.rdN 0 rfl) (HoldOk.of hl.start hl.many.2 (inside_small hl hsta.1 hsta.2) (by rw [hsta.1]; exact Int.le_refl _))) ?_
    rintro _ H53o6 ⟨hxx, rfl⟩
    have hS53o6 : St H0 NoB (fun b => S b ∧ b < H0.size) [rdE u53o5 (nth (runsOut l) a), rowE 32 vo ((pr ++ [a]).map (nth (runsOut l)) : List (List Int)), blkE g30 (.cells #[I ((a : Int))] 3), blkE g15 (.cells #[I ((loopFault l).1), I ((loopFault l).2)] 27), blkE g12 (.cells #[r8] 23), rdE r8 (runsOut l), blkE g4 (.cells #[I (0), I (0)] 27), blkE g1 (.cells #[wa, wb, wc, wd, we] 42), rdE wa l.Low, rdE wb l.High, rdE wc l.Start, rdE wd l.Jumps, rdE we l.Bad] H53o6 := hS53o5.ext hxx
    refine ⟨Ext.mono hxx (fun _ h => h.elim), ?_⟩
    refine wpR_q 7 (by kernel_rfl) rfl (quietAt rfl rfl (q_not rfl rfl)) ?_
    refine wpR_end (by kernel_rfl) ?_
    exact ⟨a52_1, a52_4, a52_5, a52_7, a52_8, rfl, (hS53o6.drop (sn (sk (sk (sk (sk (sk (sk (sk (sk (sk (sk (sk (sk (List.Sublist.slnil)))))))))))))))⟩
  rintro f54 H54 ⟨a54_1, a54_4, a54_5, a54_7, a54_8, a54_37, hS54⟩
  clear a52_1 a52_4 a52_5 a52_7 a52_8
  refine wpF_cond a54_37 (fun h37 => ?t88) (fun h37 => ?e88)
  case e88 =>
    refine wpF_exit ?_
    refine atX_here ?_
    refine wpF_seq ?_
    refine wpF_cut (fun f H => f 4 = PT g4 0 ∧ f 8 = vo ∧ St H0 NoB (fun b => S b ∧ b < H0.size) [rowE 32 vo (((pr ++ [a]).map (nth (runsOut l))).reverse : List (List Int)), blkE g30 (.cells #[I ((a : Int))] 3), blkE g15 (.cells #[I ((loopFault l).1), I ((loopFault l).2)] 27), blkE g12 (.cells #[r8] 23), rdE r8 (runsOut l), blkE g4 (.cells #[I (0), I (0)] 27), blkE g1 (.cells #[wa, wb, wc, wd, we] 42), rdE wa l.Low, rdE wb l.High, rdE wc l.Start, rdE wd l.Jumps, rdE we l.Bad] H) ?_ ?_
    · refine wpF_region ?_
      refine wpL_q (U := NoB) rfl (q_move (v := vo) rfl a54_8) ?_
      have hS79 : St H0 NoB (fun b => S b ∧ b < H0.size) [rowE 32 vo ((pr ++ [a]).map (nth (runsOut l)) : List (List Int)), blkE g30 (.cells #[I ((a : Int))] 3), blkE g15 (.cells #[I ((loopFault l).1), I ((loopFault l).2)] 27), blkE g12 (.cells #[r8] 23), rdE r8 (runsOut l), blkE g4 (.cells #[I (0), I (0)] 27), blkE g1 (.cells #[wa, wb, wc, wd, we] 42), rdE wa l.Low, rdE wb l.High, rdE wc l.Start, rdE wd l.Jumps, rdE we l.Bad] H54 := hS54
      refine wpL_o rfl ?_
      refine e_call rfl Try.call63 (arr1 (v0 := vo) rfl) (Reverse_F _ vo ((pr ++ [a]).map (nth (runsOut l))) (fun e he => hS79.ok e (List.mem_append_left [blkE g30 (.cells #[I ((a : Int))] 3), blkE g15 (.cells #[I ((loopFault l).1), I ((loopFault l).2)] 27), blkE g12 (.cells #[r8] 23), rdE r8 (runsOut l), blkE g4 (.cells #[I (0), I (0)] 27), blkE g1 (.cells #[wa, wb, wc, wd, we] 42), rdE wa l.Low, rdE wb l.High, rdE wc l.Start, rdE wd l.Jumps, rdE we l.Bad] he)) (fun b hb => SL.lt hS79 hb) (fun b ⟨e, he, hb⟩ => .inr ⟨e, List.mem_append_left [blkE g30 (.cells #[I ((a : Int))] 3), blkE g15 (.cells #[I ((loopFault l).1), I ((loopFault l).2)] 27), blkE g12 (.cells #[r8] 23), rdE r8 (runsOut l), blkE g4 (.cells #[I (0), I (0)] 27), blkE g1 (.cells #[wa, wb, wc, wd, we] 42), rdE wa l.Low, rdE wb l.High, rdE wc l.Start, rdE wd l.Jumps, rdE we l.Bad] he, hb⟩)) ?_
      rintro _ H80 ⟨hxx, rfl, hok⟩
      have hS81 : St H0 NoB (fun b => S b ∧ b < H0.size) [rowE 32 vo (((pr ++ [a]).map (nth (runsOut l))).reverse : List (List Int)), blkE g30 (.cells #[I ((a : Int))] 3), blkE g15 (.cells #[I ((loopFault l).1), I ((loopFault l).2)] 27), blkE g12 (.cells #[r8] 23), rdE r8 (runsOut l), blkE g4 (.cells #[I (0), I (0)] 27), blkE g1 (.cells #[wa, wb, wc, wd, we] 42), rdE wa l.Low, rdE wb l.High, rdE wc l.Start, rdE wd l.Jumps, rdE we l.Bad] H80 := St.back (A := [rowE 32 vo ((pr ++ [a]).map (nth (runsOut l)) : List (List Int))]) (A' := [rowE 32 vo (((pr ++ [a]).map (nth (runsOut l))).reverse : List (List Int))]) (L := [blkE g30 (.cells #[I ((a : Int))] 3), blkE g15 (.cells #[I ((loopFault l).1), I ((loopFault l).2)] 27), blkE g12 (.cells #[r8] 23), rdE r8 (runsOut l), blkE g4 (.cells #[I (0), I (0)] 27), blkE g1 (.cells #[wa, wb, wc, wd, we] 42), rdE wa l.Low, rdE wb l.High, rdE wc l.Start, rdE wd l.Jumps, rdE we l.Bad]) hS79 hxx hok (by intro b hb; left; obtain ⟨e, he, hb⟩ := hb; rw [List.mem_singleton.1 he] at hb; exact ⟨_, List.mem_singleton.2 rfl, hb⟩) pw1
      exact ⟨a54_4, a54_8, hS81⟩
    rintro f83 H83 ⟨a83_4, a83_8, hS83⟩
    clear a54_1 a54_37 a54_4 a54_5 a54_7 a54_8
    refine wpF_seq ?_
    refine wpF_cut (fun f H => f 2 = vo ∧ f 3 = B (true) ∧ f 4 = PT g4 0 ∧ St H0 NoB (fun b => S b ∧ b < H0.size) [blkE g4 (.cells #[I (0), I (0)] 27), rowE 32 vo (((pr ++ [a]).map (nth (runsOut l))).reverse : List (List Int)), blkE g30 (.cells #[I ((a : Int))] 3), blkE g15 (.cells #[I ((loopFault l).1), I ((loopFault l).2)] 27), blkE g12 (.cells #[r8] 23), rdE r8 (runsOut l), blkE g1 (.cells #[wa, wb, wc, wd, we] 42), rdE wa l.Low, rdE wb l.High, rdE wc l.Start, rdE wd l.Jumps, rdE we l.Bad] H) ?_ ?_
    · refine wpF_region ?_
      refine wpL_q (U := NoB) rfl (q_move (v := vo) rfl a83_8) ?_
      refine wpL_q (U := NoB) rfl (q_build (v := Value.agg #[I (0), I (0)]) rfl par0 (fun w => by kernel_rfl)) ?_
      refine wpL_q (U := NoB) rfl (q_assign (v := vo) rfl rfl) ?_
      refine wpL_q (U := NoB) rfl (q_assign (v := B (true)) rfl rfl) ?_
      refine wpL_o rfl ?_
      refine e_storeBlkA (cs' := #[I (0), I (0)]) rfl a83_4 rfl Try.sizeOf27 rfl rfl (List.forall_mem_cons.2 ⟨rfl, List.forall_mem_cons.2 ⟨rfl, List.forall_mem_nil _⟩⟩) (hS83.front 5 rfl) (fun H84 hS85 hxx => ?_)
      replace hS85 : St H0 NoB (fun b => S b ∧ b < H0.size) [blkE g4 (.cells #[I (0), I (0)] 27), rowE 32 vo (((pr ++ [a]).map (nth (runsOut l))).reverse : List (List Int)), blkE g30 (.cells #[I ((a : Int))] 3), blkE g15 (.cells #[I ((loopFault l).1), I ((loopFault l).2)] 27), blkE g12 (.cells #[r8] 23), rdE r8 (runsOut l), blkE g1 (.cells #[wa, wb, wc, wd, we] 42), rdE wa l.Low, rdE wb l.High, rdE wc l.Start, rdE wd l.Jumps, rdE we l.Bad] H84 := hS85
      exact ⟨rfl, rfl, a83_4, hS85⟩
    rintro f86 H86 ⟨a86_2, a86_3, a86_4, hS86⟩
    clear a83_4 a83_8
    refine wpF_ret ?_
    refine ⟨_, resT a86_2 (resT a86_3 (resC a86_4 (loadV_blkA Try.isAgg27 Try.sizeOf27 rfl (hS86.blk 0 rfl)) (resN))), hS86.frame, ?_⟩
    show ∃ w0_, (Value.tuple #[vo, B (true), Value.agg #[I (0), I (0)]]) = Value.tuple #[w0_, B (badB l), Value.agg #[I (loopFault l).1, I (loopFault l).2]] ∧ Rd (fun b => S b ∧ b < H0.size) H86 w0_ (badL l)
    have hS87 : St H0 NoB (fun b => S b ∧ b < H0.size) [rdE vo (((pr ++ [a]).map (nth (runsOut l))).reverse), blkE g4 (.cells #[I (0), I (0)] 27), blkE g30 (.cells #[I ((a : Int))] 3), blkE g15 (.cells #[I ((loopFault l).1), I ((loopFault l).2)] 27), blkE g12 (.cells #[r8] 23), rdE r8 (runsOut l), blkE g1 (.cells #[wa, wb, wc, wd, we] 42), rdE wa l.Low, rdE wb l.High, rdE wc l.Start, rdE wd l.Jumps, rdE we l.Bad] H86 := St.fin (hS86.front 1 rfl)
    have hcs : chain l a = [a] := chain_start (by rw [← hro]; simpa using h37)
    have hbl := badL_of h1 hba (hch.trans (by rw [hcs]))
    exact ⟨vo, by rw [hbl.2, hl.code], by rw [hbl.1, ← hro]; exact (hS87.result (hS87.rdS 0 rfl))⟩
  refine wpF_skip ?_
  refine wpF_block ?_
  refine wpF_seq ?_
  refine wpF_cut (fun f H => f 1 = PT g1 0 ∧ f 4 = PT g4 0 ∧ f 5 = PT g12 0 ∧ f 7 = PT g30 0 ∧ f 8 = vo ∧ St H0 NoB (fun b => S b ∧ b < H0.size) [blkE g30 (.cells #[I (idxOf (fun x => (nextL l x).any fun t => decide (t = nth (runsOut l) (a : Int).toNat)) (runsOut l))] 3), rowE 32 vo ((pr ++ [a]).map (nth (runsOut l)) : List (List Int)), blkE g15 (.cells #[I ((loopFault l).1), I ((loopFault l).2)] 27), blkE g12 (.cells #[r8] 23), rdE r8 (runsOut l), blkE g4 (.cells #[I (0), I (0)] 27), blkE g1 (.cells #[wa, wb, wc, wd, we] 42), rdE wa l.Low, rdE wb l.High, rdE wc l.Start, rdE wd l.Jumps, rdE we l.Bad] H) ?_ ?_
  · refine wpF_region ?_
    refine wpL_q (U := NoB) rfl (q_loadBlk rfl a54_5 Try.isAgg23 (hS54.blk 3 rfl) rfl (fun h => h)) ?_
    refine wpL_q (U := NoB) rfl (q_makeFunc (fi' := #[]) rfl (by simp) (arr3 (v0 := PT g1 0) (v1 := PT g12 0) (v2 := PT g30 0) a54_1 a54_5 a54_7)) ?_
    refine wpL_o rfl ?_
    refine e_call rfl Try.call57 (arr2 (v0 := r8) (v1 := Value.func (.func 59) #[] #[PT g1 0, PT g12 0, PT g30 0]) rfl rfl) (IndexFuncL r8 (Value.func (.func 59) #[] #[PT g1 0, PT g12 0, PT g30 0]) (runsOut l) (fun x => (nextL l x).any fun t => decide (t = nth (runsOut l) (a : Int).toNat)) (hS54.rdN 4 rfl) (fun u x hx H hE hr => ⟨_, _, rfl, Try.call59, Bad_2 u g1 g12 g30 wa wb wc wd we r8 x l (runsOut l) (a : Int) (hE.blk (hS54.blk 6 rfl)) (hE.blk (hS54.blk 3 rfl)) (hE.blk (hS54.blk 1 rfl)) hr ((hS54.rdN 7 rfl).extN hE) ((hS54.rdN 8 rfl).extN hE) ((hS54.rdN 9 rfl).extN hE) ((hS54.rdN 10 rfl).extN hE) ((hS54.rdN 11 rfl).extN hE) ((hS54.rdN 4 rfl).extN hE) hl (hstR x hx) hnR⟩)) ?_
    rintro _ H56 ⟨hxx, rfl⟩
    have hS57 : St H0 NoB (fun b => S b ∧ b < H0.size) [rowE 32 vo ((pr ++ [a]).map (nth (runsOut l)) : List (List Int)), blkE g30 (.cells #[I ((a : Int))] 3), blkE g15 (.cells #[I ((loopFault l).1), I ((loopFault l).2)] 27), blkE g12 (.cells #[r8] 23), rdE r8 (runsOut l), blkE g4 (.cells #[I (0), I (0)] 27), blkE g1 (.cells #[wa, wb, wc, wd, we] 42), rdE wa l.Low, rdE wb l.High, rdE wc l.Start, rdE wd l.Jumps, rdE we l.Bad] H56 := hS54.ext hxx
    refine wpL_o rfl ?_
    refine e_storeBlk (v := I (idxOf (fun x => (nextL l x).any fun t => decide (t = nth (runsOut l) (a : Int).toNat)) (runsOut l))) rfl a54_7 rfl rfl Try.sizeOf3 (by show _ < 1; decide) (hS57.front 1 rfl) (fun H59 hS60 hxx => ?_)
    replace hS60 : St H0 NoB (fun b => S b ∧ b < H0.size) [blkE g30 (.cells #[I (idxOf (fun x => (nextL l x).any fun t => decide (t = nth (runsOut l) (a : Int).toNat)) (runsOut l))] 3), rowE 32 vo ((pr ++ [a]).map (nth (runsOut l)) : List (List Int)), blkE g15 (.cells #[I ((loopFault l).1), I ((loopFault l).2)] 27), blkE g12 (.cells #[r8] 23), rdE r8 (runsOut l), blkE g4 (.cells #[I (0), I (0)] 27), blkE g1 (.cells #[wa, wb, wc, wd, we] 42), rdE wa l.Low, rdE wb l.High, rdE wc l.Start, rdE wd l.Jumps, rdE we l.Bad] H59 := hS60
    exact ⟨a54_1, a54_4, a54_5, a54_7, a54_8, hS60⟩
  rintro f61 H61 ⟨a61_1, a61_4, a61_5, a61_7, a61_8, hS61⟩
  clear a54_1 a54_37 a54_4 a54_5 a54_7 a54_8
  have hpi := pred_is hl (at_ := a) (by omega) (by rw [← hro]; simpa using h37)
  have hpe : idxOf (fun x => (nextL l x).any fun t => decide (t = nth (runsOut l) ((a : Int)).toNat)) (runsOut l) = predI l a := by rw [hro]; rfl
  obtain ⟨a2, ha2⟩ : ∃ a2 : Nat, idxOf (fun x => (nextL l x).any fun t => decide (t = nth (runsOut l) (a : Int).toNat)) (runsOut l) = (a2 : Int) := ⟨_, (Int.toNat_of_nonneg (by rw [hpe]; exact hpi.1)).symm⟩
  have hS62 : St H0 NoB (fun b => S b ∧ b < H0.size) [blkE g30 (.cells #[I ((a2 : Int))] 3), rowE 32 vo ((pr ++ [a]).map (nth (runsOut l)) : List (List Int)), blkE g15 (.cells #[I ((loopFault l).1), I ((loopFault l).2)] 27), blkE g12 (.cells #[r8] 23), rdE r8 (runsOut l), blkE g4 (.cells #[I (0), I (0)] 27), blkE g1 (.cells #[wa, wb, wc, wd, we] 42), rdE wa l.Low, rdE wb l.High, rdE wc l.Start, rdE wd l.Jumps, rdE we l.Bad] H61 := by have h__ := hS61; rw [ha2] at h__; exact h__
  have ha2p : (predI l a).toNat = a2 := by rw [← hpe, ha2]; rfl
  have ha2l : a2 < a := by have := hpi.2.1; omega
  have ha2r : a2 < (runsOut l).length := by omega
  obtain ⟨u63, huu63, hlu63⟩ := (Rd.list.1 (hS62.rdS 4 rfl)).elem a2 (by omega)
  have hS64 : St H0 NoB (fun b => S b ∧ b < H0.size) [rdE u63 (nth (runsOut l) a2), blkE g30 (.cells #[I ((a2 : Int))] 3), rowE 32 vo ((pr ++ [a]).map (nth (runsOut l)) : List (List Int)), blkE g15 (.cells #[I ((loopFault l).1), I ((loopFault l).2)] 27), blkE g12 (.cells #[r8] 23), rdE r8 (runsOut l), blkE g4 (.cells #[I (0), I (0)] 27), blkE g1 (.cells #[wa, wb, wc, wd, we] 42), rdE wa l.Low, rdE wb l.High, rdE wc l.Start, rdE wd l.Jumps, rdE we l.Bad] H61 := hS62.rd huu63
  refine wpF_cut (fun f H => ∃ (v74 : Value), f 1 = PT g1 0 ∧ f 4 = PT g4 0 ∧ f 5 = PT g12 0 ∧ f 7 = PT g30 0 ∧ f 8 = v74 ∧ St H0 NoB (fun b => S b ∧ b < H0.size) [rowE 32 v74 (((pr ++ [a]) ++ [a2]).map (nth (runsOut l)) : List (List Int)), blkE g30 (.cells #[I ((a2 : Int))] 3), blkE g15 (.cells #[I ((loopFault l).1), I ((loopFault l).2)] 27), blkE g12 (.cells #[r8] 23), rdE r8 (runsOut l), blkE g4 (.cells #[I (0), I (0)] 27), blkE g1 (.cells #[wa, wb, wc, wd, we] 42), rdE wa l.Low, rdE wb l.High, rdE wc l.Start, rdE wd l.Jumps, rdE we l.Bad] H) ?_ ?_
  · refine wpF_region ?_
    refine wpL_q (U := NoB) rfl (q_move (v := vo) rfl a61_8) ?_
    refine wpL_q (U := NoB) rfl (q_loadBlk rfl a61_5 Try.isAgg23 (hS62.blk 3 rfl) rfl (fun h => h)) ?_
    refine wpL_q (U := NoB) rfl (q_loadBlk rfl a61_7 Try.isAgg3 (hS62.blk 0 rfl) rfl (fun h => h)) ?_
    refine wpL_q (U := NoB) rfl (q_indexRd (k := a2) rfl Try.underlying23 el_LInt_32_HoldC3 rfl rfl (hS62.rdl 4 rfl) (by omega) (by omega)) ?_
    refine wpL_q (U := NoB) rfl (q_loadE rfl rfl (hlu63 Try.prog 32 _ el_LInt_32_HoldC3 (fun _ h => False.elim h))) ?_
    refine wpL_o rfl ?_
    refine e_call rfl Try.call53 (arr1 (v0 := u63) rfl) (Clone u63 _ (hS64.rdS 0 rfl)) ?_
    rintro r65 H66 ⟨hxx, hrr65⟩
    have hS67 : St H0 NoB (fun b => S b ∧ b < H0.size) [rdE r65 ((nth (runsOut l) a2)), rdE u63 (nth (runsOut l) a2), blkE g30 (.cells #[I ((a2 : Int))] 3), rowE 32 vo ((pr ++ [a]).map (nth (runsOut l)) : List (List Int)), blkE g15 (.cells #[I ((loopFault l).1), I ((loopFault l).2)] 27), blkE g12 (.cells #[r8] 23), rdE r8 (runsOut l), blkE g4 (.cells #[I (0), I (0)] 27), blkE g1 (.cells #[wa, wb, wc, wd, we] 42), rdE wa l.Low, rdE wb l.High, rdE wc l.Start, rdE wd l.Jumps, rdE we l.Bad] H66 := hS64.res hxx hrr65
    refine wpL_o rfl ?_
    refine e_buildSlice (vs := [r65]) (xs := ([(nth (runsOut l) a2)] : List (List Int))) rfl Try.underlying23 Try.zeroValue32 rfl Try.sizeOf32 (par1 (v0 := r65) rfl) rfl hS67 (RdVs.cons (hS67.rdS 0 rfl) (RdVs.nil)) (by decide) (by decide) (fun v69 H70 hS71 hxx hvv69 => ?_)
    replace hS71 : St H0 NoB (fun b => S b ∧ b < H0.size) [rowE 32 v69 ([(nth (runsOut l) a2)] : List (List Int)), rdE r65 ((nth (runsOut l) a2)), rdE u63 (nth (runsOut l) a2), blkE g30 (.cells #[I ((a2 : Int))] 3), rowE 32 vo ((pr ++ [a]).map (nth (runsOut l)) : List (List Int)), blkE g15 (.cells #[I ((loopFault l).1), I ((loopFault l).2)] 27), blkE g12 (.cells #[r8] 23), rdE r8 (runsOut l), blkE g4 (.cells #[I (0), I (0)] 27), blkE g1 (.cells #[wa, wb, wc, wd, we] 42), rdE wa l.Low, rdE wb l.High, rdE wc l.Start, rdE wd l.Jumps, rdE we l.Bad] H70 := hS71
    have hS72 : St H0 NoB (fun b => S b ∧ b < H0.size) [rdE v69 ([(nth (runsOut l) a2)] : List (List Int)), rdE r65 ((nth (runsOut l) a2)), rdE u63 (nth (runsOut l) a2), blkE g30 (.cells #[I ((a2 : Int))] 3), rowE 32 vo ((pr ++ [a]).map (nth (runsOut l)) : List (List Int)), blkE g15 (.cells #[I ((loopFault l).1), I ((loopFault l).2)] 27), blkE g12 (.cells #[r8] 23), rdE r8 (runsOut l), blkE g4 (.cells #[I (0), I (0)] 27), blkE g1 (.cells #[wa, wb, wc, wd, we] 42), rdE wa l.Low, rdE wb l.High, rdE wc l.Start, rdE wd l.Jumps, rdE we l.Bad] H70 := St.fin hS71
    have hS73 : St H0 NoB (fun b => S b ∧ b < H0.size) [rowE 32 vo ((pr ++ [a]).map (nth (runsOut l)) : List (List Int)), rdE v69 ([(nth (runsOut l) a2)] : List (List Int)), rdE r65 ((nth (runsOut l) a2)), rdE u63 (nth (runsOut l) a2), blkE g30 (.cells #[I ((a2 : Int))] 3), blkE g15 (.cells #[I ((loopFault l).1), I ((loopFault l).2)] 27), blkE g12 (.cells #[r8] 23), rdE r8 (runsOut l), blkE g4 (.cells #[I (0), I (0)] 27), blkE g1 (.cells #[wa, wb, wc, wd, we] 42), rdE wa l.Low, rdE wb l.High, rdE wc l.Start, rdE wd l.Jumps, rdE we l.Bad] H70 := (hS72.front 4 rfl)
    refine wpL_o rfl ?_
    refine e_append rfl Try.underlying23 em_LInt_32_HoldC3 rfl rfl hS73 (hS73.rdS 1 rfl) (fun _ h => h) (by have hb : GoT.bytes (List Int) = 24 := rfl; simp [hb]; omega) (by decide) (fun v74 H75 hS76 hxx => ?_)
    replace hS76 : St H0 NoB (fun b => S b ∧ b < H0.size) [rowE 32 v74 (((pr ++ [a]).map (nth (runsOut l))) ++ ([(nth (runsOut l) a2)]) : List (List Int)), rdE v69 ([(nth (runsOut l) a2)] : List (List Int)), rdE r65 ((nth (runsOut l) a2)), rdE u63 (nth (runsOut l) a2), blkE g30 (.cells #[I ((a2 : Int))] 3), blkE g15 (.cells #[I ((loopFault l).1), I ((loopFault l).2)] 27), blkE g12 (.cells #[r8] 23), rdE r8 (runsOut l), blkE g4 (.cells #[I (0), I (0)] 27), blkE g1 (.cells #[wa, wb, wc, wd, we] 42), rdE wa l.Low, rdE wb l.High, rdE wc l.Start, rdE wd l.Jumps, rdE we l.Bad] H75 := hS76
    have hS77 : St H0 NoB (fun b => S b ∧ b < H0.size) [rowE 32 v74 (((pr ++ [a]) ++ [a2]).map (nth (runsOut l)) : List (List Int)), rdE v69 ([(nth (runsOut l) a2)] : List (List Int)), rdE r65 ((nth (runsOut l) a2)), rdE u63 (nth (runsOut l) a2), blkE g30 (.cells #[I ((a2 : Int))] 3), blkE g15 (.cells #[I ((loopFault l).1), I ((loopFault l).2)] 27), blkE g12 (.cells #[r8] 23), rdE r8 (runsOut l), blkE g4 (.cells #[I (0), I (0)] 27), blkE g1 (.cells #[wa, wb, wc, wd, we] 42), rdE wa l.Low, rdE wb l.High, rdE wc l.Start, rdE wd l.Jumps, rdE we l.Bad] H75 := by rw [show (((pr ++ [a]) ++ [a2]).map (nth (runsOut l))) = (((pr ++ [a]).map (nth (runsOut l))) ++ ([(nth (runsOut l) a2)])) from (by rw [List.map_append (l₁ := pr ++ [a])]; rfl)]; exact hS76
    refine wpL_q (U := NoB) rfl (q_assign (v := v74) rfl rfl) ?_
    exact ⟨v74, a61_1, a61_4, a61_5, a61_7, rfl, (hS77.drop (sk (sn (sn (sn (sk (sk (sk (sk (sk (sk (sk (sk (sk (sk (sk (List.Sublist.slnil)))))))))))))))))⟩
  rintro f78 H78 ⟨v74, a78_1, a78_4, a78_5, a78_7, a78_8, hS78⟩
  clear a61_1 a61_4 a61_5 a61_7 a61_8
  refine ⟨_, ?_, a2, pr ++ [a], v74, rfl, ha2r, (by rw [hch, chain_step hl (by omega) (by rw [← hro]; simpa using h37), ha2p, List.append_assoc]; rfl), (by simp; omega), a78_1, a78_4, a78_5, a78_7, a78_8, hS78⟩
  omega

end Go.Um
