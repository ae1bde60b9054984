import Derived.Test.YtfgibfbgklkgbaaProg
import Derived.Test.YtfgibfbgklkgbaaHoldC3
import Derived.Test.YtfgibfbgklkgbaaMostL2
import Derived.Test.YtfgibfbgklkgbaaHoldR1
import Derived.Test.YtfgibfbgklkgbaaLoopR0
import Derived.Test.YtfgibfbgklkgbaaLoopR3
import Derived.Test.YtfgibfbgklkgbaaSaysPlain
import Derived.Test.YtfgibfbgklkgbaaUmSub
namespace Go.Um
open Go.Proofs
open GoT (sz ag rdc)
open KeyT (kv)

theorem el_Int_3_HoldSays1 : ElT Try.prog Int 3 := ⟨Try.isAgg3, Try.sizeOf3⟩
theorem el_LInt_32_HoldSays1 : ElT Try.prog (List Int) 32 := ⟨Try.isAgg32, Try.sizeOf32⟩
theorem el_LRow_34_HoldSays1 : ElT Try.prog LRow 34 := ⟨Try.isAgg34, Try.sizeOf34⟩
theorem em_Int_3_HoldSays1 : ElemOk Try.prog Int 3 := ⟨Try.t3, (.int .i64 0), by kernel_rfl, by kernel_rfl, by kernel_rfl, by kernel_rfl, by kernel_rfl⟩
theorem em_LInt_32_HoldSays1 : ElemOk Try.prog (List Int) 32 := ⟨Try.t32, (.slice none 0 0), by kernel_rfl, by kernel_rfl, by kernel_rfl, by kernel_rfl, by kernel_rfl⟩
theorem em_LRow_34_HoldSays1 : ElemOk Try.prog LRow 34 := ⟨Try.t34, (.agg #[(.slice none 0 0), (.int .i64 0), (.int .i64 0)]), by kernel_rfl, by kernel_rfl, by kernel_rfl, by kernel_rfl, by kernel_rfl⟩
theorem fl27_HoldSays1 (a b c d : Int) (w : World) : (Op.equalIn 10000 27 (.agg #[I a, I b]) (.agg #[I c, I d])).run Try.prog w = .ok (decide (a = c ∧ b = d)) w := eq2_run Try.underlying27 Try.underlying3 Try.underlying3 (by decide) (by decide) rfl rfl Try.isAgg3 Try.isAgg3 Try.stoodInHeld27 a b c d w

set_option maxRecDepth 100000 in
theorem Some_R2 {H0 : Heap} {S : Nat → Prop} (vr vl : Value) (r : List LRow) (left : List Int) (rr : Rd S H0 vr r) (rl : Rd S H0 vl left) (hin : InR r left) (hll : left.length ≤ 60) : CallsH Try.prog 41 #[vr, vl] H0 (fun rv_ H' => Ext NoB H0 H' ∧ Rd (fun b => S b ∧ b < H0.size) H' rv_ (pickR r left)) := by
  have hsr := (Rd.list.1 rr).small
  have hS0 : St H0 NoB (fun b => S b ∧ b < H0.size) [rdE vr r, rdE vl left] H0 := St.arg (St.arg (St.start (fun _ h => h.2)) (Bl0.nil) rl (fun _ h => h.1)) (Bl0.cons (Bl0.nil)) rr (fun _ h => h.1)
  refine callsH_of_wpF (args := [vr, vl]) (rs := [.tmp 4]) Try.func41 rfl Try.ntmps41 Try.results41 (by kernel_rfl) (Nat.le_of_ble_eq_true rfl) ?_
  have a0_0 : argF [vr, vl] 0 = vr := rfl
  have a0_1 : argF [vr, vl] 1 = vl := rfl
  generalize argF [vr, vl] = f0 at *
  refine wpF_seq ?_
  refine wpF_cut (fun f H => f 0 = vr ∧ f 1 = vl ∧ H0 = H) ?_ ?_
  · refine wpF_region ?_
    refine wpL_q (U := NoB) rfl (q_assign (v := (Value.slice none 0 0)) rfl rfl) ?_
    exact ⟨a0_0, a0_1, rfl⟩
  rintro f1 _ ⟨a1_0, a1_1, rfl⟩
  clear a0_0 a0_1
  refine wpF_seq ?_
  refine wpF_cut (fun f H => f 0 = vr ∧ f 1 = vl ∧ f 5 = (Value.slice none 0 0) ∧ H0 = H) ?_ ?_
  · refine wpF_region ?_
    refine wpL_q (U := NoB) rfl (q_assign (v := (Value.slice none 0 0)) rfl rfl) ?_
    exact ⟨a1_0, a1_1, rfl, rfl⟩
  rintro f2 _ ⟨a2_0, a2_1, a2_5, rfl⟩
  clear a1_0 a1_1
  have hS3 : St H0 NoB (fun b => S b ∧ b < H0.size) [rowE 34 (Value.slice none 0 0) ([] : List LRow), rdE vr r, rdE vl left] H0 := hS0.row0 34
  refine wpF_seq ?_
  refine wpF_seq ?_
  refine wpF_cut (fun f H => f 0 = vr ∧ f 1 = vl ∧ f 5 = (Value.slice none 0 0) ∧ f 6 = I (0) ∧ H0 = H) ?_ ?_
  · refine wpF_region ?_
    refine wpL_q (U := NoB) rfl (q_assign (v := I (0)) rfl rfl) ?_
    exact ⟨a2_0, a2_1, a2_5, rfl, rfl⟩
  rintro f4 _ ⟨a4_0, a4_1, a4_5, a4_6, rfl⟩
  clear a2_0 a2_1 a2_5
  refine wpF_block ?_
  refine wpF_loop (fun mz f H => ∃ (k : Nat), ∃ (vo : Value), mz = left.length - k ∧ (k ≤ left.length) ∧ f 0 = vr ∧ f 1 = vl ∧ f 5 = vo ∧ f 6 = I ((k : Int)) ∧ St H0 NoB (fun b => S b ∧ b < H0.size) [rowE 34 vo (pickR r (left.take k) : List LRow), rdE vr r, rdE vl left] H) (left.length - 0) ?_ ?_
  · exact ⟨0, (Value.slice none 0 0), rfl, Nat.zero_le _, a4_0, a4_1, a4_5, (Eq.trans a4_6 (congrArg I (by omega))), (show St H0 NoB (fun b => S b ∧ b < H0.size) [rowE 34 (Value.slice none 0 0) (pickR r (left.take 0) : List LRow), rdE vr r, rdE vl left] H0 from hS3)⟩
  intro m5 f5 H5 hI5
  obtain ⟨k, vo, hm5, hk, a5_0, a5_1, a5_5, a5_6, hS5⟩ := hI5
  clear a4_0 a4_1 a4_5 a4_6
  refine wpF_seq ?_
  refine wpF_seq ?_
  refine wpF_cut (fun f H => f 0 = vr ∧ f 1 = vl ∧ f 5 = vo ∧ f 6 = I ((k : Int)) ∧ f 10 = B (decide ((k : Int) < (left.length : Int))) ∧ H5 = H) ?_ ?_
  · refine wpF_region ?_
    refine wpL_q (U := NoB) rfl (q_move (v := I ((k : Int))) rfl a5_6) ?_
    refine wpL_q (U := NoB) rfl (q_move (v := vl) rfl a5_1) ?_
    refine wpL_q (U := NoB) rfl (q_lenRd rfl Try.underlying32 rfl (hS5.rdl 2 rfl)) ?_
    refine wpL_q (U := NoB) rfl (q_lss rfl rfl rfl) ?_
    exact ⟨a5_0, a5_1, a5_5, a5_6, rfl, rfl⟩
  rintro f6 _ ⟨a6_0, a6_1, a6_5, a6_6, a6_10, rfl⟩
  clear a5_0 a5_1 a5_5 a5_6
  refine wpF_condP a6_10 (fun hlt => ?t23) (fun hlt => ?e23)
  case e23 =>
    refine wpF_exit ?_
    refine atX_here ?_
    refine wpF_seq ?_
    refine wpF_cut (fun f H => f 4 = vo ∧ H5 = H) ?_ ?_
    · refine wpF_region ?_
      refine wpL_q (U := NoB) rfl (q_move (v := vo) rfl a6_5) ?_
      refine wpL_q (U := NoB) rfl (q_assign (v := vo) rfl rfl) ?_
      exact ⟨rfl, rfl⟩
    rintro f21 _ ⟨a21_4, rfl⟩
    clear a6_0 a6_1 a6_10 a6_5 a6_6
    refine wpF_ret ?_
    refine ⟨_, resT a21_4 resN, hS5.frame, ?_⟩
    show Rd (fun b => S b ∧ b < H0.size) H5 vo (pickR r left)
    have hS22 : St H0 NoB (fun b => S b ∧ b < H0.size) [rdE vo (pickR r (left.take k)), rdE vr r, rdE vl left] H5 := St.fin hS5
    have hq : pickR r (left.take k) = pickR r left := by rw [List.take_of_length_le (by omega)]
    rw [← hq]
    exact (hS22.result (hS22.rdS 0 rfl))
  have hirk := hin _ (nth_mem (l := left) (k := k) (by omega))
  have hbl : (pickR r (left.take k)).length ≤ k := by rw [pickR_len, List.length_take]; omega
  refine wpF_skip ?_
  refine wpF_seq ?_
  refine wpF_block ?_
  refine wpF_cut (fun f H => ∃ (v15 : Value), (In64 (nth r ((nth left k).toNat)).Kind) ∧ (In64 (nth r ((nth left k).toNat)).To) ∧ f 0 = vr ∧ f 1 = vl ∧ f 5 = v15 ∧ f 6 = I ((k : Int)) ∧ St H0 NoB (fun b => S b ∧ b < H0.size) [rowE 34 v15 (pickR r (left.take (k + 1)) : List LRow), rdE vr r, rdE vl left] H) ?_ ?_
  · refine wpF_region ?_
    refine wpL_q (U := NoB) rfl (q_move (v := vo) rfl a6_5) ?_
    refine wpL_q (U := NoB) rfl (q_move (v := vr) rfl a6_0) ?_
    refine wpL_q (U := NoB) rfl (q_move (v := vl) rfl a6_1) ?_
    refine wpL_q (U := NoB) rfl (q_move (v := I ((k : Int))) rfl a6_6) ?_
    refine wpL_q (U := NoB) rfl (q_indexRd (k := k) rfl Try.underlying32 el_Int_3_HoldSays1 rfl rfl (hS5.rdl 2 rfl) (by omega) (by omega)) ?_
    refine wpL_q (U := NoB) rfl (q_loadInt (k := k) rfl rfl el_Int_3_HoldSays1 (hS5.rdl 2 rfl) (by omega) (fun _ h => h)) ?_
    refine wpL_q (U := NoB) rfl (q_indexRd (k := (nth left k).toNat) rfl Try.underlying22 el_LRow_34_HoldSays1 rfl rfl (hS5.rdl 1 rfl) (by omega) (by omega)) ?_
    obtain ⟨u8, huu8, hlu8⟩ := (Rd.list.1 (hS5.rdS 1 rfl)).elem ((nth left k).toNat) (by omega)
    obtain ⟨u8n0, rfl, hu80, hu81, hu82⟩ := Rd.lRow.1 huu8
    have hS9 : St H0 NoB (fun b => S b ∧ b < H0.size) [rdE u8n0 ((nth r ((nth left k).toNat)).Of), rowE 34 vo (pickR r (left.take k) : List LRow), rdE vr r, rdE vl left] H5 := hS5.rd hu80
    refine wpL_q (U := NoB) rfl (q_loadE rfl rfl (hlu8 Try.prog 34 _ el_LRow_34_HoldSays1 (fun _ h => False.elim h))) ?_
    refine wpL_o rfl ?_
    refine e_buildSlice (vs := [Value.agg #[u8n0, I ((nth r ((nth left k).toNat)).Kind), I ((nth r ((nth left k).toNat)).To)]]) (xs := ([(nth r ((nth left k).toNat))] : List LRow)) rfl Try.underlying22 Try.zeroValue34 rfl Try.sizeOf34 (par1 (v0 := Value.agg #[u8n0, I ((nth r ((nth left k).toNat)).Kind), I ((nth r ((nth left k).toNat)).To)]) rfl) rfl hS9 (RdVs.cons (Rd.lRow.2 ⟨_, rfl, (hS9.rdS 0 rfl), (by first | assumption | (constructor <;> (dsimp only; omega)) | (constructor <;> omega)), (by first | assumption | (constructor <;> (dsimp only; omega)) | (constructor <;> omega))⟩) (RdVs.nil)) (by decide) (by decide) (fun v10 H11 hS12 hxx hvv10 => ?_)
    replace hS12 : St H0 NoB (fun b => S b ∧ b < H0.size) [rowE 34 v10 ([(nth r ((nth left k).toNat))] : List LRow), rdE u8n0 ((nth r ((nth left k).toNat)).Of), rowE 34 vo (pickR r (left.take k) : List LRow), rdE vr r, rdE vl left] H11 := hS12
    have hS13 : St H0 NoB (fun b => S b ∧ b < H0.size) [rdE v10 ([(nth r ((nth left k).toNat))] : List LRow), rdE u8n0 ((nth r ((nth left k).toNat)).Of), rowE 34 vo (pickR r (left.take k) : List LRow), rdE vr r, rdE vl left] H11 := St.fin hS12
    have hS14 : St H0 NoB (fun b => S b ∧ b < H0.size) [rowE 34 vo (pickR r (left.take k) : List LRow), rdE v10 ([(nth r ((nth left k).toNat))] : List LRow), rdE u8n0 ((nth r ((nth left k).toNat)).Of), rdE vr r, rdE vl left] H11 := (hS13.front 2 rfl)
    refine wpL_o rfl ?_
    refine e_append rfl Try.underlying22 em_LRow_34_HoldSays1 rfl rfl hS14 (hS14.rdS 1 rfl) (fun _ h => h) (by have hb : GoT.bytes LRow = 40 := rfl; simp [hb]; omega) (by decide) (fun v15 H16 hS17 hxx => ?_)
    replace hS17 : St H0 NoB (fun b => S b ∧ b < H0.size) [rowE 34 v15 ((pickR r (left.take k)) ++ ([(nth r ((nth left k).toNat))]) : List LRow), rdE v10 ([(nth r ((nth left k).toNat))] : List LRow), rdE u8n0 ((nth r ((nth left k).toNat)).Of), rdE vr r, rdE vl left] H16 := hS17
    have hS18 : St H0 NoB (fun b => S b ∧ b < H0.size) [rowE 34 v15 (pickR r (left.take (k + 1)) : List LRow), rdE v10 ([(nth r ((nth left k).toNat))] : List LRow), rdE u8n0 ((nth r ((nth left k).toNat)).Of), rdE vr r, rdE vl left] H16 := by rw [show (pickR r (left.take (k + 1))) = ((pickR r (left.take k)) ++ ([(nth r ((nth left k).toNat))])) from (by rw [pickR_take (by omega)])]; exact hS17
    refine wpL_q (U := NoB) rfl (q_assign (v := v15) rfl rfl) ?_
    exact ⟨v15, hu81, hu82, a6_0, a6_1, rfl, a6_6, (hS18.drop (sk (sn (sn (sk (sk (List.Sublist.slnil)))))))⟩
  rintro f19 H19 ⟨v15, hu81, hu82, a19_0, a19_1, a19_5, a19_6, hS19⟩
  clear a6_0 a6_1 a6_10 a6_5 a6_6
  refine wpF_cut (fun f H => f 0 = vr ∧ f 1 = vl ∧ f 5 = v15 ∧ f 6 = I ((k : Int) + 1) ∧ H19 = H) ?_ ?_
  · refine wpF_region ?_
    refine wpL_q (U := NoB) rfl (q_move (v := I ((k : Int))) rfl a19_6) ?_
    refine wpL_q (U := NoB) rfl (q_add rfl rfl rfl (by constructor <;> omega)) ?_
    refine wpL_q (U := NoB) rfl (q_assign (v := I ((k : Int) + 1)) rfl rfl) ?_
    exact ⟨a19_0, a19_1, a19_5, rfl, rfl⟩
  rintro f20 _ ⟨a20_0, a20_1, a20_5, a20_6, rfl⟩
  clear a19_0 a19_1 a19_5 a19_6
  refine ⟨_, ?_, k + 1, v15, rfl, (by omega), a20_0, a20_1, a20_5, (Eq.trans a20_6 (congrArg I (by omega))), hS19⟩
  omega

attribute [local irreducible] comeL statesL
set_option maxHeartbeats 4000000 in
set_option maxRecDepth 100000 in
theorem HoldSays_L {H0 : Heap} (wa wb wc wd we vr : Value) (l : Loop) (r : List LRow) (rwa : Rd NoB H0 wa l.Low) (rwb : Rd NoB H0 wb l.High) (rwc : Rd NoB H0 wc l.Start) (rwd : Rd NoB H0 wd l.Jumps) (rwe : Rd NoB H0 we l.Bad) (rr : Rd NoB H0 vr r) : CallsH Try.prog 8 #[Value.agg #[wa, wb, wc, wd, we], vr] H0 (fun rv_ H' => Ext NoB H0 H' ∧ rv_ = B true) := by
  have hs1 := (Rd.list.1 rwa).small
  have hs2 := (Rd.list.1 rwb).small
  have hs4 := (Rd.list.1 rwd).small
  have hsr := (Rd.list.1 rr).small
  have hS0 : St H0 NoB NoB [rdE wa l.Low, rdE wb l.High, rdE wc l.Start, rdE wd l.Jumps, rdE we l.Bad, rdE vr r] H0 := St.arg (St.arg (St.arg (St.arg (St.arg (St.arg (St.start (fun _ h => h.elim)) (Bl0.nil) rr (fun _ h => h)) (Bl0.cons (Bl0.nil)) rwe (fun _ h => h)) (Bl0.cons (Bl0.cons (Bl0.nil))) rwd (fun _ h => h)) (Bl0.cons (Bl0.cons (Bl0.cons (Bl0.nil)))) rwc (fun _ h => h)) (Bl0.cons (Bl0.cons (Bl0.cons (Bl0.cons (Bl0.nil))))) rwb (fun _ h => h)) (Bl0.cons (Bl0.cons (Bl0.cons (Bl0.cons (Bl0.cons (Bl0.nil)))))) rwa (fun _ h => h)
  refine callsH_of_wpF (args := [Value.agg #[wa, wb, wc, wd, we], vr]) (rs := [.tmp 4]) Try.func8 rfl Try.ntmps8 Try.results8 (by kernel_rfl) (Nat.le_of_ble_eq_true rfl) ?_
  have a0_0 : argF [Value.agg #[wa, wb, wc, wd, we], vr] 0 = Value.agg #[wa, wb, wc, wd, we] := rfl
  have a0_1 : argF [Value.agg #[wa, wb, wc, wd, we], vr] 1 = vr := rfl
  generalize argF [Value.agg #[wa, wb, wc, wd, we], vr] = f0 at *
  refine wpF_seq ?_
  refine wpF_cut (fun f H => ∃ (g1 : Nat), f 1 = vr ∧ f 2 = PT g1 0 ∧ St H0 NoB NoB [blkE g1 (.cells #[wa, wb, wc, wd, we] 42), rdE wa l.Low, rdE wb l.High, rdE wc l.Start, rdE wd l.Jumps, rdE we l.Bad, rdE vr r] H) ?_ ?_
  · refine wpF_region ?_
    refine wpL_o rfl ?_
    refine e_box (v := Value.agg #[wa, wb, wc, wd, we]) rfl a0_0 hS0 (fun g1 H2 hS3 hxx => ?_)
    replace hS3 : St H0 NoB NoB [blkE g1 (.cells #[wa, wb, wc, wd, we] 42), rdE wa l.Low, rdE wb l.High, rdE wc l.Start, rdE wd l.Jumps, rdE we l.Bad, rdE vr r] H2 := hS3
    refine wpL_q (U := NoB) rfl (q_assign (v := B (false)) rfl rfl) ?_
    exact ⟨g1, a0_1, rfl, hS3⟩
  rintro f4 H4 ⟨g1, a4_1, a4_2, hS4⟩
  clear a0_0 a0_1
  refine wpF_seq ?_
  refine wpF_seq ?_
  refine wpF_cut (fun f H => f 1 = vr ∧ f 2 = PT g1 0 ∧ f 47 = B (decide (((10 < (l.Low.length : Int)) ∨ (10 < (l.Jumps.length : Int))) ∨ (60 < (r.length : Int)))) ∧ H4 = H) ?_ ?_
  · refine wpF_region ?_
    refine wpL_q (U := NoB) rfl (q_fieldAddr rfl Try.underlying42 rfl Try.sizeOf32 a4_2) ?_
    refine wpL_q (U := NoB) rfl (q_loadBlk rfl rfl Try.isAgg32 (hS4.blk 0 rfl) rfl (fun h => h)) ?_
    refine wpL_q (U := NoB) rfl (q_lenRd rfl Try.underlying32 rfl (hS4.rdl 1 rfl)) ?_
    refine wpL_q (U := NoB) rfl (q_gtr rfl rfl rfl) ?_
    refine wpL_q (U := NoB) rfl (q_move (v := B (decide (10 < (l.Low.length : Int)))) rfl rfl) ?_
    by_cases hg5 : 10 < (l.Low.length : Int)
    · have hb6 := Eq.trans rfl (congrArg B (decide_eq_true hg5))
      refine wpL_gs rfl rfl rfl hb6 rfl ?_
      refine wpL_gs rfl rfl rfl hb6 rfl ?_
      refine wpL_gs rfl rfl rfl hb6 rfl ?_
      refine wpL_gs rfl rfl rfl hb6 rfl ?_
      refine wpL_q (U := NoB) rfl (q_pickT (v := B (true)) rfl hb6 rfl) ?_
      refine wpL_q (U := NoB) rfl (q_move (v := B (true)) rfl rfl) ?_
      refine wpL_gs rfl rfl rfl rfl rfl ?_
      refine wpL_gs rfl rfl rfl rfl rfl ?_
      refine wpL_gs rfl rfl rfl rfl rfl ?_
      refine wpL_q (U := NoB) rfl (q_pickT (v := B (true)) rfl rfl rfl) ?_
      exact ⟨a4_1, a4_2, (Eq.trans rfl (congrArg B ((decide_eq_true (Or.inl (Or.inl hg5))).symm))), rfl⟩
    · have hb7 := Eq.trans rfl (congrArg B (decide_eq_false hg5))
      refine wpL_gq (U := NoB) rfl rfl rfl hb7 (q_fieldAddr rfl Try.underlying42 rfl Try.sizeOf40 a4_2) ?_
      refine wpL_gq (U := NoB) rfl rfl rfl hb7 (q_loadBlk rfl rfl Try.isAgg40 (hS4.blk 0 rfl) rfl (fun h => h)) ?_
      refine wpL_gq (U := NoB) rfl rfl rfl hb7 (q_lenRd rfl Try.underlying40 rfl (hS4.rdl 4 rfl)) ?_
      refine wpL_gq (U := NoB) rfl rfl rfl hb7 (q_gtr rfl rfl rfl) ?_
      refine wpL_q (U := NoB) rfl (q_pickF (v := B (decide (10 < (l.Jumps.length : Int)))) rfl hb7 rfl) ?_
      refine wpL_q (U := NoB) rfl (q_move (v := B (decide (10 < (l.Jumps.length : Int)))) rfl rfl) ?_
      by_cases hg8 : 10 < (l.Jumps.length : Int)
      · have hb9 := Eq.trans rfl (congrArg B (decide_eq_true hg8))
        refine wpL_gs rfl rfl rfl hb9 rfl ?_
        refine wpL_gs rfl rfl rfl hb9 rfl ?_
        refine wpL_gs rfl rfl rfl hb9 rfl ?_
        refine wpL_q (U := NoB) rfl (q_pickT (v := B (true)) rfl hb9 rfl) ?_
        exact ⟨a4_1, a4_2, (Eq.trans rfl (congrArg B ((decide_eq_true (Or.inl (Or.inr hg8))).symm))), rfl⟩
      · have hb10 := Eq.trans rfl (congrArg B (decide_eq_false hg8))
        refine wpL_gq (U := NoB) rfl rfl rfl hb10 (q_move (v := vr) rfl a4_1) ?_
        refine wpL_gq (U := NoB) rfl rfl rfl hb10 (q_lenRd rfl Try.underlying22 rfl (hS4.rdl 6 rfl)) ?_
        refine wpL_gq (U := NoB) rfl rfl rfl hb10 (q_gtr rfl rfl rfl) ?_
        refine wpL_q (U := NoB) rfl (q_pickF (v := B (decide (60 < (r.length : Int)))) rfl hb10 rfl) ?_
        exact ⟨a4_1, a4_2, (Eq.trans rfl (congrArg B (decide_congr_of ((Iff.rfl).trans (((or_iff_right (not_or.2 ⟨hg5, hg8⟩)).trans Iff.rfl)).symm)))), rfl⟩
  rintro f11 _ ⟨a11_1, a11_2, a11_47, rfl⟩
  clear a4_1 a4_2
  refine wpF_condP a11_47 (fun h47 => ?t284) (fun h47 => ?e284)
  case t284 =>
    refine wpF_seq ?_
    refine wpF_cut (fun f H => f 4 = B (true) ∧ H4 = H) ?_ ?_
    · refine wpF_region ?_
      refine wpL_q (U := NoB) rfl (q_assign (v := B (true)) rfl rfl) ?_
      exact ⟨rfl, rfl⟩
    rintro f13 _ ⟨a13_4, rfl⟩
    clear a11_1 a11_2 a11_47
    refine wpF_ret ?_
    refine ⟨_, resT a13_4 resN, hS4.frame, ?_⟩
    show (B (true)) = B true
    rfl
  have hr60 : r.length ≤ 60 := by omega
  refine wpF_skip ?_
  refine wpF_seq ?_
  refine wpF_cut (fun f H => ∃ (g17 : Nat), f 1 = vr ∧ f 2 = PT g1 0 ∧ f 5 = PT g17 0 ∧ St H0 NoB NoB [blkE g17 (.cells #[I ((loopFault l).1), I ((loopFault l).2)] 27), blkE g1 (.cells #[wa, wb, wc, wd, we] 42), rdE wa l.Low, rdE wb l.High, rdE wc l.Start, rdE wd l.Jumps, rdE we l.Bad, rdE vr r] H) ?_ ?_
  · refine wpF_region ?_
    refine wpL_q (U := NoB) rfl (q_loadBlkA rfl a11_2 Try.isAgg42 Try.sizeOf42 rfl (hS4.blk 0 rfl) (fun h => h)) ?_
    refine wpL_o rfl ?_
    refine e_call rfl Try.call26 (arr1 (v0 := Value.agg #[wa, wb, wc, wd, we]) rfl) (Loop_R wa wb wc wd we l (hS4.rdN 1 rfl) (hS4.rdN 2 rfl) (hS4.rdN 3 rfl) (hS4.rdN 4 rfl) (hS4.rdN 5 rfl) ) ?_
    rintro _ H14 ⟨hxx, rfl⟩
    have hS15 : St H0 NoB NoB [blkE g1 (.cells #[wa, wb, wc, wd, we] 42), rdE wa l.Low, rdE wb l.High, rdE wc l.Start, rdE wd l.Jumps, rdE we l.Bad, rdE vr r] H14 := hS4.ext hxx
    refine wpL_o rfl ?_
    refine e_alloc rfl Try.zeroValue27 hS15 (fun g17 H18 hS19 hxx => ?_)
    replace hS19 : St H0 NoB NoB [blkE g17 (.cells #[I (0), I (0)] 27), blkE g1 (.cells #[wa, wb, wc, wd, we] 42), rdE wa l.Low, rdE wb l.High, rdE wc l.Start, rdE wd l.Jumps, rdE we l.Bad, rdE vr r] H18 := hS19
    refine wpL_o rfl ?_
    refine e_storeBlkA (cs' := #[I ((loopFault l).1), I ((loopFault l).2)]) rfl rfl rfl Try.sizeOf27 rfl rfl (List.forall_mem_cons.2 ⟨rfl, List.forall_mem_cons.2 ⟨rfl, List.forall_mem_nil _⟩⟩) hS19 (fun H20 hS21 hxx => ?_)
    replace hS21 : St H0 NoB NoB [blkE g17 (.cells #[I ((loopFault l).1), I ((loopFault l).2)] 27), blkE g1 (.cells #[wa, wb, wc, wd, we] 42), rdE wa l.Low, rdE wb l.High, rdE wc l.Start, rdE wd l.Jumps, rdE we l.Bad, rdE vr r] H20 := hS21
    exact ⟨g17, a11_1, a11_2, rfl, hS21⟩
  rintro f22 H22 ⟨g17, a22_1, a22_2, a22_5, hS22⟩
  clear a11_1 a11_2 a11_47
  refine wpF_seq ?_
  refine wpF_cut (fun f H => ∃ (r23 : Value), ∃ (g27 : Nat), f 1 = vr ∧ f 2 = PT g1 0 ∧ f 5 = PT g17 0 ∧ f 6 = r23 ∧ f 7 = B (badB l) ∧ f 8 = PT g27 0 ∧ St H0 NoB NoB [blkE g27 (.cells #[I ((loopFault l).1), I ((loopFault l).2)] 27), rdE r23 (badL l), blkE g17 (.cells #[I ((loopFault l).1), I ((loopFault l).2)] 27), blkE g1 (.cells #[wa, wb, wc, wd, we] 42), rdE wa l.Low, rdE wb l.High, rdE wc l.Start, rdE wd l.Jumps, rdE we l.Bad, rdE vr r] H) ?_ ?_
  · refine wpF_region ?_
    refine wpL_q (U := NoB) rfl (q_loadBlkA rfl a22_2 Try.isAgg42 Try.sizeOf42 rfl (hS22.blk 1 rfl) (fun h => h)) ?_
    refine wpL_o rfl ?_
    refine e_call rfl Try.call23 (arr1 (v0 := Value.agg #[wa, wb, wc, wd, we]) rfl) (Bad_L wa wb wc wd we l (hS22.rdS 2 rfl) (hS22.rdS 3 rfl) (hS22.rdS 4 rfl) (hS22.rdS 5 rfl) (hS22.rdS 6 rfl) ) ?_
    rintro _ H24 ⟨hxx, r23, rfl, hrr23⟩
    have hS25 : St H0 NoB NoB [rdE r23 (badL l), blkE g17 (.cells #[I ((loopFault l).1), I ((loopFault l).2)] 27), blkE g1 (.cells #[wa, wb, wc, wd, we] 42), rdE wa l.Low, rdE wb l.High, rdE wc l.Start, rdE wd l.Jumps, rdE we l.Bad, rdE vr r] H24 := hS22.res hxx hrr23
    refine wpL_q (U := NoB) rfl (q_move (v := Value.tuple #[r23, B (badB l), Value.agg #[I ((loopFault l).1), I ((loopFault l).2)]]) rfl rfl) ?_
    refine wpL_q (U := NoB) rfl (q_extract (vs := #[r23, B (badB l), Value.agg #[I ((loopFault l).1), I ((loopFault l).2)]]) (v := r23) rfl rfl rfl) ?_
    refine wpL_q (U := NoB) rfl (q_extract (vs := #[r23, B (badB l), Value.agg #[I ((loopFault l).1), I ((loopFault l).2)]]) (v := B (badB l)) rfl rfl rfl) ?_
    refine wpL_q (U := NoB) rfl (q_extract (vs := #[r23, B (badB l), Value.agg #[I ((loopFault l).1), I ((loopFault l).2)]]) (v := Value.agg #[I ((loopFault l).1), I ((loopFault l).2)]) rfl rfl rfl) ?_
    refine wpL_o rfl ?_
    refine e_alloc rfl Try.zeroValue27 hS25 (fun g27 H28 hS29 hxx => ?_)
    replace hS29 : St H0 NoB NoB [blkE g27 (.cells #[I (0), I (0)] 27), rdE r23 (badL l), blkE g17 (.cells #[I ((loopFault l).1), I ((loopFault l).2)] 27), blkE g1 (.cells #[wa, wb, wc, wd, we] 42), rdE wa l.Low, rdE wb l.High, rdE wc l.Start, rdE wd l.Jumps, rdE we l.Bad, rdE vr r] H28 := hS29
    refine wpL_q (U := NoB) rfl (q_assign (v := r23) rfl rfl) ?_
    refine wpL_q (U := NoB) rfl (q_assign (v := B (badB l)) rfl rfl) ?_
    refine wpL_o rfl ?_
    refine e_storeBlkA (cs' := #[I ((loopFault l).1), I ((loopFault l).2)]) rfl rfl rfl Try.sizeOf27 rfl rfl (List.forall_mem_cons.2 ⟨rfl, List.forall_mem_cons.2 ⟨rfl, List.forall_mem_nil _⟩⟩) hS29 (fun H30 hS31 hxx => ?_)
    replace hS31 : St H0 NoB NoB [blkE g27 (.cells #[I ((loopFault l).1), I ((loopFault l).2)] 27), rdE r23 (badL l), blkE g17 (.cells #[I ((loopFault l).1), I ((loopFault l).2)] 27), blkE g1 (.cells #[wa, wb, wc, wd, we] 42), rdE wa l.Low, rdE wb l.High, rdE wc l.Start, rdE wd l.Jumps, rdE we l.Bad, rdE vr r] H30 := hS31
    exact ⟨r23, g27, a22_1, a22_2, a22_5, rfl, rfl, rfl, hS31⟩
  rintro f32 H32 ⟨r23, g27, a32_1, a32_2, a32_5, a32_6, a32_7, a32_8, hS32⟩
  clear a22_1 a22_2 a22_5
  refine wpF_seq ?_
  refine wpF_seq ?_
  refine wpF_cut (fun f H => f 1 = vr ∧ f 2 = PT g1 0 ∧ f 5 = PT g17 0 ∧ f 6 = r23 ∧ f 7 = B (badB l) ∧ f 8 = PT g27 0 ∧ f 58 = B (decide (((loopFault l).1) ≠ 0)) ∧ H32 = H) ?_ ?_
  · refine wpF_region ?_
    refine wpL_q (U := NoB) rfl (q_fieldAddr rfl Try.underlying27 rfl Try.sizeOf3 a32_5) ?_
    refine wpL_q (U := NoB) rfl (q_loadBlk rfl rfl Try.isAgg3 (hS32.blk 2 rfl) rfl (fun h => h)) ?_
    refine wpL_q (U := NoB) rfl (q_neq rfl rfl rfl) ?_
    exact ⟨a32_1, a32_2, a32_5, a32_6, a32_7, a32_8, rfl, rfl⟩
  rintro f33 _ ⟨a33_1, a33_2, a33_5, a33_6, a33_7, a33_8, a33_58, rfl⟩
  clear a32_1 a32_2 a32_5 a32_6 a32_7 a32_8
  refine wpF_cut (fun f H => f 1 = vr ∧ f 2 = PT g1 0 ∧ f 5 = PT g17 0 ∧ St H0 NoB NoB [blkE g17 (.cells #[I ((chkFault l r).1), I ((chkFault l r).2)] 27), blkE g1 (.cells #[wa, wb, wc, wd, we] 42), rdE wa l.Low, rdE wb l.High, rdE wc l.Start, rdE wd l.Jumps, rdE we l.Bad, rdE vr r] H) ?_ ?_
  · refine wpF_condP a33_58 (fun h58 => ?t113) (fun h58 => ?e113)
    case t113 =>
      refine wpF_seq ?_
      refine wpF_cut (fun f H => f 1 = vr ∧ f 2 = PT g1 0 ∧ f 5 = PT g17 0 ∧ f 69 = B (decide (((¬ (((loopFault l).1) = ((loopFault l).1) ∧ ((loopFault l).2) = ((loopFault l).2))) ∨ (0 < ((badL l).length : Int))) ∨ ((badB l) = true))) ∧ H32 = H) ?_ ?_
      · refine wpF_region ?_
        refine wpL_q (U := NoB) rfl (q_loadBlkA rfl a33_8 Try.isAgg27 Try.sizeOf27 rfl (hS32.blk 0 rfl) (fun h => h)) ?_
        refine wpL_q (U := NoB) rfl (q_loadBlkA rfl a33_5 Try.isAgg27 Try.sizeOf27 rfl (hS32.blk 2 rfl) (fun h => h)) ?_
        refine wpL_q (U := NoB) rfl (q_neqF2 rfl Try.eqGuardType27 (fl27_HoldSays1 _ _ _ _) rfl rfl) ?_
        refine wpL_q (U := NoB) rfl (q_move (v := B (decide (¬ (((loopFault l).1) = ((loopFault l).1) ∧ ((loopFault l).2) = ((loopFault l).2))))) rfl rfl) ?_
        by_cases hg36 : ¬ (((loopFault l).1) = ((loopFault l).1) ∧ ((loopFault l).2) = ((loopFault l).2))
        · have hb37 := Eq.trans rfl (congrArg B (decide_eq_true hg36))
          refine wpL_gs rfl rfl rfl hb37 rfl ?_
          refine wpL_gs rfl rfl rfl hb37 rfl ?_
          refine wpL_gs rfl rfl rfl hb37 rfl ?_
          refine wpL_q (U := NoB) rfl (q_pickT (v := B (true)) rfl hb37 rfl) ?_
          refine wpL_q (U := NoB) rfl (q_move (v := B (true)) rfl rfl) ?_
          refine wpL_gs rfl rfl rfl rfl rfl ?_
          refine wpL_q (U := NoB) rfl (q_pickT (v := B (true)) rfl rfl rfl) ?_
          exact ⟨a33_1, a33_2, a33_5, (Eq.trans rfl (congrArg B ((decide_eq_true (Or.inl (Or.inl hg36))).symm))), rfl⟩
        · have hb38 := Eq.trans rfl (congrArg B (decide_eq_false hg36))
          refine wpL_gq (U := NoB) rfl rfl rfl hb38 (q_move (v := r23) rfl a33_6) ?_
          refine wpL_gq (U := NoB) rfl rfl rfl hb38 (q_lenRd rfl Try.underlying23 rfl (hS32.rdl 1 rfl)) ?_
          refine wpL_gq (U := NoB) rfl rfl rfl hb38 (q_gtr rfl rfl rfl) ?_
          refine wpL_q (U := NoB) rfl (q_pickF (v := B (decide (0 < ((badL l).length : Int)))) rfl hb38 rfl) ?_
          refine wpL_q (U := NoB) rfl (q_move (v := B (decide (0 < ((badL l).length : Int)))) rfl rfl) ?_
          by_cases hg39 : 0 < ((badL l).length : Int)
          · have hb40 := Eq.trans rfl (congrArg B (decide_eq_true hg39))
            refine wpL_gs rfl rfl rfl hb40 rfl ?_
            refine wpL_q (U := NoB) rfl (q_pickT (v := B (true)) rfl hb40 rfl) ?_
            exact ⟨a33_1, a33_2, a33_5, (Eq.trans rfl (congrArg B ((decide_eq_true (Or.inl (Or.inr hg39))).symm))), rfl⟩
          · have hb41 := Eq.trans rfl (congrArg B (decide_eq_false hg39))
            refine wpL_gq (U := NoB) rfl rfl rfl hb41 (q_move (v := B (badB l)) rfl a33_7) ?_
            refine wpL_q (U := NoB) rfl (q_pickF (v := B (badB l)) rfl hb41 rfl) ?_
            exact ⟨a33_1, a33_2, a33_5, (Eq.trans rfl (congrArg B (bool_congr_of ((Iff.rfl).trans (((or_iff_right (not_or.2 ⟨hg36, hg39⟩)).trans Iff.rfl)).symm)))), rfl⟩
      rintro f42 _ ⟨a42_1, a42_2, a42_5, a42_69, rfl⟩
      clear a33_1 a33_2 a33_5 a33_58 a33_6 a33_7 a33_8
      refine wpF_condP a42_69 (fun h69 => ?t45) (fun h69 => ?e45)
      case e45 =>
        refine wpF_skip ?_
        exact ⟨a42_1, a42_2, a42_5, (show St H0 NoB NoB [blkE g17 (.cells #[I ((chkFault l r).1), I ((chkFault l r).2)] 27), blkE g1 (.cells #[wa, wb, wc, wd, we] 42), rdE wa l.Low, rdE wb l.High, rdE wc l.Start, rdE wd l.Jumps, rdE we l.Bad, rdE vr r] H32 from (by have h__ := (hS32.drop (sn (sn (sk (sk (sk (sk (sk (sk (sk (sk (List.Sublist.slnil)))))))))))); (first | rw [← chk_loop (r := r) h58] at h__ | (rw [chk_no h58 h133]; rw [hl.code] at h__)); exact h__))⟩
      refine wpF_seq ?_
      refine wpF_cut (fun f H => f 4 = B (false) ∧ H32 = H) ?_ ?_
      · refine wpF_region ?_
        refine wpL_q (U := NoB) rfl (q_assign (v := B (false)) rfl rfl) ?_
        exact ⟨rfl, rfl⟩
      rintro f44 _ ⟨a44_4, rfl⟩
      clear a42_1 a42_2 a42_5 a42_69
      refine wpF_ret ?_
      refine ⟨_, resT a44_4 resN, hS32.frame, ?_⟩
      show (B (false)) = B true
      exfalso
      have q1 : badL l = [] := if_pos h58
      have q2 : badB l = false := if_pos h58
      rw [q1, q2] at h69
      simp at h69
    have hl := LW.of (Decidable.of_not_not h58)
    have hfew := comeL_few hl
    have hbfw := badL_few (l := l)
    refine wpF_seq ?_
    refine wpF_cut (fun f H => ∃ (r46 : Value), ∃ (r47 : Value), ∃ (fr72 : List Int), (fr72.length = (comeL l).length) ∧ (FromOk l fr72) ∧ f 1 = vr ∧ f 2 = PT g1 0 ∧ f 5 = PT g17 0 ∧ f 6 = r23 ∧ f 7 = B (badB l) ∧ f 8 = PT g27 0 ∧ f 9 = r46 ∧ f 10 = r47 ∧ St H0 NoB NoB [rdE r46 (comeL l), rdE r47 fr72, blkE g27 (.cells #[I ((loopFault l).1), I ((loopFault l).2)] 27), rdE r23 (badL l), blkE g17 (.cells #[I ((loopFault l).1), I ((loopFault l).2)] 27), blkE g1 (.cells #[wa, wb, wc, wd, we] 42), rdE wa l.Low, rdE wb l.High, rdE wc l.Start, rdE wd l.Jumps, rdE we l.Bad, rdE vr r] H) ?_ ?_
    · refine wpF_region ?_
      refine wpL_q (U := NoB) rfl (q_loadBlkA rfl a33_2 Try.isAgg42 Try.sizeOf42 rfl (hS32.blk 3 rfl) (fun h => h)) ?_
      refine wpL_o rfl ?_
      refine e_call rfl Try.call28 (arr1 (v0 := Value.agg #[wa, wb, wc, wd, we]) rfl) (Come_R wa wb wc wd we l (hS32.rdS 4 rfl) (hS32.rdS 5 rfl) (hS32.rdS 6 rfl) (hS32.rdS 7 rfl) (hS32.rdS 8 rfl) hl) ?_
      rintro _ H48 ⟨hxx, r46, r47, fr72, rfl, hlfr72, hofr72, hrr46, hrr47⟩
      have hS49 : St H0 NoB NoB [rdE r46 (comeL l), rdE r47 fr72, blkE g27 (.cells #[I ((loopFault l).1), I ((loopFault l).2)] 27), rdE r23 (badL l), blkE g17 (.cells #[I ((loopFault l).1), I ((loopFault l).2)] 27), blkE g1 (.cells #[wa, wb, wc, wd, we] 42), rdE wa l.Low, rdE wb l.High, rdE wc l.Start, rdE wd l.Jumps, rdE we l.Bad, rdE vr r] H48 := (((hS32.ext hxx).rd (hrr47.sub fun b hb => ⟨hb, SL.lt hS32 hb⟩)).rd (hrr46.sub fun b hb => ⟨(SL_rd hb), SL.lt hS32 (SL_rd hb)⟩))
      refine wpL_q (U := NoB) rfl (q_move (v := Value.tuple #[r46, r47]) rfl rfl) ?_
      refine wpL_q (U := NoB) rfl (q_extract (vs := #[r46, r47]) (v := r46) rfl rfl rfl) ?_
      refine wpL_q (U := NoB) rfl (q_extract (vs := #[r46, r47]) (v := r47) rfl rfl rfl) ?_
      refine wpL_q (U := NoB) rfl (q_assign (v := r46) rfl rfl) ?_
      refine wpL_q (U := NoB) rfl (q_assign (v := r47) rfl rfl) ?_
      exact ⟨r46, r47, fr72, hlfr72, hofr72, a33_1, a33_2, a33_5, a33_6, a33_7, a33_8, rfl, rfl, hS49⟩
    rintro f51 H51 ⟨r46, r47, fr72, hlfr72, hofr72, a51_1, a51_2, a51_5, a51_6, a51_7, a51_8, a51_9, a51_10, hS51⟩
    clear a33_1 a33_2 a33_5 a33_58 a33_6 a33_7 a33_8
    refine wpF_seq ?_
    refine wpF_cut (fun f H => f 1 = vr ∧ f 2 = PT g1 0 ∧ f 5 = PT g17 0 ∧ f 6 = r23 ∧ f 7 = B (badB l) ∧ f 8 = PT g27 0 ∧ f 9 = r46 ∧ f 10 = r47 ∧ f 11 = I (0) ∧ H51 = H) ?_ ?_
    · refine wpF_region ?_
      refine wpL_q (U := NoB) rfl (q_assign (v := I (0)) rfl rfl) ?_
      exact ⟨a51_1, a51_2, a51_5, a51_6, a51_7, a51_8, a51_9, a51_10, rfl, rfl⟩
    rintro f52 _ ⟨a52_1, a52_2, a52_5, a52_6, a52_7, a52_8, a52_9, a52_10, a52_11, rfl⟩
    clear a51_1 a51_10 a51_2 a51_5 a51_6 a51_7 a51_8 a51_9
    refine wpF_seq ?_
    refine wpF_block ?_
    refine wpF_loop (fun mz f H => ∃ (kk : Nat), mz = (comeL l).length - kk ∧ (kk ≤ (comeL l).length) ∧ (∀ j, j < kk → holdB l.Bad (nth (comeL l) j) = false) ∧ f 1 = vr ∧ f 2 = PT g1 0 ∧ f 5 = PT g17 0 ∧ f 6 = r23 ∧ f 7 = B (badB l) ∧ f 8 = PT g27 0 ∧ f 9 = r46 ∧ f 10 = r47 ∧ f 11 = I ((kk : Int)) ∧ St H0 NoB NoB [rdE r46 (comeL l), rdE r47 fr72, blkE g27 (.cells #[I ((loopFault l).1), I ((loopFault l).2)] 27), rdE r23 (badL l), blkE g17 (.cells #[I ((loopFault l).1), I ((loopFault l).2)] 27), blkE g1 (.cells #[wa, wb, wc, wd, we] 42), rdE wa l.Low, rdE wb l.High, rdE wc l.Start, rdE wd l.Jumps, rdE we l.Bad, rdE vr r] H) ((comeL l).length - 0) ?_ ?_
    · exact ⟨0, rfl, Nat.zero_le _, (fun j hj => absurd hj (Nat.not_lt_zero j)), a52_1, a52_2, a52_5, a52_6, a52_7, a52_8, a52_9, a52_10, (Eq.trans a52_11 (congrArg I (by omega))), hS51⟩
    intro m53 f53 H53 hI53
    obtain ⟨kk, hm53, hkk, hno, a53_1, a53_2, a53_5, a53_6, a53_7, a53_8, a53_9, a53_10, a53_11, hS53⟩ := hI53
    clear a52_1 a52_10 a52_11 a52_2 a52_5 a52_6 a52_7 a52_8 a52_9
    refine wpF_seq ?_
    refine wpF_seq ?_
    refine wpF_cut (fun f H => f 1 = vr ∧ f 2 = PT g1 0 ∧ f 5 = PT g17 0 ∧ f 6 = r23 ∧ f 7 = B (badB l) ∧ f 8 = PT g27 0 ∧ f 9 = r46 ∧ f 10 = r47 ∧ f 11 = I ((kk : Int)) ∧ f 88 = B (decide (((kk : Int) < ((comeL l).length : Int)) ∧ ((!(holdB l.Bad (nth (comeL l) kk))) = true))) ∧ St H0 NoB NoB [rdE r46 (comeL l), rdE r47 fr72, blkE g27 (.cells #[I ((loopFault l).1), I ((loopFault l).2)] 27), rdE r23 (badL l), blkE g17 (.cells #[I ((loopFault l).1), I ((loopFault l).2)] 27), blkE g1 (.cells #[wa, wb, wc, wd, we] 42), rdE wa l.Low, rdE wb l.High, rdE wc l.Start, rdE wd l.Jumps, rdE we l.Bad, rdE vr r] H) ?_ ?_
    · refine wpF_drawn [] [] (fun _ _ => False) (by kernel_rfl) (by kernel_rfl) ?_
      refine wpR_q 0 (by kernel_rfl) rfl (quietAt rfl rfl (q_move (v := I ((kk : Int))) rfl a53_11)) ?_
      refine wpR_q 1 (by kernel_rfl) rfl (quietAt rfl rfl (q_move (v := r46) rfl a53_9)) ?_
      refine wpR_q 2 (by kernel_rfl) rfl (quietAt rfl rfl (q_lenRd rfl Try.underlying23 rfl (hS53.rdl 0 rfl))) ?_
      refine wpR_q 3 (by kernel_rfl) rfl (quietAt rfl rfl (q_lss rfl rfl rfl)) ?_
      refine wpR_q 4 (by kernel_rfl) rfl (quietAt rfl rfl (q_move (v := B (decide ((kk : Int) < ((comeL l).length : Int)))) rfl rfl)) ?_
      by_cases hg55 : (kk : Int) < ((comeL l).length : Int)
      · have hb56 := Eq.trans rfl (congrArg B (decide_eq_true hg55))
        refine wpR_q 5 (by kernel_rfl) rfl (quietAt_g rfl rfl rfl rfl hb56 (q_fieldAddr rfl Try.underlying42 rfl Try.sizeOf22 a53_2)) ?_
        refine wpR_q 6 (by kernel_rfl) rfl (quietAt_g rfl rfl rfl rfl hb56 (q_loadBlk rfl rfl Try.isAgg22 (hS53.blk 5 rfl) rfl (labU_not [] rfl (List.forall_mem_nil _)))) ?_
        refine wpR_q 7 (by kernel_rfl) rfl (quietAt_g rfl rfl rfl rfl hb56 (q_move (v := r46) rfl a53_9)) ?_
        refine wpR_q 8 (by kernel_rfl) rfl (quietAt_g rfl rfl rfl rfl hb56 (q_move (v := I ((kk : Int))) rfl a53_11)) ?_
        refine wpR_q 9 (by kernel_rfl) rfl (quietAt_g rfl rfl rfl rfl hb56 (q_indexRd (k := kk) rfl Try.underlying23 el_LInt_32_HoldSays1 rfl rfl (hS53.rdl 0 rfl) (by omega) (by omega))) ?_
        obtain ⟨u54o10, huu54o10, hlu54o10⟩ := (Rd.list.1 (hS53.rdS 0 rfl)).elem kk (by omega)
        have hS54o10 : St H0 NoB NoB [rdE u54o10 (nth (comeL l) kk), rdE r46 (comeL l), rdE r47 fr72, blkE g27 (.cells #[I ((loopFault l).1), I ((loopFault l).2)] 27), rdE r23 (badL l), blkE g17 (.cells #[I ((loopFault l).1), I ((loopFault l).2)] 27), blkE g1 (.cells #[wa, wb, wc, wd, we] 42), rdE wa l.Low, rdE wb l.High, rdE wc l.Start, rdE wd l.Jumps, rdE we l.Bad, rdE vr r] H53 := hS53.rd huu54o10
        refine wpR_q 10 (by kernel_rfl) rfl (quietAt_g rfl rfl rfl rfl hb56 (q_loadE rfl rfl (hlu54o10 Try.prog 32 _ el_LInt_32_HoldSays1 (labU_sub [] rfl (List.forall_mem_nil _))))) ?_
        refine wpR_n [11] (by kernel_rfl) ?_
        refine List.forall_mem_cons.2 ⟨?_, List.forall_mem_nil _⟩
        refine exE_g rfl rfl rfl rfl hb56 ?_
        refine e_call rfl Try.call33 (arr2 (v0 := we) (v1 := u54o10) rfl rfl) (Hold_R we u54o10 l.Bad (nth (comeL l) kk) (hS54o10.rdN 11 rfl) (hS54o10.rdN 0 rfl) (holdok_st hl hl.bad (comeL_st hl (nth_mem (by omega))))) ?_
        rintro _ H54o11 ⟨hxx, rfl⟩
        have hS54o11 : St H0 NoB NoB [rdE u54o10 (nth (comeL l) kk), rdE r46 (comeL l), rdE r47 fr72, blkE g27 (.cells #[I ((loopFault l).1), I ((loopFault l).2)] 27), rdE r23 (badL l), blkE g17 (.cells #[I ((loopFault l).1), I ((loopFault l).2)] 27), blkE g1 (.cells #[wa, wb, wc, wd, we] 42), rdE wa l.Low, rdE wb l.High, rdE wc l.Start, rdE wd l.Jumps, rdE we l.Bad, rdE vr r] H54o11 := hS54o10.ext hxx
        refine ⟨Ext.mono hxx (fun _ h => h.elim), ?_⟩
        refine wpR_q 12 (by kernel_rfl) rfl (quietAt_g rfl rfl rfl rfl hb56 (q_not rfl rfl)) ?_
        refine wpR_q 13 (by kernel_rfl) rfl (quietAt rfl rfl (q_pickT (v := B (!(holdB l.Bad (nth (comeL l) kk)))) rfl hb56 rfl)) ?_
        refine wpR_end (by kernel_rfl) ?_
        exact ⟨a53_1, a53_2, a53_5, a53_6, a53_7, a53_8, a53_9, a53_10, a53_11, (Eq.trans rfl (congrArg B (bool_congr_of ((Iff.rfl).trans (((and_iff_right hg55).trans Iff.rfl)).symm)))), (hS54o11.drop (sn (sk (sk (sk (sk (sk (sk (sk (sk (sk (sk (sk (sk (List.Sublist.slnil)))))))))))))))⟩
      · have hb57 := Eq.trans rfl (congrArg B (decide_eq_false hg55))
        refine wpR_q 5 (by kernel_rfl) rfl (quietAt_s rfl rfl rfl rfl hb57 rfl) ?_
        refine wpR_q 6 (by kernel_rfl) rfl (quietAt_s rfl rfl rfl rfl hb57 rfl) ?_
        refine wpR_q 7 (by kernel_rfl) rfl (quietAt_s rfl rfl rfl rfl hb57 rfl) ?_
        refine wpR_q 8 (by kernel_rfl) rfl (quietAt_s rfl rfl rfl rfl hb57 rfl) ?_
        refine wpR_q 9 (by kernel_rfl) rfl (quietAt_s rfl rfl rfl rfl hb57 rfl) ?_
        refine wpR_q 10 (by kernel_rfl) rfl (quietAt_s rfl rfl rfl rfl hb57 rfl) ?_
        refine wpR_q 11 (by kernel_rfl) rfl (quietAt_s rfl rfl rfl rfl hb57 rfl) ?_
        refine wpR_q 12 (by kernel_rfl) rfl (quietAt_s rfl rfl rfl rfl hb57 rfl) ?_
        refine wpR_q 13 (by kernel_rfl) rfl (quietAt rfl rfl (q_pickF (v := B (false)) rfl hb57 rfl)) ?_
        refine wpR_end (by kernel_rfl) ?_
        exact ⟨a53_1, a53_2, a53_5, a53_6, a53_7, a53_8, a53_9, a53_10, a53_11, (Eq.trans rfl (congrArg B ((decide_eq_false (fun h => hg55 h.1)).symm))), hS53⟩
    rintro f58 H58 ⟨a58_1, a58_2, a58_5, a58_6, a58_7, a58_8, a58_9, a58_10, a58_11, a58_88, hS58⟩
    clear a53_1 a53_10 a53_11 a53_2 a53_5 a53_6 a53_7 a53_8 a53_9
    refine wpF_condP a58_88 (fun h88 => ?t112) (fun h88 => ?e112)
    case t112 =>
      refine wpF_skip ?_
      refine wpF_block ?_
      refine wpF_cut (fun f H => f 1 = vr ∧ f 2 = PT g1 0 ∧ f 5 = PT g17 0 ∧ f 6 = r23 ∧ f 7 = B (badB l) ∧ f 8 = PT g27 0 ∧ f 9 = r46 ∧ f 10 = r47 ∧ f 11 = I ((kk : Int) + 1) ∧ H58 = H) ?_ ?_
      · refine wpF_region ?_
        refine wpL_q (U := NoB) rfl (q_move (v := I ((kk : Int))) rfl a58_11) ?_
        refine wpL_q (U := NoB) rfl (q_add rfl rfl rfl (by constructor <;> omega)) ?_
        refine wpL_q (U := NoB) rfl (q_assign (v := I ((kk : Int) + 1)) rfl rfl) ?_
        exact ⟨a58_1, a58_2, a58_5, a58_6, a58_7, a58_8, a58_9, a58_10, rfl, rfl⟩
      rintro f60 _ ⟨a60_1, a60_2, a60_5, a60_6, a60_7, a60_8, a60_9, a60_10, a60_11, rfl⟩
      clear a58_1 a58_10 a58_11 a58_2 a58_5 a58_6 a58_7 a58_8 a58_88 a58_9
      refine ⟨_, ?_, kk + 1, rfl, (by omega), (all_succ hno (by simpa using h88.2)), a60_1, a60_2, a60_5, a60_6, a60_7, a60_8, a60_9, a60_10, (Eq.trans a60_11 (congrArg I (by omega))), hS58⟩
      omega
    refine wpF_exit ?_
    refine atX_here ?_
    refine wpF_seq ?_
    refine wpF_cut (fun f H => f 1 = vr ∧ f 2 = PT g1 0 ∧ f 5 = PT g17 0 ∧ f 6 = r23 ∧ f 7 = B (badB l) ∧ f 8 = PT g27 0 ∧ f 9 = r46 ∧ f 10 = r47 ∧ f 11 = I ((kk : Int)) ∧ f 12 = (Value.slice none 0 0) ∧ H58 = H) ?_ ?_
    · refine wpF_region ?_
      refine wpL_q (U := NoB) rfl (q_assign (v := (Value.slice none 0 0)) rfl rfl) ?_
      exact ⟨a58_1, a58_2, a58_5, a58_6, a58_7, a58_8, a58_9, a58_10, a58_11, rfl, rfl⟩
    rintro f61 _ ⟨a61_1, a61_2, a61_5, a61_6, a61_7, a61_8, a61_9, a61_10, a61_11, a61_12, rfl⟩
    clear a58_1 a58_10 a58_11 a58_2 a58_5 a58_6 a58_7 a58_8 a58_88 a58_9
    have hS62 : St H0 NoB NoB [rowE 32 (Value.slice none 0 0) ([] : List (List Int)), rdE r46 (comeL l), rdE r47 fr72, blkE g27 (.cells #[I ((loopFault l).1), I ((loopFault l).2)] 27), rdE r23 (badL l), blkE g17 (.cells #[I ((loopFault l).1), I ((loopFault l).2)] 27), blkE g1 (.cells #[wa, wb, wc, wd, we] 42), rdE wa l.Low, rdE wb l.High, rdE wc l.Start, rdE wd l.Jumps, rdE we l.Bad, rdE vr r] H58 := hS58.row0 32
    refine wpF_seq ?_
    refine wpF_seq ?_
    refine wpF_cut (fun f H => f 1 = vr ∧ f 2 = PT g1 0 ∧ f 5 = PT g17 0 ∧ f 6 = r23 ∧ f 7 = B (badB l) ∧ f 8 = PT g27 0 ∧ f 9 = r46 ∧ f 10 = r47 ∧ f 11 = I ((kk : Int)) ∧ f 12 = (Value.slice none 0 0) ∧ f 13 = I ((kk : Int)) ∧ H58 = H) ?_ ?_
    · refine wpF_region ?_
      refine wpL_q (U := NoB) rfl (q_move (v := I ((kk : Int))) rfl a61_11) ?_
      refine wpL_q (U := NoB) rfl (q_assign (v := I ((kk : Int))) rfl rfl) ?_
      exact ⟨a61_1, a61_2, a61_5, a61_6, a61_7, a61_8, a61_9, a61_10, a61_11, a61_12, rfl, rfl⟩
    rintro f63 _ ⟨a63_1, a63_2, a63_5, a63_6, a63_7, a63_8, a63_9, a63_10, a63_11, a63_12, a63_13, rfl⟩
    clear a61_1 a61_10 a61_11 a61_12 a61_2 a61_5 a61_6 a61_7 a61_8 a61_9
    refine wpF_block ?_
    refine wpF_loop (fun mz f H => ∃ (z : Int), ∃ (pr : List Nat), ∃ (wl : List (List Int)), ∃ (vw : Value), mz = (z + 1).toNat ∧ (Want l kk z pr) ∧ (wl = (pr.map (nth (comeL l))).reverse) ∧ f 1 = vr ∧ f 2 = PT g1 0 ∧ f 5 = PT g17 0 ∧ f 6 = r23 ∧ f 7 = B (badB l) ∧ f 8 = PT g27 0 ∧ f 9 = r46 ∧ f 10 = r47 ∧ f 11 = I ((kk : Int)) ∧ f 12 = vw ∧ f 13 = I (z) ∧ St H0 NoB NoB [rowE 32 vw (wl : List (List Int)), rdE r46 (comeL l), rdE r47 fr72, blkE g27 (.cells #[I ((loopFault l).1), I ((loopFault l).2)] 27), rdE r23 (badL l), blkE g17 (.cells #[I ((loopFault l).1), I ((loopFault l).2)] 27), blkE g1 (.cells #[wa, wb, wc, wd, we] 42), rdE wa l.Low, rdE wb l.High, rdE wc l.Start, rdE wd l.Jumps, rdE we l.Bad, rdE vr r] H) (((kk : Int) + 1).toNat) ?_ ?_
    · exact ⟨(kk : Int), [], [], (Value.slice none 0 0), rfl, Want.start, rfl, a63_1, a63_2, a63_5, a63_6, a63_7, a63_8, a63_9, a63_10, a63_11, a63_12, a63_13, (show St H0 NoB NoB [rowE 32 (Value.slice none 0 0) (([]) : List (List Int)), rdE r46 (comeL l), rdE r47 fr72, blkE g27 (.cells #[I ((loopFault l).1), I ((loopFault l).2)] 27), rdE r23 (badL l), blkE g17 (.cells #[I ((loopFault l).1), I ((loopFault l).2)] 27), blkE g1 (.cells #[wa, wb, wc, wd, we] 42), rdE wa l.Low, rdE wb l.High, rdE wc l.Start, rdE wd l.Jumps, rdE we l.Bad, rdE vr r] H58 from hS62)⟩
    intro m64 f64 H64 hI64
    obtain ⟨z, pr, wl, vw, hm64, hwt, hwl, a64_1, a64_2, a64_5, a64_6, a64_7, a64_8, a64_9, a64_10, a64_11, a64_12, a64_13, hS64⟩ := hI64
    clear a63_1 a63_10 a63_11 a63_12 a63_13 a63_2 a63_5 a63_6 a63_7 a63_8 a63_9
    refine wpF_seq ?_
    refine wpF_seq ?_
    refine wpF_cut (fun f H => f 1 = vr ∧ f 2 = PT g1 0 ∧ f 5 = PT g17 0 ∧ f 6 = r23 ∧ f 7 = B (badB l) ∧ f 8 = PT g27 0 ∧ f 9 = r46 ∧ f 10 = r47 ∧ f 11 = I ((kk : Int)) ∧ f 12 = vw ∧ f 13 = I (z) ∧ f 99 = B (decide ((z < ((comeL l).length : Int)) ∧ (0 ≤ z))) ∧ H64 = H) ?_ ?_
    · refine wpF_region ?_
      refine wpL_q (U := NoB) rfl (q_move (v := I (z)) rfl a64_13) ?_
      refine wpL_q (U := NoB) rfl (q_move (v := r46) rfl a64_9) ?_
      refine wpL_q (U := NoB) rfl (q_lenRd rfl Try.underlying23 rfl (hS64.rdl 1 rfl)) ?_
      refine wpL_q (U := NoB) rfl (q_lss rfl rfl rfl) ?_
      refine wpL_q (U := NoB) rfl (q_move (v := B (decide (z < ((comeL l).length : Int)))) rfl rfl) ?_
      by_cases hg65 : z < ((comeL l).length : Int)
      · have hb66 := Eq.trans rfl (congrArg B (decide_eq_true hg65))
        refine wpL_gq (U := NoB) rfl rfl rfl hb66 (q_move (v := I (z)) rfl a64_13) ?_
        refine wpL_gq (U := NoB) rfl rfl rfl hb66 (q_geq rfl rfl rfl) ?_
        refine wpL_q (U := NoB) rfl (q_pickT (v := B (decide (0 ≤ z))) rfl hb66 rfl) ?_
        exact ⟨a64_1, a64_2, a64_5, a64_6, a64_7, a64_8, a64_9, a64_10, a64_11, a64_12, a64_13, (Eq.trans rfl (congrArg B (decide_congr_of ((Iff.rfl).trans (((and_iff_right hg65).trans Iff.rfl)).symm)))), rfl⟩
      · have hb67 := Eq.trans rfl (congrArg B (decide_eq_false hg65))
        refine wpL_gs rfl rfl rfl hb67 rfl ?_
        refine wpL_gs rfl rfl rfl hb67 rfl ?_
        refine wpL_q (U := NoB) rfl (q_pickF (v := B (false)) rfl hb67 rfl) ?_
        exact ⟨a64_1, a64_2, a64_5, a64_6, a64_7, a64_8, a64_9, a64_10, a64_11, a64_12, a64_13, (Eq.trans rfl (congrArg B ((decide_eq_false (fun h => hg65 h.1)).symm))), rfl⟩
    rintro f68 _ ⟨a68_1, a68_2, a68_5, a68_6, a68_7, a68_8, a68_9, a68_10, a68_11, a68_12, a68_13, a68_99, rfl⟩
    clear a64_1 a64_10 a64_11 a64_12 a64_13 a64_2 a64_5 a64_6 a64_7 a64_8 a64_9
    refine wpF_condP a68_99 (fun h99 => ?t111) (fun h99 => ?e111)
    case t111 =>
      have hwn := hwt.next hl (fr := fr72) hofr72 hlfr72 h99
      have hwll : wl.length = pr.length := by rw [hwl]; simp
      refine wpF_skip ?_
      refine wpF_seq ?_
      refine wpF_block ?_
      obtain ⟨u70, huu70, hlu70⟩ := (Rd.list.1 (hS64.rdS 1 rfl)).elem ((z).toNat) (by omega)
      have hS71 : St H0 NoB NoB [rdE u70 (nth (comeL l) ((z).toNat)), rowE 32 vw (wl : List (List Int)), rdE r46 (comeL l), rdE r47 fr72, blkE g27 (.cells #[I ((loopFault l).1), I ((loopFault l).2)] 27), rdE r23 (badL l), blkE g17 (.cells #[I ((loopFault l).1), I ((loopFault l).2)] 27), blkE g1 (.cells #[wa, wb, wc, wd, we] 42), rdE wa l.Low, rdE wb l.High, rdE wc l.Start, rdE wd l.Jumps, rdE we l.Bad, rdE vr r] H64 := hS64.rd huu70
      refine wpF_cut (fun f H => ∃ (v77 : Value), f 1 = vr ∧ f 2 = PT g1 0 ∧ f 5 = PT g17 0 ∧ f 6 = r23 ∧ f 7 = B (badB l) ∧ f 8 = PT g27 0 ∧ f 9 = r46 ∧ f 10 = r47 ∧ f 11 = I ((kk : Int)) ∧ f 12 = v77 ∧ f 13 = I (z) ∧ St H0 NoB NoB [rowE 32 v77 (([nth (comeL l) ((z).toNat)]) ++ wl : List (List Int)), rdE r46 (comeL l), rdE r47 fr72, blkE g27 (.cells #[I ((loopFault l).1), I ((loopFault l).2)] 27), rdE r23 (badL l), blkE g17 (.cells #[I ((loopFault l).1), I ((loopFault l).2)] 27), blkE g1 (.cells #[wa, wb, wc, wd, we] 42), rdE wa l.Low, rdE wb l.High, rdE wc l.Start, rdE wd l.Jumps, rdE we l.Bad, rdE vr r] H) ?_ ?_
      · refine wpF_region ?_
        refine wpL_q (U := NoB) rfl (q_move (v := r46) rfl a68_9) ?_
        refine wpL_q (U := NoB) rfl (q_move (v := I (z)) rfl a68_13) ?_
        refine wpL_q (U := NoB) rfl (q_indexRd (k := (z).toNat) rfl Try.underlying23 el_LInt_32_HoldSays1 rfl rfl (hS64.rdl 1 rfl) (by omega) (by omega)) ?_
        refine wpL_q (U := NoB) rfl (q_loadE rfl rfl (hlu70 Try.prog 32 _ el_LInt_32_HoldSays1 (fun _ h => False.elim h))) ?_
        refine wpL_o rfl ?_
        refine e_buildSlice (vs := [u70]) (xs := ([nth (comeL l) ((z).toNat)] : List (List Int))) rfl Try.underlying23 Try.zeroValue32 rfl Try.sizeOf32 (par1 (v0 := u70) rfl) rfl hS71 (RdVs.cons (hS71.rdS 0 rfl) (RdVs.nil)) (by decide) (by decide) (fun v72 H73 hS74 hxx hvv72 => ?_)
        replace hS74 : St H0 NoB NoB [rowE 32 v72 ([nth (comeL l) ((z).toNat)] : List (List Int)), rdE u70 (nth (comeL l) ((z).toNat)), rowE 32 vw (wl : List (List Int)), rdE r46 (comeL l), rdE r47 fr72, blkE g27 (.cells #[I ((loopFault l).1), I ((loopFault l).2)] 27), rdE r23 (badL l), blkE g17 (.cells #[I ((loopFault l).1), I ((loopFault l).2)] 27), blkE g1 (.cells #[wa, wb, wc, wd, we] 42), rdE wa l.Low, rdE wb l.High, rdE wc l.Start, rdE wd l.Jumps, rdE we l.Bad, rdE vr r] H73 := hS74
        refine wpL_q (U := NoB) rfl (q_move (v := vw) rfl a68_12) ?_
        have hS75 : St H0 NoB NoB [rdE vw wl, rowE 32 v72 ([nth (comeL l) ((z).toNat)] : List (List Int)), rdE u70 (nth (comeL l) ((z).toNat)), rdE r46 (comeL l), rdE r47 fr72, blkE g27 (.cells #[I ((loopFault l).1), I ((loopFault l).2)] 27), rdE r23 (badL l), blkE g17 (.cells #[I ((loopFault l).1), I ((loopFault l).2)] 27), blkE g1 (.cells #[wa, wb, wc, wd, we] 42), rdE wa l.Low, rdE wb l.High, rdE wc l.Start, rdE wd l.Jumps, rdE we l.Bad, rdE vr r] H73 := St.fin (hS74.front 2 rfl)
        have hS76 : St H0 NoB NoB [rowE 32 v72 ([nth (comeL l) ((z).toNat)] : List (List Int)), rdE vw wl, rdE u70 (nth (comeL l) ((z).toNat)), rdE r46 (comeL l), rdE r47 fr72, blkE g27 (.cells #[I ((loopFault l).1), I ((loopFault l).2)] 27), rdE r23 (badL l), blkE g17 (.cells #[I ((loopFault l).1), I ((loopFault l).2)] 27), blkE g1 (.cells #[wa, wb, wc, wd, we] 42), rdE wa l.Low, rdE wb l.High, rdE wc l.Start, rdE wd l.Jumps, rdE we l.Bad, rdE vr r] H73 := (hS75.front 1 rfl)
        refine wpL_o rfl ?_
        refine e_append rfl Try.underlying23 em_LInt_32_HoldSays1 rfl rfl hS76 (hS76.rdS 1 rfl) (fun _ h => h) (by have hb : GoT.bytes (List Int) = 24 := rfl; have := hwn.2.2; simp [hb]; omega) (by decide) (fun v77 H78 hS79 hxx => ?_)
        replace hS79 : St H0 NoB NoB [rowE 32 v77 (([nth (comeL l) ((z).toNat)]) ++ wl : List (List Int)), rdE vw wl, rdE u70 (nth (comeL l) ((z).toNat)), rdE r46 (comeL l), rdE r47 fr72, blkE g27 (.cells #[I ((loopFault l).1), I ((loopFault l).2)] 27), rdE r23 (badL l), blkE g17 (.cells #[I ((loopFault l).1), I ((loopFault l).2)] 27), blkE g1 (.cells #[wa, wb, wc, wd, we] 42), rdE wa l.Low, rdE wb l.High, rdE wc l.Start, rdE wd l.Jumps, rdE we l.Bad, rdE vr r] H78 := hS79
        have hS80 : St H0 NoB NoB [rowE 32 v77 (([nth (comeL l) ((z).toNat)]) ++ wl : List (List Int)), rdE vw wl, rdE u70 (nth (comeL l) ((z).toNat)), rdE r46 (comeL l), rdE r47 fr72, blkE g27 (.cells #[I ((loopFault l).1), I ((loopFault l).2)] 27), rdE r23 (badL l), blkE g17 (.cells #[I ((loopFault l).1), I ((loopFault l).2)] 27), blkE g1 (.cells #[wa, wb, wc, wd, we] 42), rdE wa l.Low, rdE wb l.High, rdE wc l.Start, rdE wd l.Jumps, rdE we l.Bad, rdE vr r] H78 := by rw [show (([nth (comeL l) ((z).toNat)]) ++ wl) = (([nth (comeL l) ((z).toNat)]) ++ wl) from rfl]; exact hS79
        refine wpL_q (U := NoB) rfl (q_assign (v := v77) rfl rfl) ?_
        exact ⟨v77, a68_1, a68_2, a68_5, a68_6, a68_7, a68_8, a68_9, a68_10, a68_11, rfl, a68_13, (hS80.drop (sk (sn (sn (sk (sk (sk (sk (sk (sk (sk (sk (sk (sk (sk (sk (List.Sublist.slnil)))))))))))))))))⟩
      rintro f81 H81 ⟨v77, a81_1, a81_2, a81_5, a81_6, a81_7, a81_8, a81_9, a81_10, a81_11, a81_12, a81_13, hS81⟩
      clear a68_1 a68_10 a68_11 a68_12 a68_13 a68_2 a68_5 a68_6 a68_7 a68_8 a68_9 a68_99
      refine wpF_cut (fun f H => f 1 = vr ∧ f 2 = PT g1 0 ∧ f 5 = PT g17 0 ∧ f 6 = r23 ∧ f 7 = B (badB l) ∧ f 8 = PT g27 0 ∧ f 9 = r46 ∧ f 10 = r47 ∧ f 11 = I ((kk : Int)) ∧ f 12 = v77 ∧ f 13 = I (nth fr72 ((z).toNat)) ∧ H81 = H) ?_ ?_
      · refine wpF_region ?_
        refine wpL_q (U := NoB) rfl (q_move (v := r47) rfl a81_10) ?_
        refine wpL_q (U := NoB) rfl (q_move (v := I (z)) rfl a81_13) ?_
        refine wpL_q (U := NoB) rfl (q_indexRd (k := (z).toNat) rfl Try.underlying32 el_Int_3_HoldSays1 rfl rfl (hS81.rdl 2 rfl) (by omega) (by omega)) ?_
        refine wpL_q (U := NoB) rfl (q_loadInt (k := (z).toNat) rfl rfl el_Int_3_HoldSays1 (hS81.rdl 2 rfl) (by omega) (fun _ h => h)) ?_
        refine wpL_q (U := NoB) rfl (q_assign (v := I (nth fr72 ((z).toNat))) rfl rfl) ?_
        exact ⟨a81_1, a81_2, a81_5, a81_6, a81_7, a81_8, a81_9, a81_10, a81_11, a81_12, rfl, rfl⟩
      rintro f82 _ ⟨a82_1, a82_2, a82_5, a82_6, a82_7, a82_8, a82_9, a82_10, a82_11, a82_12, a82_13, rfl⟩
      clear a81_1 a81_10 a81_11 a81_12 a81_13 a81_2 a81_5 a81_6 a81_7 a81_8 a81_9
      have hwz := hwn.2.1
      refine ⟨_, ?_, nth fr72 z.toNat, pr ++ [z.toNat], ([nth (comeL l) ((z).toNat)]) ++ wl, v77, rfl, hwn.1, (by rw [hwl]; simp), a82_1, a82_2, a82_5, a82_6, a82_7, a82_8, a82_9, a82_10, a82_11, a82_12, (Eq.trans a82_13 (congrArg I (by omega))), (show St H0 NoB NoB [rowE 32 v77 ((([nth (comeL l) ((z).toNat)]) ++ wl) : List (List Int)), rdE r46 (comeL l), rdE r47 fr72, blkE g27 (.cells #[I ((loopFault l).1), I ((loopFault l).2)] 27), rdE r23 (badL l), blkE g17 (.cells #[I ((loopFault l).1), I ((loopFault l).2)] 27), blkE g1 (.cells #[wa, wb, wc, wd, we] 42), rdE wa l.Low, rdE wb l.High, rdE wc l.Start, rdE wd l.Jumps, rdE we l.Bad, rdE vr r] H81 from hS81)⟩
      omega
    refine wpF_exit ?_
    refine atX_here ?_
    refine wpF_seq ?_
    refine wpF_seq ?_
    refine wpF_cut (fun f H => f 1 = vr ∧ f 2 = PT g1 0 ∧ f 5 = PT g17 0 ∧ f 127 = B (decide (((((loopFault l).1) ≠ 0) ∨ ((badB l) ≠ (decide ((kk : Int) < ((comeL l).length : Int))))) ∨ (¬ ((badL l) = wl)))) ∧ St H0 NoB NoB [rowE 32 vw (wl : List (List Int)), blkE g27 (.cells #[I ((loopFault l).1), I ((loopFault l).2)] 27), blkE g17 (.cells #[I ((loopFault l).1), I ((loopFault l).2)] 27), blkE g1 (.cells #[wa, wb, wc, wd, we] 42), rdE wa l.Low, rdE wb l.High, rdE wc l.Start, rdE wd l.Jumps, rdE we l.Bad, rdE vr r] H) ?_ ?_
    · refine wpF_region ?_
      refine wpL_q (U := NoB) rfl (q_fieldAddr rfl Try.underlying27 rfl Try.sizeOf3 a68_8) ?_
      refine wpL_q (U := NoB) rfl (q_loadBlk rfl rfl Try.isAgg3 (hS64.blk 3 rfl) rfl (fun h => h)) ?_
      refine wpL_q (U := NoB) rfl (q_neq rfl rfl rfl) ?_
      refine wpL_q (U := NoB) rfl (q_move (v := B (decide (((loopFault l).1) ≠ 0))) rfl rfl) ?_
      by_cases hg83 : ((loopFault l).1) ≠ 0
      · have hb84 := Eq.trans rfl (congrArg B (decide_eq_true hg83))
        refine wpL_gs rfl rfl rfl hb84 rfl ?_
        refine wpL_gs rfl rfl rfl hb84 rfl ?_
        refine wpL_gs rfl rfl rfl hb84 rfl ?_
        refine wpL_gs rfl rfl rfl hb84 rfl ?_
        refine wpL_gs rfl rfl rfl hb84 rfl ?_
        refine wpL_gs rfl rfl rfl hb84 rfl ?_
        refine wpL_q (U := NoB) rfl (q_pickT (v := B (true)) rfl hb84 rfl) ?_
        refine wpL_q (U := NoB) rfl (q_move (v := B (true)) rfl rfl) ?_
        refine wpL_gs rfl rfl rfl rfl rfl ?_
        refine wpL_gs rfl rfl rfl rfl rfl ?_
        refine wpL_gs rfl rfl rfl rfl rfl ?_
        refine wpL_gs rfl rfl rfl rfl rfl ?_
        refine wpL_q (U := NoB) rfl (q_pickT (v := B (true)) rfl rfl rfl) ?_
        exact ⟨a68_1, a68_2, a68_5, (Eq.trans rfl (congrArg B ((decide_eq_true (Or.inl (Or.inl hg83))).symm))), (hS64.drop (sk (sn (sn (sk (sn (sk (sk (sk (sk (sk (sk (sk (sk (List.Sublist.slnil)))))))))))))))⟩
      · have hb85 := Eq.trans rfl (congrArg B (decide_eq_false hg83))
        refine wpL_gq (U := NoB) rfl rfl rfl hb85 (q_move (v := B (badB l)) rfl a68_7) ?_
        refine wpL_gq (U := NoB) rfl rfl rfl hb85 (q_move (v := I ((kk : Int))) rfl a68_11) ?_
        refine wpL_gq (U := NoB) rfl rfl rfl hb85 (q_move (v := r46) rfl a68_9) ?_
        refine wpL_gq (U := NoB) rfl rfl rfl hb85 (q_lenRd rfl Try.underlying23 rfl (hS64.rdl 1 rfl)) ?_
        refine wpL_gq (U := NoB) rfl rfl rfl hb85 (q_lss rfl rfl rfl) ?_
        refine wpL_gq (U := NoB) rfl rfl rfl hb85 (q_neqB rfl Try.underlying4 rfl rfl) ?_
        refine wpL_q (U := NoB) rfl (q_pickF (v := B (decide ((badB l) ≠ (decide ((kk : Int) < ((comeL l).length : Int)))))) rfl hb85 rfl) ?_
        refine wpL_q (U := NoB) rfl (q_move (v := B (decide ((badB l) ≠ (decide ((kk : Int) < ((comeL l).length : Int)))))) rfl rfl) ?_
        by_cases hg86 : (badB l) ≠ (decide ((kk : Int) < ((comeL l).length : Int)))
        · have hb87 := Eq.trans rfl (congrArg B (decide_eq_true hg86))
          refine wpL_gs rfl rfl rfl hb87 rfl ?_
          refine wpL_gs rfl rfl rfl hb87 rfl ?_
          refine wpL_gs rfl rfl rfl hb87 rfl ?_
          refine wpL_gs rfl rfl rfl hb87 rfl ?_
          refine wpL_q (U := NoB) rfl (q_pickT (v := B (true)) rfl hb87 rfl) ?_
          exact ⟨a68_1, a68_2, a68_5, (Eq.trans rfl (congrArg B ((decide_eq_true (Or.inl (Or.inr hg86))).symm))), (hS64.drop (sk (sn (sn (sk (sn (sk (sk (sk (sk (sk (sk (sk (sk (List.Sublist.slnil)))))))))))))))⟩
        · have hb88 := Eq.trans rfl (congrArg B (decide_eq_false hg86))
          refine wpL_gq (U := NoB) rfl rfl rfl hb88 (q_move (v := r23) rfl a68_6) ?_
          refine wpL_gq (U := NoB) rfl rfl rfl hb88 (q_move (v := vw) rfl a68_12) ?_
          refine wpL_go rfl rfl rfl hb88 ?_
          refine e_call rfl Try.call29 (arr2 (v0 := r23) (v1 := vw) rfl rfl) (rows_L r23 vw _ _ (hS64.rdN 4 rfl) (hS64.rowN 0 rfl)) ?_
          rintro _ H89 ⟨hxx, rfl⟩
          have hS90 : St H0 NoB NoB [rowE 32 vw (wl : List (List Int)), rdE r46 (comeL l), rdE r47 fr72, blkE g27 (.cells #[I ((loopFault l).1), I ((loopFault l).2)] 27), rdE r23 (badL l), blkE g17 (.cells #[I ((loopFault l).1), I ((loopFault l).2)] 27), blkE g1 (.cells #[wa, wb, wc, wd, we] 42), rdE wa l.Low, rdE wb l.High, rdE wc l.Start, rdE wd l.Jumps, rdE we l.Bad, rdE vr r] H89 := hS64.ext hxx
          refine wpL_gq (U := NoB) rfl rfl rfl hb88 (q_notP rfl rfl) ?_
          refine wpL_q (U := NoB) rfl (q_pickF (v := B (decide (¬ ((badL l) = wl)))) rfl hb88 rfl) ?_
          exact ⟨a68_1, a68_2, a68_5, (Eq.trans rfl (congrArg B (decide_congr_of (((not_congr Iff.rfl)).trans (((or_iff_right (not_or.2 ⟨hg83, hg86⟩)).trans (not_congr Iff.rfl))).symm)))), (hS90.drop (sk (sn (sn (sk (sn (sk (sk (sk (sk (sk (sk (sk (sk (List.Sublist.slnil)))))))))))))))⟩
    rintro f92 H92 ⟨a92_1, a92_2, a92_5, a92_127, hS92⟩
    clear a68_1 a68_10 a68_11 a68_12 a68_13 a68_2 a68_5 a68_6 a68_7 a68_8 a68_9 a68_99
    refine wpF_condP a92_127 (fun h127 => ?t110) (fun h127 => ?e110)
    case t110 =>
      refine wpF_seq ?_
      refine wpF_cut (fun f H => f 4 = B (false) ∧ H92 = H) ?_ ?_
      · refine wpF_region ?_
        refine wpL_q (U := NoB) rfl (q_assign (v := B (false)) rfl rfl) ?_
        exact ⟨rfl, rfl⟩
      rintro f94 _ ⟨a94_4, rfl⟩
      clear a92_1 a92_127 a92_2 a92_5
      refine wpF_ret ?_
      refine ⟨_, resT a94_4 resN, hS92.frame, ?_⟩
      show (B (false)) = B true
      exfalso
      have hwd := hwt.done hl h99 hno hkk h88 hwl
      rcases h127 with (h | h) | h
      · exact h (by rw [hl.code])
      · exact h hwd.1
      · exact h hwd.2
    refine wpF_skip ?_
    refine wpF_seq ?_
    refine wpF_cut (fun f H => f 1 = vr ∧ f 2 = PT g1 0 ∧ f 5 = PT g17 0 ∧ f 133 = B (decide ((rowsFault r (l.Low.length : Int)) ≠ 0)) ∧ St H0 NoB NoB [rowE 32 vw (wl : List (List Int)), blkE g27 (.cells #[I ((loopFault l).1), I ((loopFault l).2)] 27), blkE g17 (.cells #[I ((loopFault l).1), I ((loopFault l).2)] 27), blkE g1 (.cells #[wa, wb, wc, wd, we] 42), rdE wa l.Low, rdE wb l.High, rdE wc l.Start, rdE wd l.Jumps, rdE we l.Bad, rdE vr r] H) ?_ ?_
    · refine wpF_region ?_
      refine wpL_q (U := NoB) rfl (q_move (v := vr) rfl a92_1) ?_
      refine wpL_q (U := NoB) rfl (q_fieldAddr rfl Try.underlying42 rfl Try.sizeOf32 a92_2) ?_
      refine wpL_q (U := NoB) rfl (q_loadBlk rfl rfl Try.isAgg32 (hS92.blk 3 rfl) rfl (fun h => h)) ?_
      refine wpL_q (U := NoB) rfl (q_lenRd rfl Try.underlying32 rfl (hS92.rdl 4 rfl)) ?_
      refine wpL_o rfl ?_
      refine e_call rfl Try.call15 (arr2 (v0 := vr) (v1 := I ((l.Low.length : Int))) rfl rfl) (Rows_R vr r (l.Low.length : Int) (hS92.rdN 9 rfl)) ?_
      rintro _ H95 ⟨hxx, rfl⟩
      have hS96 : St H0 NoB NoB [rowE 32 vw (wl : List (List Int)), blkE g27 (.cells #[I ((loopFault l).1), I ((loopFault l).2)] 27), blkE g17 (.cells #[I ((loopFault l).1), I ((loopFault l).2)] 27), blkE g1 (.cells #[wa, wb, wc, wd, we] 42), rdE wa l.Low, rdE wb l.High, rdE wc l.Start, rdE wd l.Jumps, rdE we l.Bad, rdE vr r] H95 := hS92.ext hxx
      refine wpL_q (U := NoB) rfl (q_neq rfl rfl rfl) ?_
      exact ⟨a92_1, a92_2, a92_5, rfl, hS96⟩
    rintro f98 H98 ⟨a98_1, a98_2, a98_5, a98_133, hS98⟩
    clear a92_1 a92_127 a92_2 a92_5
    refine wpF_condP a98_133 (fun h133 => ?t109) (fun h133 => ?e109)
    case e109 =>
      refine wpF_skip ?_
      exact ⟨a98_1, a98_2, a98_5, (show St H0 NoB NoB [blkE g17 (.cells #[I ((chkFault l r).1), I ((chkFault l r).2)] 27), blkE g1 (.cells #[wa, wb, wc, wd, we] 42), rdE wa l.Low, rdE wb l.High, rdE wc l.Start, rdE wd l.Jumps, rdE we l.Bad, rdE vr r] H98 from (by have h__ := (hS98.drop (sn (sn (sk (sk (sk (sk (sk (sk (sk (sk (List.Sublist.slnil)))))))))))); (first | rw [← chk_loop (r := r) h58] at h__ | (rw [chk_no h58 h133]; rw [hl.code] at h__)); exact h__))⟩
    refine wpF_cut (fun f H => f 1 = vr ∧ f 2 = PT g1 0 ∧ f 5 = PT g17 0 ∧ St H0 NoB NoB [blkE g17 (.cells #[I (rowsFault r (l.Low.length : Int)), I (-4)] 27), rowE 32 vw (wl : List (List Int)), blkE g27 (.cells #[I ((loopFault l).1), I ((loopFault l).2)] 27), blkE g1 (.cells #[wa, wb, wc, wd, we] 42), rdE wa l.Low, rdE wb l.High, rdE wc l.Start, rdE wd l.Jumps, rdE we l.Bad, rdE vr r] H) ?_ ?_
    · refine wpF_region ?_
      refine wpL_q (U := NoB) rfl (q_move (v := vr) rfl a98_1) ?_
      refine wpL_q (U := NoB) rfl (q_fieldAddr rfl Try.underlying42 rfl Try.sizeOf32 a98_2) ?_
      refine wpL_q (U := NoB) rfl (q_loadBlk rfl rfl Try.isAgg32 (hS98.blk 3 rfl) rfl (fun h => h)) ?_
      refine wpL_q (U := NoB) rfl (q_lenRd rfl Try.underlying32 rfl (hS98.rdl 4 rfl)) ?_
      refine wpL_o rfl ?_
      refine e_call rfl Try.call15 (arr2 (v0 := vr) (v1 := I ((l.Low.length : Int))) rfl rfl) (Rows_R vr r (l.Low.length : Int) (hS98.rdN 9 rfl)) ?_
      rintro _ H100 ⟨hxx, rfl⟩
      have hS101 : St H0 NoB NoB [rowE 32 vw (wl : List (List Int)), blkE g27 (.cells #[I ((loopFault l).1), I ((loopFault l).2)] 27), blkE g17 (.cells #[I ((loopFault l).1), I ((loopFault l).2)] 27), blkE g1 (.cells #[wa, wb, wc, wd, we] 42), rdE wa l.Low, rdE wb l.High, rdE wc l.Start, rdE wd l.Jumps, rdE we l.Bad, rdE vr r] H100 := hS98.ext hxx
      refine wpL_o rfl ?_
      refine e_call rfl Try.call13 (arr2 (v0 := I (rowsFault r (l.Low.length : Int))) (v1 := I (-4)) rfl rfl) (fault_L (rowsFault r (l.Low.length : Int)) (-4)) ?_
      rintro _ H103 ⟨hxx, rfl⟩
      have hS104 : St H0 NoB NoB [rowE 32 vw (wl : List (List Int)), blkE g27 (.cells #[I ((loopFault l).1), I ((loopFault l).2)] 27), blkE g17 (.cells #[I ((loopFault l).1), I ((loopFault l).2)] 27), blkE g1 (.cells #[wa, wb, wc, wd, we] 42), rdE wa l.Low, rdE wb l.High, rdE wc l.Start, rdE wd l.Jumps, rdE we l.Bad, rdE vr r] H103 := hS101.ext hxx
      refine wpL_o rfl ?_
      refine e_storeBlkA (cs' := #[I (rowsFault r (l.Low.length : Int)), I (-4)]) rfl a98_5 rfl Try.sizeOf27 rfl rfl (List.forall_mem_cons.2 ⟨rfl, List.forall_mem_cons.2 ⟨rfl, List.forall_mem_nil _⟩⟩) (hS104.front 2 rfl) (fun H106 hS107 hxx => ?_)
      replace hS107 : St H0 NoB NoB [blkE g17 (.cells #[I (rowsFault r (l.Low.length : Int)), I (-4)] 27), rowE 32 vw (wl : List (List Int)), blkE g27 (.cells #[I ((loopFault l).1), I ((loopFault l).2)] 27), blkE g1 (.cells #[wa, wb, wc, wd, we] 42), rdE wa l.Low, rdE wb l.High, rdE wc l.Start, rdE wd l.Jumps, rdE we l.Bad, rdE vr r] H106 := hS107
      exact ⟨a98_1, a98_2, a98_5, hS107⟩
    rintro f108 H108 ⟨a108_1, a108_2, a108_5, hS108⟩
    clear a98_1 a98_133 a98_2 a98_5
    exact ⟨a108_1, a108_2, a108_5, (show St H0 NoB NoB [blkE g17 (.cells #[I ((chkFault l r).1), I ((chkFault l r).2)] 27), blkE g1 (.cells #[wa, wb, wc, wd, we] 42), rdE wa l.Low, rdE wb l.High, rdE wc l.Start, rdE wd l.Jumps, rdE we l.Bad, rdE vr r] H108 from (by have h__ := (hS108.drop (sk (sn (sn (sk (sk (sk (sk (sk (sk (sk (List.Sublist.slnil)))))))))))); rw [chk_rows h58 h133]; exact h__))⟩
  rintro f34 H34 ⟨a34_1, a34_2, a34_5, hS34⟩
  clear a33_1 a33_2 a33_5 a33_58 a33_6 a33_7 a33_8
  refine wpF_seq ?_
  refine wpF_cut (fun f H => ∃ (r114 : Value), ∃ (g118 : Nat), f 1 = vr ∧ f 2 = PT g1 0 ∧ f 5 = PT g17 0 ∧ f 14 = B (keptB l r) ∧ f 15 = r114 ∧ f 16 = PT g118 0 ∧ St H0 NoB NoB [blkE g118 (.cells #[I ((chkFault l r).1), I ((chkFault l r).2)] 27), rdE r114 (keptS l r), blkE g17 (.cells #[I ((chkFault l r).1), I ((chkFault l r).2)] 27), blkE g1 (.cells #[wa, wb, wc, wd, we] 42), rdE wa l.Low, rdE wb l.High, rdE wc l.Start, rdE wd l.Jumps, rdE we l.Bad, rdE vr r] H) ?_ ?_
  · refine wpF_region ?_
    refine wpL_q (U := NoB) rfl (q_loadBlkA rfl a34_2 Try.isAgg42 Try.sizeOf42 rfl (hS34.blk 1 rfl) (fun h => h)) ?_
    refine wpL_q (U := NoB) rfl (q_move (v := vr) rfl a34_1) ?_
    refine wpL_o rfl ?_
    refine e_call rfl Try.call21 (arr2 (v0 := Value.agg #[wa, wb, wc, wd, we]) (v1 := vr) rfl rfl) (Kept_L wa wb wc wd we vr l r (hS34.rdS 2 rfl) (hS34.rdS 3 rfl) (hS34.rdS 4 rfl) (hS34.rdS 5 rfl) (hS34.rdS 6 rfl) (hS34.rdS 7 rfl) ) ?_
    rintro _ H115 ⟨hxx, r114, rfl, hrr114⟩
    have hS116 : St H0 NoB NoB [rdE r114 (keptS l r), blkE g17 (.cells #[I ((chkFault l r).1), I ((chkFault l r).2)] 27), blkE g1 (.cells #[wa, wb, wc, wd, we] 42), rdE wa l.Low, rdE wb l.High, rdE wc l.Start, rdE wd l.Jumps, rdE we l.Bad, rdE vr r] H115 := hS34.res hxx hrr114
    refine wpL_q (U := NoB) rfl (q_move (v := Value.tuple #[B (keptB l r), r114, Value.agg #[I ((chkFault l r).1), I ((chkFault l r).2)]]) rfl rfl) ?_
    refine wpL_q (U := NoB) rfl (q_extract (vs := #[B (keptB l r), r114, Value.agg #[I ((chkFault l r).1), I ((chkFault l r).2)]]) (v := B (keptB l r)) rfl rfl rfl) ?_
    refine wpL_q (U := NoB) rfl (q_extract (vs := #[B (keptB l r), r114, Value.agg #[I ((chkFault l r).1), I ((chkFault l r).2)]]) (v := r114) rfl rfl rfl) ?_
    refine wpL_q (U := NoB) rfl (q_extract (vs := #[B (keptB l r), r114, Value.agg #[I ((chkFault l r).1), I ((chkFault l r).2)]]) (v := Value.agg #[I ((chkFault l r).1), I ((chkFault l r).2)]) rfl rfl rfl) ?_
    refine wpL_o rfl ?_
    refine e_alloc rfl Try.zeroValue27 hS116 (fun g118 H119 hS120 hxx => ?_)
    replace hS120 : St H0 NoB NoB [blkE g118 (.cells #[I (0), I (0)] 27), rdE r114 (keptS l r), blkE g17 (.cells #[I ((chkFault l r).1), I ((chkFault l r).2)] 27), blkE g1 (.cells #[wa, wb, wc, wd, we] 42), rdE wa l.Low, rdE wb l.High, rdE wc l.Start, rdE wd l.Jumps, rdE we l.Bad, rdE vr r] H119 := hS120
    refine wpL_q (U := NoB) rfl (q_assign (v := B (keptB l r)) rfl rfl) ?_
    refine wpL_q (U := NoB) rfl (q_assign (v := r114) rfl rfl) ?_
    refine wpL_o rfl ?_
    refine e_storeBlkA (cs' := #[I ((chkFault l r).1), I ((chkFault l r).2)]) rfl rfl rfl Try.sizeOf27 rfl rfl (List.forall_mem_cons.2 ⟨rfl, List.forall_mem_cons.2 ⟨rfl, List.forall_mem_nil _⟩⟩) hS120 (fun H121 hS122 hxx => ?_)
    replace hS122 : St H0 NoB NoB [blkE g118 (.cells #[I ((chkFault l r).1), I ((chkFault l r).2)] 27), rdE r114 (keptS l r), blkE g17 (.cells #[I ((chkFault l r).1), I ((chkFault l r).2)] 27), blkE g1 (.cells #[wa, wb, wc, wd, we] 42), rdE wa l.Low, rdE wb l.High, rdE wc l.Start, rdE wd l.Jumps, rdE we l.Bad, rdE vr r] H121 := hS122
    exact ⟨r114, g118, a34_1, a34_2, a34_5, rfl, rfl, rfl, hS122⟩
  rintro f123 H123 ⟨r114, g118, a123_1, a123_2, a123_5, a123_14, a123_15, a123_16, hS123⟩
  clear a34_1 a34_2 a34_5
  refine wpF_seq ?_
  refine wpF_cut (fun f H => ∃ (r124 : Value), ∃ (g128 : Nat), f 1 = vr ∧ f 2 = PT g1 0 ∧ f 5 = PT g17 0 ∧ f 14 = B (keptB l r) ∧ f 15 = r114 ∧ f 16 = PT g118 0 ∧ f 17 = r124 ∧ f 18 = PT g128 0 ∧ St H0 NoB NoB [blkE g128 (.cells #[I ((chkFault l r).1), I ((chkFault l r).2)] 27), rdE r124 (holdMost l r), blkE g118 (.cells #[I ((chkFault l r).1), I ((chkFault l r).2)] 27), rdE r114 (keptS l r), blkE g17 (.cells #[I ((chkFault l r).1), I ((chkFault l r).2)] 27), blkE g1 (.cells #[wa, wb, wc, wd, we] 42), rdE wa l.Low, rdE wb l.High, rdE wc l.Start, rdE wd l.Jumps, rdE we l.Bad, rdE vr r] H) ?_ ?_
  · refine wpF_region ?_
    refine wpL_q (U := NoB) rfl (q_loadBlkA rfl a123_2 Try.isAgg42 Try.sizeOf42 rfl (hS123.blk 3 rfl) (fun h => h)) ?_
    refine wpL_q (U := NoB) rfl (q_move (v := vr) rfl a123_1) ?_
    refine wpL_o rfl ?_
    refine e_call rfl Try.call37 (arr2 (v0 := Value.agg #[wa, wb, wc, wd, we]) (v1 := vr) rfl rfl) (Most_L wa wb wc wd we vr l r (hS123.rdS 4 rfl) (hS123.rdS 5 rfl) (hS123.rdS 6 rfl) (hS123.rdS 7 rfl) (hS123.rdS 8 rfl) (hS123.rdS 9 rfl) ) ?_
    rintro _ H125 ⟨hxx, r124, rfl, hrr124⟩
    have hS126 : St H0 NoB NoB [rdE r124 (holdMost l r), blkE g118 (.cells #[I ((chkFault l r).1), I ((chkFault l r).2)] 27), rdE r114 (keptS l r), blkE g17 (.cells #[I ((chkFault l r).1), I ((chkFault l r).2)] 27), blkE g1 (.cells #[wa, wb, wc, wd, we] 42), rdE wa l.Low, rdE wb l.High, rdE wc l.Start, rdE wd l.Jumps, rdE we l.Bad, rdE vr r] H125 := hS123.res hxx hrr124
    refine wpL_q (U := NoB) rfl (q_move (v := Value.tuple #[r124, Value.agg #[I ((chkFault l r).1), I ((chkFault l r).2)]]) rfl rfl) ?_
    refine wpL_q (U := NoB) rfl (q_extract (vs := #[r124, Value.agg #[I ((chkFault l r).1), I ((chkFault l r).2)]]) (v := r124) rfl rfl rfl) ?_
    refine wpL_q (U := NoB) rfl (q_extract (vs := #[r124, Value.agg #[I ((chkFault l r).1), I ((chkFault l r).2)]]) (v := Value.agg #[I ((chkFault l r).1), I ((chkFault l r).2)]) rfl rfl rfl) ?_
    refine wpL_o rfl ?_
    refine e_alloc rfl Try.zeroValue27 hS126 (fun g128 H129 hS130 hxx => ?_)
    replace hS130 : St H0 NoB NoB [blkE g128 (.cells #[I (0), I (0)] 27), rdE r124 (holdMost l r), blkE g118 (.cells #[I ((chkFault l r).1), I ((chkFault l r).2)] 27), rdE r114 (keptS l r), blkE g17 (.cells #[I ((chkFault l r).1), I ((chkFault l r).2)] 27), blkE g1 (.cells #[wa, wb, wc, wd, we] 42), rdE wa l.Low, rdE wb l.High, rdE wc l.Start, rdE wd l.Jumps, rdE we l.Bad, rdE vr r] H129 := hS130
    refine wpL_q (U := NoB) rfl (q_assign (v := r124) rfl rfl) ?_
    refine wpL_o rfl ?_
    refine e_storeBlkA (cs' := #[I ((chkFault l r).1), I ((chkFault l r).2)]) rfl rfl rfl Try.sizeOf27 rfl rfl (List.forall_mem_cons.2 ⟨rfl, List.forall_mem_cons.2 ⟨rfl, List.forall_mem_nil _⟩⟩) hS130 (fun H131 hS132 hxx => ?_)
    replace hS132 : St H0 NoB NoB [blkE g128 (.cells #[I ((chkFault l r).1), I ((chkFault l r).2)] 27), rdE r124 (holdMost l r), blkE g118 (.cells #[I ((chkFault l r).1), I ((chkFault l r).2)] 27), rdE r114 (keptS l r), blkE g17 (.cells #[I ((chkFault l r).1), I ((chkFault l r).2)] 27), blkE g1 (.cells #[wa, wb, wc, wd, we] 42), rdE wa l.Low, rdE wb l.High, rdE wc l.Start, rdE wd l.Jumps, rdE we l.Bad, rdE vr r] H131 := hS132
    exact ⟨r124, g128, a123_1, a123_2, a123_5, a123_14, a123_15, a123_16, rfl, rfl, hS132⟩
  rintro f133 H133 ⟨r124, g128, a133_1, a133_2, a133_5, a133_14, a133_15, a133_16, a133_17, a133_18, hS133⟩
  clear a123_1 a123_14 a123_15 a123_16 a123_2 a123_5
  refine wpF_seq ?_
  refine wpF_seq ?_
  refine wpF_cut (fun f H => f 1 = vr ∧ f 2 = PT g1 0 ∧ f 5 = PT g17 0 ∧ f 14 = B (keptB l r) ∧ f 15 = r114 ∧ f 16 = PT g118 0 ∧ f 17 = r124 ∧ f 18 = PT g128 0 ∧ f 155 = B (decide (((chkFault l r).1) ≠ 0)) ∧ H133 = H) ?_ ?_
  · refine wpF_region ?_
    refine wpL_q (U := NoB) rfl (q_fieldAddr rfl Try.underlying27 rfl Try.sizeOf3 a133_5) ?_
    refine wpL_q (U := NoB) rfl (q_loadBlk rfl rfl Try.isAgg3 (hS133.blk 4 rfl) rfl (fun h => h)) ?_
    refine wpL_q (U := NoB) rfl (q_neq rfl rfl rfl) ?_
    exact ⟨a133_1, a133_2, a133_5, a133_14, a133_15, a133_16, a133_17, a133_18, rfl, rfl⟩
  rintro f134 _ ⟨a134_1, a134_2, a134_5, a134_14, a134_15, a134_16, a134_17, a134_18, a134_155, rfl⟩
  clear a133_1 a133_14 a133_15 a133_16 a133_17 a133_18 a133_2 a133_5
  refine wpF_condP a134_155 (fun h155 => ?t283) (fun h155 => ?e283)
  case t283 =>
    refine wpF_seq ?_
    refine wpF_cut (fun f H => f 4 = B (decide (((((((chkFault l r).1) = ((chkFault l r).1) ∧ ((chkFault l r).2) = ((chkFault l r).2)) ∧ (((chkFault l r).1) = ((chkFault l r).1) ∧ ((chkFault l r).2) = ((chkFault l r).2))) ∧ ((!(keptB l r)) = true)) ∧ (((keptS l r).length : Int) = 0)) ∧ (((holdMost l r).length : Int) = 0))) ∧ H133 = H) ?_ ?_
    · refine wpF_region ?_
      refine wpL_q (U := NoB) rfl (q_loadBlkA rfl a134_16 Try.isAgg27 Try.sizeOf27 rfl (hS133.blk 2 rfl) (fun h => h)) ?_
      refine wpL_q (U := NoB) rfl (q_loadBlkA rfl a134_5 Try.isAgg27 Try.sizeOf27 rfl (hS133.blk 4 rfl) (fun h => h)) ?_
      refine wpL_q (U := NoB) rfl (q_eqlF2 rfl Try.eqGuardType27 (fl27_HoldSays1 _ _ _ _) rfl rfl) ?_
      refine wpL_q (U := NoB) rfl (q_move (v := B (decide (((chkFault l r).1) = ((chkFault l r).1) ∧ ((chkFault l r).2) = ((chkFault l r).2)))) rfl rfl) ?_
      by_cases hg136 : ((chkFault l r).1) = ((chkFault l r).1) ∧ ((chkFault l r).2) = ((chkFault l r).2)
      · have hb137 := Eq.trans rfl (congrArg B (decide_eq_true hg136))
        refine wpL_gq (U := NoB) rfl rfl rfl hb137 (q_loadBlkA rfl a134_18 Try.isAgg27 Try.sizeOf27 rfl (hS133.blk 0 rfl) (fun h => h)) ?_
        refine wpL_gq (U := NoB) rfl rfl rfl hb137 (q_loadBlkA rfl a134_5 Try.isAgg27 Try.sizeOf27 rfl (hS133.blk 4 rfl) (fun h => h)) ?_
        refine wpL_gq (U := NoB) rfl rfl rfl hb137 (q_eqlF2 rfl Try.eqGuardType27 (fl27_HoldSays1 _ _ _ _) rfl rfl) ?_
        refine wpL_q (U := NoB) rfl (q_pickT (v := B (decide (((chkFault l r).1) = ((chkFault l r).1) ∧ ((chkFault l r).2) = ((chkFault l r).2)))) rfl hb137 rfl) ?_
        refine wpL_q (U := NoB) rfl (q_move (v := B (decide (((chkFault l r).1) = ((chkFault l r).1) ∧ ((chkFault l r).2) = ((chkFault l r).2)))) rfl rfl) ?_
        by_cases hg139 : ((chkFault l r).1) = ((chkFault l r).1) ∧ ((chkFault l r).2) = ((chkFault l r).2)
        · have hb140 := Eq.trans rfl (congrArg B (decide_eq_true hg139))
          refine wpL_gq (U := NoB) rfl rfl rfl hb140 (q_move (v := B (keptB l r)) rfl a134_14) ?_
          refine wpL_gq (U := NoB) rfl rfl rfl hb140 (q_not rfl rfl) ?_
          refine wpL_q (U := NoB) rfl (q_pickT (v := B (!(keptB l r))) rfl hb140 rfl) ?_
          refine wpL_q (U := NoB) rfl (q_move (v := B (!(keptB l r))) rfl rfl) ?_
          by_cases hg142 : (!(keptB l r)) = true
          · have hb143 := Eq.trans rfl (congrArg B hg142)
            refine wpL_gq (U := NoB) rfl rfl rfl hb143 (q_move (v := r114) rfl a134_15) ?_
            refine wpL_gq (U := NoB) rfl rfl rfl hb143 (q_lenRd rfl Try.underlying32 rfl (hS133.rdl 3 rfl)) ?_
            refine wpL_gq (U := NoB) rfl rfl rfl hb143 (q_eql rfl rfl rfl) ?_
            refine wpL_q (U := NoB) rfl (q_pickT (v := B (decide (((keptS l r).length : Int) = 0))) rfl hb143 rfl) ?_
            refine wpL_q (U := NoB) rfl (q_move (v := B (decide (((keptS l r).length : Int) = 0))) rfl rfl) ?_
            by_cases hg145 : ((keptS l r).length : Int) = 0
            · have hb146 := Eq.trans rfl (congrArg B (decide_eq_true hg145))
              refine wpL_gq (U := NoB) rfl rfl rfl hb146 (q_move (v := r124) rfl a134_17) ?_
              refine wpL_gq (U := NoB) rfl rfl rfl hb146 (q_lenRd rfl Try.underlying32 rfl (hS133.rdl 1 rfl)) ?_
              refine wpL_gq (U := NoB) rfl rfl rfl hb146 (q_eql rfl rfl rfl) ?_
              refine wpL_q (U := NoB) rfl (q_pickT (v := B (decide (((holdMost l r).length : Int) = 0))) rfl hb146 rfl) ?_
              refine wpL_q (U := NoB) rfl (q_assign (v := B (decide (((holdMost l r).length : Int) = 0))) rfl rfl) ?_
              exact ⟨(Eq.trans rfl (congrArg B (decide_congr_of ((Iff.rfl).trans (((and_iff_right ⟨⟨⟨hg136, hg136⟩, hg142⟩, hg145⟩).trans Iff.rfl)).symm)))), rfl⟩
            · have hb147 := Eq.trans rfl (congrArg B (decide_eq_false hg145))
              refine wpL_gs rfl rfl rfl hb147 rfl ?_
              refine wpL_gs rfl rfl rfl hb147 rfl ?_
              refine wpL_gs rfl rfl rfl hb147 rfl ?_
              refine wpL_q (U := NoB) rfl (q_pickF (v := B (false)) rfl hb147 rfl) ?_
              refine wpL_q (U := NoB) rfl (q_assign (v := B (false)) rfl rfl) ?_
              exact ⟨(Eq.trans rfl (congrArg B ((decide_eq_false (fun h => (fun h => hg145 h.2) h.1)).symm))), rfl⟩
          · have hb144 := Eq.trans rfl (congrArg B (Bool.eq_false_iff.2 hg142))
            refine wpL_gs rfl rfl rfl hb144 rfl ?_
            refine wpL_gs rfl rfl rfl hb144 rfl ?_
            refine wpL_gs rfl rfl rfl hb144 rfl ?_
            refine wpL_q (U := NoB) rfl (q_pickF (v := B (false)) rfl hb144 rfl) ?_
            refine wpL_q (U := NoB) rfl (q_move (v := B (false)) rfl rfl) ?_
            refine wpL_gs rfl rfl rfl rfl rfl ?_
            refine wpL_gs rfl rfl rfl rfl rfl ?_
            refine wpL_gs rfl rfl rfl rfl rfl ?_
            refine wpL_q (U := NoB) rfl (q_pickF (v := B (false)) rfl rfl rfl) ?_
            refine wpL_q (U := NoB) rfl (q_assign (v := B (false)) rfl rfl) ?_
            exact ⟨(Eq.trans rfl (congrArg B ((decide_eq_false (fun h => (fun h => (fun h => hg142 h.2) h.1) h.1)).symm))), rfl⟩
        · have hb141 := Eq.trans rfl (congrArg B (decide_eq_false hg139))
          refine wpL_gs rfl rfl rfl hb141 rfl ?_
          refine wpL_gs rfl rfl rfl hb141 rfl ?_
          refine wpL_q (U := NoB) rfl (q_pickF (v := B (false)) rfl hb141 rfl) ?_
          refine wpL_q (U := NoB) rfl (q_move (v := B (false)) rfl rfl) ?_
          refine wpL_gs rfl rfl rfl rfl rfl ?_
          refine wpL_gs rfl rfl rfl rfl rfl ?_
          refine wpL_gs rfl rfl rfl rfl rfl ?_
          refine wpL_q (U := NoB) rfl (q_pickF (v := B (false)) rfl rfl rfl) ?_
          refine wpL_q (U := NoB) rfl (q_move (v := B (false)) rfl rfl) ?_
          refine wpL_gs rfl rfl rfl rfl rfl ?_
          refine wpL_gs rfl rfl rfl rfl rfl ?_
          refine wpL_gs rfl rfl rfl rfl rfl ?_
          refine wpL_q (U := NoB) rfl (q_pickF (v := B (false)) rfl rfl rfl) ?_
          refine wpL_q (U := NoB) rfl (q_assign (v := B (false)) rfl rfl) ?_
          exact ⟨(absurd hg136 hg139), rfl⟩
      · have hb138 := Eq.trans rfl (congrArg B (decide_eq_false hg136))
        refine wpL_gs rfl rfl rfl hb138 rfl ?_
        refine wpL_gs rfl rfl rfl hb138 rfl ?_
        refine wpL_gs rfl rfl rfl hb138 rfl ?_
        refine wpL_q (U := NoB) rfl (q_pickF (v := B (false)) rfl hb138 rfl) ?_
        refine wpL_q (U := NoB) rfl (q_move (v := B (false)) rfl rfl) ?_
        refine wpL_gs rfl rfl rfl rfl rfl ?_
        refine wpL_gs rfl rfl rfl rfl rfl ?_
        refine wpL_q (U := NoB) rfl (q_pickF (v := B (false)) rfl rfl rfl) ?_
        refine wpL_q (U := NoB) rfl (q_move (v := B (false)) rfl rfl) ?_
        refine wpL_gs rfl rfl rfl rfl rfl ?_
        refine wpL_gs rfl rfl rfl rfl rfl ?_
        refine wpL_gs rfl rfl rfl rfl rfl ?_
        refine wpL_q (U := NoB) rfl (q_pickF (v := B (false)) rfl rfl rfl) ?_
        refine wpL_q (U := NoB) rfl (q_move (v := B (false)) rfl rfl) ?_
        refine wpL_gs rfl rfl rfl rfl rfl ?_
        refine wpL_gs rfl rfl rfl rfl rfl ?_
        refine wpL_gs rfl rfl rfl rfl rfl ?_
        refine wpL_q (U := NoB) rfl (q_pickF (v := B (false)) rfl rfl rfl) ?_
        refine wpL_q (U := NoB) rfl (q_assign (v := B (false)) rfl rfl) ?_
        exact ⟨(Eq.trans rfl (congrArg B ((decide_eq_false (fun h => (fun h => (fun h => (fun h => hg136 h.1) h.1) h.1) h.1)).symm))), rfl⟩
    rintro f148 _ ⟨a148_4, rfl⟩
    clear a134_1 a134_14 a134_15 a134_155 a134_16 a134_17 a134_18 a134_2 a134_5
    refine wpF_ret ?_
    refine ⟨_, resT a148_4 resN, hS133.frame, ?_⟩
    show (B (decide (((((((chkFault l r).1) = ((chkFault l r).1) ∧ ((chkFault l r).2) = ((chkFault l r).2)) ∧ (((chkFault l r).1) = ((chkFault l r).1) ∧ ((chkFault l r).2) = ((chkFault l r).2))) ∧ ((!(keptB l r)) = true)) ∧ (((keptS l r).length : Int) = 0)) ∧ (((holdMost l r).length : Int) = 0)))) = B true
    have q1 : keptB l r = false := if_pos h155
    have q2 : keptS l r = [] := if_pos h155
    have q3 : holdMost l r = [] := if_pos h155
    exact congrArg B (decide_eq_true (by rw [q1, q2, q3]; simp))
  obtain ⟨hl, hrz, hcz⟩ := chk_zero (Decidable.of_not_not h155)
  have hr40 := (rowsFault_zero hrz).1
  have hsll : (statesL l).length ≤ 1200 := statesL_few hl
  refine wpF_skip ?_
  refine wpF_seq ?_
  refine wpF_cut (fun f H => ∃ (r149 : Value), f 1 = vr ∧ f 2 = PT g1 0 ∧ f 14 = B (keptB l r) ∧ f 15 = r114 ∧ f 16 = PT g118 0 ∧ f 17 = r124 ∧ f 18 = PT g128 0 ∧ f 19 = r149 ∧ f 20 = B ((lostS l r).isSome) ∧ St H0 NoB NoB [rdE r149 ((lostS l r).getD [] : List Int), blkE g128 (.cells #[I ((chkFault l r).1), I ((chkFault l r).2)] 27), rdE r124 (holdMost l r), blkE g118 (.cells #[I ((chkFault l r).1), I ((chkFault l r).2)] 27), rdE r114 (keptS l r), blkE g17 (.cells #[I ((chkFault l r).1), I ((chkFault l r).2)] 27), blkE g1 (.cells #[wa, wb, wc, wd, we] 42), rdE wa l.Low, rdE wb l.High, rdE wc l.Start, rdE wd l.Jumps, rdE we l.Bad, rdE vr r] H) ?_ ?_
  · refine wpF_region ?_
    refine wpL_q (U := NoB) rfl (q_loadBlkA rfl a134_2 Try.isAgg42 Try.sizeOf42 rfl (hS133.blk 5 rfl) (fun h => h)) ?_
    refine wpL_q (U := NoB) rfl (q_move (v := vr) rfl a134_1) ?_
    refine wpL_o rfl ?_
    refine e_call rfl Try.call38 (arr2 (v0 := Value.agg #[wa, wb, wc, wd, we]) (v1 := vr) rfl rfl) (Lost_R wa wb wc wd we vr l r (hS133.rdS 6 rfl) (hS133.rdS 7 rfl) (hS133.rdS 8 rfl) (hS133.rdS 9 rfl) (hS133.rdS 10 rfl) (hS133.rdS 11 rfl) hl hrz) ?_
    rintro _ H150 ⟨hxx, r149, rfl, hrr149⟩
    have hS151 : St H0 NoB NoB [rdE r149 ((lostS l r).getD [] : List Int), blkE g128 (.cells #[I ((chkFault l r).1), I ((chkFault l r).2)] 27), rdE r124 (holdMost l r), blkE g118 (.cells #[I ((chkFault l r).1), I ((chkFault l r).2)] 27), rdE r114 (keptS l r), blkE g17 (.cells #[I ((chkFault l r).1), I ((chkFault l r).2)] 27), blkE g1 (.cells #[wa, wb, wc, wd, we] 42), rdE wa l.Low, rdE wb l.High, rdE wc l.Start, rdE wd l.Jumps, rdE we l.Bad, rdE vr r] H150 := hS133.res hxx hrr149
    refine wpL_q (U := NoB) rfl (q_move (v := Value.tuple #[r149, B ((lostS l r).isSome)]) rfl rfl) ?_
    refine wpL_q (U := NoB) rfl (q_extract (vs := #[r149, B ((lostS l r).isSome)]) (v := r149) rfl rfl rfl) ?_
    refine wpL_q (U := NoB) rfl (q_extract (vs := #[r149, B ((lostS l r).isSome)]) (v := B ((lostS l r).isSome)) rfl rfl rfl) ?_
    refine wpL_q (U := NoB) rfl (q_assign (v := r149) rfl rfl) ?_
    refine wpL_q (U := NoB) rfl (q_assign (v := B ((lostS l r).isSome)) rfl rfl) ?_
    exact ⟨r149, a134_1, a134_2, a134_14, a134_15, a134_16, a134_17, a134_18, rfl, rfl, hS151⟩
  rintro f153 H153 ⟨r149, a153_1, a153_2, a153_14, a153_15, a153_16, a153_17, a153_18, a153_19, a153_20, hS153⟩
  clear a134_1 a134_14 a134_15 a134_155 a134_16 a134_17 a134_18 a134_2 a134_5
  refine wpF_seq ?_
  refine wpF_seq ?_
  refine wpF_cut (fun f H => f 1 = vr ∧ f 2 = PT g1 0 ∧ f 17 = r124 ∧ f 18 = PT g128 0 ∧ f 197 = B (decide (((((chkFault l r).1) ≠ 0) ∨ ((keptB l r) = ((lostS l r).isSome))) ∨ (¬ ((keptS l r) = ((lostS l r).getD []))))) ∧ St H0 NoB NoB [blkE g128 (.cells #[I ((chkFault l r).1), I ((chkFault l r).2)] 27), rdE r124 (holdMost l r), blkE g118 (.cells #[I ((chkFault l r).1), I ((chkFault l r).2)] 27), blkE g17 (.cells #[I ((chkFault l r).1), I ((chkFault l r).2)] 27), blkE g1 (.cells #[wa, wb, wc, wd, we] 42), rdE wa l.Low, rdE wb l.High, rdE wc l.Start, rdE wd l.Jumps, rdE we l.Bad, rdE vr r] H) ?_ ?_
  · refine wpF_region ?_
    refine wpL_q (U := NoB) rfl (q_fieldAddr rfl Try.underlying27 rfl Try.sizeOf3 a153_16) ?_
    refine wpL_q (U := NoB) rfl (q_loadBlk rfl rfl Try.isAgg3 (hS153.blk 3 rfl) rfl (fun h => h)) ?_
    refine wpL_q (U := NoB) rfl (q_neq rfl rfl rfl) ?_
    refine wpL_q (U := NoB) rfl (q_move (v := B (decide (((chkFault l r).1) ≠ 0))) rfl rfl) ?_
    by_cases hg154 : ((chkFault l r).1) ≠ 0
    · have hb155 := Eq.trans rfl (congrArg B (decide_eq_true hg154))
      refine wpL_gs rfl rfl rfl hb155 rfl ?_
      refine wpL_gs rfl rfl rfl hb155 rfl ?_
      refine wpL_gs rfl rfl rfl hb155 rfl ?_
      refine wpL_q (U := NoB) rfl (q_pickT (v := B (true)) rfl hb155 rfl) ?_
      refine wpL_q (U := NoB) rfl (q_move (v := B (true)) rfl rfl) ?_
      refine wpL_gs rfl rfl rfl rfl rfl ?_
      refine wpL_gs rfl rfl rfl rfl rfl ?_
      refine wpL_gs rfl rfl rfl rfl rfl ?_
      refine wpL_gs rfl rfl rfl rfl rfl ?_
      refine wpL_q (U := NoB) rfl (q_pickT (v := B (true)) rfl rfl rfl) ?_
      exact ⟨a153_1, a153_2, a153_17, a153_18, (Eq.trans rfl (congrArg B ((decide_eq_true (Or.inl (Or.inl hg154))).symm))), (hS153.drop (sn (sk (sk (sk (sn (sk (sk (sk (sk (sk (sk (sk (sk (List.Sublist.slnil)))))))))))))))⟩
    · have hb156 := Eq.trans rfl (congrArg B (decide_eq_false hg154))
      refine wpL_gq (U := NoB) rfl rfl rfl hb156 (q_move (v := B (keptB l r)) rfl a153_14) ?_
      refine wpL_gq (U := NoB) rfl rfl rfl hb156 (q_move (v := B ((lostS l r).isSome)) rfl a153_20) ?_
      refine wpL_gq (U := NoB) rfl rfl rfl hb156 (q_eqlB rfl Try.underlying4 rfl rfl) ?_
      refine wpL_q (U := NoB) rfl (q_pickF (v := B (decide ((keptB l r) = ((lostS l r).isSome)))) rfl hb156 rfl) ?_
      refine wpL_q (U := NoB) rfl (q_move (v := B (decide ((keptB l r) = ((lostS l r).isSome)))) rfl rfl) ?_
      by_cases hg157 : (keptB l r) = ((lostS l r).isSome)
      · have hb158 := Eq.trans rfl (congrArg B (decide_eq_true hg157))
        refine wpL_gs rfl rfl rfl hb158 rfl ?_
        refine wpL_gs rfl rfl rfl hb158 rfl ?_
        refine wpL_gs rfl rfl rfl hb158 rfl ?_
        refine wpL_gs rfl rfl rfl hb158 rfl ?_
        refine wpL_q (U := NoB) rfl (q_pickT (v := B (true)) rfl hb158 rfl) ?_
        exact ⟨a153_1, a153_2, a153_17, a153_18, (Eq.trans rfl (congrArg B ((decide_eq_true (Or.inl (Or.inr hg157))).symm))), (hS153.drop (sn (sk (sk (sk (sn (sk (sk (sk (sk (sk (sk (sk (sk (List.Sublist.slnil)))))))))))))))⟩
      · have hb159 := Eq.trans rfl (congrArg B (decide_eq_false hg157))
        refine wpL_gq (U := NoB) rfl rfl rfl hb159 (q_move (v := r114) rfl a153_15) ?_
        refine wpL_gq (U := NoB) rfl rfl rfl hb159 (q_move (v := r149) rfl a153_19) ?_
        refine wpL_go rfl rfl rfl hb159 ?_
        refine e_call rfl Try.call39 (arr2 (v0 := r114) (v1 := r149) rfl rfl) (Ints r114 r149 _ _ (hS153.rdN 4 rfl) (hS153.rdN 0 rfl)) ?_
        rintro _ H160 ⟨hxx, rfl⟩
        have hS161 : St H0 NoB NoB [rdE r149 ((lostS l r).getD [] : List Int), blkE g128 (.cells #[I ((chkFault l r).1), I ((chkFault l r).2)] 27), rdE r124 (holdMost l r), blkE g118 (.cells #[I ((chkFault l r).1), I ((chkFault l r).2)] 27), rdE r114 (keptS l r), blkE g17 (.cells #[I ((chkFault l r).1), I ((chkFault l r).2)] 27), blkE g1 (.cells #[wa, wb, wc, wd, we] 42), rdE wa l.Low, rdE wb l.High, rdE wc l.Start, rdE wd l.Jumps, rdE we l.Bad, rdE vr r] H160 := hS153.ext hxx
        refine wpL_gq (U := NoB) rfl rfl rfl hb159 (q_notP rfl rfl) ?_
        refine wpL_q (U := NoB) rfl (q_pickF (v := B (decide (¬ ((keptS l r) = ((lostS l r).getD []))))) rfl hb159 rfl) ?_
        exact ⟨a153_1, a153_2, a153_17, a153_18, (Eq.trans rfl (congrArg B (decide_congr_of (((not_congr Iff.rfl)).trans (((or_iff_right (not_or.2 ⟨hg154, hg157⟩)).trans (not_congr Iff.rfl))).symm)))), (hS161.drop (sn (sk (sk (sk (sn (sk (sk (sk (sk (sk (sk (sk (sk (List.Sublist.slnil)))))))))))))))⟩
  rintro f163 H163 ⟨a163_1, a163_2, a163_17, a163_18, a163_197, hS163⟩
  clear a153_1 a153_14 a153_15 a153_16 a153_17 a153_18 a153_19 a153_2 a153_20
  refine wpF_condP a163_197 (fun h197 => ?t282) (fun h197 => ?e282)
  case t282 =>
    refine wpF_seq ?_
    refine wpF_cut (fun f H => f 4 = B (false) ∧ H163 = H) ?_ ?_
    · refine wpF_region ?_
      refine wpL_q (U := NoB) rfl (q_assign (v := B (false)) rfl rfl) ?_
      exact ⟨rfl, rfl⟩
    rintro f165 _ ⟨a165_4, rfl⟩
    clear a163_1 a163_17 a163_18 a163_197 a163_2
    refine wpF_ret ?_
    refine ⟨_, resT a165_4 resN, hS163.frame, ?_⟩
    show (B (false)) = B true
    exfalso
    have hlk := lost_kept (Decidable.of_not_not h155)
    rcases h197 with (h | h) | h
    · rw [hcz] at h; exact h rfl
    · rw [hlk.1] at h
      cases hq : (lostS l r).isSome <;> rw [hq] at h <;> cases h
    · exact h hlk.2
  refine wpF_skip ?_
  refine wpF_seq ?_
  refine wpF_cut (fun f H => f 1 = vr ∧ f 2 = PT g1 0 ∧ f 17 = r124 ∧ f 18 = PT g128 0 ∧ f 21 = (Value.slice none 0 0) ∧ H163 = H) ?_ ?_
  · refine wpF_region ?_
    refine wpL_q (U := NoB) rfl (q_assign (v := (Value.slice none 0 0)) rfl rfl) ?_
    exact ⟨a163_1, a163_2, a163_17, a163_18, rfl, rfl⟩
  rintro f166 _ ⟨a166_1, a166_2, a166_17, a166_18, a166_21, rfl⟩
  clear a163_1 a163_17 a163_18 a163_197 a163_2
  have hS167 : St H0 NoB NoB [rowE 3 (Value.slice none 0 0) ([] : List Int), blkE g128 (.cells #[I ((chkFault l r).1), I ((chkFault l r).2)] 27), rdE r124 (holdMost l r), blkE g118 (.cells #[I ((chkFault l r).1), I ((chkFault l r).2)] 27), blkE g17 (.cells #[I ((chkFault l r).1), I ((chkFault l r).2)] 27), blkE g1 (.cells #[wa, wb, wc, wd, we] 42), rdE wa l.Low, rdE wb l.High, rdE wc l.Start, rdE wd l.Jumps, rdE we l.Bad, rdE vr r] H163 := hS163.row0 3
  refine wpF_seq ?_
  refine wpF_seq ?_
  refine wpF_cut (fun f H => f 1 = vr ∧ f 2 = PT g1 0 ∧ f 17 = r124 ∧ f 18 = PT g128 0 ∧ f 21 = (Value.slice none 0 0) ∧ f 22 = I (0) ∧ H163 = H) ?_ ?_
  · refine wpF_region ?_
    refine wpL_q (U := NoB) rfl (q_assign (v := I (0)) rfl rfl) ?_
    exact ⟨a166_1, a166_2, a166_17, a166_18, a166_21, rfl, rfl⟩
  rintro f168 _ ⟨a168_1, a168_2, a168_17, a168_18, a168_21, a168_22, rfl⟩
  clear a166_1 a166_17 a166_18 a166_2 a166_21
  refine wpF_block ?_
  refine wpF_loop (fun mz f H => ∃ (u : Nat), ∃ (vl : Value), mz = r.length - u ∧ (u ≤ r.length) ∧ f 1 = vr ∧ f 2 = PT g1 0 ∧ f 17 = r124 ∧ f 18 = PT g128 0 ∧ f 21 = vl ∧ f 22 = I ((u : Int)) ∧ St H0 NoB NoB [rowE 3 vl (rangeI u : List Int), blkE g128 (.cells #[I ((chkFault l r).1), I ((chkFault l r).2)] 27), rdE r124 (holdMost l r), blkE g118 (.cells #[I ((chkFault l r).1), I ((chkFault l r).2)] 27), blkE g17 (.cells #[I ((chkFault l r).1), I ((chkFault l r).2)] 27), blkE g1 (.cells #[wa, wb, wc, wd, we] 42), rdE wa l.Low, rdE wb l.High, rdE wc l.Start, rdE wd l.Jumps, rdE we l.Bad, rdE vr r] H) (r.length - 0) ?_ ?_
  · exact ⟨0, (Value.slice none 0 0), rfl, Nat.zero_le _, a168_1, a168_2, a168_17, a168_18, a168_21, (Eq.trans a168_22 (congrArg I (by omega))), (show St H0 NoB NoB [rowE 3 (Value.slice none 0 0) (rangeI 0 : List Int), blkE g128 (.cells #[I ((chkFault l r).1), I ((chkFault l r).2)] 27), rdE r124 (holdMost l r), blkE g118 (.cells #[I ((chkFault l r).1), I ((chkFault l r).2)] 27), blkE g17 (.cells #[I ((chkFault l r).1), I ((chkFault l r).2)] 27), blkE g1 (.cells #[wa, wb, wc, wd, we] 42), rdE wa l.Low, rdE wb l.High, rdE wc l.Start, rdE wd l.Jumps, rdE we l.Bad, rdE vr r] H163 from hS167)⟩
  intro m169 f169 H169 hI169
  obtain ⟨u, vl, hm169, hu, a169_1, a169_2, a169_17, a169_18, a169_21, a169_22, hS169⟩ := hI169
  clear a168_1 a168_17 a168_18 a168_2 a168_21 a168_22
  refine wpF_seq ?_
  refine wpF_seq ?_
  refine wpF_cut (fun f H => f 1 = vr ∧ f 2 = PT g1 0 ∧ f 17 = r124 ∧ f 18 = PT g128 0 ∧ f 21 = vl ∧ f 22 = I ((u : Int)) ∧ f 201 = B (decide ((u : Int) < (r.length : Int))) ∧ H169 = H) ?_ ?_
  · refine wpF_region ?_
    refine wpL_q (U := NoB) rfl (q_move (v := I ((u : Int))) rfl a169_22) ?_
    refine wpL_q (U := NoB) rfl (q_move (v := vr) rfl a169_1) ?_
    refine wpL_q (U := NoB) rfl (q_lenRd rfl Try.underlying22 rfl (hS169.rdl 11 rfl)) ?_
    refine wpL_q (U := NoB) rfl (q_lss rfl rfl rfl) ?_
    exact ⟨a169_1, a169_2, a169_17, a169_18, a169_21, a169_22, rfl, rfl⟩
  rintro f170 _ ⟨a170_1, a170_2, a170_17, a170_18, a170_21, a170_22, a170_201, rfl⟩
  clear a169_1 a169_17 a169_18 a169_2 a169_21 a169_22
  refine wpF_condP a170_201 (fun hlt4 => ?t281) (fun hlt4 => ?e281)
  case t281 =>
    refine wpF_skip ?_
    refine wpF_seq ?_
    refine wpF_block ?_
    refine wpF_cut (fun f H => ∃ (v177 : Value), f 1 = vr ∧ f 2 = PT g1 0 ∧ f 17 = r124 ∧ f 18 = PT g128 0 ∧ f 21 = v177 ∧ f 22 = I ((u : Int)) ∧ St H0 NoB NoB [rowE 3 v177 (rangeI (u + 1) : List Int), blkE g128 (.cells #[I ((chkFault l r).1), I ((chkFault l r).2)] 27), rdE r124 (holdMost l r), blkE g118 (.cells #[I ((chkFault l r).1), I ((chkFault l r).2)] 27), blkE g17 (.cells #[I ((chkFault l r).1), I ((chkFault l r).2)] 27), blkE g1 (.cells #[wa, wb, wc, wd, we] 42), rdE wa l.Low, rdE wb l.High, rdE wc l.Start, rdE wd l.Jumps, rdE we l.Bad, rdE vr r] H) ?_ ?_
    · refine wpF_region ?_
      refine wpL_q (U := NoB) rfl (q_move (v := vl) rfl a170_21) ?_
      refine wpL_q (U := NoB) rfl (q_move (v := I ((u : Int))) rfl a170_22) ?_
      refine wpL_o rfl ?_
      refine e_buildSlice (vs := [I ((u : Int))]) (xs := ([(u : Int)] : List Int)) rfl Try.underlying32 Try.zeroValue3 rfl Try.sizeOf3 (par1 (v0 := I ((u : Int))) rfl) rfl hS169 (RdVs.cons (Rd.int.2 ⟨rfl, by constructor <;> omega⟩) (RdVs.nil)) (by decide) (by decide) (fun v172 H173 hS174 hxx hvv172 => ?_)
      replace hS174 : St H0 NoB NoB [rowE 3 v172 ([(u : Int)] : List Int), rowE 3 vl (rangeI u : List Int), blkE g128 (.cells #[I ((chkFault l r).1), I ((chkFault l r).2)] 27), rdE r124 (holdMost l r), blkE g118 (.cells #[I ((chkFault l r).1), I ((chkFault l r).2)] 27), blkE g17 (.cells #[I ((chkFault l r).1), I ((chkFault l r).2)] 27), blkE g1 (.cells #[wa, wb, wc, wd, we] 42), rdE wa l.Low, rdE wb l.High, rdE wc l.Start, rdE wd l.Jumps, rdE we l.Bad, rdE vr r] H173 := hS174
      have hS175 : St H0 NoB NoB [rdE v172 ([(u : Int)] : List Int), rowE 3 vl (rangeI u : List Int), blkE g128 (.cells #[I ((chkFault l r).1), I ((chkFault l r).2)] 27), rdE r124 (holdMost l r), blkE g118 (.cells #[I ((chkFault l r).1), I ((chkFault l r).2)] 27), blkE g17 (.cells #[I ((chkFault l r).1), I ((chkFault l r).2)] 27), blkE g1 (.cells #[wa, wb, wc, wd, we] 42), rdE wa l.Low, rdE wb l.High, rdE wc l.Start, rdE wd l.Jumps, rdE we l.Bad, rdE vr r] H173 := St.fin hS174
      have hS176 : St H0 NoB NoB [rowE 3 vl (rangeI u : List Int), rdE v172 ([(u : Int)] : List Int), blkE g128 (.cells #[I ((chkFault l r).1), I ((chkFault l r).2)] 27), rdE r124 (holdMost l r), blkE g118 (.cells #[I ((chkFault l r).1), I ((chkFault l r).2)] 27), blkE g17 (.cells #[I ((chkFault l r).1), I ((chkFault l r).2)] 27), blkE g1 (.cells #[wa, wb, wc, wd, we] 42), rdE wa l.Low, rdE wb l.High, rdE wc l.Start, rdE wd l.Jumps, rdE we l.Bad, rdE vr r] H173 := (hS175.front 1 rfl)
      refine wpL_o rfl ?_
      refine e_append rfl Try.underlying32 em_Int_3_HoldSays1 rfl rfl hS176 (hS176.rdS 1 rfl) (fun _ h => h) (by have hb : GoT.bytes Int = 8 := rfl; have hb2 := rangeI_len (n := u); simp [hb, hb2]; omega) (by decide) (fun v177 H178 hS179 hxx => ?_)
      replace hS179 : St H0 NoB NoB [rowE 3 v177 ((rangeI u) ++ ([(u : Int)]) : List Int), rdE v172 ([(u : Int)] : List Int), blkE g128 (.cells #[I ((chkFault l r).1), I ((chkFault l r).2)] 27), rdE r124 (holdMost l r), blkE g118 (.cells #[I ((chkFault l r).1), I ((chkFault l r).2)] 27), blkE g17 (.cells #[I ((chkFault l r).1), I ((chkFault l r).2)] 27), blkE g1 (.cells #[wa, wb, wc, wd, we] 42), rdE wa l.Low, rdE wb l.High, rdE wc l.Start, rdE wd l.Jumps, rdE we l.Bad, rdE vr r] H178 := hS179
      have hS180 : St H0 NoB NoB [rowE 3 v177 (rangeI (u + 1) : List Int), rdE v172 ([(u : Int)] : List Int), blkE g128 (.cells #[I ((chkFault l r).1), I ((chkFault l r).2)] 27), rdE r124 (holdMost l r), blkE g118 (.cells #[I ((chkFault l r).1), I ((chkFault l r).2)] 27), blkE g17 (.cells #[I ((chkFault l r).1), I ((chkFault l r).2)] 27), blkE g1 (.cells #[wa, wb, wc, wd, we] 42), rdE wa l.Low, rdE wb l.High, rdE wc l.Start, rdE wd l.Jumps, rdE we l.Bad, rdE vr r] H178 := by rw [show (rangeI (u + 1)) = ((rangeI u) ++ ([(u : Int)])) from (by rw [rangeI_next])]; exact hS179
      refine wpL_q (U := NoB) rfl (q_assign (v := v177) rfl rfl) ?_
      exact ⟨v177, a170_1, a170_2, a170_17, a170_18, rfl, a170_22, (hS180.drop (sk (sn (sk (sk (sk (sk (sk (sk (sk (sk (sk (sk (sk (List.Sublist.slnil)))))))))))))))⟩
    rintro f181 H181 ⟨v177, a181_1, a181_2, a181_17, a181_18, a181_21, a181_22, hS181⟩
    clear a170_1 a170_17 a170_18 a170_2 a170_201 a170_21 a170_22
    refine wpF_cut (fun f H => f 1 = vr ∧ f 2 = PT g1 0 ∧ f 17 = r124 ∧ f 18 = PT g128 0 ∧ f 21 = v177 ∧ f 22 = I ((u : Int) + 1) ∧ H181 = H) ?_ ?_
    · refine wpF_region ?_
      refine wpL_q (U := NoB) rfl (q_move (v := I ((u : Int))) rfl a181_22) ?_
      refine wpL_q (U := NoB) rfl (q_add rfl rfl rfl (by constructor <;> omega)) ?_
      refine wpL_q (U := NoB) rfl (q_assign (v := I ((u : Int) + 1)) rfl rfl) ?_
      exact ⟨a181_1, a181_2, a181_17, a181_18, a181_21, rfl, rfl⟩
    rintro f182 _ ⟨a182_1, a182_2, a182_17, a182_18, a182_21, a182_22, rfl⟩
    clear a181_1 a181_17 a181_18 a181_2 a181_21 a181_22
    refine ⟨_, ?_, u + 1, v177, rfl, (by omega), a182_1, a182_2, a182_17, a182_18, a182_21, (Eq.trans a182_22 (congrArg I (by omega))), hS181⟩
    omega
  obtain rfl : u = r.length := by omega
  refine wpF_exit ?_
  refine atX_here ?_
  refine wpF_seq ?_
  refine wpF_cut (fun f H => ∃ (r183 : Value), f 1 = vr ∧ f 2 = PT g1 0 ∧ f 17 = r124 ∧ f 18 = PT g128 0 ∧ f 21 = vl ∧ f 23 = r183 ∧ St H0 NoB NoB [rdE r183 (statesF l l.Low.length [] : List (List Int)), rowE 3 vl (rangeI r.length : List Int), blkE g128 (.cells #[I ((chkFault l r).1), I ((chkFault l r).2)] 27), rdE r124 (holdMost l r), blkE g118 (.cells #[I ((chkFault l r).1), I ((chkFault l r).2)] 27), blkE g17 (.cells #[I ((chkFault l r).1), I ((chkFault l r).2)] 27), blkE g1 (.cells #[wa, wb, wc, wd, we] 42), rdE wa l.Low, rdE wb l.High, rdE wc l.Start, rdE wd l.Jumps, rdE we l.Bad, rdE vr r] H) ?_ ?_
  · refine wpF_region ?_
    refine wpL_q (U := NoB) rfl (q_loadBlkA rfl a170_2 Try.isAgg42 Try.sizeOf42 rfl (hS169.blk 5 rfl) (fun h => h)) ?_
    refine wpL_o rfl ?_
    refine e_call rfl Try.call40 (arr2 (v0 := Value.agg #[wa, wb, wc, wd, we]) (v1 := (Value.slice none 0 0)) rfl rfl) (States_R _ wa wb wc wd we ((Value.slice none 0 0)) l [] (hS169.rdS 6 rfl) (hS169.rdS 7 rfl) (hS169.rdS 8 rfl) (hS169.rdS 9 rfl) (hS169.rdS 10 rfl) rdNil hl (Nat.zero_le _) rfl) ?_
    rintro r183 H184 ⟨hxx, hrr183⟩
    have hS185 : St H0 NoB NoB [rdE r183 (statesF l l.Low.length [] : List (List Int)), rowE 3 vl (rangeI r.length : List Int), blkE g128 (.cells #[I ((chkFault l r).1), I ((chkFault l r).2)] 27), rdE r124 (holdMost l r), blkE g118 (.cells #[I ((chkFault l r).1), I ((chkFault l r).2)] 27), blkE g17 (.cells #[I ((chkFault l r).1), I ((chkFault l r).2)] 27), blkE g1 (.cells #[wa, wb, wc, wd, we] 42), rdE wa l.Low, rdE wb l.High, rdE wc l.Start, rdE wd l.Jumps, rdE we l.Bad, rdE vr r] H184 := hS169.res hxx hrr183
    refine wpL_q (U := NoB) rfl (q_assign (v := r183) rfl rfl) ?_
    exact ⟨r183, a170_1, a170_2, a170_17, a170_18, a170_21, rfl, hS185⟩
  rintro f187 H187 ⟨r183, a187_1, a187_2, a187_17, a187_18, a187_21, a187_23, hS187⟩
  clear a170_1 a170_17 a170_18 a170_2 a170_201 a170_21 a170_22
  have hS188 : St H0 NoB NoB [rdE r183 (statesL l), rowE 3 vl (rangeI r.length : List Int), blkE g128 (.cells #[I ((chkFault l r).1), I ((chkFault l r).2)] 27), rdE r124 (holdMost l r), blkE g118 (.cells #[I ((chkFault l r).1), I ((chkFault l r).2)] 27), blkE g17 (.cells #[I ((chkFault l r).1), I ((chkFault l r).2)] 27), blkE g1 (.cells #[wa, wb, wc, wd, we] 42), rdE wa l.Low, rdE wb l.High, rdE wc l.Start, rdE wd l.Jumps, rdE we l.Bad, rdE vr r] H187 := by have h__ := hS187; rw [states_same hl] at h__; exact h__
  refine wpF_seq ?_
  refine wpF_seq ?_
  refine wpF_cut (fun f H => f 1 = vr ∧ f 2 = PT g1 0 ∧ f 17 = r124 ∧ f 18 = PT g128 0 ∧ f 21 = vl ∧ f 23 = r183 ∧ f 24 = I (0) ∧ H187 = H) ?_ ?_
  · refine wpF_region ?_
    refine wpL_q (U := NoB) rfl (q_assign (v := I (0)) rfl rfl) ?_
    exact ⟨a187_1, a187_2, a187_17, a187_18, a187_21, a187_23, rfl, rfl⟩
  rintro f189 _ ⟨a189_1, a189_2, a189_17, a189_18, a189_21, a189_23, a189_24, rfl⟩
  clear a187_1 a187_17 a187_18 a187_2 a187_21 a187_23
  refine wpF_block ?_
  refine wpF_loop (fun mz f H => ∃ (n : Nat), ∃ (left : List Int), ∃ (vq : Value), mz = r.length + 1 - n ∧ (n ≤ r.length + 1) ∧ (InR r left) ∧ (left.length ≤ r.length) ∧ (left = holdMostF l r n (rangeI r.length)) ∧ f 1 = vr ∧ f 2 = PT g1 0 ∧ f 17 = r124 ∧ f 18 = PT g128 0 ∧ f 21 = vq ∧ f 23 = r183 ∧ f 24 = I ((n : Int)) ∧ St H0 NoB NoB [rowE 3 vq (left : List Int), rdE r183 (statesL l), blkE g128 (.cells #[I ((chkFault l r).1), I ((chkFault l r).2)] 27), rdE r124 (holdMost l r), blkE g118 (.cells #[I ((chkFault l r).1), I ((chkFault l r).2)] 27), blkE g17 (.cells #[I ((chkFault l r).1), I ((chkFault l r).2)] 27), blkE g1 (.cells #[wa, wb, wc, wd, we] 42), rdE wa l.Low, rdE wb l.High, rdE wc l.Start, rdE wd l.Jumps, rdE we l.Bad, rdE vr r] H) (r.length + 1 - 0) ?_ ?_
  · exact ⟨0, rangeI r.length, vl, rfl, Nat.zero_le _, inR_range, (by rw [rangeI_len]; exact Nat.le_refl _), rfl, a189_1, a189_2, a189_17, a189_18, a189_21, a189_23, (Eq.trans a189_24 (congrArg I (by omega))), (show St H0 NoB NoB [rowE 3 vl ((rangeI r.length) : List Int), rdE r183 (statesL l), blkE g128 (.cells #[I ((chkFault l r).1), I ((chkFault l r).2)] 27), rdE r124 (holdMost l r), blkE g118 (.cells #[I ((chkFault l r).1), I ((chkFault l r).2)] 27), blkE g17 (.cells #[I ((chkFault l r).1), I ((chkFault l r).2)] 27), blkE g1 (.cells #[wa, wb, wc, wd, we] 42), rdE wa l.Low, rdE wb l.High, rdE wc l.Start, rdE wd l.Jumps, rdE we l.Bad, rdE vr r] H187 from (St.drop (show St H0 NoB NoB [rowE 3 vl (rangeI r.length : List Int), rdE r183 (statesL l), blkE g128 (.cells #[I ((chkFault l r).1), I ((chkFault l r).2)] 27), rdE r124 (holdMost l r), blkE g118 (.cells #[I ((chkFault l r).1), I ((chkFault l r).2)] 27), blkE g17 (.cells #[I ((chkFault l r).1), I ((chkFault l r).2)] 27), blkE g1 (.cells #[wa, wb, wc, wd, we] 42), rdE wa l.Low, rdE wb l.High, rdE wc l.Start, rdE wd l.Jumps, rdE we l.Bad, rdE vr r] H187 from (hS188.front 1 rfl)) (sk (sk (sk (sk (sk (sk (sk (sk (sk (sk (sk (sk (sk (List.Sublist.slnil))))))))))))))))⟩
  intro m190 f190 H190 hI190
  obtain ⟨n, left, vq, hm190, hn, hir, hll, hle, a190_1, a190_2, a190_17, a190_18, a190_21, a190_23, a190_24, hS190⟩ := hI190
  clear a189_1 a189_17 a189_18 a189_2 a189_21 a189_23 a189_24
  refine wpF_seq ?_
  refine wpF_seq ?_
  refine wpF_cut (fun f H => f 1 = vr ∧ f 2 = PT g1 0 ∧ f 17 = r124 ∧ f 18 = PT g128 0 ∧ f 21 = vq ∧ f 23 = r183 ∧ f 24 = I ((n : Int)) ∧ f 213 = B (decide ((n : Int) ≤ (r.length : Int))) ∧ H190 = H) ?_ ?_
  · refine wpF_region ?_
    refine wpL_q (U := NoB) rfl (q_move (v := I ((n : Int))) rfl a190_24) ?_
    refine wpL_q (U := NoB) rfl (q_move (v := vr) rfl a190_1) ?_
    refine wpL_q (U := NoB) rfl (q_lenRd rfl Try.underlying22 rfl (hS190.rdl 12 rfl)) ?_
    refine wpL_q (U := NoB) rfl (q_leq rfl rfl rfl) ?_
    exact ⟨a190_1, a190_2, a190_17, a190_18, a190_21, a190_23, a190_24, rfl, rfl⟩
  rintro f191 _ ⟨a191_1, a191_2, a191_17, a191_18, a191_21, a191_23, a191_24, a191_213, rfl⟩
  clear a190_1 a190_17 a190_18 a190_2 a190_21 a190_23 a190_24
  refine wpF_condP a191_213 (fun hle6 => ?t280) (fun hle6 => ?e280)
  case e280 =>
    refine wpF_exit ?_
    refine atX_here ?_
    refine wpF_seq ?_
    refine wpF_cut (fun f H => f 4 = B (decide ((((chkFault l r).1) = 0) ∧ ((holdMost l r) = left))) ∧ St H0 NoB NoB [rowE 3 vq (left : List Int), blkE g128 (.cells #[I ((chkFault l r).1), I ((chkFault l r).2)] 27), blkE g118 (.cells #[I ((chkFault l r).1), I ((chkFault l r).2)] 27), blkE g17 (.cells #[I ((chkFault l r).1), I ((chkFault l r).2)] 27), blkE g1 (.cells #[wa, wb, wc, wd, we] 42), rdE wa l.Low, rdE wb l.High, rdE wc l.Start, rdE wd l.Jumps, rdE we l.Bad, rdE vr r] H) ?_ ?_
    · refine wpF_region ?_
      refine wpL_q (U := NoB) rfl (q_fieldAddr rfl Try.underlying27 rfl Try.sizeOf3 a191_18) ?_
      refine wpL_q (U := NoB) rfl (q_loadBlk rfl rfl Try.isAgg3 (hS190.blk 2 rfl) rfl (fun h => h)) ?_
      refine wpL_q (U := NoB) rfl (q_eql rfl rfl rfl) ?_
      refine wpL_q (U := NoB) rfl (q_move (v := B (decide (((chkFault l r).1) = 0))) rfl rfl) ?_
      by_cases hg273 : ((chkFault l r).1) = 0
      · have hb274 := Eq.trans rfl (congrArg B (decide_eq_true hg273))
        refine wpL_gq (U := NoB) rfl rfl rfl hb274 (q_move (v := r124) rfl a191_17) ?_
        refine wpL_gq (U := NoB) rfl rfl rfl hb274 (q_move (v := vq) rfl a191_21) ?_
        refine wpL_go rfl rfl rfl hb274 ?_
        refine e_call rfl Try.call39 (arr2 (v0 := r124) (v1 := vq) rfl rfl) (Ints r124 vq _ _ (hS190.rdN 3 rfl) (hS190.rowN 0 rfl)) ?_
        rintro _ H276 ⟨hxx, rfl⟩
        have hS277 : St H0 NoB NoB [rowE 3 vq (left : List Int), rdE r183 (statesL l), blkE g128 (.cells #[I ((chkFault l r).1), I ((chkFault l r).2)] 27), rdE r124 (holdMost l r), blkE g118 (.cells #[I ((chkFault l r).1), I ((chkFault l r).2)] 27), blkE g17 (.cells #[I ((chkFault l r).1), I ((chkFault l r).2)] 27), blkE g1 (.cells #[wa, wb, wc, wd, we] 42), rdE wa l.Low, rdE wb l.High, rdE wc l.Start, rdE wd l.Jumps, rdE we l.Bad, rdE vr r] H276 := hS190.ext hxx
        refine wpL_q (U := NoB) rfl (q_pickT (v := B (decide ((holdMost l r) = left))) rfl hb274 rfl) ?_
        refine wpL_q (U := NoB) rfl (q_assign (v := B (decide ((holdMost l r) = left))) rfl rfl) ?_
        exact ⟨(Eq.trans rfl (congrArg B (decide_congr_of ((Iff.rfl).trans (((and_iff_right hg273).trans Iff.rfl)).symm)))), (hS277.drop (sk (sn (sk (sn (sk (sk (sk (sk (sk (sk (sk (sk (sk (List.Sublist.slnil)))))))))))))))⟩
      · have hb275 := Eq.trans rfl (congrArg B (decide_eq_false hg273))
        refine wpL_gs rfl rfl rfl hb275 rfl ?_
        refine wpL_gs rfl rfl rfl hb275 rfl ?_
        refine wpL_gs rfl rfl rfl hb275 rfl ?_
        refine wpL_q (U := NoB) rfl (q_pickF (v := B (false)) rfl hb275 rfl) ?_
        refine wpL_q (U := NoB) rfl (q_assign (v := B (false)) rfl rfl) ?_
        exact ⟨(Eq.trans rfl (congrArg B ((decide_eq_false (fun h => hg273 h.1)).symm))), (hS190.drop (sk (sn (sk (sn (sk (sk (sk (sk (sk (sk (sk (sk (sk (List.Sublist.slnil)))))))))))))))⟩
    rintro f279 H279 ⟨a279_4, hS279⟩
    clear a191_1 a191_17 a191_18 a191_2 a191_21 a191_213 a191_23 a191_24
    refine wpF_ret ?_
    refine ⟨_, resT a279_4 resN, hS279.frame, ?_⟩
    show (B (decide ((((chkFault l r).1) = 0) ∧ ((holdMost l r) = left)))) = B true
    have hmi := most_is (Decidable.of_not_not h155) (show n = r.length + 1 by omega) hle
    exact congrArg B (decide_eq_true ⟨by rw [hcz], hmi⟩)
  refine wpF_skip ?_
  refine wpF_seq ?_
  refine wpF_block ?_
  refine wpF_seq ?_
  refine wpF_cut (fun f H => f 1 = vr ∧ f 2 = PT g1 0 ∧ f 17 = r124 ∧ f 18 = PT g128 0 ∧ f 21 = vq ∧ f 23 = r183 ∧ f 24 = I ((n : Int)) ∧ f 25 = (Value.slice none 0 0) ∧ H190 = H) ?_ ?_
  · refine wpF_region ?_
    refine wpL_q (U := NoB) rfl (q_assign (v := (Value.slice none 0 0)) rfl rfl) ?_
    exact ⟨a191_1, a191_2, a191_17, a191_18, a191_21, a191_23, a191_24, rfl, rfl⟩
  rintro f193 _ ⟨a193_1, a193_2, a193_17, a193_18, a193_21, a193_23, a193_24, a193_25, rfl⟩
  clear a191_1 a191_17 a191_18 a191_2 a191_21 a191_213 a191_23 a191_24
  have hS194 : St H0 NoB NoB [rowE 3 (Value.slice none 0 0) ([] : List Int), rowE 3 vq (left : List Int), rdE r183 (statesL l), blkE g128 (.cells #[I ((chkFault l r).1), I ((chkFault l r).2)] 27), rdE r124 (holdMost l r), blkE g118 (.cells #[I ((chkFault l r).1), I ((chkFault l r).2)] 27), blkE g17 (.cells #[I ((chkFault l r).1), I ((chkFault l r).2)] 27), blkE g1 (.cells #[wa, wb, wc, wd, we] 42), rdE wa l.Low, rdE wb l.High, rdE wc l.Start, rdE wd l.Jumps, rdE we l.Bad, rdE vr r] H190 := hS190.row0 3
  refine wpF_seq ?_
  refine wpF_cut (fun f H => ∃ (r196 : Value), f 1 = vr ∧ f 2 = PT g1 0 ∧ f 17 = r124 ∧ f 18 = PT g128 0 ∧ f 21 = vq ∧ f 23 = r183 ∧ f 24 = I ((n : Int)) ∧ f 25 = (Value.slice none 0 0) ∧ f 26 = r196 ∧ St H0 NoB NoB [rdE r196 (pickR r left), rdE vq left, rowE 3 (Value.slice none 0 0) ([] : List Int), rdE r183 (statesL l), blkE g128 (.cells #[I ((chkFault l r).1), I ((chkFault l r).2)] 27), rdE r124 (holdMost l r), blkE g118 (.cells #[I ((chkFault l r).1), I ((chkFault l r).2)] 27), blkE g17 (.cells #[I ((chkFault l r).1), I ((chkFault l r).2)] 27), blkE g1 (.cells #[wa, wb, wc, wd, we] 42), rdE wa l.Low, rdE wb l.High, rdE wc l.Start, rdE wd l.Jumps, rdE we l.Bad, rdE vr r] H) ?_ ?_
  · refine wpF_region ?_
    refine wpL_q (U := NoB) rfl (q_move (v := vr) rfl a193_1) ?_
    refine wpL_q (U := NoB) rfl (q_move (v := vq) rfl a193_21) ?_
    have hS195 : St H0 NoB NoB [rdE vq left, rowE 3 (Value.slice none 0 0) ([] : List Int), rdE r183 (statesL l), blkE g128 (.cells #[I ((chkFault l r).1), I ((chkFault l r).2)] 27), rdE r124 (holdMost l r), blkE g118 (.cells #[I ((chkFault l r).1), I ((chkFault l r).2)] 27), blkE g17 (.cells #[I ((chkFault l r).1), I ((chkFault l r).2)] 27), blkE g1 (.cells #[wa, wb, wc, wd, we] 42), rdE wa l.Low, rdE wb l.High, rdE wc l.Start, rdE wd l.Jumps, rdE we l.Bad, rdE vr r] H190 := St.fin (hS194.front 1 rfl)
    refine wpL_o rfl ?_
    refine e_call rfl Try.call41 (arr2 (v0 := vr) (v1 := vq) rfl rfl) (Some_R2 vr vq r left (hS195.rdS 13 rfl) (hS195.rdS 0 rfl) hir (by omega)) ?_
    rintro r196 H197 ⟨hxx, hrr196⟩
    have hS198 : St H0 NoB NoB [rdE r196 (pickR r left), rdE vq left, rowE 3 (Value.slice none 0 0) ([] : List Int), rdE r183 (statesL l), blkE g128 (.cells #[I ((chkFault l r).1), I ((chkFault l r).2)] 27), rdE r124 (holdMost l r), blkE g118 (.cells #[I ((chkFault l r).1), I ((chkFault l r).2)] 27), blkE g17 (.cells #[I ((chkFault l r).1), I ((chkFault l r).2)] 27), blkE g1 (.cells #[wa, wb, wc, wd, we] 42), rdE wa l.Low, rdE wb l.High, rdE wc l.Start, rdE wd l.Jumps, rdE we l.Bad, rdE vr r] H197 := hS195.res hxx hrr196
    refine wpL_q (U := NoB) rfl (q_assign (v := r196) rfl rfl) ?_
    exact ⟨r196, a193_1, a193_2, a193_17, a193_18, a193_21, a193_23, a193_24, a193_25, rfl, hS198⟩
  rintro f200 H200 ⟨r196, a200_1, a200_2, a200_17, a200_18, a200_21, a200_23, a200_24, a200_25, a200_26, hS200⟩
  clear a193_1 a193_17 a193_18 a193_2 a193_21 a193_23 a193_24 a193_25
  refine wpF_seq ?_
  refine wpF_seq ?_
  refine wpF_cut (fun f H => f 1 = vr ∧ f 2 = PT g1 0 ∧ f 17 = r124 ∧ f 18 = PT g128 0 ∧ f 21 = vq ∧ f 23 = r183 ∧ f 24 = I ((n : Int)) ∧ f 25 = (Value.slice none 0 0) ∧ f 26 = r196 ∧ f 27 = I (0) ∧ H200 = H) ?_ ?_
  · refine wpF_region ?_
    refine wpL_q (U := NoB) rfl (q_assign (v := I (0)) rfl rfl) ?_
    exact ⟨a200_1, a200_2, a200_17, a200_18, a200_21, a200_23, a200_24, a200_25, a200_26, rfl, rfl⟩
  rintro f201 _ ⟨a201_1, a201_2, a201_17, a201_18, a201_21, a201_23, a201_24, a201_25, a201_26, a201_27, rfl⟩
  clear a200_1 a200_17 a200_18 a200_2 a200_21 a200_23 a200_24 a200_25 a200_26
  refine wpF_block ?_
  refine wpF_loop (fun mz f H => ∃ (i : Nat), ∃ (vk : Value), mz = left.length - i ∧ (i ≤ left.length) ∧ f 1 = vr ∧ f 2 = PT g1 0 ∧ f 17 = r124 ∧ f 18 = PT g128 0 ∧ f 21 = vq ∧ f 23 = r183 ∧ f 24 = I ((n : Int)) ∧ f 25 = vk ∧ f 26 = r196 ∧ f 27 = I ((i : Int)) ∧ St H0 NoB NoB [rowE 3 vk ((left.take i).filter (fun t => !strayIn l r left t) : List Int), rdE r196 (pickR r left), rdE vq left, rdE r183 (statesL l), blkE g128 (.cells #[I ((chkFault l r).1), I ((chkFault l r).2)] 27), rdE r124 (holdMost l r), blkE g118 (.cells #[I ((chkFault l r).1), I ((chkFault l r).2)] 27), blkE g17 (.cells #[I ((chkFault l r).1), I ((chkFault l r).2)] 27), blkE g1 (.cells #[wa, wb, wc, wd, we] 42), rdE wa l.Low, rdE wb l.High, rdE wc l.Start, rdE wd l.Jumps, rdE we l.Bad, rdE vr r] H) (left.length - 0) ?_ ?_
  · exact ⟨0, (Value.slice none 0 0), rfl, Nat.zero_le _, a201_1, a201_2, a201_17, a201_18, a201_21, a201_23, a201_24, a201_25, a201_26, (Eq.trans a201_27 (congrArg I (by omega))), (show St H0 NoB NoB [rowE 3 (Value.slice none 0 0) ((left.take 0).filter (fun t => !strayIn l r left t) : List Int), rdE r196 (pickR r left), rdE vq left, rdE r183 (statesL l), blkE g128 (.cells #[I ((chkFault l r).1), I ((chkFault l r).2)] 27), rdE r124 (holdMost l r), blkE g118 (.cells #[I ((chkFault l r).1), I ((chkFault l r).2)] 27), blkE g17 (.cells #[I ((chkFault l r).1), I ((chkFault l r).2)] 27), blkE g1 (.cells #[wa, wb, wc, wd, we] 42), rdE wa l.Low, rdE wb l.High, rdE wc l.Start, rdE wd l.Jumps, rdE we l.Bad, rdE vr r] H200 from (St.drop (show St H0 NoB NoB [rowE 3 (Value.slice none 0 0) ([] : List Int), rdE r196 (pickR r left), rdE vq left, rdE r183 (statesL l), blkE g128 (.cells #[I ((chkFault l r).1), I ((chkFault l r).2)] 27), rdE r124 (holdMost l r), blkE g118 (.cells #[I ((chkFault l r).1), I ((chkFault l r).2)] 27), blkE g17 (.cells #[I ((chkFault l r).1), I ((chkFault l r).2)] 27), blkE g1 (.cells #[wa, wb, wc, wd, we] 42), rdE wa l.Low, rdE wb l.High, rdE wc l.Start, rdE wd l.Jumps, rdE we l.Bad, rdE vr r] H200 from (hS200.front 2 rfl)) (sk (sk (sk (sk (sk (sk (sk (sk (sk (sk (sk (sk (sk (sk (sk (List.Sublist.slnil))))))))))))))))))⟩
  intro m202 f202 H202 hI202
  obtain ⟨i, vk, hm202, hi, a202_1, a202_2, a202_17, a202_18, a202_21, a202_23, a202_24, a202_25, a202_26, a202_27, hS202⟩ := hI202
  clear a201_1 a201_17 a201_18 a201_2 a201_21 a201_23 a201_24 a201_25 a201_26 a201_27
  refine wpF_seq ?_
  refine wpF_seq ?_
  refine wpF_cut (fun f H => f 1 = vr ∧ f 2 = PT g1 0 ∧ f 17 = r124 ∧ f 18 = PT g128 0 ∧ f 21 = vq ∧ f 23 = r183 ∧ f 24 = I ((n : Int)) ∧ f 25 = vk ∧ f 26 = r196 ∧ f 27 = I ((i : Int)) ∧ f 222 = B (decide ((i : Int) < (left.length : Int))) ∧ H202 = H) ?_ ?_
  · refine wpF_region ?_
    refine wpL_q (U := NoB) rfl (q_move (v := I ((i : Int))) rfl a202_27) ?_
    refine wpL_q (U := NoB) rfl (q_move (v := vq) rfl a202_21) ?_
    refine wpL_q (U := NoB) rfl (q_lenRd rfl Try.underlying32 rfl (hS202.rdl 2 rfl)) ?_
    refine wpL_q (U := NoB) rfl (q_lss rfl rfl rfl) ?_
    exact ⟨a202_1, a202_2, a202_17, a202_18, a202_21, a202_23, a202_24, a202_25, a202_26, a202_27, rfl, rfl⟩
  rintro f203 _ ⟨a203_1, a203_2, a203_17, a203_18, a203_21, a203_23, a203_24, a203_25, a203_26, a203_27, a203_222, rfl⟩
  clear a202_1 a202_17 a202_18 a202_2 a202_21 a202_23 a202_24 a202_25 a202_26 a202_27
  refine wpF_condP a203_222 (fun hlt8 => ?t272) (fun hlt8 => ?e272)
  case e272 =>
    have hS205 : St H0 NoB NoB [rowE 3 vk (dropBad l r left : List Int), rdE r196 (pickR r left), rdE vq left, rdE r183 (statesL l), blkE g128 (.cells #[I ((chkFault l r).1), I ((chkFault l r).2)] 27), rdE r124 (holdMost l r), blkE g118 (.cells #[I ((chkFault l r).1), I ((chkFault l r).2)] 27), blkE g17 (.cells #[I ((chkFault l r).1), I ((chkFault l r).2)] 27), blkE g1 (.cells #[wa, wb, wc, wd, we] 42), rdE wa l.Low, rdE wb l.High, rdE wc l.Start, rdE wd l.Jumps, rdE we l.Bad, rdE vr r] H202 := by have h__ := hS202; rw [show (left.take i).filter (fun t => !strayIn l r left t) = dropBad l r left from by rw [List.take_of_length_le (by omega)]; rfl] at h__; exact h__
    refine wpF_exit ?_
    refine atX_here ?_
    refine wpF_cut (fun f H => f 1 = vr ∧ f 2 = PT g1 0 ∧ f 17 = r124 ∧ f 18 = PT g128 0 ∧ f 21 = vk ∧ f 23 = r183 ∧ f 24 = I ((n : Int)) ∧ H202 = H) ?_ ?_
    · refine wpF_region ?_
      refine wpL_q (U := NoB) rfl (q_move (v := vk) rfl a203_25) ?_
      refine wpL_q (U := NoB) rfl (q_assign (v := vk) rfl rfl) ?_
      exact ⟨a203_1, a203_2, a203_17, a203_18, rfl, a203_23, a203_24, rfl⟩
    rintro f270 _ ⟨a270_1, a270_2, a270_17, a270_18, a270_21, a270_23, a270_24, rfl⟩
    clear a203_1 a203_17 a203_18 a203_2 a203_21 a203_222 a203_23 a203_24 a203_25 a203_26 a203_27
    refine wpF_cut (fun f H => f 1 = vr ∧ f 2 = PT g1 0 ∧ f 17 = r124 ∧ f 18 = PT g128 0 ∧ f 21 = vk ∧ f 23 = r183 ∧ f 24 = I ((n : Int) + 1) ∧ H202 = H) ?_ ?_
    · refine wpF_region ?_
      refine wpL_q (U := NoB) rfl (q_move (v := I ((n : Int))) rfl a270_24) ?_
      refine wpL_q (U := NoB) rfl (q_add rfl rfl rfl (by constructor <;> omega)) ?_
      refine wpL_q (U := NoB) rfl (q_assign (v := I ((n : Int) + 1)) rfl rfl) ?_
      exact ⟨a270_1, a270_2, a270_17, a270_18, a270_21, a270_23, rfl, rfl⟩
    rintro f271 _ ⟨a271_1, a271_2, a271_17, a271_18, a271_21, a271_23, a271_24, rfl⟩
    clear a270_1 a270_17 a270_18 a270_2 a270_21 a270_23 a270_24
    refine ⟨_, ?_, n + 1, dropBad l r left, vk, rfl, (by omega), hir.drop, (Nat.le_trans dropBad_len hll), (by rw [mostF_succ, ← hle]), a271_1, a271_2, a271_17, a271_18, a271_21, a271_23, (Eq.trans a271_24 (congrArg I (by omega))), (show St H0 NoB NoB [rowE 3 vk ((dropBad l r left) : List Int), rdE r183 (statesL l), blkE g128 (.cells #[I ((chkFault l r).1), I ((chkFault l r).2)] 27), rdE r124 (holdMost l r), blkE g118 (.cells #[I ((chkFault l r).1), I ((chkFault l r).2)] 27), blkE g17 (.cells #[I ((chkFault l r).1), I ((chkFault l r).2)] 27), blkE g1 (.cells #[wa, wb, wc, wd, we] 42), rdE wa l.Low, rdE wb l.High, rdE wc l.Start, rdE wd l.Jumps, rdE we l.Bad, rdE vr r] H202 from (hS205.drop (sk (sn (sn (sk (sk (sk (sk (sk (sk (sk (sk (sk (sk (sk (sk (List.Sublist.slnil))))))))))))))))))⟩
    omega
  have hirk := hir _ (nth_mem (l := left) (k := i) (by omega))
  refine wpF_skip ?_
  refine wpF_seq ?_
  refine wpF_block ?_
  refine wpF_seq ?_
  refine wpF_cut (fun f H => ∃ (v208 : Value), (In64 (nth r ((nth left i).toNat)).Kind) ∧ (In64 (nth r ((nth left i).toNat)).To) ∧ f 1 = vr ∧ f 2 = PT g1 0 ∧ f 17 = r124 ∧ f 18 = PT g128 0 ∧ f 21 = vq ∧ f 23 = r183 ∧ f 24 = I ((n : Int)) ∧ f 25 = vk ∧ f 26 = r196 ∧ f 27 = I ((i : Int)) ∧ f 28 = v208 ∧ St H0 NoB NoB [rowE 34 v208 ([(nth r ((nth left i).toNat))] : List LRow), rowE 3 vk ((left.take i).filter (fun t => !strayIn l r left t) : List Int), rdE r196 (pickR r left), rdE vq left, rdE r183 (statesL l), blkE g128 (.cells #[I ((chkFault l r).1), I ((chkFault l r).2)] 27), rdE r124 (holdMost l r), blkE g118 (.cells #[I ((chkFault l r).1), I ((chkFault l r).2)] 27), blkE g17 (.cells #[I ((chkFault l r).1), I ((chkFault l r).2)] 27), blkE g1 (.cells #[wa, wb, wc, wd, we] 42), rdE wa l.Low, rdE wb l.High, rdE wc l.Start, rdE wd l.Jumps, rdE we l.Bad, rdE vr r] H) ?_ ?_
  · refine wpF_region ?_
    refine wpL_q (U := NoB) rfl (q_move (v := vr) rfl a203_1) ?_
    refine wpL_q (U := NoB) rfl (q_move (v := vq) rfl a203_21) ?_
    refine wpL_q (U := NoB) rfl (q_move (v := I ((i : Int))) rfl a203_27) ?_
    refine wpL_q (U := NoB) rfl (q_indexRd (k := i) rfl Try.underlying32 el_Int_3_HoldSays1 rfl rfl (hS202.rdl 2 rfl) (by omega) (by omega)) ?_
    refine wpL_q (U := NoB) rfl (q_loadInt (k := i) rfl rfl el_Int_3_HoldSays1 (hS202.rdl 2 rfl) (by omega) (fun _ h => h)) ?_
    refine wpL_q (U := NoB) rfl (q_indexRd (k := (nth left i).toNat) rfl Try.underlying22 el_LRow_34_HoldSays1 rfl rfl (hS202.rdl 14 rfl) (by omega) (by omega)) ?_
    obtain ⟨u206, huu206, hlu206⟩ := (Rd.list.1 (hS202.rdS 14 rfl)).elem ((nth left i).toNat) (by omega)
    obtain ⟨u206n0, rfl, hu2060, hu2061, hu2062⟩ := Rd.lRow.1 huu206
    have hS207 : St H0 NoB NoB [rdE u206n0 ((nth r ((nth left i).toNat)).Of), rowE 3 vk ((left.take i).filter (fun t => !strayIn l r left t) : List Int), rdE r196 (pickR r left), rdE vq left, rdE r183 (statesL l), blkE g128 (.cells #[I ((chkFault l r).1), I ((chkFault l r).2)] 27), rdE r124 (holdMost l r), blkE g118 (.cells #[I ((chkFault l r).1), I ((chkFault l r).2)] 27), blkE g17 (.cells #[I ((chkFault l r).1), I ((chkFault l r).2)] 27), blkE g1 (.cells #[wa, wb, wc, wd, we] 42), rdE wa l.Low, rdE wb l.High, rdE wc l.Start, rdE wd l.Jumps, rdE we l.Bad, rdE vr r] H202 := hS202.rd hu2060
    refine wpL_q (U := NoB) rfl (q_loadE rfl rfl (hlu206 Try.prog 34 _ el_LRow_34_HoldSays1 (fun _ h => False.elim h))) ?_
    refine wpL_o rfl ?_
    refine e_buildSlice (vs := [Value.agg #[u206n0, I ((nth r ((nth left i).toNat)).Kind), I ((nth r ((nth left i).toNat)).To)]]) (xs := ([(nth r ((nth left i).toNat))] : List LRow)) rfl Try.underlying22 Try.zeroValue34 rfl Try.sizeOf34 (par1 (v0 := Value.agg #[u206n0, I ((nth r ((nth left i).toNat)).Kind), I ((nth r ((nth left i).toNat)).To)]) rfl) rfl hS207 (RdVs.cons (Rd.lRow.2 ⟨_, rfl, (hS207.rdS 0 rfl), (by first | assumption | (constructor <;> (dsimp only; omega)) | (constructor <;> omega)), (by first | assumption | (constructor <;> (dsimp only; omega)) | (constructor <;> omega))⟩) (RdVs.nil)) (by decide) (by decide) (fun v208 H209 hS210 hxx hvv208 => ?_)
    replace hS210 : St H0 NoB NoB [rowE 34 v208 ([(nth r ((nth left i).toNat))] : List LRow), rdE u206n0 ((nth r ((nth left i).toNat)).Of), rowE 3 vk ((left.take i).filter (fun t => !strayIn l r left t) : List Int), rdE r196 (pickR r left), rdE vq left, rdE r183 (statesL l), blkE g128 (.cells #[I ((chkFault l r).1), I ((chkFault l r).2)] 27), rdE r124 (holdMost l r), blkE g118 (.cells #[I ((chkFault l r).1), I ((chkFault l r).2)] 27), blkE g17 (.cells #[I ((chkFault l r).1), I ((chkFault l r).2)] 27), blkE g1 (.cells #[wa, wb, wc, wd, we] 42), rdE wa l.Low, rdE wb l.High, rdE wc l.Start, rdE wd l.Jumps, rdE we l.Bad, rdE vr r] H209 := hS210
    refine wpL_q (U := NoB) rfl (q_assign (v := v208) rfl rfl) ?_
    exact ⟨v208, hu2061, hu2062, a203_1, a203_2, a203_17, a203_18, a203_21, a203_23, a203_24, a203_25, a203_26, a203_27, rfl, (hS210.drop (sk (sn (sk (sk (sk (sk (sk (sk (sk (sk (sk (sk (sk (sk (sk (sk (sk (List.Sublist.slnil)))))))))))))))))))⟩
  rintro f211 H211 ⟨v208, hu2061, hu2062, a211_1, a211_2, a211_17, a211_18, a211_21, a211_23, a211_24, a211_25, a211_26, a211_27, a211_28, hS211⟩
  clear a203_1 a203_17 a203_18 a203_2 a203_21 a203_222 a203_23 a203_24 a203_25 a203_26 a203_27
  have hS212 : St H0 NoB NoB [rdE v208 ([(nth r ((nth left i).toNat))] : List LRow), rowE 3 vk ((left.take i).filter (fun t => !strayIn l r left t) : List Int), rdE r196 (pickR r left), rdE vq left, rdE r183 (statesL l), blkE g128 (.cells #[I ((chkFault l r).1), I ((chkFault l r).2)] 27), rdE r124 (holdMost l r), blkE g118 (.cells #[I ((chkFault l r).1), I ((chkFault l r).2)] 27), blkE g17 (.cells #[I ((chkFault l r).1), I ((chkFault l r).2)] 27), blkE g1 (.cells #[wa, wb, wc, wd, we] 42), rdE wa l.Low, rdE wb l.High, rdE wc l.Start, rdE wd l.Jumps, rdE we l.Bad, rdE vr r] H211 := St.fin hS211
  refine wpF_seq ?_
  refine wpF_cut (fun f H => f 1 = vr ∧ f 2 = PT g1 0 ∧ f 17 = r124 ∧ f 18 = PT g128 0 ∧ f 21 = vq ∧ f 23 = r183 ∧ f 24 = I ((n : Int)) ∧ f 25 = vk ∧ f 26 = r196 ∧ f 27 = I ((i : Int)) ∧ f 28 = v208 ∧ f 29 = B (true) ∧ H211 = H) ?_ ?_
  · refine wpF_region ?_
    refine wpL_q (U := NoB) rfl (q_assign (v := B (true)) rfl rfl) ?_
    exact ⟨a211_1, a211_2, a211_17, a211_18, a211_21, a211_23, a211_24, a211_25, a211_26, a211_27, a211_28, rfl, rfl⟩
  rintro f213 _ ⟨a213_1, a213_2, a213_17, a213_18, a213_21, a213_23, a213_24, a213_25, a213_26, a213_27, a213_28, a213_29, rfl⟩
  clear a211_1 a211_17 a211_18 a211_2 a211_21 a211_23 a211_24 a211_25 a211_26 a211_27 a211_28
  refine wpF_seq ?_
  refine wpF_seq ?_
  refine wpF_cut (fun f H => f 1 = vr ∧ f 2 = PT g1 0 ∧ f 17 = r124 ∧ f 18 = PT g128 0 ∧ f 21 = vq ∧ f 23 = r183 ∧ f 24 = I ((n : Int)) ∧ f 25 = vk ∧ f 26 = r196 ∧ f 27 = I ((i : Int)) ∧ f 28 = v208 ∧ f 29 = B (true) ∧ f 30 = I (0) ∧ H211 = H) ?_ ?_
  · refine wpF_region ?_
    refine wpL_q (U := NoB) rfl (q_assign (v := I (0)) rfl rfl) ?_
    exact ⟨a213_1, a213_2, a213_17, a213_18, a213_21, a213_23, a213_24, a213_25, a213_26, a213_27, a213_28, a213_29, rfl, rfl⟩
  rintro f214 _ ⟨a214_1, a214_2, a214_17, a214_18, a214_21, a214_23, a214_24, a214_25, a214_26, a214_27, a214_28, a214_29, a214_30, rfl⟩
  clear a213_1 a213_17 a213_18 a213_2 a213_21 a213_23 a213_24 a213_25 a213_26 a213_27 a213_28 a213_29
  refine wpF_block ?_
  refine wpF_loop (fun mz f H => ∃ (k : Nat), ∃ (f0 : Bool), mz = (statesL l).length - k ∧ (k ≤ (statesL l).length) ∧ (f0 = fineB l r left i k) ∧ f 1 = vr ∧ f 2 = PT g1 0 ∧ f 17 = r124 ∧ f 18 = PT g128 0 ∧ f 21 = vq ∧ f 23 = r183 ∧ f 24 = I ((n : Int)) ∧ f 25 = vk ∧ f 26 = r196 ∧ f 27 = I ((i : Int)) ∧ f 28 = v208 ∧ f 29 = B (f0) ∧ f 30 = I ((k : Int)) ∧ St H0 NoB NoB [rdE v208 ([(nth r ((nth left i).toNat))] : List LRow), rowE 3 vk ((left.take i).filter (fun t => !strayIn l r left t) : List Int), rdE r196 (pickR r left), rdE vq left, rdE r183 (statesL l), blkE g128 (.cells #[I ((chkFault l r).1), I ((chkFault l r).2)] 27), rdE r124 (holdMost l r), blkE g118 (.cells #[I ((chkFault l r).1), I ((chkFault l r).2)] 27), blkE g17 (.cells #[I ((chkFault l r).1), I ((chkFault l r).2)] 27), blkE g1 (.cells #[wa, wb, wc, wd, we] 42), rdE wa l.Low, rdE wb l.High, rdE wc l.Start, rdE wd l.Jumps, rdE we l.Bad, rdE vr r] H) ((statesL l).length - 0) ?_ ?_
  · exact ⟨0, true, rfl, Nat.zero_le _, fine_start, a214_1, a214_2, a214_17, a214_18, a214_21, a214_23, a214_24, a214_25, a214_26, a214_27, a214_28, a214_29, (Eq.trans a214_30 (congrArg I (by omega))), hS212⟩
  intro m215 f215 H215 hI215
  obtain ⟨k, f0, hm215, hk, hfn, a215_1, a215_2, a215_17, a215_18, a215_21, a215_23, a215_24, a215_25, a215_26, a215_27, a215_28, a215_29, a215_30, hS215⟩ := hI215
  clear a214_1 a214_17 a214_18 a214_2 a214_21 a214_23 a214_24 a214_25 a214_26 a214_27 a214_28 a214_29 a214_30
  refine wpF_seq ?_
  refine wpF_seq ?_
  refine wpF_cut (fun f H => f 1 = vr ∧ f 2 = PT g1 0 ∧ f 17 = r124 ∧ f 18 = PT g128 0 ∧ f 21 = vq ∧ f 23 = r183 ∧ f 24 = I ((n : Int)) ∧ f 25 = vk ∧ f 26 = r196 ∧ f 27 = I ((i : Int)) ∧ f 28 = v208 ∧ f 29 = B (f0) ∧ f 30 = I ((k : Int)) ∧ f 236 = B (decide ((k : Int) < ((statesL l).length : Int))) ∧ H215 = H) ?_ ?_
  · refine wpF_region ?_
    refine wpL_q (U := NoB) rfl (q_move (v := I ((k : Int))) rfl a215_30) ?_
    refine wpL_q (U := NoB) rfl (q_move (v := r183) rfl a215_23) ?_
    refine wpL_q (U := NoB) rfl (q_lenRd rfl Try.underlying23 rfl (hS215.rdl 4 rfl)) ?_
    refine wpL_q (U := NoB) rfl (q_lss rfl rfl rfl) ?_
    exact ⟨a215_1, a215_2, a215_17, a215_18, a215_21, a215_23, a215_24, a215_25, a215_26, a215_27, a215_28, a215_29, a215_30, rfl, rfl⟩
  rintro f216 _ ⟨a216_1, a216_2, a216_17, a216_18, a216_21, a216_23, a216_24, a216_25, a216_26, a216_27, a216_28, a216_29, a216_30, a216_236, rfl⟩
  clear a215_1 a215_17 a215_18 a215_2 a215_21 a215_23 a215_24 a215_25 a215_26 a215_27 a215_28 a215_29 a215_30
  refine wpF_condP a216_236 (fun hlt10 => ?t269) (fun hlt10 => ?e269)
  case e269 =>
    refine wpF_exit ?_
    refine atX_here ?_
    refine wpF_seq ?_
    refine wpF_cut (fun f H => f 1 = vr ∧ f 2 = PT g1 0 ∧ f 17 = r124 ∧ f 18 = PT g128 0 ∧ f 21 = vq ∧ f 23 = r183 ∧ f 24 = I ((n : Int)) ∧ f 25 = vk ∧ f 26 = r196 ∧ f 27 = I ((i : Int)) ∧ f 283 = B (f0) ∧ H215 = H) ?_ ?_
    · refine wpF_region ?_
      refine wpL_q (U := NoB) rfl (q_move (v := B (f0)) rfl a216_29) ?_
      exact ⟨a216_1, a216_2, a216_17, a216_18, a216_21, a216_23, a216_24, a216_25, a216_26, a216_27, rfl, rfl⟩
    rintro f254 _ ⟨a254_1, a254_2, a254_17, a254_18, a254_21, a254_23, a254_24, a254_25, a254_26, a254_27, a254_283, rfl⟩
    clear a216_1 a216_17 a216_18 a216_2 a216_21 a216_23 a216_236 a216_24 a216_25 a216_26 a216_27 a216_28 a216_29 a216_30
    refine wpF_cond a254_283 (fun h283 => ?t268) (fun h283 => ?e268)
    case e268 =>
      refine wpF_skip ?_
      refine wpF_cut (fun f H => f 1 = vr ∧ f 2 = PT g1 0 ∧ f 17 = r124 ∧ f 18 = PT g128 0 ∧ f 21 = vq ∧ f 23 = r183 ∧ f 24 = I ((n : Int)) ∧ f 25 = vk ∧ f 26 = r196 ∧ f 27 = I ((i : Int) + 1) ∧ H215 = H) ?_ ?_
      · refine wpF_region ?_
        refine wpL_q (U := NoB) rfl (q_move (v := I ((i : Int))) rfl a254_27) ?_
        refine wpL_q (U := NoB) rfl (q_add rfl rfl rfl (by constructor <;> omega)) ?_
        refine wpL_q (U := NoB) rfl (q_assign (v := I ((i : Int) + 1)) rfl rfl) ?_
        exact ⟨a254_1, a254_2, a254_17, a254_18, a254_21, a254_23, a254_24, a254_25, a254_26, rfl, rfl⟩
      rintro f267 _ ⟨a267_1, a267_2, a267_17, a267_18, a267_21, a267_23, a267_24, a267_25, a267_26, a267_27, rfl⟩
      clear a254_1 a254_17 a254_18 a254_2 a254_21 a254_23 a254_24 a254_25 a254_26 a254_27 a254_283
      refine ⟨_, ?_, i + 1, vk, rfl, (by omega), a267_1, a267_2, a267_17, a267_18, a267_21, a267_23, a267_24, a267_25, a267_26, (Eq.trans a267_27 (congrArg I (by omega))), (show St H0 NoB NoB [rowE 3 vk ((left.take (i + 1)).filter (fun t => !strayIn l r left t) : List Int), rdE r196 (pickR r left), rdE vq left, rdE r183 (statesL l), blkE g128 (.cells #[I ((chkFault l r).1), I ((chkFault l r).2)] 27), rdE r124 (holdMost l r), blkE g118 (.cells #[I ((chkFault l r).1), I ((chkFault l r).2)] 27), blkE g17 (.cells #[I ((chkFault l r).1), I ((chkFault l r).2)] 27), blkE g1 (.cells #[wa, wb, wc, wd, we] 42), rdE wa l.Low, rdE wb l.High, rdE wc l.Start, rdE wd l.Jumps, rdE we l.Bad, rdE vr r] H215 from (by have h__ := (hS215.drop (sn (sk (sk (sk (sk (sk (sk (sk (sk (sk (sk (sk (sk (sk (sk (sk (List.Sublist.slnil)))))))))))))))))); (first | rw [show (left.take i).filter (fun t => !strayIn l r left t) = (left.take (i + 1)).filter (fun t => !strayIn l r left t) from (filterI_no (by omega) (by rw [← fine_end (k := k) (by omega), ← hfn]; simpa using h283)).symm] at h__ | skip); exact h__))⟩
      omega
    refine wpF_cut (fun f H => ∃ (v261 : Value), f 1 = vr ∧ f 2 = PT g1 0 ∧ f 17 = r124 ∧ f 18 = PT g128 0 ∧ f 21 = vq ∧ f 23 = r183 ∧ f 24 = I ((n : Int)) ∧ f 25 = v261 ∧ f 26 = r196 ∧ f 27 = I ((i : Int)) ∧ St H0 NoB NoB [rowE 3 v261 ((left.take (i + 1)).filter (fun t => !strayIn l r left t) : List Int), rdE r196 (pickR r left), rdE vq left, rdE r183 (statesL l), blkE g128 (.cells #[I ((chkFault l r).1), I ((chkFault l r).2)] 27), rdE r124 (holdMost l r), blkE g118 (.cells #[I ((chkFault l r).1), I ((chkFault l r).2)] 27), blkE g17 (.cells #[I ((chkFault l r).1), I ((chkFault l r).2)] 27), blkE g1 (.cells #[wa, wb, wc, wd, we] 42), rdE wa l.Low, rdE wb l.High, rdE wc l.Start, rdE wd l.Jumps, rdE we l.Bad, rdE vr r] H) ?_ ?_
    · refine wpF_region ?_
      refine wpL_q (U := NoB) rfl (q_move (v := vk) rfl a254_25) ?_
      refine wpL_q (U := NoB) rfl (q_move (v := vq) rfl a254_21) ?_
      refine wpL_q (U := NoB) rfl (q_move (v := I ((i : Int))) rfl a254_27) ?_
      refine wpL_q (U := NoB) rfl (q_indexRd (k := i) rfl Try.underlying32 el_Int_3_HoldSays1 rfl rfl (hS215.rdl 3 rfl) (by omega) (by omega)) ?_
      refine wpL_q (U := NoB) rfl (q_loadInt (k := i) rfl rfl el_Int_3_HoldSays1 (hS215.rdl 3 rfl) (by omega) (fun _ h => h)) ?_
      refine wpL_o rfl ?_
      refine e_buildSlice (vs := [I (nth left i)]) (xs := ([nth left i] : List Int)) rfl Try.underlying32 Try.zeroValue3 rfl Try.sizeOf3 (par1 (v0 := I (nth left i)) rfl) rfl hS215 (RdVs.cons (Rd.int.2 ⟨rfl, by constructor <;> omega⟩) (RdVs.nil)) (by decide) (by decide) (fun v256 H257 hS258 hxx hvv256 => ?_)
      replace hS258 : St H0 NoB NoB [rowE 3 v256 ([nth left i] : List Int), rdE v208 ([(nth r ((nth left i).toNat))] : List LRow), rowE 3 vk ((left.take i).filter (fun t => !strayIn l r left t) : List Int), rdE r196 (pickR r left), rdE vq left, rdE r183 (statesL l), blkE g128 (.cells #[I ((chkFault l r).1), I ((chkFault l r).2)] 27), rdE r124 (holdMost l r), blkE g118 (.cells #[I ((chkFault l r).1), I ((chkFault l r).2)] 27), blkE g17 (.cells #[I ((chkFault l r).1), I ((chkFault l r).2)] 27), blkE g1 (.cells #[wa, wb, wc, wd, we] 42), rdE wa l.Low, rdE wb l.High, rdE wc l.Start, rdE wd l.Jumps, rdE we l.Bad, rdE vr r] H257 := hS258
      have hS259 : St H0 NoB NoB [rdE v256 ([nth left i] : List Int), rdE v208 ([(nth r ((nth left i).toNat))] : List LRow), rowE 3 vk ((left.take i).filter (fun t => !strayIn l r left t) : List Int), rdE r196 (pickR r left), rdE vq left, rdE r183 (statesL l), blkE g128 (.cells #[I ((chkFault l r).1), I ((chkFault l r).2)] 27), rdE r124 (holdMost l r), blkE g118 (.cells #[I ((chkFault l r).1), I ((chkFault l r).2)] 27), blkE g17 (.cells #[I ((chkFault l r).1), I ((chkFault l r).2)] 27), blkE g1 (.cells #[wa, wb, wc, wd, we] 42), rdE wa l.Low, rdE wb l.High, rdE wc l.Start, rdE wd l.Jumps, rdE we l.Bad, rdE vr r] H257 := St.fin hS258
      have hS260 : St H0 NoB NoB [rowE 3 vk ((left.take i).filter (fun t => !strayIn l r left t) : List Int), rdE v256 ([nth left i] : List Int), rdE v208 ([(nth r ((nth left i).toNat))] : List LRow), rdE r196 (pickR r left), rdE vq left, rdE r183 (statesL l), blkE g128 (.cells #[I ((chkFault l r).1), I ((chkFault l r).2)] 27), rdE r124 (holdMost l r), blkE g118 (.cells #[I ((chkFault l r).1), I ((chkFault l r).2)] 27), blkE g17 (.cells #[I ((chkFault l r).1), I ((chkFault l r).2)] 27), blkE g1 (.cells #[wa, wb, wc, wd, we] 42), rdE wa l.Low, rdE wb l.High, rdE wc l.Start, rdE wd l.Jumps, rdE we l.Bad, rdE vr r] H257 := (hS259.front 2 rfl)
      refine wpL_o rfl ?_
      refine e_append rfl Try.underlying32 em_Int_3_HoldSays1 rfl rfl hS260 (hS260.rdS 1 rfl) (fun _ h => h) (by have hb : GoT.bytes Int = 8 := rfl; have hb2 := List.length_filter_le (fun t => !strayIn l r left t) (left.take i); rw [List.length_take] at hb2; rw [hb, List.length_singleton]; omega) (by decide) (fun v261 H262 hS263 hxx => ?_)
      replace hS263 : St H0 NoB NoB [rowE 3 v261 (((left.take i).filter (fun t => !strayIn l r left t)) ++ ([nth left i]) : List Int), rdE v256 ([nth left i] : List Int), rdE v208 ([(nth r ((nth left i).toNat))] : List LRow), rdE r196 (pickR r left), rdE vq left, rdE r183 (statesL l), blkE g128 (.cells #[I ((chkFault l r).1), I ((chkFault l r).2)] 27), rdE r124 (holdMost l r), blkE g118 (.cells #[I ((chkFault l r).1), I ((chkFault l r).2)] 27), blkE g17 (.cells #[I ((chkFault l r).1), I ((chkFault l r).2)] 27), blkE g1 (.cells #[wa, wb, wc, wd, we] 42), rdE wa l.Low, rdE wb l.High, rdE wc l.Start, rdE wd l.Jumps, rdE we l.Bad, rdE vr r] H262 := hS263
      have hS264 : St H0 NoB NoB [rowE 3 v261 ((left.take (i + 1)).filter (fun t => !strayIn l r left t) : List Int), rdE v256 ([nth left i] : List Int), rdE v208 ([(nth r ((nth left i).toNat))] : List LRow), rdE r196 (pickR r left), rdE vq left, rdE r183 (statesL l), blkE g128 (.cells #[I ((chkFault l r).1), I ((chkFault l r).2)] 27), rdE r124 (holdMost l r), blkE g118 (.cells #[I ((chkFault l r).1), I ((chkFault l r).2)] 27), blkE g17 (.cells #[I ((chkFault l r).1), I ((chkFault l r).2)] 27), blkE g1 (.cells #[wa, wb, wc, wd, we] 42), rdE wa l.Low, rdE wb l.High, rdE wc l.Start, rdE wd l.Jumps, rdE we l.Bad, rdE vr r] H262 := by rw [show ((left.take (i + 1)).filter (fun t => !strayIn l r left t)) = (((left.take i).filter (fun t => !strayIn l r left t)) ++ ([nth left i])) from (filterI_yes (by omega) (by rw [← fine_end (k := k) (by omega), ← hfn]; exact h283))]; exact hS263
      refine wpL_q (U := NoB) rfl (q_assign (v := v261) rfl rfl) ?_
      exact ⟨v261, a254_1, a254_2, a254_17, a254_18, a254_21, a254_23, a254_24, rfl, a254_26, a254_27, (hS264.drop (sk (sn (sn (sk (sk (sk (sk (sk (sk (sk (sk (sk (sk (sk (sk (sk (sk (List.Sublist.slnil)))))))))))))))))))⟩
    rintro f265 H265 ⟨v261, a265_1, a265_2, a265_17, a265_18, a265_21, a265_23, a265_24, a265_25, a265_26, a265_27, hS265⟩
    clear a254_1 a254_17 a254_18 a254_2 a254_21 a254_23 a254_24 a254_25 a254_26 a254_27 a254_283
    refine wpF_cut (fun f H => f 1 = vr ∧ f 2 = PT g1 0 ∧ f 17 = r124 ∧ f 18 = PT g128 0 ∧ f 21 = vq ∧ f 23 = r183 ∧ f 24 = I ((n : Int)) ∧ f 25 = v261 ∧ f 26 = r196 ∧ f 27 = I ((i : Int) + 1) ∧ H265 = H) ?_ ?_
    · refine wpF_region ?_
      refine wpL_q (U := NoB) rfl (q_move (v := I ((i : Int))) rfl a265_27) ?_
      refine wpL_q (U := NoB) rfl (q_add rfl rfl rfl (by constructor <;> omega)) ?_
      refine wpL_q (U := NoB) rfl (q_assign (v := I ((i : Int) + 1)) rfl rfl) ?_
      exact ⟨a265_1, a265_2, a265_17, a265_18, a265_21, a265_23, a265_24, a265_25, a265_26, rfl, rfl⟩
    rintro f266 _ ⟨a266_1, a266_2, a266_17, a266_18, a266_21, a266_23, a266_24, a266_25, a266_26, a266_27, rfl⟩
    clear a265_1 a265_17 a265_18 a265_2 a265_21 a265_23 a265_24 a265_25 a265_26 a265_27
    refine ⟨_, ?_, i + 1, v261, rfl, (by omega), a266_1, a266_2, a266_17, a266_18, a266_21, a266_23, a266_24, a266_25, a266_26, (Eq.trans a266_27 (congrArg I (by omega))), hS265⟩
    omega
  have hst := state_st hl (i := k) (by omega)
  have hnx6 : (nextL l (nth (statesL l) k)).length ≤ 6 := Nat.le_trans (nextTo_len _) hl.jumps
  refine wpF_skip ?_
  refine wpF_seq ?_
  refine wpF_block ?_
  refine wpF_seq ?_
  refine wpF_seq ?_
  obtain ⟨u218o5, huu218o5, hlu218o5⟩ := (Rd.list.1 (hS215.rdS 4 rfl)).elem k (by omega)
  have hS218o5 : St H0 NoB NoB [rdE u218o5 (nth (statesL l) k), rdE v208 ([(nth r ((nth left i).toNat))] : List LRow), rowE 3 vk ((left.take i).filter (fun t => !strayIn l r left t) : List Int), rdE r196 (pickR r left), rdE vq left, rdE r183 (statesL l), blkE g128 (.cells #[I ((chkFault l r).1), I ((chkFault l r).2)] 27), rdE r124 (holdMost l r), blkE g118 (.cells #[I ((chkFault l r).1), I ((chkFault l r).2)] 27), blkE g17 (.cells #[I ((chkFault l r).1), I ((chkFault l r).2)] 27), blkE g1 (.cells #[wa, wb, wc, wd, we] 42), rdE wa l.Low, rdE wb l.High, rdE wc l.Start, rdE wd l.Jumps, rdE we l.Bad, rdE vr r] H215 := hS215.rd huu218o5
  refine wpF_cut (fun f H => f 1 = vr ∧ f 2 = PT g1 0 ∧ f 17 = r124 ∧ f 18 = PT g128 0 ∧ f 21 = vq ∧ f 23 = r183 ∧ f 24 = I ((n : Int)) ∧ f 25 = vk ∧ f 26 = r196 ∧ f 27 = I ((i : Int)) ∧ f 28 = v208 ∧ f 29 = B (f0) ∧ f 30 = I ((k : Int)) ∧ f 254 = B (decide (((holdB l.Start (nth (statesL l) k)) = true) ∧ ((!(holdB ([(nth r ((nth left i).toNat))]) (nth (statesL l) k))) = true))) ∧ St H0 NoB NoB [rdE v208 ([(nth r ((nth left i).toNat))] : List LRow), rowE 3 vk ((left.take i).filter (fun t => !strayIn l r left t) : List Int), rdE r196 (pickR r left), rdE vq left, rdE r183 (statesL l), blkE g128 (.cells #[I ((chkFault l r).1), I ((chkFault l r).2)] 27), rdE r124 (holdMost l r), blkE g118 (.cells #[I ((chkFault l r).1), I ((chkFault l r).2)] 27), blkE g17 (.cells #[I ((chkFault l r).1), I ((chkFault l r).2)] 27), blkE g1 (.cells #[wa, wb, wc, wd, we] 42), rdE wa l.Low, rdE wb l.High, rdE wc l.Start, rdE wd l.Jumps, rdE we l.Bad, rdE vr r] H) ?_ ?_
  · refine wpF_drawn [] [] (fun _ _ => False) (by kernel_rfl) (by kernel_rfl) ?_
    refine wpR_q 0 (by kernel_rfl) rfl (quietAt rfl rfl (q_fieldAddr rfl Try.underlying42 rfl Try.sizeOf22 a216_2)) ?_
    refine wpR_q 1 (by kernel_rfl) rfl (quietAt rfl rfl (q_loadBlk rfl rfl Try.isAgg22 (hS215.blk 9 rfl) rfl (labU_not [] rfl (List.forall_mem_nil _)))) ?_
    refine wpR_q 2 (by kernel_rfl) rfl (quietAt rfl rfl (q_move (v := r183) rfl a216_23)) ?_
    refine wpR_q 3 (by kernel_rfl) rfl (quietAt rfl rfl (q_move (v := I ((k : Int))) rfl a216_30)) ?_
    refine wpR_q 4 (by kernel_rfl) rfl (quietAt rfl rfl (q_indexRd (k := k) rfl Try.underlying23 el_LInt_32_HoldSays1 rfl rfl (hS215.rdl 4 rfl) (by omega) (by omega))) ?_
    refine wpR_q 5 (by kernel_rfl) rfl (quietAt rfl rfl (q_loadE rfl rfl (hlu218o5 Try.prog 32 _ el_LInt_32_HoldSays1 (labU_sub [] rfl (List.forall_mem_nil _))))) ?_
    refine wpR_n [6] (by kernel_rfl) ?_
    refine List.forall_mem_cons.2 ⟨?_, List.forall_mem_nil _⟩
    refine exE rfl rfl ?_
    refine e_call rfl Try.call33 (arr2 (v0 := wc) (v1 := u218o5) rfl rfl) (Hold_R wc u218o5 l.Start (nth (statesL l) k) (hS218o5.rdN 13 rfl) (hS218o5.rdN 0 rfl) (holdok_st hl hl.start hst)) ?_
    rintro _ H218o6 ⟨hxx, rfl⟩
    have hS218o6 : St H0 NoB NoB [rdE u218o5 (nth (statesL l) k), rdE v208 ([(nth r ((nth left i).toNat))] : List LRow), rowE 3 vk ((left.take i).filter (fun t => !strayIn l r left t) : List Int), rdE r196 (pickR r left), rdE vq left, rdE r183 (statesL l), blkE g128 (.cells #[I ((chkFault l r).1), I ((chkFault l r).2)] 27), rdE r124 (holdMost l r), blkE g118 (.cells #[I ((chkFault l r).1), I ((chkFault l r).2)] 27), blkE g17 (.cells #[I ((chkFault l r).1), I ((chkFault l r).2)] 27), blkE g1 (.cells #[wa, wb, wc, wd, we] 42), rdE wa l.Low, rdE wb l.High, rdE wc l.Start, rdE wd l.Jumps, rdE we l.Bad, rdE vr r] H218o6 := hS218o5.ext hxx
    refine ⟨Ext.mono hxx (fun _ h => h.elim), ?_⟩
    refine wpR_q 7 (by kernel_rfl) rfl (quietAt rfl rfl (q_move (v := B (holdB l.Start (nth (statesL l) k))) rfl rfl)) ?_
    by_cases hg219 : (holdB l.Start (nth (statesL l) k)) = true
    · have hb220 := Eq.trans rfl (congrArg B hg219)
      refine wpR_q 8 (by kernel_rfl) rfl (quietAt_g rfl rfl rfl rfl hb220 (q_move (v := v208) rfl a216_28)) ?_
      refine wpR_q 9 (by kernel_rfl) rfl (quietAt_g rfl rfl rfl rfl hb220 (q_move (v := r183) rfl a216_23)) ?_
      refine wpR_q 10 (by kernel_rfl) rfl (quietAt_g rfl rfl rfl rfl hb220 (q_move (v := I ((k : Int))) rfl a216_30)) ?_
      refine wpR_q 11 (by kernel_rfl) rfl (quietAt_g rfl rfl rfl rfl hb220 (q_indexRd (k := k) rfl Try.underlying23 el_LInt_32_HoldSays1 rfl rfl (hS218o6.rdl 5 rfl) (by omega) (by omega))) ?_
      obtain ⟨u218o12, huu218o12, hlu218o12⟩ := (Rd.list.1 (hS218o6.rdS 5 rfl)).elem k (by omega)
      have hS218o12 : St H0 NoB NoB [rdE u218o12 (nth (statesL l) k), rdE u218o5 (nth (statesL l) k), rdE v208 ([(nth r ((nth left i).toNat))] : List LRow), rowE 3 vk ((left.take i).filter (fun t => !strayIn l r left t) : List Int), rdE r196 (pickR r left), rdE vq left, rdE r183 (statesL l), blkE g128 (.cells #[I ((chkFault l r).1), I ((chkFault l r).2)] 27), rdE r124 (holdMost l r), blkE g118 (.cells #[I ((chkFault l r).1), I ((chkFault l r).2)] 27), blkE g17 (.cells #[I ((chkFault l r).1), I ((chkFault l r).2)] 27), blkE g1 (.cells #[wa, wb, wc, wd, we] 42), rdE wa l.Low, rdE wb l.High, rdE wc l.Start, rdE wd l.Jumps, rdE we l.Bad, rdE vr r] H218o6 := hS218o6.rd huu218o12
      refine wpR_q 12 (by kernel_rfl) rfl (quietAt_g rfl rfl rfl rfl hb220 (q_loadE rfl rfl (hlu218o12 Try.prog 32 _ el_LInt_32_HoldSays1 (labU_sub [] rfl (List.forall_mem_nil _))))) ?_
      refine wpR_n [13] (by kernel_rfl) ?_
      refine List.forall_mem_cons.2 ⟨?_, List.forall_mem_nil _⟩
      refine exE_g rfl rfl rfl rfl hb220 ?_
      refine e_call rfl Try.call33 (arr2 (v0 := v208) (v1 := u218o12) rfl rfl) (Hold_R v208 u218o12 ([(nth r ((nth left i).toNat))]) (nth (statesL l) k) (hS218o12.rdN 2 rfl) (hS218o12.rdN 0 rfl) ((holdok_st hl hrz hst).one (by omega))) ?_
      rintro _ H218o13 ⟨hxx, rfl⟩
      have hS218o13 : St H0 NoB NoB [rdE u218o12 (nth (statesL l) k), rdE u218o5 (nth (statesL l) k), rdE v208 ([(nth r ((nth left i).toNat))] : List LRow), rowE 3 vk ((left.take i).filter (fun t => !strayIn l r left t) : List Int), rdE r196 (pickR r left), rdE vq left, rdE r183 (statesL l), blkE g128 (.cells #[I ((chkFault l r).1), I ((chkFault l r).2)] 27), rdE r124 (holdMost l r), blkE g118 (.cells #[I ((chkFault l r).1), I ((chkFault l r).2)] 27), blkE g17 (.cells #[I ((chkFault l r).1), I ((chkFault l r).2)] 27), blkE g1 (.cells #[wa, wb, wc, wd, we] 42), rdE wa l.Low, rdE wb l.High, rdE wc l.Start, rdE wd l.Jumps, rdE we l.Bad, rdE vr r] H218o13 := hS218o12.ext hxx
      refine ⟨Ext.mono hxx (fun _ h => h.elim), ?_⟩
      refine wpR_q 14 (by kernel_rfl) rfl (quietAt_g rfl rfl rfl rfl hb220 (q_not rfl rfl)) ?_
      refine wpR_q 15 (by kernel_rfl) rfl (quietAt rfl rfl (q_pickT (v := B (!(holdB ([(nth r ((nth left i).toNat))]) (nth (statesL l) k)))) rfl hb220 rfl)) ?_
      refine wpR_end (by kernel_rfl) ?_
      exact ⟨a216_1, a216_2, a216_17, a216_18, a216_21, a216_23, a216_24, a216_25, a216_26, a216_27, a216_28, a216_29, a216_30, (Eq.trans rfl (congrArg B (bool_congr_of ((Iff.rfl).trans (((and_iff_right hg219).trans Iff.rfl)).symm)))), (hS218o13.drop (sn (sn (sk (sk (sk (sk (sk (sk (sk (sk (sk (sk (sk (sk (sk (sk (sk (sk (List.Sublist.slnil))))))))))))))))))))⟩
    · have hb221 := Eq.trans rfl (congrArg B (Bool.eq_false_iff.2 hg219))
      refine wpR_q 8 (by kernel_rfl) rfl (quietAt_s rfl rfl rfl rfl hb221 rfl) ?_
      refine wpR_q 9 (by kernel_rfl) rfl (quietAt_s rfl rfl rfl rfl hb221 rfl) ?_
      refine wpR_q 10 (by kernel_rfl) rfl (quietAt_s rfl rfl rfl rfl hb221 rfl) ?_
      refine wpR_q 11 (by kernel_rfl) rfl (quietAt_s rfl rfl rfl rfl hb221 rfl) ?_
      refine wpR_q 12 (by kernel_rfl) rfl (quietAt_s rfl rfl rfl rfl hb221 rfl) ?_
      refine wpR_q 13 (by kernel_rfl) rfl (quietAt_s rfl rfl rfl rfl hb221 rfl) ?_
      refine wpR_q 14 (by kernel_rfl) rfl (quietAt_s rfl rfl rfl rfl hb221 rfl) ?_
      refine wpR_q 15 (by kernel_rfl) rfl (quietAt rfl rfl (q_pickF (v := B (false)) rfl hb221 rfl)) ?_
      refine wpR_end (by kernel_rfl) ?_
      exact ⟨a216_1, a216_2, a216_17, a216_18, a216_21, a216_23, a216_24, a216_25, a216_26, a216_27, a216_28, a216_29, a216_30, (Eq.trans rfl (congrArg B ((decide_eq_false (fun h => hg219 h.1)).symm))), (hS218o6.drop (sn (sk (sk (sk (sk (sk (sk (sk (sk (sk (sk (sk (sk (sk (sk (sk (sk (List.Sublist.slnil)))))))))))))))))))⟩
  rintro f222 H222 ⟨a222_1, a222_2, a222_17, a222_18, a222_21, a222_23, a222_24, a222_25, a222_26, a222_27, a222_28, a222_29, a222_30, a222_254, hS222⟩
  clear a216_1 a216_17 a216_18 a216_2 a216_21 a216_23 a216_236 a216_24 a216_25 a216_26 a216_27 a216_28 a216_29 a216_30
  refine wpF_cut (fun f H => ∃ (f1 : Bool), (f1 = (f0 && !(holdB l.Start (nth (statesL l) k) && !holdB [(nth r ((nth left i).toNat))] (nth (statesL l) k)))) ∧ f 1 = vr ∧ f 2 = PT g1 0 ∧ f 17 = r124 ∧ f 18 = PT g128 0 ∧ f 21 = vq ∧ f 23 = r183 ∧ f 24 = I ((n : Int)) ∧ f 25 = vk ∧ f 26 = r196 ∧ f 27 = I ((i : Int)) ∧ f 28 = v208 ∧ f 29 = B (f1) ∧ f 30 = I ((k : Int)) ∧ H222 = H) ?_ ?_
  · refine wpF_condP a222_254 (fun h254 => ?t226) (fun h254 => ?e226)
    case e226 =>
      refine wpF_skip ?_
      exact ⟨f0, (fine_ok h254), a222_1, a222_2, a222_17, a222_18, a222_21, a222_23, a222_24, a222_25, a222_26, a222_27, a222_28, a222_29, a222_30, rfl⟩
    refine wpF_cut (fun f H => f 1 = vr ∧ f 2 = PT g1 0 ∧ f 17 = r124 ∧ f 18 = PT g128 0 ∧ f 21 = vq ∧ f 23 = r183 ∧ f 24 = I ((n : Int)) ∧ f 25 = vk ∧ f 26 = r196 ∧ f 27 = I ((i : Int)) ∧ f 28 = v208 ∧ f 29 = B (false) ∧ f 30 = I ((k : Int)) ∧ H222 = H) ?_ ?_
    · refine wpF_region ?_
      refine wpL_q (U := NoB) rfl (q_assign (v := B (false)) rfl rfl) ?_
      exact ⟨a222_1, a222_2, a222_17, a222_18, a222_21, a222_23, a222_24, a222_25, a222_26, a222_27, a222_28, rfl, a222_30, rfl⟩
    rintro f225 _ ⟨a225_1, a225_2, a225_17, a225_18, a225_21, a225_23, a225_24, a225_25, a225_26, a225_27, a225_28, a225_29, a225_30, rfl⟩
    clear a222_1 a222_17 a222_18 a222_2 a222_21 a222_23 a222_24 a222_25 a222_254 a222_26 a222_27 a222_28 a222_29 a222_30
    exact ⟨false, (fine_bad h254), a225_1, a225_2, a225_17, a225_18, a225_21, a225_23, a225_24, a225_25, a225_26, a225_27, a225_28, a225_29, a225_30, rfl⟩
  rintro f223 _ ⟨f1, hf1, a223_1, a223_2, a223_17, a223_18, a223_21, a223_23, a223_24, a223_25, a223_26, a223_27, a223_28, a223_29, a223_30, rfl⟩
  clear a222_1 a222_17 a222_18 a222_2 a222_21 a222_23 a222_24 a222_25 a222_254 a222_26 a222_27 a222_28 a222_29 a222_30
  refine wpF_seq ?_
  refine wpF_seq ?_
  obtain ⟨u227, huu227, hlu227⟩ := (Rd.list.1 (hS222.rdS 4 rfl)).elem k (by omega)
  have hS228 : St H0 NoB NoB [rdE u227 (nth (statesL l) k), rdE v208 ([(nth r ((nth left i).toNat))] : List LRow), rowE 3 vk ((left.take i).filter (fun t => !strayIn l r left t) : List Int), rdE r196 (pickR r left), rdE vq left, rdE r183 (statesL l), blkE g128 (.cells #[I ((chkFault l r).1), I ((chkFault l r).2)] 27), rdE r124 (holdMost l r), blkE g118 (.cells #[I ((chkFault l r).1), I ((chkFault l r).2)] 27), blkE g17 (.cells #[I ((chkFault l r).1), I ((chkFault l r).2)] 27), blkE g1 (.cells #[wa, wb, wc, wd, we] 42), rdE wa l.Low, rdE wb l.High, rdE wc l.Start, rdE wd l.Jumps, rdE we l.Bad, rdE vr r] H222 := hS222.rd huu227
  refine wpF_cut (fun f H => f 1 = vr ∧ f 2 = PT g1 0 ∧ f 17 = r124 ∧ f 18 = PT g128 0 ∧ f 21 = vq ∧ f 23 = r183 ∧ f 24 = I ((n : Int)) ∧ f 25 = vk ∧ f 26 = r196 ∧ f 27 = I ((i : Int)) ∧ f 28 = v208 ∧ f 29 = B (f1) ∧ f 30 = I ((k : Int)) ∧ f 261 = B (!(holdB (pickR r left) (nth (statesL l) k))) ∧ St H0 NoB NoB [rdE v208 ([(nth r ((nth left i).toNat))] : List LRow), rowE 3 vk ((left.take i).filter (fun t => !strayIn l r left t) : List Int), rdE r196 (pickR r left), rdE vq left, rdE r183 (statesL l), blkE g128 (.cells #[I ((chkFault l r).1), I ((chkFault l r).2)] 27), rdE r124 (holdMost l r), blkE g118 (.cells #[I ((chkFault l r).1), I ((chkFault l r).2)] 27), blkE g17 (.cells #[I ((chkFault l r).1), I ((chkFault l r).2)] 27), blkE g1 (.cells #[wa, wb, wc, wd, we] 42), rdE wa l.Low, rdE wb l.High, rdE wc l.Start, rdE wd l.Jumps, rdE we l.Bad, rdE vr r] H) ?_ ?_
  · refine wpF_region ?_
    refine wpL_q (U := NoB) rfl (q_move (v := r196) rfl a223_26) ?_
    refine wpL_q (U := NoB) rfl (q_move (v := r183) rfl a223_23) ?_
    refine wpL_q (U := NoB) rfl (q_move (v := I ((k : Int))) rfl a223_30) ?_
    refine wpL_q (U := NoB) rfl (q_indexRd (k := k) rfl Try.underlying23 el_LInt_32_HoldSays1 rfl rfl (hS222.rdl 4 rfl) (by omega) (by omega)) ?_
    refine wpL_q (U := NoB) rfl (q_loadE rfl rfl (hlu227 Try.prog 32 _ el_LInt_32_HoldSays1 (fun _ h => False.elim h))) ?_
    refine wpL_o rfl ?_
    refine e_call rfl Try.call33 (arr2 (v0 := r196) (v1 := u227) rfl rfl) (Hold_R r196 u227 (pickR r left) (nth (statesL l) k) (hS228.rdN 3 rfl) (hS228.rdN 0 rfl) ((holdok_st hl hrz hst).pick hir)) ?_
    rintro _ H229 ⟨hxx, rfl⟩
    have hS230 : St H0 NoB NoB [rdE u227 (nth (statesL l) k), rdE v208 ([(nth r ((nth left i).toNat))] : List LRow), rowE 3 vk ((left.take i).filter (fun t => !strayIn l r left t) : List Int), rdE r196 (pickR r left), rdE vq left, rdE r183 (statesL l), blkE g128 (.cells #[I ((chkFault l r).1), I ((chkFault l r).2)] 27), rdE r124 (holdMost l r), blkE g118 (.cells #[I ((chkFault l r).1), I ((chkFault l r).2)] 27), blkE g17 (.cells #[I ((chkFault l r).1), I ((chkFault l r).2)] 27), blkE g1 (.cells #[wa, wb, wc, wd, we] 42), rdE wa l.Low, rdE wb l.High, rdE wc l.Start, rdE wd l.Jumps, rdE we l.Bad, rdE vr r] H229 := hS228.ext hxx
    refine wpL_q (U := NoB) rfl (q_not rfl rfl) ?_
    exact ⟨a223_1, a223_2, a223_17, a223_18, a223_21, a223_23, a223_24, a223_25, a223_26, a223_27, a223_28, a223_29, a223_30, rfl, (hS230.drop (sn (sk (sk (sk (sk (sk (sk (sk (sk (sk (sk (sk (sk (sk (sk (sk (sk (List.Sublist.slnil)))))))))))))))))))⟩
  rintro f232 H232 ⟨a232_1, a232_2, a232_17, a232_18, a232_21, a232_23, a232_24, a232_25, a232_26, a232_27, a232_28, a232_29, a232_30, a232_261, hS232⟩
  clear a223_1 a223_17 a223_18 a223_2 a223_21 a223_23 a223_24 a223_25 a223_26 a223_27 a223_28 a223_29 a223_30
  refine wpF_cond a232_261 (fun h261 => ?t253) (fun h261 => ?e253)
  case t253 =>
    refine wpF_exit ?_
    refine atX_here ?_
    refine wpF_cut (fun f H => f 1 = vr ∧ f 2 = PT g1 0 ∧ f 17 = r124 ∧ f 18 = PT g128 0 ∧ f 21 = vq ∧ f 23 = r183 ∧ f 24 = I ((n : Int)) ∧ f 25 = vk ∧ f 26 = r196 ∧ f 27 = I ((i : Int)) ∧ f 28 = v208 ∧ f 29 = B (f1) ∧ f 30 = I ((k : Int) + 1) ∧ H232 = H) ?_ ?_
    · refine wpF_region ?_
      refine wpL_q (U := NoB) rfl (q_move (v := I ((k : Int))) rfl a232_30) ?_
      refine wpL_q (U := NoB) rfl (q_add rfl rfl rfl (by constructor <;> omega)) ?_
      refine wpL_q (U := NoB) rfl (q_assign (v := I ((k : Int) + 1)) rfl rfl) ?_
      exact ⟨a232_1, a232_2, a232_17, a232_18, a232_21, a232_23, a232_24, a232_25, a232_26, a232_27, a232_28, a232_29, rfl, rfl⟩
    rintro f234 _ ⟨a234_1, a234_2, a234_17, a234_18, a234_21, a234_23, a234_24, a234_25, a234_26, a234_27, a234_28, a234_29, a234_30, rfl⟩
    clear a232_1 a232_17 a232_18 a232_2 a232_21 a232_23 a232_24 a232_25 a232_26 a232_261 a232_27 a232_28 a232_29 a232_30
    refine ⟨_, ?_, k + 1, f1, rfl, (by omega), (fine_skip (by omega) hfn hf1 (by simpa using h261)), a234_1, a234_2, a234_17, a234_18, a234_21, a234_23, a234_24, a234_25, a234_26, a234_27, a234_28, a234_29, (Eq.trans a234_30 (congrArg I (by omega))), hS232⟩
    omega
  refine wpF_skip ?_
  refine wpF_seq ?_
  obtain ⟨u235o4, huu235o4, hlu235o4⟩ := (Rd.list.1 (hS232.rdS 4 rfl)).elem k (by omega)
  have hS235o4 : St H0 NoB NoB [rdE u235o4 (nth (statesL l) k), rdE v208 ([(nth r ((nth left i).toNat))] : List LRow), rowE 3 vk ((left.take i).filter (fun t => !strayIn l r left t) : List Int), rdE r196 (pickR r left), rdE vq left, rdE r183 (statesL l), blkE g128 (.cells #[I ((chkFault l r).1), I ((chkFault l r).2)] 27), rdE r124 (holdMost l r), blkE g118 (.cells #[I ((chkFault l r).1), I ((chkFault l r).2)] 27), blkE g17 (.cells #[I ((chkFault l r).1), I ((chkFault l r).2)] 27), blkE g1 (.cells #[wa, wb, wc, wd, we] 42), rdE wa l.Low, rdE wb l.High, rdE wc l.Start, rdE wd l.Jumps, rdE we l.Bad, rdE vr r] H232 := hS232.rd huu235o4
  refine wpF_cut (fun f H => ∃ (r235o5 : Value), f 1 = vr ∧ f 2 = PT g1 0 ∧ f 17 = r124 ∧ f 18 = PT g128 0 ∧ f 21 = vq ∧ f 23 = r183 ∧ f 24 = I ((n : Int)) ∧ f 25 = vk ∧ f 26 = r196 ∧ f 27 = I ((i : Int)) ∧ f 28 = v208 ∧ f 29 = B (f1) ∧ f 30 = I ((k : Int)) ∧ f 31 = r235o5 ∧ St H0 NoB NoB [rdE r235o5 (nextL l (nth (statesL l) k)), rdE v208 ([(nth r ((nth left i).toNat))] : List LRow), rowE 3 vk ((left.take i).filter (fun t => !strayIn l r left t) : List Int), rdE r196 (pickR r left), rdE vq left, rdE r183 (statesL l), blkE g128 (.cells #[I ((chkFault l r).1), I ((chkFault l r).2)] 27), rdE r124 (holdMost l r), blkE g118 (.cells #[I ((chkFault l r).1), I ((chkFault l r).2)] 27), blkE g17 (.cells #[I ((chkFault l r).1), I ((chkFault l r).2)] 27), blkE g1 (.cells #[wa, wb, wc, wd, we] 42), rdE wa l.Low, rdE wb l.High, rdE wc l.Start, rdE wd l.Jumps, rdE we l.Bad, rdE vr r] H) ?_ ?_
  · refine wpF_drawn [] [] (fun _ _ => False) (by kernel_rfl) (by kernel_rfl) ?_
    refine wpR_q 0 (by kernel_rfl) rfl (quietAt rfl rfl (q_loadBlkA rfl a232_2 Try.isAgg42 Try.sizeOf42 rfl (hS232.blk 9 rfl) (labU_not [] rfl (List.forall_mem_nil _)))) ?_
    refine wpR_q 1 (by kernel_rfl) rfl (quietAt rfl rfl (q_move (v := r183) rfl a232_23)) ?_
    refine wpR_q 2 (by kernel_rfl) rfl (quietAt rfl rfl (q_move (v := I ((k : Int))) rfl a232_30)) ?_
    refine wpR_q 3 (by kernel_rfl) rfl (quietAt rfl rfl (q_indexRd (k := k) rfl Try.underlying23 el_LInt_32_HoldSays1 rfl rfl (hS232.rdl 4 rfl) (by omega) (by omega))) ?_
    refine wpR_q 4 (by kernel_rfl) rfl (quietAt rfl rfl (q_loadE rfl rfl (hlu235o4 Try.prog 32 _ el_LInt_32_HoldSays1 (labU_sub [] rfl (List.forall_mem_nil _))))) ?_
    refine wpR_n [5] (by kernel_rfl) ?_
    refine List.forall_mem_cons.2 ⟨?_, List.forall_mem_nil _⟩
    refine exE rfl rfl ?_
    refine e_call rfl Try.call31 (arr2 (v0 := Value.agg #[wa, wb, wc, wd, we]) (v1 := u235o4) rfl rfl) (Next_R wa wb wc wd we u235o4 l (nth (statesL l) k) (hS235o4.rdS 11 rfl) (hS235o4.rdS 12 rfl) (hS235o4.rdS 13 rfl) (hS235o4.rdS 14 rfl) (hS235o4.rdS 15 rfl) (hS235o4.rdS 0 rfl) hl hst.1 (inside_small hl hst.1 hst.2)) ?_
    rintro r235o5 H235o5 ⟨hxx, hrr235o5⟩
    have hS235o5 : St H0 NoB NoB [rdE r235o5 (nextL l (nth (statesL l) k)), rdE u235o4 (nth (statesL l) k), rdE v208 ([(nth r ((nth left i).toNat))] : List LRow), rowE 3 vk ((left.take i).filter (fun t => !strayIn l r left t) : List Int), rdE r196 (pickR r left), rdE vq left, rdE r183 (statesL l), blkE g128 (.cells #[I ((chkFault l r).1), I ((chkFault l r).2)] 27), rdE r124 (holdMost l r), blkE g118 (.cells #[I ((chkFault l r).1), I ((chkFault l r).2)] 27), blkE g17 (.cells #[I ((chkFault l r).1), I ((chkFault l r).2)] 27), blkE g1 (.cells #[wa, wb, wc, wd, we] 42), rdE wa l.Low, rdE wb l.High, rdE wc l.Start, rdE wd l.Jumps, rdE we l.Bad, rdE vr r] H235o5 := hS235o4.res hxx hrr235o5
    refine ⟨Ext.mono hxx (fun _ h => h.elim), ?_⟩
    refine wpR_q 6 (by kernel_rfl) rfl (quietAt rfl rfl (q_assign (v := r235o5) rfl rfl)) ?_
    refine wpR_end (by kernel_rfl) ?_
    exact ⟨r235o5, a232_1, a232_2, a232_17, a232_18, a232_21, a232_23, a232_24, a232_25, a232_26, a232_27, a232_28, a232_29, a232_30, rfl, (hS235o5.drop (sk (sn (sk (sk (sk (sk (sk (sk (sk (sk (sk (sk (sk (sk (sk (sk (sk (sk (List.Sublist.slnil))))))))))))))))))))⟩
  rintro f236 H236 ⟨r235o5, a236_1, a236_2, a236_17, a236_18, a236_21, a236_23, a236_24, a236_25, a236_26, a236_27, a236_28, a236_29, a236_30, a236_31, hS236⟩
  clear a232_1 a232_17 a232_18 a232_2 a232_21 a232_23 a232_24 a232_25 a232_26 a232_261 a232_27 a232_28 a232_29 a232_30
  refine wpF_seq ?_
  refine wpF_cut (fun f H => f 1 = vr ∧ f 2 = PT g1 0 ∧ f 17 = r124 ∧ f 18 = PT g128 0 ∧ f 21 = vq ∧ f 23 = r183 ∧ f 24 = I ((n : Int)) ∧ f 25 = vk ∧ f 26 = r196 ∧ f 27 = I ((i : Int)) ∧ f 28 = v208 ∧ f 29 = B (f1) ∧ f 30 = I ((k : Int)) ∧ f 31 = r235o5 ∧ f 32 = I (0) ∧ H236 = H) ?_ ?_
  · refine wpF_region ?_
    refine wpL_q (U := NoB) rfl (q_assign (v := I (0)) rfl rfl) ?_
    exact ⟨a236_1, a236_2, a236_17, a236_18, a236_21, a236_23, a236_24, a236_25, a236_26, a236_27, a236_28, a236_29, a236_30, a236_31, rfl, rfl⟩
  rintro f237 _ ⟨a237_1, a237_2, a237_17, a237_18, a237_21, a237_23, a237_24, a237_25, a237_26, a237_27, a237_28, a237_29, a237_30, a237_31, a237_32, rfl⟩
  clear a236_1 a236_17 a236_18 a236_2 a236_21 a236_23 a236_24 a236_25 a236_26 a236_27 a236_28 a236_29 a236_30 a236_31
  refine wpF_block ?_
  refine wpF_loop (fun mz f H => ∃ (x : Nat), ∃ (f2 : Bool), mz = (nextL l (nth (statesL l) k)).length - x ∧ (x ≤ (nextL l (nth (statesL l) k)).length) ∧ (f2 = (f1 && ((nextL l (nth (statesL l) k)).take x).all fun t => holdB [(nth r ((nth left i).toNat))] t)) ∧ f 1 = vr ∧ f 2 = PT g1 0 ∧ f 17 = r124 ∧ f 18 = PT g128 0 ∧ f 21 = vq ∧ f 23 = r183 ∧ f 24 = I ((n : Int)) ∧ f 25 = vk ∧ f 26 = r196 ∧ f 27 = I ((i : Int)) ∧ f 28 = v208 ∧ f 29 = B (f2) ∧ f 30 = I ((k : Int)) ∧ f 31 = r235o5 ∧ f 32 = I ((x : Int)) ∧ St H0 NoB NoB [rdE r235o5 (nextL l (nth (statesL l) k)), rdE v208 ([(nth r ((nth left i).toNat))] : List LRow), rowE 3 vk ((left.take i).filter (fun t => !strayIn l r left t) : List Int), rdE r196 (pickR r left), rdE vq left, rdE r183 (statesL l), blkE g128 (.cells #[I ((chkFault l r).1), I ((chkFault l r).2)] 27), rdE r124 (holdMost l r), blkE g118 (.cells #[I ((chkFault l r).1), I ((chkFault l r).2)] 27), blkE g17 (.cells #[I ((chkFault l r).1), I ((chkFault l r).2)] 27), blkE g1 (.cells #[wa, wb, wc, wd, we] 42), rdE wa l.Low, rdE wb l.High, rdE wc l.Start, rdE wd l.Jumps, rdE we l.Bad, rdE vr r] H) ((nextL l (nth (statesL l) k)).length - 0) ?_ ?_
  · exact ⟨0, f1, rfl, Nat.zero_le _, (by simp), a237_1, a237_2, a237_17, a237_18, a237_21, a237_23, a237_24, a237_25, a237_26, a237_27, a237_28, a237_29, a237_30, a237_31, (Eq.trans a237_32 (congrArg I (by omega))), hS236⟩
  intro m238 f238 H238 hI238
  obtain ⟨x, f2, hm238, hx, hf2, a238_1, a238_2, a238_17, a238_18, a238_21, a238_23, a238_24, a238_25, a238_26, a238_27, a238_28, a238_29, a238_30, a238_31, a238_32, hS238⟩ := hI238
  clear a237_1 a237_17 a237_18 a237_2 a237_21 a237_23 a237_24 a237_25 a237_26 a237_27 a237_28 a237_29 a237_30 a237_31 a237_32
  refine wpF_seq ?_
  refine wpF_seq ?_
  refine wpF_cut (fun f H => f 1 = vr ∧ f 2 = PT g1 0 ∧ f 17 = r124 ∧ f 18 = PT g128 0 ∧ f 21 = vq ∧ f 23 = r183 ∧ f 24 = I ((n : Int)) ∧ f 25 = vk ∧ f 26 = r196 ∧ f 27 = I ((i : Int)) ∧ f 28 = v208 ∧ f 29 = B (f2) ∧ f 30 = I ((k : Int)) ∧ f 31 = r235o5 ∧ f 32 = I ((x : Int)) ∧ f 271 = B (decide ((x : Int) < ((nextL l (nth (statesL l) k)).length : Int))) ∧ H238 = H) ?_ ?_
  · refine wpF_region ?_
    refine wpL_q (U := NoB) rfl (q_move (v := I ((x : Int))) rfl a238_32) ?_
    refine wpL_q (U := NoB) rfl (q_move (v := r235o5) rfl a238_31) ?_
    refine wpL_q (U := NoB) rfl (q_lenRd rfl Try.underlying23 rfl (hS238.rdl 0 rfl)) ?_
    refine wpL_q (U := NoB) rfl (q_lss rfl rfl rfl) ?_
    exact ⟨a238_1, a238_2, a238_17, a238_18, a238_21, a238_23, a238_24, a238_25, a238_26, a238_27, a238_28, a238_29, a238_30, a238_31, a238_32, rfl, rfl⟩
  rintro f239 _ ⟨a239_1, a239_2, a239_17, a239_18, a239_21, a239_23, a239_24, a239_25, a239_26, a239_27, a239_28, a239_29, a239_30, a239_31, a239_32, a239_271, rfl⟩
  clear a238_1 a238_17 a238_18 a238_2 a238_21 a238_23 a238_24 a238_25 a238_26 a238_27 a238_28 a238_29 a238_30 a238_31 a238_32
  refine wpF_condP a239_271 (fun hlt12 => ?t252) (fun hlt12 => ?e252)
  case e252 =>
    refine wpF_exit ?_
    refine atX_here ?_
    refine wpF_cut (fun f H => f 1 = vr ∧ f 2 = PT g1 0 ∧ f 17 = r124 ∧ f 18 = PT g128 0 ∧ f 21 = vq ∧ f 23 = r183 ∧ f 24 = I ((n : Int)) ∧ f 25 = vk ∧ f 26 = r196 ∧ f 27 = I ((i : Int)) ∧ f 28 = v208 ∧ f 29 = B (f2) ∧ f 30 = I ((k : Int) + 1) ∧ H238 = H) ?_ ?_
    · refine wpF_region ?_
      refine wpL_q (U := NoB) rfl (q_move (v := I ((k : Int))) rfl a239_30) ?_
      refine wpL_q (U := NoB) rfl (q_add rfl rfl rfl (by constructor <;> omega)) ?_
      refine wpL_q (U := NoB) rfl (q_assign (v := I ((k : Int) + 1)) rfl rfl) ?_
      exact ⟨a239_1, a239_2, a239_17, a239_18, a239_21, a239_23, a239_24, a239_25, a239_26, a239_27, a239_28, a239_29, rfl, rfl⟩
    rintro f251 _ ⟨a251_1, a251_2, a251_17, a251_18, a251_21, a251_23, a251_24, a251_25, a251_26, a251_27, a251_28, a251_29, a251_30, rfl⟩
    clear a239_1 a239_17 a239_18 a239_2 a239_21 a239_23 a239_24 a239_25 a239_26 a239_27 a239_271 a239_28 a239_29 a239_30 a239_31 a239_32
    refine ⟨_, ?_, k + 1, f2, rfl, (by omega), (fine_go (by omega) hfn hf1 (by simpa using h261) hf2 (by omega)), a251_1, a251_2, a251_17, a251_18, a251_21, a251_23, a251_24, a251_25, a251_26, a251_27, a251_28, a251_29, (Eq.trans a251_30 (congrArg I (by omega))), (hS238.drop (sn (sk (sk (sk (sk (sk (sk (sk (sk (sk (sk (sk (sk (sk (sk (sk (sk (List.Sublist.slnil)))))))))))))))))))⟩
    omega
  refine wpF_skip ?_
  refine wpF_seq ?_
  refine wpF_block ?_
  refine wpF_cut (fun f H => f 1 = vr ∧ f 2 = PT g1 0 ∧ f 17 = r124 ∧ f 18 = PT g128 0 ∧ f 21 = vq ∧ f 23 = r183 ∧ f 24 = I ((n : Int)) ∧ f 25 = vk ∧ f 26 = r196 ∧ f 27 = I ((i : Int)) ∧ f 28 = v208 ∧ f 29 = B (decide ((f2 = true) ∧ ((holdB ([(nth r ((nth left i).toNat))]) (nth (nextL l (nth (statesL l) k)) x)) = true))) ∧ f 30 = I ((k : Int)) ∧ f 31 = r235o5 ∧ f 32 = I ((x : Int)) ∧ St H0 NoB NoB [rdE r235o5 (nextL l (nth (statesL l) k)), rdE v208 ([(nth r ((nth left i).toNat))] : List LRow), rowE 3 vk ((left.take i).filter (fun t => !strayIn l r left t) : List Int), rdE r196 (pickR r left), rdE vq left, rdE r183 (statesL l), blkE g128 (.cells #[I ((chkFault l r).1), I ((chkFault l r).2)] 27), rdE r124 (holdMost l r), blkE g118 (.cells #[I ((chkFault l r).1), I ((chkFault l r).2)] 27), blkE g17 (.cells #[I ((chkFault l r).1), I ((chkFault l r).2)] 27), blkE g1 (.cells #[wa, wb, wc, wd, we] 42), rdE wa l.Low, rdE wb l.High, rdE wc l.Start, rdE wd l.Jumps, rdE we l.Bad, rdE vr r] H) ?_ ?_
  · refine wpF_region ?_
    refine wpL_q (U := NoB) rfl (q_move (v := B (f2)) rfl a239_29) ?_
    refine wpL_q (U := NoB) rfl (q_move (v := B (f2)) rfl rfl) ?_
    by_cases hg241 : f2 = true
    · have hb242 := Eq.trans rfl (congrArg B hg241)
      refine wpL_gq (U := NoB) rfl rfl rfl hb242 (q_move (v := v208) rfl a239_28) ?_
      refine wpL_gq (U := NoB) rfl rfl rfl hb242 (q_move (v := r235o5) rfl a239_31) ?_
      refine wpL_gq (U := NoB) rfl rfl rfl hb242 (q_move (v := I ((x : Int))) rfl a239_32) ?_
      refine wpL_gq (U := NoB) rfl rfl rfl hb242 (q_indexRd (k := x) rfl Try.underlying23 el_LInt_32_HoldSays1 rfl rfl (hS238.rdl 0 rfl) (by omega) (by omega)) ?_
      obtain ⟨u244, huu244, hlu244⟩ := (Rd.list.1 (hS238.rdS 0 rfl)).elem x (by omega)
      have hS245 : St H0 NoB NoB [rdE u244 (nth (nextL l (nth (statesL l) k)) x), rdE r235o5 (nextL l (nth (statesL l) k)), rdE v208 ([(nth r ((nth left i).toNat))] : List LRow), rowE 3 vk ((left.take i).filter (fun t => !strayIn l r left t) : List Int), rdE r196 (pickR r left), rdE vq left, rdE r183 (statesL l), blkE g128 (.cells #[I ((chkFault l r).1), I ((chkFault l r).2)] 27), rdE r124 (holdMost l r), blkE g118 (.cells #[I ((chkFault l r).1), I ((chkFault l r).2)] 27), blkE g17 (.cells #[I ((chkFault l r).1), I ((chkFault l r).2)] 27), blkE g1 (.cells #[wa, wb, wc, wd, we] 42), rdE wa l.Low, rdE wb l.High, rdE wc l.Start, rdE wd l.Jumps, rdE we l.Bad, rdE vr r] H238 := hS238.rd huu244
      refine wpL_gq (U := NoB) rfl rfl rfl hb242 (q_loadE rfl rfl (hlu244 Try.prog 32 _ el_LInt_32_HoldSays1 (fun _ h => False.elim h))) ?_
      refine wpL_go rfl rfl rfl hb242 ?_
      refine e_call rfl Try.call33 (arr2 (v0 := v208) (v1 := u244) rfl rfl) (Hold_R v208 u244 ([(nth r ((nth left i).toNat))]) (nth (nextL l (nth (statesL l) k)) x) (hS245.rdN 2 rfl) (hS245.rdN 0 rfl) ((holdok_st hl hrz (next_st hl (nth_mem (by omega)))).one (by omega))) ?_
      rintro _ H246 ⟨hxx, rfl⟩
      have hS247 : St H0 NoB NoB [rdE u244 (nth (nextL l (nth (statesL l) k)) x), rdE r235o5 (nextL l (nth (statesL l) k)), rdE v208 ([(nth r ((nth left i).toNat))] : List LRow), rowE 3 vk ((left.take i).filter (fun t => !strayIn l r left t) : List Int), rdE r196 (pickR r left), rdE vq left, rdE r183 (statesL l), blkE g128 (.cells #[I ((chkFault l r).1), I ((chkFault l r).2)] 27), rdE r124 (holdMost l r), blkE g118 (.cells #[I ((chkFault l r).1), I ((chkFault l r).2)] 27), blkE g17 (.cells #[I ((chkFault l r).1), I ((chkFault l r).2)] 27), blkE g1 (.cells #[wa, wb, wc, wd, we] 42), rdE wa l.Low, rdE wb l.High, rdE wc l.Start, rdE wd l.Jumps, rdE we l.Bad, rdE vr r] H246 := hS245.ext hxx
      refine wpL_q (U := NoB) rfl (q_pickT (v := B (holdB ([(nth r ((nth left i).toNat))]) (nth (nextL l (nth (statesL l) k)) x))) rfl hb242 rfl) ?_
      refine wpL_q (U := NoB) rfl (q_assign (v := B (holdB ([(nth r ((nth left i).toNat))]) (nth (nextL l (nth (statesL l) k)) x))) rfl rfl) ?_
      exact ⟨a239_1, a239_2, a239_17, a239_18, a239_21, a239_23, a239_24, a239_25, a239_26, a239_27, a239_28, (Eq.trans rfl (congrArg B (bool_congr_of ((Iff.rfl).trans (((and_iff_right hg241).trans Iff.rfl)).symm)))), a239_30, a239_31, a239_32, (hS247.drop (sn (sk (sk (sk (sk (sk (sk (sk (sk (sk (sk (sk (sk (sk (sk (sk (sk (sk (List.Sublist.slnil))))))))))))))))))))⟩
    · have hb243 := Eq.trans rfl (congrArg B (Bool.eq_false_iff.2 hg241))
      refine wpL_gs rfl rfl rfl hb243 rfl ?_
      refine wpL_gs rfl rfl rfl hb243 rfl ?_
      refine wpL_gs rfl rfl rfl hb243 rfl ?_
      refine wpL_gs rfl rfl rfl hb243 rfl ?_
      refine wpL_gs rfl rfl rfl hb243 rfl ?_
      refine wpL_gs rfl rfl rfl hb243 rfl ?_
      refine wpL_q (U := NoB) rfl (q_pickF (v := B (false)) rfl hb243 rfl) ?_
      refine wpL_q (U := NoB) rfl (q_assign (v := B (false)) rfl rfl) ?_
      exact ⟨a239_1, a239_2, a239_17, a239_18, a239_21, a239_23, a239_24, a239_25, a239_26, a239_27, a239_28, (Eq.trans rfl (congrArg B ((decide_eq_false (fun h => hg241 h.1)).symm))), a239_30, a239_31, a239_32, hS238⟩
  rintro f249 H249 ⟨a249_1, a249_2, a249_17, a249_18, a249_21, a249_23, a249_24, a249_25, a249_26, a249_27, a249_28, a249_29, a249_30, a249_31, a249_32, hS249⟩
  clear a239_1 a239_17 a239_18 a239_2 a239_21 a239_23 a239_24 a239_25 a239_26 a239_27 a239_271 a239_28 a239_29 a239_30 a239_31 a239_32
  refine wpF_cut (fun f H => f 1 = vr ∧ f 2 = PT g1 0 ∧ f 17 = r124 ∧ f 18 = PT g128 0 ∧ f 21 = vq ∧ f 23 = r183 ∧ f 24 = I ((n : Int)) ∧ f 25 = vk ∧ f 26 = r196 ∧ f 27 = I ((i : Int)) ∧ f 28 = v208 ∧ f 29 = B (decide ((f2 = true) ∧ ((holdB ([(nth r ((nth left i).toNat))]) (nth (nextL l (nth (statesL l) k)) x)) = true))) ∧ f 30 = I ((k : Int)) ∧ f 31 = r235o5 ∧ f 32 = I ((x : Int) + 1) ∧ H249 = H) ?_ ?_
  · refine wpF_region ?_
    refine wpL_q (U := NoB) rfl (q_move (v := I ((x : Int))) rfl a249_32) ?_
    refine wpL_q (U := NoB) rfl (q_add rfl rfl rfl (by constructor <;> omega)) ?_
    refine wpL_q (U := NoB) rfl (q_assign (v := I ((x : Int) + 1)) rfl rfl) ?_
    exact ⟨a249_1, a249_2, a249_17, a249_18, a249_21, a249_23, a249_24, a249_25, a249_26, a249_27, a249_28, a249_29, a249_30, a249_31, rfl, rfl⟩
  rintro f250 _ ⟨a250_1, a250_2, a250_17, a250_18, a250_21, a250_23, a250_24, a250_25, a250_26, a250_27, a250_28, a250_29, a250_30, a250_31, a250_32, rfl⟩
  clear a249_1 a249_17 a249_18 a249_2 a249_21 a249_23 a249_24 a249_25 a249_26 a249_27 a249_28 a249_29 a249_30 a249_31 a249_32
  refine ⟨_, ?_, x + 1, decide ((f2 = true) ∧ ((holdB ([(nth r ((nth left i).toNat))]) (nth (nextL l (nth (statesL l) k)) x)) = true)), rfl, (by omega), (fine_all (by omega) hf2), a250_1, a250_2, a250_17, a250_18, a250_21, a250_23, a250_24, a250_25, a250_26, a250_27, a250_28, (Eq.trans a250_29 (congrArg B (by simp))), a250_30, a250_31, (Eq.trans a250_32 (congrArg I (by omega))), hS249⟩
  omega

end Go.Um
