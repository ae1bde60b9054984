import Derived.Test.YtfgibfbgklkgbaaProg
import Derived.Test.YtfgibfbgklkgbaaHoldF1
import Derived.Test.YtfgibfbgklkgbaaUmHas
namespace Go.Um
open Go.Proofs
open GoT (sz ag rdc)
open KeyT (kv)

theorem el_Int_3_HoldMost1 : ElT Try.prog Int 3 := ⟨Try.isAgg3, Try.sizeOf3⟩
theorem el_LRow_34_HoldMost1 : ElT Try.prog LRow 34 := ⟨Try.isAgg34, Try.sizeOf34⟩
theorem em_LRow_34_HoldMost1 : ElemOk Try.prog LRow 34 := ⟨Try.t34, (.agg #[(.slice none 0 0), (.int .i64 0), (.int .i64 0)]), by kernel_rfl, by kernel_rfl, by kernel_rfl, by kernel_rfl, by kernel_rfl⟩

set_option maxRecDepth 100000 in
theorem Has_R {H0 : Heap} (vl : Value) (l : List Int) (n : Int) (rl : Rd NoB H0 vl l) : CallsH Try.prog 43 #[vl, I (n)] H0 (fun rv_ H' => Ext NoB H0 H' ∧ rv_ = B (hasB l n)) := by
  have hsm := (Rd.list.1 rl).small
  have hS0 : St H0 NoB NoB [rdE vl (l : List Int)] H0 := St.arg (St.start (fun _ h => h.elim)) (Bl0.nil) rl (fun _ h => h)
  refine callsH_of_wpF (args := [vl, I (n)]) (rs := [.tmp 4]) Try.func43 rfl Try.ntmps43 Try.results43 (by kernel_rfl) (Nat.le_of_ble_eq_true rfl) ?_
  have a0_0 : argF [vl, I (n)] 0 = vl := rfl
  have a0_1 : argF [vl, I (n)] 1 = I (n) := rfl
  generalize argF [vl, I (n)] = f0 at *
  refine wpF_seq ?_
  refine wpF_cut (fun f H => f 0 = vl ∧ f 1 = I (n) ∧ H0 = H) ?_ ?_
  · refine wpF_region ?_
    refine wpL_q (U := NoB) rfl (q_assign (v := B (false)) rfl rfl) ?_
    exact ⟨a0_0, a0_1, rfl⟩
  rintro f1 _ ⟨a1_0, a1_1, rfl⟩
  clear a0_0 a0_1
  refine wpF_seq ?_
  refine wpF_seq ?_
  refine wpF_cut (fun f H => f 0 = vl ∧ f 1 = I (n) ∧ f 5 = I (0) ∧ H0 = H) ?_ ?_
  · refine wpF_region ?_
    refine wpL_q (U := NoB) rfl (q_assign (v := I (0)) rfl rfl) ?_
    exact ⟨a1_0, a1_1, rfl, rfl⟩
  rintro f2 _ ⟨a2_0, a2_1, a2_5, rfl⟩
  clear a1_0 a1_1
  refine wpF_block ?_
  refine wpF_loop (fun mz f H => ∃ (k : Nat), mz = l.length - k ∧ (k ≤ l.length) ∧ (∀ j, j < k → nth l j ≠ n) ∧ f 0 = vl ∧ f 1 = I (n) ∧ f 5 = I ((k : Int)) ∧ H0 = H) (l.length - 0) ?_ ?_
  · exact ⟨0, rfl, Nat.zero_le _, (fun j hj => absurd hj (Nat.not_lt_zero j)), a2_0, a2_1, (Eq.trans a2_5 (congrArg I (by omega))), rfl⟩
  intro m3 f3 H3 hI3
  obtain ⟨k, hm3, hk, hno, a3_0, a3_1, a3_5, rfl⟩ := hI3
  clear a2_0 a2_1 a2_5
  refine wpF_seq ?_
  refine wpF_seq ?_
  refine wpF_cut (fun f H => f 0 = vl ∧ f 1 = I (n) ∧ f 5 = I ((k : Int)) ∧ f 9 = B (decide ((k : Int) < (l.length : Int))) ∧ H0 = H) ?_ ?_
  · refine wpF_region ?_
    refine wpL_q (U := NoB) rfl (q_move (v := I ((k : Int))) rfl a3_5) ?_
    refine wpL_q (U := NoB) rfl (q_move (v := vl) rfl a3_0) ?_
    refine wpL_q (U := NoB) rfl (q_lenRd rfl Try.underlying32 rfl (hS0.rdl 0 rfl)) ?_
    refine wpL_q (U := NoB) rfl (q_lss rfl rfl rfl) ?_
    exact ⟨a3_0, a3_1, a3_5, rfl, rfl⟩
  rintro f4 _ ⟨a4_0, a4_1, a4_5, a4_9, rfl⟩
  clear a3_0 a3_1 a3_5
  refine wpF_condP a4_9 (fun hlt => ?t12) (fun hlt => ?e12)
  case e12 =>
    refine wpF_exit ?_
    refine atX_here ?_
    refine wpF_seq ?_
    refine wpF_cut (fun f H => f 4 = B (false) ∧ H0 = H) ?_ ?_
    · refine wpF_region ?_
      refine wpL_q (U := NoB) rfl (q_assign (v := B (false)) rfl rfl) ?_
      exact ⟨rfl, rfl⟩
    rintro f11 _ ⟨a11_4, rfl⟩
    clear a4_0 a4_1 a4_5 a4_9
    refine wpF_ret ?_
    refine ⟨_, resT a11_4 resN, hS0.frame, ?_⟩
    show (B (false)) = B (hasB l n)
    exact congrArg B (decide_eq_false (fun h => by obtain ⟨j, hj, he⟩ := nth_of_mem h; exact hno j (by omega) he)).symm
  refine wpF_skip ?_
  refine wpF_seq ?_
  refine wpF_block ?_
  refine wpF_seq ?_
  refine wpF_cut (fun f H => f 0 = vl ∧ f 1 = I (n) ∧ f 5 = I ((k : Int)) ∧ f 17 = B (decide ((nth l k) = n)) ∧ H0 = H) ?_ ?_
  · refine wpF_region ?_
    refine wpL_q (U := NoB) rfl (q_move (v := vl) rfl a4_0) ?_
    refine wpL_q (U := NoB) rfl (q_move (v := I ((k : Int))) rfl a4_5) ?_
    refine wpL_q (U := NoB) rfl (q_indexRd (k := k) rfl Try.underlying32 el_Int_3_HoldMost1 rfl rfl (hS0.rdl 0 rfl) (by omega) (by omega)) ?_
    refine wpL_q (U := NoB) rfl (q_loadInt (k := k) rfl rfl el_Int_3_HoldMost1 (hS0.rdl 0 rfl) (by omega) (fun _ h => h)) ?_
    refine wpL_q (U := NoB) rfl (q_move (v := I (n)) rfl a4_1) ?_
    refine wpL_q (U := NoB) rfl (q_eql rfl rfl rfl) ?_
    exact ⟨a4_0, a4_1, a4_5, rfl, rfl⟩
  rintro f6 _ ⟨a6_0, a6_1, a6_5, a6_17, rfl⟩
  clear a4_0 a4_1 a4_5 a4_9
  refine wpF_condP a6_17 (fun heq => ?t10) (fun heq => ?e10)
  case t10 =>
    refine wpF_seq ?_
    refine wpF_cut (fun f H => f 4 = B (true) ∧ H0 = H) ?_ ?_
    · refine wpF_region ?_
      refine wpL_q (U := NoB) rfl (q_assign (v := B (true)) rfl rfl) ?_
      exact ⟨rfl, rfl⟩
    rintro f8 _ ⟨a8_4, rfl⟩
    clear a6_0 a6_1 a6_17 a6_5
    refine wpF_ret ?_
    refine ⟨_, resT a8_4 resN, hS0.frame, ?_⟩
    show (B (true)) = B (hasB l n)
    exact congrArg B (decide_eq_true (heq ▸ nth_mem (by omega))).symm
  refine wpF_skip ?_
  refine wpF_cut (fun f H => f 0 = vl ∧ f 1 = I (n) ∧ f 5 = I ((k : Int) + 1) ∧ H0 = H) ?_ ?_
  · refine wpF_region ?_
    refine wpL_q (U := NoB) rfl (q_move (v := I ((k : Int))) rfl a6_5) ?_
    refine wpL_q (U := NoB) rfl (q_add rfl rfl rfl (by constructor <;> omega)) ?_
    refine wpL_q (U := NoB) rfl (q_assign (v := I ((k : Int) + 1)) rfl rfl) ?_
    exact ⟨a6_0, a6_1, rfl, rfl⟩
  rintro f9 _ ⟨a9_0, a9_1, a9_5, rfl⟩
  clear a6_0 a6_1 a6_17 a6_5
  refine ⟨_, ?_, k + 1, rfl, (by omega), (all_succ hno heq), a9_0, a9_1, (Eq.trans a9_5 (congrArg I (by omega))), rfl⟩
  omega

set_option maxRecDepth 100000 in
theorem Some_R {H0 : Heap} {S : Nat → Prop} (vr vl : Value) (r : List LRow) (left : List Int) (rr : Rd S H0 vr r) (rl : Rd S H0 vl left) (hin : InR r left) (hll : left.length ≤ 60) : CallsH Try.prog 41 #[vr, vl] H0 (fun rv_ H' => Ext NoB H0 H' ∧ Rd (fun b => S b ∧ b < H0.size) H' rv_ (pickR r left)) := by
  have hsr := (Rd.list.1 rr).small
  have hS0 : St H0 NoB (fun b => S b ∧ b < H0.size) [rdE vr (r : List LRow), rdE vl (left : List Int)] H0 := St.arg (St.arg (St.start (fun _ h => h.2)) (Bl0.nil) rl (fun _ h => h.1)) (Bl0.cons (Bl0.nil)) rr (fun _ h => h.1)
  refine callsH_of_wpF (args := [vr, vl]) (rs := [.tmp 4]) Try.func41 rfl Try.ntmps41 Try.results41 (by kernel_rfl) (Nat.le_of_ble_eq_true rfl) ?_
  have a0_0 : argF [vr, vl] 0 = vr := rfl
  have a0_1 : argF [vr, vl] 1 = vl := rfl
  generalize argF [vr, vl] = f0 at *
  refine wpF_seq ?_
  refine wpF_cut (fun f H => f 0 = vr ∧ f 1 = vl ∧ H0 = H) ?_ ?_
  · refine wpF_region ?_
    refine wpL_q (U := NoB) rfl (q_assign (v := (Value.slice none 0 0)) rfl rfl) ?_
    exact ⟨a0_0, a0_1, rfl⟩
  rintro f1 _ ⟨a1_0, a1_1, rfl⟩
  clear a0_0 a0_1
  refine wpF_seq ?_
  refine wpF_cut (fun f H => f 0 = vr ∧ f 1 = vl ∧ f 5 = (Value.slice none 0 0) ∧ H0 = H) ?_ ?_
  · refine wpF_region ?_
    refine wpL_q (U := NoB) rfl (q_assign (v := (Value.slice none 0 0)) rfl rfl) ?_
    exact ⟨a1_0, a1_1, rfl, rfl⟩
  rintro f2 _ ⟨a2_0, a2_1, a2_5, rfl⟩
  clear a1_0 a1_1
  have hS3 : St H0 NoB (fun b => S b ∧ b < H0.size) [rowE 34 (Value.slice none 0 0) ([] : List LRow), rdE vr (r : List LRow), rdE vl (left : List Int)] H0 := hS0.row0 34
  refine wpF_seq ?_
  refine wpF_seq ?_
  refine wpF_cut (fun f H => f 0 = vr ∧ f 1 = vl ∧ f 5 = (Value.slice none 0 0) ∧ f 6 = I (0) ∧ H0 = H) ?_ ?_
  · refine wpF_region ?_
    refine wpL_q (U := NoB) rfl (q_assign (v := I (0)) rfl rfl) ?_
    exact ⟨a2_0, a2_1, a2_5, rfl, rfl⟩
  rintro f4 _ ⟨a4_0, a4_1, a4_5, a4_6, rfl⟩
  clear a2_0 a2_1 a2_5
  refine wpF_block ?_
  refine wpF_loop (fun mz f H => ∃ (k : Nat), ∃ (vo : Value), mz = left.length - k ∧ (k ≤ left.length) ∧ f 0 = vr ∧ f 1 = vl ∧ f 5 = vo ∧ f 6 = I ((k : Int)) ∧ St H0 NoB (fun b => S b ∧ b < H0.size) [rowE 34 vo (pickR r (left.take k) : List LRow), rdE vr (r : List LRow), rdE vl (left : List Int)] H) (left.length - 0) ?_ ?_
  · exact ⟨0, (Value.slice none 0 0), rfl, Nat.zero_le _, a4_0, a4_1, a4_5, (Eq.trans a4_6 (congrArg I (by omega))), (show St H0 NoB (fun b => S b ∧ b < H0.size) [rowE 34 (Value.slice none 0 0) (pickR r (left.take 0) : List LRow), rdE vr (r : List LRow), rdE vl (left : List Int)] H0 from hS3)⟩
  intro m5 f5 H5 hI5
  obtain ⟨k, vo, hm5, hk, a5_0, a5_1, a5_5, a5_6, hS5⟩ := hI5
  clear a4_0 a4_1 a4_5 a4_6
  refine wpF_seq ?_
  refine wpF_seq ?_
  refine wpF_cut (fun f H => f 0 = vr ∧ f 1 = vl ∧ f 5 = vo ∧ f 6 = I ((k : Int)) ∧ f 10 = B (decide ((k : Int) < (left.length : Int))) ∧ H5 = H) ?_ ?_
  · refine wpF_region ?_
    refine wpL_q (U := NoB) rfl (q_move (v := I ((k : Int))) rfl a5_6) ?_
    refine wpL_q (U := NoB) rfl (q_move (v := vl) rfl a5_1) ?_
    refine wpL_q (U := NoB) rfl (q_lenRd rfl Try.underlying32 rfl (hS5.rdl 2 rfl)) ?_
    refine wpL_q (U := NoB) rfl (q_lss rfl rfl rfl) ?_
    exact ⟨a5_0, a5_1, a5_5, a5_6, rfl, rfl⟩
  rintro f6 _ ⟨a6_0, a6_1, a6_5, a6_6, a6_10, rfl⟩
  clear a5_0 a5_1 a5_5 a5_6
  refine wpF_condP a6_10 (fun hlt => ?t23) (fun hlt => ?e23)
  case e23 =>
    refine wpF_exit ?_
    refine atX_here ?_
    refine wpF_seq ?_
    refine wpF_cut (fun f H => f 4 = vo ∧ H5 = H) ?_ ?_
    · refine wpF_region ?_
      refine wpL_q (U := NoB) rfl (q_move (v := vo) rfl a6_5) ?_
      refine wpL_q (U := NoB) rfl (q_assign (v := vo) rfl rfl) ?_
      exact ⟨rfl, rfl⟩
    rintro f21 _ ⟨a21_4, rfl⟩
    clear a6_0 a6_1 a6_10 a6_5 a6_6
    refine wpF_ret ?_
    refine ⟨_, resT a21_4 resN, hS5.frame, ?_⟩
    show Rd (fun b => S b ∧ b < H0.size) H5 vo (pickR r left)
    have hS22 : St H0 NoB (fun b => S b ∧ b < H0.size) [rdE vo (pickR r (left.take k) : List LRow), rdE vr (r : List LRow), rdE vl (left : List Int)] H5 := St.fin hS5
    have hq : pickR r (left.take k) = pickR r left := by rw [List.take_of_length_le (by omega)]
    rw [← hq]
    exact (hS22.result (hS22.rdS 0 rfl))
  have hirk := hin _ (nth_mem (l := left) (k := k) (by omega))
  have hbl : (pickR r (left.take k)).length ≤ k := by rw [pickR_len, List.length_take]; omega
  refine wpF_skip ?_
  refine wpF_seq ?_
  refine wpF_block ?_
  refine wpF_cut (fun f H => ∃ (v15 : Value), (In64 (nth r ((nth left k).toNat)).Kind) ∧ (In64 (nth r ((nth left k).toNat)).To) ∧ f 0 = vr ∧ f 1 = vl ∧ f 5 = v15 ∧ f 6 = I ((k : Int)) ∧ St H0 NoB (fun b => S b ∧ b < H0.size) [rowE 34 v15 (pickR r (left.take (k + 1)) : List LRow), rdE vr (r : List LRow), rdE vl (left : List Int)] H) ?_ ?_
  · refine wpF_region ?_
    refine wpL_q (U := NoB) rfl (q_move (v := vo) rfl a6_5) ?_
    refine wpL_q (U := NoB) rfl (q_move (v := vr) rfl a6_0) ?_
    refine wpL_q (U := NoB) rfl (q_move (v := vl) rfl a6_1) ?_
    refine wpL_q (U := NoB) rfl (q_move (v := I ((k : Int))) rfl a6_6) ?_
    refine wpL_q (U := NoB) rfl (q_indexRd (k := k) rfl Try.underlying32 el_Int_3_HoldMost1 rfl rfl (hS5.rdl 2 rfl) (by omega) (by omega)) ?_
    refine wpL_q (U := NoB) rfl (q_loadInt (k := k) rfl rfl el_Int_3_HoldMost1 (hS5.rdl 2 rfl) (by omega) (fun _ h => h)) ?_
    refine wpL_q (U := NoB) rfl (q_indexRd (k := (nth left k).toNat) rfl Try.underlying22 el_LRow_34_HoldMost1 rfl rfl (hS5.rdl 1 rfl) (by omega) (by omega)) ?_
    obtain ⟨u8, huu8, hlu8⟩ := (Rd.list.1 (hS5.rdS 1 rfl)).elem ((nth left k).toNat) (by omega)
    obtain ⟨u8n0, rfl, hu80, hu81, hu82⟩ := Rd.lRow.1 huu8
    have hS9 : St H0 NoB (fun b => S b ∧ b < H0.size) [rdE u8n0 ((nth r ((nth left k).toNat)).Of : List Int), rowE 34 vo (pickR r (left.take k) : List LRow), rdE vr (r : List LRow), rdE vl (left : List Int)] H5 := hS5.rd hu80
    refine wpL_q (U := NoB) rfl (q_loadE rfl rfl (hlu8 Try.prog 34 _ el_LRow_34_HoldMost1 (fun _ h => False.elim h))) ?_
    refine wpL_o rfl ?_
    refine e_buildSlice (vs := [Value.agg #[u8n0, I ((nth r ((nth left k).toNat)).Kind), I ((nth r ((nth left k).toNat)).To)]]) (xs := ([(nth r ((nth left k).toNat))] : List LRow)) rfl Try.underlying22 Try.zeroValue34 rfl Try.sizeOf34 (par1 (v0 := Value.agg #[u8n0, I ((nth r ((nth left k).toNat)).Kind), I ((nth r ((nth left k).toNat)).To)]) rfl) rfl hS9 (RdVs.cons (Rd.lRow.2 ⟨_, rfl, (hS9.rdS 0 rfl), (by first | assumption | (constructor <;> (dsimp only; omega)) | (constructor <;> omega)), (by first | assumption | (constructor <;> (dsimp only; omega)) | (constructor <;> omega))⟩) (RdVs.nil)) (by decide) (by decide) (fun v10 H11 hS12 hxx hvv10 => ?_)
    replace hS12 : St H0 NoB (fun b => S b ∧ b < H0.size) [rowE 34 v10 ([(nth r ((nth left k).toNat))] : List LRow), rdE u8n0 ((nth r ((nth left k).toNat)).Of : List Int), rowE 34 vo (pickR r (left.take k) : List LRow), rdE vr (r : List LRow), rdE vl (left : List Int)] H11 := hS12
    have hS13 : St H0 NoB (fun b => S b ∧ b < H0.size) [rdE v10 ([(nth r ((nth left k).toNat))] : List LRow), rdE u8n0 ((nth r ((nth left k).toNat)).Of : List Int), rowE 34 vo (pickR r (left.take k) : List LRow), rdE vr (r : List LRow), rdE vl (left : List Int)] H11 := St.fin hS12
    have hS14 : St H0 NoB (fun b => S b ∧ b < H0.size) [rowE 34 vo (pickR r (left.take k) : List LRow), rdE v10 ([(nth r ((nth left k).toNat))] : List LRow), rdE u8n0 ((nth r ((nth left k).toNat)).Of : List Int), rdE vr (r : List LRow), rdE vl (left : List Int)] H11 := (hS13.front 2 rfl)
    refine wpL_o rfl ?_
    refine e_append rfl Try.underlying22 em_LRow_34_HoldMost1 rfl rfl hS14 (hS14.rdS 1 rfl) (fun _ h => h) (by have hb : GoT.bytes LRow = 40 := rfl; simp [hb]; omega) (by decide) (fun v15 H16 hS17 hxx => ?_)
    replace hS17 : St H0 NoB (fun b => S b ∧ b < H0.size) [rowE 34 v15 ((pickR r (left.take k)) ++ ([(nth r ((nth left k).toNat))]) : List LRow), rdE v10 ([(nth r ((nth left k).toNat))] : List LRow), rdE u8n0 ((nth r ((nth left k).toNat)).Of : List Int), rdE vr (r : List LRow), rdE vl (left : List Int)] H16 := hS17
    have hS18 : St H0 NoB (fun b => S b ∧ b < H0.size) [rowE 34 v15 (pickR r (left.take (k + 1)) : List LRow), rdE v10 ([(nth r ((nth left k).toNat))] : List LRow), rdE u8n0 ((nth r ((nth left k).toNat)).Of : List Int), rdE vr (r : List LRow), rdE vl (left : List Int)] H16 := by rw [show (pickR r (left.take (k + 1))) = ((pickR r (left.take k)) ++ ([(nth r ((nth left k).toNat))])) from (by rw [pickR_take (by omega)])]; exact hS17
    refine wpL_q (U := NoB) rfl (q_assign (v := v15) rfl rfl) ?_
    exact ⟨v15, hu81, hu82, a6_0, a6_1, rfl, a6_6, (hS18.drop (List.Sublist.cons_cons _ (List.Sublist.cons _ (List.Sublist.cons _ (List.Sublist.cons_cons _ (List.Sublist.cons_cons _ (List.Sublist.slnil)))))))⟩
  rintro f19 H19 ⟨v15, hu81, hu82, a19_0, a19_1, a19_5, a19_6, hS19⟩
  clear a6_0 a6_1 a6_10 a6_5 a6_6
  refine wpF_cut (fun f H => f 0 = vr ∧ f 1 = vl ∧ f 5 = v15 ∧ f 6 = I ((k : Int) + 1) ∧ H19 = H) ?_ ?_
  · refine wpF_region ?_
    refine wpL_q (U := NoB) rfl (q_move (v := I ((k : Int))) rfl a19_6) ?_
    refine wpL_q (U := NoB) rfl (q_add rfl rfl rfl (by constructor <;> omega)) ?_
    refine wpL_q (U := NoB) rfl (q_assign (v := I ((k : Int) + 1)) rfl rfl) ?_
    exact ⟨a19_0, a19_1, a19_5, rfl, rfl⟩
  rintro f20 _ ⟨a20_0, a20_1, a20_5, a20_6, rfl⟩
  clear a19_0 a19_1 a19_5 a19_6
  refine ⟨_, ?_, k + 1, v15, rfl, (by omega), a20_0, a20_1, a20_5, (Eq.trans a20_6 (congrArg I (by omega))), hS19⟩
  omega

set_option maxHeartbeats 1000000 in
set_option maxRecDepth 100000 in
theorem HoldMost_L {H0 : Heap} (wa wb wc wd we vr vs : Value) (l : Loop) (r : List LRow) (sm : List Int) (rwa : Rd NoB H0 wa l.Low) (rwb : Rd NoB H0 wb l.High) (rwc : Rd NoB H0 wc l.Start) (rwd : Rd NoB H0 wd l.Jumps) (rwe : Rd NoB H0 we l.Bad) (rr : Rd NoB H0 vr r) (rs : Rd NoB H0 vs sm) : CallsH Try.prog 10 #[Value.agg #[wa, wb, wc, wd, we], vr, vs] H0 (fun rv_ H' => Ext NoB H0 H' ∧ rv_ = B true) := by
  have hs1 := (Rd.list.1 rwa).small
  have hs2 := (Rd.list.1 rwb).small
  have hs4 := (Rd.list.1 rwd).small
  have hsr := (Rd.list.1 rr).small
  have hss := (Rd.list.1 rs).small
  have hS0 : St H0 NoB NoB [rdE wa (l.Low : List Int), rdE wb (l.High : List Int), rdE wc (l.Start : List LRow), rdE wd (l.Jumps : List Jump), rdE we (l.Bad : List LRow), rdE vr (r : List LRow), rdE vs (sm : List Int)] H0 := St.arg (St.arg (St.arg (St.arg (St.arg (St.arg (St.arg (St.start (fun _ h => h.elim)) (Bl0.nil) rs (fun _ h => h)) (Bl0.cons (Bl0.nil)) rr (fun _ h => h)) (Bl0.cons (Bl0.cons (Bl0.nil))) rwe (fun _ h => h)) (Bl0.cons (Bl0.cons (Bl0.cons (Bl0.nil)))) rwd (fun _ h => h)) (Bl0.cons (Bl0.cons (Bl0.cons (Bl0.cons (Bl0.nil))))) rwc (fun _ h => h)) (Bl0.cons (Bl0.cons (Bl0.cons (Bl0.cons (Bl0.cons (Bl0.nil)))))) rwb (fun _ h => h)) (Bl0.cons (Bl0.cons (Bl0.cons (Bl0.cons (Bl0.cons (Bl0.cons (Bl0.nil))))))) rwa (fun _ h => h)
  refine callsH_of_wpF (args := [Value.agg #[wa, wb, wc, wd, we], vr, vs]) (rs := [.tmp 6]) Try.func10 rfl Try.ntmps10 Try.results10 (by kernel_rfl) (Nat.le_of_ble_eq_true rfl) ?_
  have a0_0 : argF [Value.agg #[wa, wb, wc, wd, we], vr, vs] 0 = Value.agg #[wa, wb, wc, wd, we] := rfl
  have a0_1 : argF [Value.agg #[wa, wb, wc, wd, we], vr, vs] 1 = vr := rfl
  have a0_2 : argF [Value.agg #[wa, wb, wc, wd, we], vr, vs] 2 = vs := rfl
  generalize argF [Value.agg #[wa, wb, wc, wd, we], vr, vs] = f0 at *
  refine wpF_seq ?_
  refine wpF_cut (fun f H => ∃ (g1 : Nat), f 1 = vr ∧ f 2 = vs ∧ f 3 = PT g1 0 ∧ St H0 NoB NoB [blkE g1 (.cells #[wa, wb, wc, wd, we] 42), rdE wa (l.Low : List Int), rdE wb (l.High : List Int), rdE wc (l.Start : List LRow), rdE wd (l.Jumps : List Jump), rdE we (l.Bad : List LRow), rdE vr (r : List LRow), rdE vs (sm : List Int)] H) ?_ ?_
  · refine wpF_region ?_
    refine wpL_o rfl ?_
    refine e_box (v := Value.agg #[wa, wb, wc, wd, we]) rfl a0_0 hS0 (fun g1 H2 hS3 hxx => ?_)
    replace hS3 : St H0 NoB NoB [blkE g1 (.cells #[wa, wb, wc, wd, we] 42), rdE wa (l.Low : List Int), rdE wb (l.High : List Int), rdE wc (l.Start : List LRow), rdE wd (l.Jumps : List Jump), rdE we (l.Bad : List LRow), rdE vr (r : List LRow), rdE vs (sm : List Int)] H2 := hS3
    refine wpL_q (U := NoB) rfl (q_assign (v := B (false)) rfl rfl) ?_
    exact ⟨g1, a0_1, a0_2, rfl, hS3⟩
  rintro f4 H4 ⟨g1, a4_1, a4_2, a4_3, hS4⟩
  clear a0_0 a0_1 a0_2
  refine wpF_seq ?_
  refine wpF_cut (fun f H => f 1 = vr ∧ f 2 = vs ∧ f 3 = PT g1 0 ∧ f 7 = B (true) ∧ St H0 NoB NoB [blkE g1 (.cells #[wa, wb, wc, wd, we] 42), rdE wa (l.Low : List Int), rdE wb (l.High : List Int), rdE wc (l.Start : List LRow), rdE wd (l.Jumps : List Jump), rdE we (l.Bad : List LRow), rdE vr (r : List LRow), rdE vs (sm : List Int)] H) ?_ ?_
  · refine wpF_region ?_
    refine wpL_o rfl ?_
    refine e_call rfl Try.call42 arr0 (holdFact) ?_
    rintro _ H5 ⟨hxx, rfl⟩
    have hS6 : St H0 NoB NoB [blkE g1 (.cells #[wa, wb, wc, wd, we] 42), rdE wa (l.Low : List Int), rdE wb (l.High : List Int), rdE wc (l.Start : List LRow), rdE wd (l.Jumps : List Jump), rdE we (l.Bad : List LRow), rdE vr (r : List LRow), rdE vs (sm : List Int)] H5 := hS4.ext hxx
    refine wpL_q (U := NoB) rfl (q_assign (v := B (true)) rfl rfl) ?_
    exact ⟨a4_1, a4_2, a4_3, rfl, hS6⟩
  rintro f8 H8 ⟨a8_1, a8_2, a8_3, a8_7, hS8⟩
  clear a4_1 a4_2 a4_3
  refine wpF_seq ?_
  refine wpF_seq ?_
  refine wpF_cut (fun f H => f 1 = vr ∧ f 2 = vs ∧ f 3 = PT g1 0 ∧ f 19 = B (false) ∧ H8 = H) ?_ ?_
  · refine wpF_region ?_
    refine wpL_q (U := NoB) rfl (q_move (v := B (true)) rfl a8_7) ?_
    refine wpL_q (U := NoB) rfl (q_not rfl rfl) ?_
    exact ⟨a8_1, a8_2, a8_3, rfl, rfl⟩
  rintro f9 _ ⟨a9_1, a9_2, a9_3, a9_19, rfl⟩
  clear a8_1 a8_2 a8_3 a8_7
  refine wpF_condF a9_19 ?_
  refine wpF_skip ?_
  refine wpF_seq ?_
  refine wpF_cut (fun f H => ∃ (r10 : Value), ∃ (g14 : Nat), f 1 = vr ∧ f 2 = vs ∧ f 3 = PT g1 0 ∧ f 8 = r10 ∧ f 9 = PT g14 0 ∧ St H0 NoB NoB [blkE g14 (.cells #[I ((chkFault l r).1), I ((chkFault l r).2)] 27), rdE r10 (holdMost l r : List Int), blkE g1 (.cells #[wa, wb, wc, wd, we] 42), rdE wa (l.Low : List Int), rdE wb (l.High : List Int), rdE wc (l.Start : List LRow), rdE wd (l.Jumps : List Jump), rdE we (l.Bad : List LRow), rdE vr (r : List LRow), rdE vs (sm : List Int)] H) ?_ ?_
  · refine wpF_region ?_
    refine wpL_q (U := NoB) rfl (q_loadBlkA rfl a9_3 Try.isAgg42 Try.sizeOf42 rfl (hS8.blk 0 rfl) (fun h => h)) ?_
    refine wpL_q (U := NoB) rfl (q_move (v := vr) rfl a9_1) ?_
    refine wpL_o rfl ?_
    refine e_call rfl Try.call37 (arr2 (v0 := Value.agg #[wa, wb, wc, wd, we]) (v1 := vr) rfl rfl) (Most_L wa wb wc wd we vr l r (hS8.rdS 1 rfl) (hS8.rdS 2 rfl) (hS8.rdS 3 rfl) (hS8.rdS 4 rfl) (hS8.rdS 5 rfl) (hS8.rdS 6 rfl) ) ?_
    rintro _ H11 ⟨hxx, r10, rfl, hrr10⟩
    have hS12 : St H0 NoB NoB [rdE r10 (holdMost l r : List Int), blkE g1 (.cells #[wa, wb, wc, wd, we] 42), rdE wa (l.Low : List Int), rdE wb (l.High : List Int), rdE wc (l.Start : List LRow), rdE wd (l.Jumps : List Jump), rdE we (l.Bad : List LRow), rdE vr (r : List LRow), rdE vs (sm : List Int)] H11 := hS8.res hxx hrr10
    refine wpL_q (U := NoB) rfl (q_move (v := Value.tuple #[r10, Value.agg #[I ((chkFault l r).1), I ((chkFault l r).2)]]) rfl rfl) ?_
    refine wpL_q (U := NoB) rfl (q_extract (vs := #[r10, Value.agg #[I ((chkFault l r).1), I ((chkFault l r).2)]]) (v := r10) rfl rfl rfl) ?_
    refine wpL_q (U := NoB) rfl (q_extract (vs := #[r10, Value.agg #[I ((chkFault l r).1), I ((chkFault l r).2)]]) (v := Value.agg #[I ((chkFault l r).1), I ((chkFault l r).2)]) rfl rfl rfl) ?_
    refine wpL_o rfl ?_
    refine e_alloc rfl Try.zeroValue27 hS12 (fun g14 H15 hS16 hxx => ?_)
    replace hS16 : St H0 NoB NoB [blkE g14 (.cells #[I (0), I (0)] 27), rdE r10 (holdMost l r : List Int), blkE g1 (.cells #[wa, wb, wc, wd, we] 42), rdE wa (l.Low : List Int), rdE wb (l.High : List Int), rdE wc (l.Start : List LRow), rdE wd (l.Jumps : List Jump), rdE we (l.Bad : List LRow), rdE vr (r : List LRow), rdE vs (sm : List Int)] H15 := hS16
    refine wpL_q (U := NoB) rfl (q_assign (v := r10) rfl rfl) ?_
    refine wpL_o rfl ?_
    refine e_storeBlkA (cs' := #[I ((chkFault l r).1), I ((chkFault l r).2)]) rfl rfl rfl Try.sizeOf27 rfl rfl (List.forall_mem_cons.2 ⟨rfl, List.forall_mem_cons.2 ⟨rfl, List.forall_mem_nil _⟩⟩) hS16 (fun H17 hS18 hxx => ?_)
    replace hS18 : St H0 NoB NoB [blkE g14 (.cells #[I ((chkFault l r).1), I ((chkFault l r).2)] 27), rdE r10 (holdMost l r : List Int), blkE g1 (.cells #[wa, wb, wc, wd, we] 42), rdE wa (l.Low : List Int), rdE wb (l.High : List Int), rdE wc (l.Start : List LRow), rdE wd (l.Jumps : List Jump), rdE we (l.Bad : List LRow), rdE vr (r : List LRow), rdE vs (sm : List Int)] H17 := hS18
    exact ⟨r10, g14, a9_1, a9_2, a9_3, rfl, rfl, hS18⟩
  rintro f19 H19 ⟨r10, g14, a19_1, a19_2, a19_3, a19_8, a19_9, hS19⟩
  clear a9_1 a9_19 a9_2 a9_3
  refine wpF_seq ?_
  refine wpF_seq ?_
  refine wpF_cut (fun f H => f 1 = vr ∧ f 2 = vs ∧ f 3 = PT g1 0 ∧ f 8 = r10 ∧ f 9 = PT g14 0 ∧ f 28 = B (decide (((chkFault l r).1) ≠ 0)) ∧ H19 = H) ?_ ?_
  · refine wpF_region ?_
    refine wpL_q (U := NoB) rfl (q_fieldAddr rfl Try.underlying27 rfl Try.sizeOf3 a19_9) ?_
    refine wpL_q (U := NoB) rfl (q_loadBlk rfl rfl Try.isAgg3 (hS19.blk 0 rfl) rfl (fun h => h)) ?_
    refine wpL_q (U := NoB) rfl (q_neq rfl rfl rfl) ?_
    exact ⟨a19_1, a19_2, a19_3, a19_8, a19_9, rfl, rfl⟩
  rintro f20 _ ⟨a20_1, a20_2, a20_3, a20_8, a20_9, a20_28, rfl⟩
  clear a19_1 a19_2 a19_3 a19_8 a19_9
  refine wpF_condP a20_28 (fun h28 => ?t91) (fun h28 => ?e91)
  case t91 =>
    refine wpF_seq ?_
    refine wpF_cut (fun f H => f 6 = B (decide (((holdMost l r).length : Int) = 0)) ∧ H19 = H) ?_ ?_
    · refine wpF_region ?_
      refine wpL_q (U := NoB) rfl (q_move (v := r10) rfl a20_8) ?_
      refine wpL_q (U := NoB) rfl (q_lenRd rfl Try.underlying32 rfl (hS19.rdl 1 rfl)) ?_
      refine wpL_q (U := NoB) rfl (q_eql rfl rfl rfl) ?_
      refine wpL_q (U := NoB) rfl (q_assign (v := B (decide (((holdMost l r).length : Int) = 0))) rfl rfl) ?_
      exact ⟨rfl, rfl⟩
    rintro f22 _ ⟨a22_6, rfl⟩
    clear a20_1 a20_2 a20_28 a20_3 a20_8 a20_9
    refine wpF_ret ?_
    refine ⟨_, resT a22_6 resN, hS19.frame, ?_⟩
    show (B (decide (((holdMost l r).length : Int) = 0))) = B true
    have q1 : holdMost l r = [] := if_pos h28
    exact congrArg B (decide_eq_true (by rw [q1]; rfl))
  have hc0 : (chkFault l r).1 = 0 := Decidable.of_not_not h28
  obtain ⟨hl, hrz, hcz⟩ := chk_zero hc0
  have hinm := most_in h28
  have hmf := most_few h28
  have hr40 := (rowsFault_zero hrz).1
  refine wpF_skip ?_
  refine wpF_seq ?_
  refine wpF_seq ?_
  refine wpF_cut (fun f H => f 1 = vr ∧ f 2 = vs ∧ f 3 = PT g1 0 ∧ f 8 = r10 ∧ f 9 = PT g14 0 ∧ f 10 = I (0) ∧ H19 = H) ?_ ?_
  · refine wpF_region ?_
    refine wpL_q (U := NoB) rfl (q_assign (v := I (0)) rfl rfl) ?_
    exact ⟨a20_1, a20_2, a20_3, a20_8, a20_9, rfl, rfl⟩
  rintro f23 _ ⟨a23_1, a23_2, a23_3, a23_8, a23_9, a23_10, rfl⟩
  clear a20_1 a20_2 a20_28 a20_3 a20_8 a20_9
  refine wpF_block ?_
  refine wpF_loop (fun mz f H => ∃ (i : Nat), mz = (holdMost l r).length - i ∧ (i ≤ (holdMost l r).length) ∧ f 1 = vr ∧ f 2 = vs ∧ f 3 = PT g1 0 ∧ f 8 = r10 ∧ f 9 = PT g14 0 ∧ f 10 = I ((i : Int)) ∧ St H0 NoB NoB [blkE g14 (.cells #[I ((chkFault l r).1), I ((chkFault l r).2)] 27), rdE r10 (holdMost l r : List Int), blkE g1 (.cells #[wa, wb, wc, wd, we] 42), rdE wa (l.Low : List Int), rdE wb (l.High : List Int), rdE wc (l.Start : List LRow), rdE wd (l.Jumps : List Jump), rdE we (l.Bad : List LRow), rdE vr (r : List LRow), rdE vs (sm : List Int)] H) ((holdMost l r).length - 0) ?_ ?_
  · exact ⟨0, rfl, Nat.zero_le _, a23_1, a23_2, a23_3, a23_8, a23_9, (Eq.trans a23_10 (congrArg I (by omega))), hS19⟩
  intro m24 f24 H24 hI24
  obtain ⟨i, hm24, hi, a24_1, a24_2, a24_3, a24_8, a24_9, a24_10, hS24⟩ := hI24
  clear a23_1 a23_10 a23_2 a23_3 a23_8 a23_9
  refine wpF_seq ?_
  refine wpF_seq ?_
  refine wpF_cut (fun f H => f 1 = vr ∧ f 2 = vs ∧ f 3 = PT g1 0 ∧ f 8 = r10 ∧ f 9 = PT g14 0 ∧ f 10 = I ((i : Int)) ∧ f 35 = B (decide ((i : Int) < ((holdMost l r).length : Int))) ∧ H24 = H) ?_ ?_
  · refine wpF_region ?_
    refine wpL_q (U := NoB) rfl (q_move (v := I ((i : Int))) rfl a24_10) ?_
    refine wpL_q (U := NoB) rfl (q_move (v := r10) rfl a24_8) ?_
    refine wpL_q (U := NoB) rfl (q_lenRd rfl Try.underlying32 rfl (hS24.rdl 1 rfl)) ?_
    refine wpL_q (U := NoB) rfl (q_lss rfl rfl rfl) ?_
    exact ⟨a24_1, a24_2, a24_3, a24_8, a24_9, a24_10, rfl, rfl⟩
  rintro f25 _ ⟨a25_1, a25_2, a25_3, a25_8, a25_9, a25_10, a25_35, rfl⟩
  clear a24_1 a24_10 a24_2 a24_3 a24_8 a24_9
  refine wpF_condP a25_35 (fun hlt => ?t90) (fun hlt => ?e90)
  case t90 =>
    have him := hinm _ (nth_mem (l := holdMost l r) (k := i) (by omega))
    refine wpF_skip ?_
    refine wpF_seq ?_
    refine wpF_block ?_
    refine wpF_seq ?_
    refine wpF_cut (fun f H => f 1 = vr ∧ f 2 = vs ∧ f 3 = PT g1 0 ∧ f 8 = r10 ∧ f 9 = PT g14 0 ∧ f 10 = I ((i : Int)) ∧ f 62 = B (decide ((¬ (0 ≤ (nth (holdMost l r) i) ∧ (nth (holdMost l r) i) ≤ ((r.length : Int) - 1))) ∨ ((0 < (i : Int)) ∧ ((nth (holdMost l r) i) ≤ (nth (holdMost l r) (((i : Int) - 1).toNat)))))) ∧ St H0 NoB NoB [blkE g14 (.cells #[I ((chkFault l r).1), I ((chkFault l r).2)] 27), rdE r10 (holdMost l r : List Int), blkE g1 (.cells #[wa, wb, wc, wd, we] 42), rdE wa (l.Low : List Int), rdE wb (l.High : List Int), rdE wc (l.Start : List LRow), rdE wd (l.Jumps : List Jump), rdE we (l.Bad : List LRow), rdE vr (r : List LRow), rdE vs (sm : List Int)] H) ?_ ?_
    · refine wpF_drawn [] [] (fun _ _ => False) (by kernel_rfl) (by kernel_rfl) ?_
      refine wpR_q 0 (by kernel_rfl) rfl (quietAt rfl rfl (q_move (v := r10) rfl a25_8)) ?_
      refine wpR_q 1 (by kernel_rfl) rfl (quietAt rfl rfl (q_move (v := I ((i : Int))) rfl a25_10)) ?_
      refine wpR_q 2 (by kernel_rfl) rfl (quietAt rfl rfl (q_indexRd (k := i) rfl Try.underlying32 el_Int_3_HoldMost1 rfl rfl (hS24.rdl 1 rfl) (by omega) (by omega))) ?_
      refine wpR_q 3 (by kernel_rfl) rfl (quietAt rfl rfl (q_loadInt (k := i) rfl rfl el_Int_3_HoldMost1 (hS24.rdl 1 rfl) (by omega) (labU_sub [] rfl (List.forall_mem_nil _)))) ?_
      refine wpR_q 4 (by kernel_rfl) rfl (quietAt rfl rfl (q_move (v := vr) rfl a25_1)) ?_
      refine wpR_q 5 (by kernel_rfl) rfl (quietAt rfl rfl (q_lenRd rfl Try.underlying22 rfl (hS24.rdl 8 rfl))) ?_
      refine wpR_q 6 (by kernel_rfl) rfl (quietAt rfl rfl (q_sub rfl rfl rfl (by constructor <;> omega))) ?_
      refine wpR_n [7] (by kernel_rfl) ?_
      refine List.forall_mem_cons.2 ⟨?_, List.forall_mem_nil _⟩
      refine exE rfl rfl ?_
      refine e_call rfl Try.call12 (arr3 (v0 := I (nth (holdMost l r) i)) (v1 := I (0)) (v2 := I ((r.length : Int) - 1)) rfl rfl rfl) (in_L (nth (holdMost l r) i) 0 ((r.length : Int) - 1)) ?_
      rintro _ H27o7 ⟨hxx, rfl⟩
      have hS27o7 : St H0 NoB NoB [blkE g14 (.cells #[I ((chkFault l r).1), I ((chkFault l r).2)] 27), rdE r10 (holdMost l r : List Int), blkE g1 (.cells #[wa, wb, wc, wd, we] 42), rdE wa (l.Low : List Int), rdE wb (l.High : List Int), rdE wc (l.Start : List LRow), rdE wd (l.Jumps : List Jump), rdE we (l.Bad : List LRow), rdE vr (r : List LRow), rdE vs (sm : List Int)] H27o7 := hS24.ext hxx
      refine ⟨Ext.mono hxx (fun _ h => h.elim), ?_⟩
      refine wpR_q 8 (by kernel_rfl) rfl (quietAt rfl rfl (q_notP rfl rfl)) ?_
      refine wpR_q 9 (by kernel_rfl) rfl (quietAt rfl rfl (q_move (v := B (decide (¬ (0 ≤ (nth (holdMost l r) i) ∧ (nth (holdMost l r) i) ≤ ((r.length : Int) - 1))))) rfl rfl)) ?_
      by_cases hg28 : ¬ (0 ≤ (nth (holdMost l r) i) ∧ (nth (holdMost l r) i) ≤ ((r.length : Int) - 1))
      · have hb29 := Eq.trans rfl (congrArg B (decide_eq_true hg28))
        refine wpR_q 10 (by kernel_rfl) rfl (quietAt_s rfl rfl rfl rfl hb29 rfl) ?_
        refine wpR_q 11 (by kernel_rfl) rfl (quietAt_s rfl rfl rfl rfl hb29 rfl) ?_
        refine wpR_q 12 (by kernel_rfl) rfl (quietAt_s rfl rfl rfl rfl hb29 rfl) ?_
        refine wpR_q 13 (by kernel_rfl) rfl (quietAt_s' rfl rfl rfl rfl rfl) ?_
        refine wpR_q 14 (by kernel_rfl) rfl (quietAt_s' rfl rfl rfl rfl rfl) ?_
        refine wpR_q 15 (by kernel_rfl) rfl (quietAt_s' rfl rfl rfl rfl rfl) ?_
        refine wpR_q 16 (by kernel_rfl) rfl (quietAt_s' rfl rfl rfl rfl rfl) ?_
        refine wpR_q 17 (by kernel_rfl) rfl (quietAt_s' rfl rfl rfl rfl rfl) ?_
        refine wpR_q 18 (by kernel_rfl) rfl (quietAt_s' rfl rfl rfl rfl rfl) ?_
        refine wpR_q 19 (by kernel_rfl) rfl (quietAt_s' rfl rfl rfl rfl rfl) ?_
        refine wpR_q 20 (by kernel_rfl) rfl (quietAt_s' rfl rfl rfl rfl rfl) ?_
        refine wpR_q 21 (by kernel_rfl) rfl (quietAt_s' rfl rfl rfl rfl rfl) ?_
        refine wpR_q 22 (by kernel_rfl) rfl (quietAt_s' rfl rfl rfl rfl rfl) ?_
        refine wpR_q 23 (by kernel_rfl) rfl (quietAt_s rfl rfl rfl rfl hb29 rfl) ?_
        refine wpR_q 24 (by kernel_rfl) rfl (quietAt rfl rfl (q_pickT (v := B (true)) rfl hb29 rfl)) ?_
        refine wpR_end (by kernel_rfl) ?_
        exact ⟨a25_1, a25_2, a25_3, a25_8, a25_9, a25_10, (Eq.trans rfl (congrArg B ((decide_eq_true (Or.inl hg28)).symm))), hS27o7⟩
      · have hb30 := Eq.trans rfl (congrArg B (decide_eq_false hg28))
        refine wpR_q 10 (by kernel_rfl) rfl (quietAt_g rfl rfl rfl rfl hb30 (q_move (v := I ((i : Int))) rfl a25_10)) ?_
        refine wpR_q 11 (by kernel_rfl) rfl (quietAt_g rfl rfl rfl rfl hb30 (q_gtr rfl rfl rfl)) ?_
        refine wpR_q 12 (by kernel_rfl) rfl (quietAt_g rfl rfl rfl rfl hb30 (q_move (v := B (decide (0 < (i : Int)))) rfl rfl)) ?_
        by_cases hg31 : 0 < (i : Int)
        · have hb32 := Eq.trans rfl (congrArg B (decide_eq_true hg31))
          refine wpR_q 13 (by kernel_rfl) rfl (quietAt_g rfl rfl rfl rfl hb32 (q_move (v := r10) rfl a25_8)) ?_
          refine wpR_q 14 (by kernel_rfl) rfl (quietAt_g rfl rfl rfl rfl hb32 (q_move (v := I ((i : Int))) rfl a25_10)) ?_
          refine wpR_q 15 (by kernel_rfl) rfl (quietAt_g rfl rfl rfl rfl hb32 (q_indexRd (k := i) rfl Try.underlying32 el_Int_3_HoldMost1 rfl rfl (hS27o7.rdl 1 rfl) (by omega) (by omega))) ?_
          refine wpR_q 16 (by kernel_rfl) rfl (quietAt_g rfl rfl rfl rfl hb32 (q_loadInt (k := i) rfl rfl el_Int_3_HoldMost1 (hS27o7.rdl 1 rfl) (by omega) (labU_sub [] rfl (List.forall_mem_nil _)))) ?_
          refine wpR_q 17 (by kernel_rfl) rfl (quietAt_g rfl rfl rfl rfl hb32 (q_move (v := r10) rfl a25_8)) ?_
          refine wpR_q 18 (by kernel_rfl) rfl (quietAt_g rfl rfl rfl rfl hb32 (q_move (v := I ((i : Int))) rfl a25_10)) ?_
          refine wpR_q 19 (by kernel_rfl) rfl (quietAt_g rfl rfl rfl rfl hb32 (q_sub rfl rfl rfl (by constructor <;> omega))) ?_
          refine wpR_q 20 (by kernel_rfl) rfl (quietAt_g rfl rfl rfl rfl hb32 (q_indexRd (k := ((i : Int) - 1).toNat) rfl Try.underlying32 el_Int_3_HoldMost1 rfl rfl (hS27o7.rdl 1 rfl) (by omega) (by omega))) ?_
          refine wpR_q 21 (by kernel_rfl) rfl (quietAt_g rfl rfl rfl rfl hb32 (q_loadInt (k := ((i : Int) - 1).toNat) rfl rfl el_Int_3_HoldMost1 (hS27o7.rdl 1 rfl) (by omega) (labU_sub [] rfl (List.forall_mem_nil _)))) ?_
          refine wpR_q 22 (by kernel_rfl) rfl (quietAt_g rfl rfl rfl rfl hb32 (q_leq rfl rfl rfl)) ?_
          refine wpR_q 23 (by kernel_rfl) rfl (quietAt_g rfl rfl rfl rfl hb30 (q_pickT (v := B (decide ((nth (holdMost l r) i) ≤ (nth (holdMost l r) (((i : Int) - 1).toNat))))) rfl hb32 rfl)) ?_
          refine wpR_q 24 (by kernel_rfl) rfl (quietAt rfl rfl (q_pickF (v := B (decide ((nth (holdMost l r) i) ≤ (nth (holdMost l r) (((i : Int) - 1).toNat))))) rfl hb30 rfl)) ?_
          refine wpR_end (by kernel_rfl) ?_
          exact ⟨a25_1, a25_2, a25_3, a25_8, a25_9, a25_10, (Eq.trans rfl (congrArg B (decide_congr_of ((Iff.rfl).trans (((or_iff_right hg28).trans ((and_iff_right hg31).trans Iff.rfl))).symm)))), hS27o7⟩
        · have hb33 := Eq.trans rfl (congrArg B (decide_eq_false hg31))
          refine wpR_q 13 (by kernel_rfl) rfl (quietAt_s rfl rfl rfl rfl hb33 rfl) ?_
          refine wpR_q 14 (by kernel_rfl) rfl (quietAt_s rfl rfl rfl rfl hb33 rfl) ?_
          refine wpR_q 15 (by kernel_rfl) rfl (quietAt_s rfl rfl rfl rfl hb33 rfl) ?_
          refine wpR_q 16 (by kernel_rfl) rfl (quietAt_s rfl rfl rfl rfl hb33 rfl) ?_
          refine wpR_q 17 (by kernel_rfl) rfl (quietAt_s rfl rfl rfl rfl hb33 rfl) ?_
          refine wpR_q 18 (by kernel_rfl) rfl (quietAt_s rfl rfl rfl rfl hb33 rfl) ?_
          refine wpR_q 19 (by kernel_rfl) rfl (quietAt_s rfl rfl rfl rfl hb33 rfl) ?_
          refine wpR_q 20 (by kernel_rfl) rfl (quietAt_s rfl rfl rfl rfl hb33 rfl) ?_
          refine wpR_q 21 (by kernel_rfl) rfl (quietAt_s rfl rfl rfl rfl hb33 rfl) ?_
          refine wpR_q 22 (by kernel_rfl) rfl (quietAt_s rfl rfl rfl rfl hb33 rfl) ?_
          refine wpR_q 23 (by kernel_rfl) rfl (quietAt_g rfl rfl rfl rfl hb30 (q_pickF (v := B (false)) rfl hb33 rfl)) ?_
          refine wpR_q 24 (by kernel_rfl) rfl (quietAt rfl rfl (q_pickF (v := B (false)) rfl hb30 rfl)) ?_
          refine wpR_end (by kernel_rfl) ?_
          exact ⟨a25_1, a25_2, a25_3, a25_8, a25_9, a25_10, (Eq.trans rfl (congrArg B ((decide_eq_false (not_or.2 ⟨hg28, (fun h => hg31 h.1)⟩)).symm))), hS27o7⟩
    rintro f34 H34 ⟨a34_1, a34_2, a34_3, a34_8, a34_9, a34_10, a34_62, hS34⟩
    clear a25_1 a25_10 a25_2 a25_3 a25_35 a25_8 a25_9
    refine wpF_condP a34_62 (fun h62 => ?t38) (fun h62 => ?e38)
    case e38 =>
      refine wpF_skip ?_
      refine wpF_cut (fun f H => f 1 = vr ∧ f 2 = vs ∧ f 3 = PT g1 0 ∧ f 8 = r10 ∧ f 9 = PT g14 0 ∧ f 10 = I ((i : Int) + 1) ∧ H34 = H) ?_ ?_
      · refine wpF_region ?_
        refine wpL_q (U := NoB) rfl (q_move (v := I ((i : Int))) rfl a34_10) ?_
        refine wpL_q (U := NoB) rfl (q_add rfl rfl rfl (by constructor <;> omega)) ?_
        refine wpL_q (U := NoB) rfl (q_assign (v := I ((i : Int) + 1)) rfl rfl) ?_
        exact ⟨a34_1, a34_2, a34_3, a34_8, a34_9, rfl, rfl⟩
      rintro f37 _ ⟨a37_1, a37_2, a37_3, a37_8, a37_9, a37_10, rfl⟩
      clear a34_1 a34_10 a34_2 a34_3 a34_62 a34_8 a34_9
      refine ⟨_, ?_, i + 1, rfl, (by omega), a37_1, a37_2, a37_3, a37_8, a37_9, (Eq.trans a37_10 (congrArg I (by omega))), hS34⟩
      omega
    refine wpF_seq ?_
    refine wpF_cut (fun f H => f 6 = B (false) ∧ H34 = H) ?_ ?_
    · refine wpF_region ?_
      refine wpL_q (U := NoB) rfl (q_assign (v := B (false)) rfl rfl) ?_
      exact ⟨rfl, rfl⟩
    rintro f36 _ ⟨a36_6, rfl⟩
    clear a34_1 a34_10 a34_2 a34_3 a34_62 a34_8 a34_9
    refine wpF_ret ?_
    refine ⟨_, resT a36_6 resN, hS34.frame, ?_⟩
    show (B (false)) = B true
    exfalso
    rcases h62 with h | h
    · exact h (by omega)
    · have := most_inc h28 (i := i) (by omega) (by omega)
      have e : ((i : Int) - 1).toNat = i - 1 := by omega
      have h2 := h.2
      rw [e] at h2
      omega
  refine wpF_exit ?_
  refine atX_here ?_
  refine wpF_seq ?_
  refine wpF_cut (fun f H => f 1 = vr ∧ f 2 = vs ∧ f 3 = PT g1 0 ∧ f 8 = r10 ∧ f 9 = PT g14 0 ∧ f 11 = B (keptB l (pickR r (holdMost l r))) ∧ St H0 NoB NoB [blkE g14 (.cells #[I ((chkFault l (pickR r (holdMost l r))).1), I ((chkFault l (pickR r (holdMost l r))).2)] 27), rdE r10 (holdMost l r : List Int), blkE g1 (.cells #[wa, wb, wc, wd, we] 42), rdE wa (l.Low : List Int), rdE wb (l.High : List Int), rdE wc (l.Start : List LRow), rdE wd (l.Jumps : List Jump), rdE we (l.Bad : List LRow), rdE vr (r : List LRow), rdE vs (sm : List Int)] H) ?_ ?_
  · refine wpF_drawn [none, none, none, none, none, none, none, none, none, none, none, some 0] [[], [], [], [], [], [], [], [], [], [], [], []] (fun l b => match l with | 0 => True | _ => False) (by kernel_rfl) (by kernel_rfl) ?_
    refine wpR_q 0 (by kernel_rfl) rfl (quietAt rfl rfl (q_loadBlkA rfl a25_3 Try.isAgg42 Try.sizeOf42 rfl (hS24.blk 2 rfl) (labU_not [] rfl (List.forall_mem_nil _)))) ?_
    refine wpR_q 1 (by kernel_rfl) rfl (quietAt rfl rfl (q_move (v := vr) rfl a25_1)) ?_
    refine wpR_q 2 (by kernel_rfl) rfl (quietAt rfl rfl (q_move (v := r10) rfl a25_8)) ?_
    refine wpR_n [3] (by kernel_rfl) ?_
    refine List.forall_mem_cons.2 ⟨?_, List.forall_mem_nil _⟩
    refine exE rfl rfl ?_
    refine e_call rfl Try.call41 (arr2 (v0 := vr) (v1 := r10) rfl rfl) (Some_R vr r10 r (holdMost l r) (hS24.rdS 8 rfl) (hS24.rdS 1 rfl) hinm (by omega)) ?_
    rintro r39o3 H39o3 ⟨hxx, hrr39o3⟩
    have hS39o3 : St H0 NoB NoB [rdE r39o3 (pickR r (holdMost l r) : List LRow), blkE g14 (.cells #[I ((chkFault l r).1), I ((chkFault l r).2)] 27), rdE r10 (holdMost l r : List Int), blkE g1 (.cells #[wa, wb, wc, wd, we] 42), rdE wa (l.Low : List Int), rdE wb (l.High : List Int), rdE wc (l.Start : List LRow), rdE wd (l.Jumps : List Jump), rdE we (l.Bad : List LRow), rdE vr (r : List LRow), rdE vs (sm : List Int)] H39o3 := hS24.res hxx hrr39o3
    refine ⟨Ext.mono hxx (fun _ h => h.elim), ?_⟩
    refine wpR_n [4] (by kernel_rfl) ?_
    refine List.forall_mem_cons.2 ⟨?_, List.forall_mem_nil _⟩
    refine exE rfl rfl ?_
    refine e_call rfl Try.call21 (arr2 (v0 := Value.agg #[wa, wb, wc, wd, we]) (v1 := r39o3) rfl rfl) (Kept_L wa wb wc wd we r39o3 l (pickR r (holdMost l r)) (hS39o3.rdS 4 rfl) (hS39o3.rdS 5 rfl) (hS39o3.rdS 6 rfl) (hS39o3.rdS 7 rfl) (hS39o3.rdS 8 rfl) (hS39o3.rdS 0 rfl) ) ?_
    rintro _ H39o4 ⟨hxx, r39o4, rfl, hrr39o4⟩
    have hS39o4 : St H0 NoB NoB [rdE r39o4 (keptS l (pickR r (holdMost l r)) : List Int), rdE r39o3 (pickR r (holdMost l r) : List LRow), blkE g14 (.cells #[I ((chkFault l r).1), I ((chkFault l r).2)] 27), rdE r10 (holdMost l r : List Int), blkE g1 (.cells #[wa, wb, wc, wd, we] 42), rdE wa (l.Low : List Int), rdE wb (l.High : List Int), rdE wc (l.Start : List LRow), rdE wd (l.Jumps : List Jump), rdE we (l.Bad : List LRow), rdE vr (r : List LRow), rdE vs (sm : List Int)] H39o4 := hS39o3.res hxx hrr39o4
    refine ⟨Ext.mono hxx (fun _ h => h.elim), ?_⟩
    refine wpR_q 5 (by kernel_rfl) rfl (quietAt rfl rfl (q_move (v := Value.tuple #[B (keptB l (pickR r (holdMost l r))), r39o4, Value.agg #[I ((chkFault l (pickR r (holdMost l r))).1), I ((chkFault l (pickR r (holdMost l r))).2)]]) rfl rfl)) ?_
    refine wpR_q 6 (by kernel_rfl) rfl (quietAt rfl rfl (q_extract (vs := #[B (keptB l (pickR r (holdMost l r))), r39o4, Value.agg #[I ((chkFault l (pickR r (holdMost l r))).1), I ((chkFault l (pickR r (holdMost l r))).2)]]) (v := B (keptB l (pickR r (holdMost l r)))) rfl rfl rfl)) ?_
    refine wpR_q 7 (by kernel_rfl) rfl (quietAt rfl rfl (q_extract (vs := #[B (keptB l (pickR r (holdMost l r))), r39o4, Value.agg #[I ((chkFault l (pickR r (holdMost l r))).1), I ((chkFault l (pickR r (holdMost l r))).2)]]) (v := r39o4) rfl rfl rfl)) ?_
    refine wpR_q 8 (by kernel_rfl) rfl (quietAt rfl rfl (q_extract (vs := #[B (keptB l (pickR r (holdMost l r))), r39o4, Value.agg #[I ((chkFault l (pickR r (holdMost l r))).1), I ((chkFault l (pickR r (holdMost l r))).2)]]) (v := Value.agg #[I ((chkFault l (pickR r (holdMost l r))).1), I ((chkFault l (pickR r (holdMost l r))).2)]) rfl rfl rfl)) ?_
    refine wpR_q 9 (by kernel_rfl) rfl (quietAt rfl rfl (q_assign (v := B (keptB l (pickR r (holdMost l r)))) rfl rfl)) ?_
    refine wpR_q 10 (by kernel_rfl) rfl (quietAt rfl rfl (q_assign (v := r39o4) rfl rfl)) ?_
    refine wpR_n [11] (by kernel_rfl) ?_
    refine List.forall_mem_cons.2 ⟨?_, List.forall_mem_nil _⟩
    refine exE rfl rfl ?_
    refine e_storeBlkA (cs' := #[I ((chkFault l (pickR r (holdMost l r))).1), I ((chkFault l (pickR r (holdMost l r))).2)]) rfl a25_9 rfl Try.sizeOf27 rfl rfl (List.forall_mem_cons.2 ⟨rfl, List.forall_mem_cons.2 ⟨rfl, List.forall_mem_nil _⟩⟩) (hS39o4.front 2 rfl) (fun H39o11 hS39o11 hxx => ?_)
    replace hS39o11 : St H0 NoB NoB [blkE g14 (.cells #[I ((chkFault l (pickR r (holdMost l r))).1), I ((chkFault l (pickR r (holdMost l r))).2)] 27), rdE r39o4 (keptS l (pickR r (holdMost l r)) : List Int), rdE r39o3 (pickR r (holdMost l r) : List LRow), rdE r10 (holdMost l r : List Int), blkE g1 (.cells #[wa, wb, wc, wd, we] 42), rdE wa (l.Low : List Int), rdE wb (l.High : List Int), rdE wc (l.Start : List LRow), rdE wd (l.Jumps : List Jump), rdE we (l.Bad : List LRow), rdE vr (r : List LRow), rdE vs (sm : List Int)] H39o11 := hS39o11
    refine ⟨Ext.mono hxx (labS_of 0 rfl (fun _ _ => trivial)), ?_⟩
    refine wpR_end (by kernel_rfl) ?_
    exact ⟨a25_1, a25_2, a25_3, a25_8, a25_9, rfl, (hS39o11.drop (List.Sublist.cons_cons _ (List.Sublist.cons _ (List.Sublist.cons _ (List.Sublist.cons_cons _ (List.Sublist.cons_cons _ (List.Sublist.cons_cons _ (List.Sublist.cons_cons _ (List.Sublist.cons_cons _ (List.Sublist.cons_cons _ (List.Sublist.cons_cons _ (List.Sublist.cons_cons _ (List.Sublist.cons_cons _ (List.Sublist.slnil))))))))))))))⟩
  rintro f40 H40 ⟨a40_1, a40_2, a40_3, a40_8, a40_9, a40_11, hS40⟩
  clear a25_1 a25_10 a25_2 a25_3 a25_35 a25_8 a25_9
  refine wpF_seq ?_
  refine wpF_seq ?_
  refine wpF_cut (fun f H => f 1 = vr ∧ f 2 = vs ∧ f 3 = PT g1 0 ∧ f 8 = r10 ∧ f 9 = PT g14 0 ∧ f 11 = B (keptB l (pickR r (holdMost l r))) ∧ f 83 = B (decide (((((chkFault l (pickR r (holdMost l r))).1) ≠ 0) ∨ ((!(keptB l (pickR r (holdMost l r)))) = true)) ∨ (20 < (sm.length : Int)))) ∧ H40 = H) ?_ ?_
  · refine wpF_region ?_
    refine wpL_q (U := NoB) rfl (q_fieldAddr rfl Try.underlying27 rfl Try.sizeOf3 a40_9) ?_
    refine wpL_q (U := NoB) rfl (q_loadBlk rfl rfl Try.isAgg3 (hS40.blk 0 rfl) rfl (fun h => h)) ?_
    refine wpL_q (U := NoB) rfl (q_neq rfl rfl rfl) ?_
    refine wpL_q (U := NoB) rfl (q_move (v := B (decide (((chkFault l (pickR r (holdMost l r))).1) ≠ 0))) rfl rfl) ?_
    by_cases hg41 : ((chkFault l (pickR r (holdMost l r))).1) ≠ 0
    · have hb42 := Eq.trans rfl (congrArg B (decide_eq_true hg41))
      refine wpL_gs rfl rfl rfl hb42 rfl ?_
      refine wpL_gs rfl rfl rfl hb42 rfl ?_
      refine wpL_q (U := NoB) rfl (q_pickT (v := B (true)) rfl hb42 rfl) ?_
      refine wpL_q (U := NoB) rfl (q_move (v := B (true)) rfl rfl) ?_
      refine wpL_gs rfl rfl rfl rfl rfl ?_
      refine wpL_gs rfl rfl rfl rfl rfl ?_
      refine wpL_gs rfl rfl rfl rfl rfl ?_
      refine wpL_q (U := NoB) rfl (q_pickT (v := B (true)) rfl rfl rfl) ?_
      exact ⟨a40_1, a40_2, a40_3, a40_8, a40_9, a40_11, (Eq.trans rfl (congrArg B ((decide_eq_true (Or.inl (Or.inl hg41))).symm))), rfl⟩
    · have hb43 := Eq.trans rfl (congrArg B (decide_eq_false hg41))
      refine wpL_gq (U := NoB) rfl rfl rfl hb43 (q_move (v := B (keptB l (pickR r (holdMost l r)))) rfl a40_11) ?_
      refine wpL_gq (U := NoB) rfl rfl rfl hb43 (q_not rfl rfl) ?_
      refine wpL_q (U := NoB) rfl (q_pickF (v := B (!(keptB l (pickR r (holdMost l r))))) rfl hb43 rfl) ?_
      refine wpL_q (U := NoB) rfl (q_move (v := B (!(keptB l (pickR r (holdMost l r))))) rfl rfl) ?_
      by_cases hg44 : (!(keptB l (pickR r (holdMost l r)))) = true
      · have hb45 := Eq.trans rfl (congrArg B hg44)
        refine wpL_gs rfl rfl rfl hb45 rfl ?_
        refine wpL_gs rfl rfl rfl hb45 rfl ?_
        refine wpL_gs rfl rfl rfl hb45 rfl ?_
        refine wpL_q (U := NoB) rfl (q_pickT (v := B (true)) rfl hb45 rfl) ?_
        exact ⟨a40_1, a40_2, a40_3, a40_8, a40_9, a40_11, (Eq.trans rfl (congrArg B ((decide_eq_true (Or.inl (Or.inr hg44))).symm))), rfl⟩
      · have hb46 := Eq.trans rfl (congrArg B (Bool.eq_false_iff.2 hg44))
        refine wpL_gq (U := NoB) rfl rfl rfl hb46 (q_move (v := vs) rfl a40_2) ?_
        refine wpL_gq (U := NoB) rfl rfl rfl hb46 (q_lenRd rfl Try.underlying32 rfl (hS40.rdl 9 rfl)) ?_
        refine wpL_gq (U := NoB) rfl rfl rfl hb46 (q_gtr rfl rfl rfl) ?_
        refine wpL_q (U := NoB) rfl (q_pickF (v := B (decide (20 < (sm.length : Int)))) rfl hb46 rfl) ?_
        exact ⟨a40_1, a40_2, a40_3, a40_8, a40_9, a40_11, (Eq.trans rfl (congrArg B (decide_congr_of ((Iff.rfl).trans (((or_iff_right (not_or.2 ⟨hg41, hg44⟩)).trans Iff.rfl)).symm)))), rfl⟩
  rintro f47 _ ⟨a47_1, a47_2, a47_3, a47_8, a47_9, a47_11, a47_83, rfl⟩
  clear a40_1 a40_11 a40_2 a40_3 a40_8 a40_9
  refine wpF_condP a47_83 (fun h83 => ?t89) (fun h83 => ?e89)
  case t89 =>
    refine wpF_seq ?_
    refine wpF_cut (fun f H => f 6 = B (decide ((((chkFault l (pickR r (holdMost l r))).1) = 0) ∧ ((keptB l (pickR r (holdMost l r))) = true))) ∧ H40 = H) ?_ ?_
    · refine wpF_region ?_
      refine wpL_q (U := NoB) rfl (q_fieldAddr rfl Try.underlying27 rfl Try.sizeOf3 a47_9) ?_
      refine wpL_q (U := NoB) rfl (q_loadBlk rfl rfl Try.isAgg3 (hS40.blk 0 rfl) rfl (fun h => h)) ?_
      refine wpL_q (U := NoB) rfl (q_eql rfl rfl rfl) ?_
      refine wpL_q (U := NoB) rfl (q_move (v := B (decide (((chkFault l (pickR r (holdMost l r))).1) = 0))) rfl rfl) ?_
      by_cases hg49 : ((chkFault l (pickR r (holdMost l r))).1) = 0
      · have hb50 := Eq.trans rfl (congrArg B (decide_eq_true hg49))
        refine wpL_gq (U := NoB) rfl rfl rfl hb50 (q_move (v := B (keptB l (pickR r (holdMost l r)))) rfl a47_11) ?_
        refine wpL_q (U := NoB) rfl (q_pickT (v := B (keptB l (pickR r (holdMost l r)))) rfl hb50 rfl) ?_
        refine wpL_q (U := NoB) rfl (q_assign (v := B (keptB l (pickR r (holdMost l r)))) rfl rfl) ?_
        exact ⟨(Eq.trans rfl (congrArg B (bool_congr_of ((Iff.rfl).trans (((and_iff_right hg49).trans Iff.rfl)).symm)))), rfl⟩
      · have hb51 := Eq.trans rfl (congrArg B (decide_eq_false hg49))
        refine wpL_gs rfl rfl rfl hb51 rfl ?_
        refine wpL_q (U := NoB) rfl (q_pickF (v := B (false)) rfl hb51 rfl) ?_
        refine wpL_q (U := NoB) rfl (q_assign (v := B (false)) rfl rfl) ?_
        exact ⟨(Eq.trans rfl (congrArg B ((decide_eq_false (fun h => hg49 h.1)).symm))), rfl⟩
    rintro f52 _ ⟨a52_6, rfl⟩
    clear a47_1 a47_11 a47_2 a47_3 a47_8 a47_83 a47_9
    refine wpF_ret ?_
    refine ⟨_, resT a52_6 resN, hS40.frame, ?_⟩
    show (B (decide ((((chkFault l (pickR r (holdMost l r))).1) = 0) ∧ ((keptB l (pickR r (holdMost l r))) = true)))) = B true
    have hk := most_kept hc0
    exact congrArg B (decide_eq_true ⟨hk.1, hk.2⟩)
  refine wpF_skip ?_
  refine wpF_seq ?_
  refine wpF_seq ?_
  refine wpF_cut (fun f H => f 1 = vr ∧ f 2 = vs ∧ f 3 = PT g1 0 ∧ f 8 = r10 ∧ f 9 = PT g14 0 ∧ f 13 = I (0) ∧ H40 = H) ?_ ?_
  · refine wpF_region ?_
    refine wpL_q (U := NoB) rfl (q_assign (v := I (0)) rfl rfl) ?_
    exact ⟨a47_1, a47_2, a47_3, a47_8, a47_9, rfl, rfl⟩
  rintro f53 _ ⟨a53_1, a53_2, a53_3, a53_8, a53_9, a53_13, rfl⟩
  clear a47_1 a47_11 a47_2 a47_3 a47_8 a47_83 a47_9
  refine wpF_block ?_
  refine wpF_loop (fun mz f H => ∃ (j2 : Nat), mz = sm.length - j2 ∧ (j2 ≤ sm.length) ∧ (∀ j, j < j2 → 0 ≤ nth sm j ∧ nth sm j ≤ (r.length : Int) - 1) ∧ f 1 = vr ∧ f 2 = vs ∧ f 3 = PT g1 0 ∧ f 8 = r10 ∧ f 9 = PT g14 0 ∧ f 13 = I ((j2 : Int)) ∧ St H0 NoB NoB [blkE g14 (.cells #[I ((chkFault l (pickR r (holdMost l r))).1), I ((chkFault l (pickR r (holdMost l r))).2)] 27), rdE r10 (holdMost l r : List Int), blkE g1 (.cells #[wa, wb, wc, wd, we] 42), rdE wa (l.Low : List Int), rdE wb (l.High : List Int), rdE wc (l.Start : List LRow), rdE wd (l.Jumps : List Jump), rdE we (l.Bad : List LRow), rdE vr (r : List LRow), rdE vs (sm : List Int)] H) (sm.length - 0) ?_ ?_
  · exact ⟨0, rfl, Nat.zero_le _, (fun j hj => absurd hj (Nat.not_lt_zero j)), a53_1, a53_2, a53_3, a53_8, a53_9, (Eq.trans a53_13 (congrArg I (by omega))), hS40⟩
  intro m54 f54 H54 hI54
  obtain ⟨j2, hm54, hj2, hp, a54_1, a54_2, a54_3, a54_8, a54_9, a54_13, hS54⟩ := hI54
  clear a53_1 a53_13 a53_2 a53_3 a53_8 a53_9
  refine wpF_seq ?_
  refine wpF_seq ?_
  refine wpF_cut (fun f H => f 1 = vr ∧ f 2 = vs ∧ f 3 = PT g1 0 ∧ f 8 = r10 ∧ f 9 = PT g14 0 ∧ f 13 = I ((j2 : Int)) ∧ f 93 = B (decide ((j2 : Int) < (sm.length : Int))) ∧ H54 = H) ?_ ?_
  · refine wpF_region ?_
    refine wpL_q (U := NoB) rfl (q_move (v := I ((j2 : Int))) rfl a54_13) ?_
    refine wpL_q (U := NoB) rfl (q_move (v := vs) rfl a54_2) ?_
    refine wpL_q (U := NoB) rfl (q_lenRd rfl Try.underlying32 rfl (hS54.rdl 9 rfl)) ?_
    refine wpL_q (U := NoB) rfl (q_lss rfl rfl rfl) ?_
    exact ⟨a54_1, a54_2, a54_3, a54_8, a54_9, a54_13, rfl, rfl⟩
  rintro f55 _ ⟨a55_1, a55_2, a55_3, a55_8, a55_9, a55_13, a55_93, rfl⟩
  clear a54_1 a54_13 a54_2 a54_3 a54_8 a54_9
  refine wpF_condP a55_93 (fun hlt2 => ?t88) (fun hlt2 => ?e88)
  case t88 =>
    refine wpF_skip ?_
    refine wpF_seq ?_
    refine wpF_block ?_
    refine wpF_seq ?_
    refine wpF_cut (fun f H => f 1 = vr ∧ f 2 = vs ∧ f 3 = PT g1 0 ∧ f 8 = r10 ∧ f 9 = PT g14 0 ∧ f 13 = I ((j2 : Int)) ∧ f 104 = B (decide (¬ (0 ≤ (nth sm j2) ∧ (nth sm j2) ≤ ((r.length : Int) - 1)))) ∧ St H0 NoB NoB [blkE g14 (.cells #[I ((chkFault l (pickR r (holdMost l r))).1), I ((chkFault l (pickR r (holdMost l r))).2)] 27), rdE r10 (holdMost l r : List Int), blkE g1 (.cells #[wa, wb, wc, wd, we] 42), rdE wa (l.Low : List Int), rdE wb (l.High : List Int), rdE wc (l.Start : List LRow), rdE wd (l.Jumps : List Jump), rdE we (l.Bad : List LRow), rdE vr (r : List LRow), rdE vs (sm : List Int)] H) ?_ ?_
    · refine wpF_region ?_
      refine wpL_q (U := NoB) rfl (q_move (v := vs) rfl a55_2) ?_
      refine wpL_q (U := NoB) rfl (q_move (v := I ((j2 : Int))) rfl a55_13) ?_
      refine wpL_q (U := NoB) rfl (q_indexRd (k := j2) rfl Try.underlying32 el_Int_3_HoldMost1 rfl rfl (hS54.rdl 9 rfl) (by omega) (by omega)) ?_
      refine wpL_q (U := NoB) rfl (q_loadInt (k := j2) rfl rfl el_Int_3_HoldMost1 (hS54.rdl 9 rfl) (by omega) (fun _ h => h)) ?_
      refine wpL_q (U := NoB) rfl (q_move (v := vr) rfl a55_1) ?_
      refine wpL_q (U := NoB) rfl (q_lenRd rfl Try.underlying22 rfl (hS54.rdl 8 rfl)) ?_
      refine wpL_q (U := NoB) rfl (q_sub rfl rfl rfl (by constructor <;> omega)) ?_
      refine wpL_o rfl ?_
      refine e_call rfl Try.call12 (arr3 (v0 := I (nth sm j2)) (v1 := I (0)) (v2 := I ((r.length : Int) - 1)) rfl rfl rfl) (in_L (nth sm j2) 0 ((r.length : Int) - 1)) ?_
      rintro _ H57 ⟨hxx, rfl⟩
      have hS58 : St H0 NoB NoB [blkE g14 (.cells #[I ((chkFault l (pickR r (holdMost l r))).1), I ((chkFault l (pickR r (holdMost l r))).2)] 27), rdE r10 (holdMost l r : List Int), blkE g1 (.cells #[wa, wb, wc, wd, we] 42), rdE wa (l.Low : List Int), rdE wb (l.High : List Int), rdE wc (l.Start : List LRow), rdE wd (l.Jumps : List Jump), rdE we (l.Bad : List LRow), rdE vr (r : List LRow), rdE vs (sm : List Int)] H57 := hS54.ext hxx
      refine wpL_q (U := NoB) rfl (q_notP rfl rfl) ?_
      exact ⟨a55_1, a55_2, a55_3, a55_8, a55_9, a55_13, rfl, hS58⟩
    rintro f60 H60 ⟨a60_1, a60_2, a60_3, a60_8, a60_9, a60_13, a60_104, hS60⟩
    clear a55_1 a55_13 a55_2 a55_3 a55_8 a55_9 a55_93
    refine wpF_condP a60_104 (fun h104 => ?t64) (fun h104 => ?e64)
    case t64 =>
      refine wpF_seq ?_
      refine wpF_cut (fun f H => f 6 = B (true) ∧ H60 = H) ?_ ?_
      · refine wpF_region ?_
        refine wpL_q (U := NoB) rfl (q_assign (v := B (true)) rfl rfl) ?_
        exact ⟨rfl, rfl⟩
      rintro f62 _ ⟨a62_6, rfl⟩
      clear a60_1 a60_104 a60_13 a60_2 a60_3 a60_8 a60_9
      refine wpF_ret ?_
      refine ⟨_, resT a62_6 resN, hS60.frame, ?_⟩
      show (B (true)) = B true
      rfl
    refine wpF_skip ?_
    refine wpF_cut (fun f H => f 1 = vr ∧ f 2 = vs ∧ f 3 = PT g1 0 ∧ f 8 = r10 ∧ f 9 = PT g14 0 ∧ f 13 = I ((j2 : Int) + 1) ∧ H60 = H) ?_ ?_
    · refine wpF_region ?_
      refine wpL_q (U := NoB) rfl (q_move (v := I ((j2 : Int))) rfl a60_13) ?_
      refine wpL_q (U := NoB) rfl (q_add rfl rfl rfl (by constructor <;> omega)) ?_
      refine wpL_q (U := NoB) rfl (q_assign (v := I ((j2 : Int) + 1)) rfl rfl) ?_
      exact ⟨a60_1, a60_2, a60_3, a60_8, a60_9, rfl, rfl⟩
    rintro f63 _ ⟨a63_1, a63_2, a63_3, a63_8, a63_9, a63_13, rfl⟩
    clear a60_1 a60_104 a60_13 a60_2 a60_3 a60_8 a60_9
    refine ⟨_, ?_, j2 + 1, rfl, (by omega), (all_succ hp (by simpa using h104)), a63_1, a63_2, a63_3, a63_8, a63_9, (Eq.trans a63_13 (congrArg I (by omega))), hS60⟩
    omega
  have hins : InR r sm := fun x hx => by
    obtain ⟨j, hj, rfl⟩ := nth_of_mem hx
    have := hp j (by omega)
    omega
  refine wpF_exit ?_
  refine atX_here ?_
  refine wpF_seq ?_
  refine wpF_cut (fun f H => f 2 = vs ∧ f 8 = r10 ∧ f 9 = PT g14 0 ∧ f 14 = B (keptB l (pickR r sm)) ∧ St H0 NoB NoB [blkE g14 (.cells #[I ((chkFault l (pickR r sm)).1), I ((chkFault l (pickR r sm)).2)] 27), rdE r10 (holdMost l r : List Int), blkE g1 (.cells #[wa, wb, wc, wd, we] 42), rdE wa (l.Low : List Int), rdE wb (l.High : List Int), rdE wc (l.Start : List LRow), rdE wd (l.Jumps : List Jump), rdE we (l.Bad : List LRow), rdE vr (r : List LRow), rdE vs (sm : List Int)] H) ?_ ?_
  · refine wpF_drawn [none, none, none, none, none, none, none, none, none, none, none, some 0] [[], [], [], [], [], [], [], [], [], [], [], []] (fun l b => match l with | 0 => True | _ => False) (by kernel_rfl) (by kernel_rfl) ?_
    refine wpR_q 0 (by kernel_rfl) rfl (quietAt rfl rfl (q_loadBlkA rfl a55_3 Try.isAgg42 Try.sizeOf42 rfl (hS54.blk 2 rfl) (labU_not [] rfl (List.forall_mem_nil _)))) ?_
    refine wpR_q 1 (by kernel_rfl) rfl (quietAt rfl rfl (q_move (v := vr) rfl a55_1)) ?_
    refine wpR_q 2 (by kernel_rfl) rfl (quietAt rfl rfl (q_move (v := vs) rfl a55_2)) ?_
    refine wpR_n [3] (by kernel_rfl) ?_
    refine List.forall_mem_cons.2 ⟨?_, List.forall_mem_nil _⟩
    refine exE rfl rfl ?_
    refine e_call rfl Try.call41 (arr2 (v0 := vr) (v1 := vs) rfl rfl) (Some_R vr vs r sm (hS54.rdS 8 rfl) (hS54.rdS 9 rfl) hins (by omega)) ?_
    rintro r65o3 H65o3 ⟨hxx, hrr65o3⟩
    have hS65o3 : St H0 NoB NoB [rdE r65o3 (pickR r sm : List LRow), blkE g14 (.cells #[I ((chkFault l (pickR r (holdMost l r))).1), I ((chkFault l (pickR r (holdMost l r))).2)] 27), rdE r10 (holdMost l r : List Int), blkE g1 (.cells #[wa, wb, wc, wd, we] 42), rdE wa (l.Low : List Int), rdE wb (l.High : List Int), rdE wc (l.Start : List LRow), rdE wd (l.Jumps : List Jump), rdE we (l.Bad : List LRow), rdE vr (r : List LRow), rdE vs (sm : List Int)] H65o3 := hS54.res hxx hrr65o3
    refine ⟨Ext.mono hxx (fun _ h => h.elim), ?_⟩
    refine wpR_n [4] (by kernel_rfl) ?_
    refine List.forall_mem_cons.2 ⟨?_, List.forall_mem_nil _⟩
    refine exE rfl rfl ?_
    refine e_call rfl Try.call21 (arr2 (v0 := Value.agg #[wa, wb, wc, wd, we]) (v1 := r65o3) rfl rfl) (Kept_L wa wb wc wd we r65o3 l (pickR r sm) (hS65o3.rdS 4 rfl) (hS65o3.rdS 5 rfl) (hS65o3.rdS 6 rfl) (hS65o3.rdS 7 rfl) (hS65o3.rdS 8 rfl) (hS65o3.rdS 0 rfl) ) ?_
    rintro _ H65o4 ⟨hxx, r65o4, rfl, hrr65o4⟩
    have hS65o4 : St H0 NoB NoB [rdE r65o4 (keptS l (pickR r sm) : List Int), rdE r65o3 (pickR r sm : List LRow), blkE g14 (.cells #[I ((chkFault l (pickR r (holdMost l r))).1), I ((chkFault l (pickR r (holdMost l r))).2)] 27), rdE r10 (holdMost l r : List Int), blkE g1 (.cells #[wa, wb, wc, wd, we] 42), rdE wa (l.Low : List Int), rdE wb (l.High : List Int), rdE wc (l.Start : List LRow), rdE wd (l.Jumps : List Jump), rdE we (l.Bad : List LRow), rdE vr (r : List LRow), rdE vs (sm : List Int)] H65o4 := hS65o3.res hxx hrr65o4
    refine ⟨Ext.mono hxx (fun _ h => h.elim), ?_⟩
    refine wpR_q 5 (by kernel_rfl) rfl (quietAt rfl rfl (q_move (v := Value.tuple #[B (keptB l (pickR r sm)), r65o4, Value.agg #[I ((chkFault l (pickR r sm)).1), I ((chkFault l (pickR r sm)).2)]]) rfl rfl)) ?_
    refine wpR_q 6 (by kernel_rfl) rfl (quietAt rfl rfl (q_extract (vs := #[B (keptB l (pickR r sm)), r65o4, Value.agg #[I ((chkFault l (pickR r sm)).1), I ((chkFault l (pickR r sm)).2)]]) (v := B (keptB l (pickR r sm))) rfl rfl rfl)) ?_
    refine wpR_q 7 (by kernel_rfl) rfl (quietAt rfl rfl (q_extract (vs := #[B (keptB l (pickR r sm)), r65o4, Value.agg #[I ((chkFault l (pickR r sm)).1), I ((chkFault l (pickR r sm)).2)]]) (v := r65o4) rfl rfl rfl)) ?_
    refine wpR_q 8 (by kernel_rfl) rfl (quietAt rfl rfl (q_extract (vs := #[B (keptB l (pickR r sm)), r65o4, Value.agg #[I ((chkFault l (pickR r sm)).1), I ((chkFault l (pickR r sm)).2)]]) (v := Value.agg #[I ((chkFault l (pickR r sm)).1), I ((chkFault l (pickR r sm)).2)]) rfl rfl rfl)) ?_
    refine wpR_q 9 (by kernel_rfl) rfl (quietAt rfl rfl (q_assign (v := B (keptB l (pickR r sm))) rfl rfl)) ?_
    refine wpR_q 10 (by kernel_rfl) rfl (quietAt rfl rfl (q_assign (v := r65o4) rfl rfl)) ?_
    refine wpR_n [11] (by kernel_rfl) ?_
    refine List.forall_mem_cons.2 ⟨?_, List.forall_mem_nil _⟩
    refine exE rfl rfl ?_
    refine e_storeBlkA (cs' := #[I ((chkFault l (pickR r sm)).1), I ((chkFault l (pickR r sm)).2)]) rfl a55_9 rfl Try.sizeOf27 rfl rfl (List.forall_mem_cons.2 ⟨rfl, List.forall_mem_cons.2 ⟨rfl, List.forall_mem_nil _⟩⟩) (hS65o4.front 2 rfl) (fun H65o11 hS65o11 hxx => ?_)
    replace hS65o11 : St H0 NoB NoB [blkE g14 (.cells #[I ((chkFault l (pickR r sm)).1), I ((chkFault l (pickR r sm)).2)] 27), rdE r65o4 (keptS l (pickR r sm) : List Int), rdE r65o3 (pickR r sm : List LRow), rdE r10 (holdMost l r : List Int), blkE g1 (.cells #[wa, wb, wc, wd, we] 42), rdE wa (l.Low : List Int), rdE wb (l.High : List Int), rdE wc (l.Start : List LRow), rdE wd (l.Jumps : List Jump), rdE we (l.Bad : List LRow), rdE vr (r : List LRow), rdE vs (sm : List Int)] H65o11 := hS65o11
    refine ⟨Ext.mono hxx (labS_of 0 rfl (fun _ _ => trivial)), ?_⟩
    refine wpR_end (by kernel_rfl) ?_
    exact ⟨a55_2, a55_8, a55_9, rfl, (hS65o11.drop (List.Sublist.cons_cons _ (List.Sublist.cons _ (List.Sublist.cons _ (List.Sublist.cons_cons _ (List.Sublist.cons_cons _ (List.Sublist.cons_cons _ (List.Sublist.cons_cons _ (List.Sublist.cons_cons _ (List.Sublist.cons_cons _ (List.Sublist.cons_cons _ (List.Sublist.cons_cons _ (List.Sublist.cons_cons _ (List.Sublist.slnil))))))))))))))⟩
  rintro f66 H66 ⟨a66_2, a66_8, a66_9, a66_14, hS66⟩
  clear a55_1 a55_13 a55_2 a55_3 a55_8 a55_9 a55_93
  refine wpF_seq ?_
  refine wpF_seq ?_
  refine wpF_cut (fun f H => f 2 = vs ∧ f 8 = r10 ∧ f 14 = B (keptB l (pickR r sm)) ∧ f 116 = B (decide (((chkFault l (pickR r sm)).1) ≠ 0)) ∧ H66 = H) ?_ ?_
  · refine wpF_region ?_
    refine wpL_q (U := NoB) rfl (q_fieldAddr rfl Try.underlying27 rfl Try.sizeOf3 a66_9) ?_
    refine wpL_q (U := NoB) rfl (q_loadBlk rfl rfl Try.isAgg3 (hS66.blk 0 rfl) rfl (fun h => h)) ?_
    refine wpL_q (U := NoB) rfl (q_neq rfl rfl rfl) ?_
    exact ⟨a66_2, a66_8, a66_14, rfl, rfl⟩
  rintro f67 _ ⟨a67_2, a67_8, a67_14, a67_116, rfl⟩
  clear a66_14 a66_2 a66_8 a66_9
  refine wpF_condP a67_116 (fun h116 => ?t87) (fun h116 => ?e87)
  case t87 =>
    refine wpF_seq ?_
    refine wpF_cut (fun f H => f 6 = B (false) ∧ H66 = H) ?_ ?_
    · refine wpF_region ?_
      refine wpL_q (U := NoB) rfl (q_assign (v := B (false)) rfl rfl) ?_
      exact ⟨rfl, rfl⟩
    rintro f69 _ ⟨a69_6, rfl⟩
    clear a67_116 a67_14 a67_2 a67_8
    refine wpF_ret ?_
    refine ⟨_, resT a69_6 resN, hS66.frame, ?_⟩
    show (B (false)) = B true
    exfalso
    exact h116 (most_pick hc0 (by omega) hins)
  refine wpF_skip ?_
  refine wpF_seq ?_
  refine wpF_seq ?_
  refine wpF_cut (fun f H => f 2 = vs ∧ f 8 = r10 ∧ f 14 = B (keptB l (pickR r sm)) ∧ f 16 = I (0) ∧ H66 = H) ?_ ?_
  · refine wpF_region ?_
    refine wpL_q (U := NoB) rfl (q_assign (v := I (0)) rfl rfl) ?_
    exact ⟨a67_2, a67_8, a67_14, rfl, rfl⟩
  rintro f70 _ ⟨a70_2, a70_8, a70_14, a70_16, rfl⟩
  clear a67_116 a67_14 a67_2 a67_8
  refine wpF_block ?_
  refine wpF_loop (fun mz f H => ∃ (i4 : Nat), mz = sm.length - i4 ∧ (i4 ≤ sm.length) ∧ f 2 = vs ∧ f 8 = r10 ∧ f 14 = B (keptB l (pickR r sm)) ∧ f 16 = I ((i4 : Int)) ∧ St H0 NoB NoB [blkE g14 (.cells #[I ((chkFault l (pickR r sm)).1), I ((chkFault l (pickR r sm)).2)] 27), rdE r10 (holdMost l r : List Int), blkE g1 (.cells #[wa, wb, wc, wd, we] 42), rdE wa (l.Low : List Int), rdE wb (l.High : List Int), rdE wc (l.Start : List LRow), rdE wd (l.Jumps : List Jump), rdE we (l.Bad : List LRow), rdE vr (r : List LRow), rdE vs (sm : List Int)] H) (sm.length - 0) ?_ ?_
  · exact ⟨0, rfl, Nat.zero_le _, a70_2, a70_8, a70_14, (Eq.trans a70_16 (congrArg I (by omega))), hS66⟩
  intro m71 f71 H71 hI71
  obtain ⟨i4, hm71, hi4, a71_2, a71_8, a71_14, a71_16, hS71⟩ := hI71
  clear a70_14 a70_16 a70_2 a70_8
  refine wpF_seq ?_
  refine wpF_seq ?_
  refine wpF_cut (fun f H => f 2 = vs ∧ f 8 = r10 ∧ f 14 = B (keptB l (pickR r sm)) ∧ f 16 = I ((i4 : Int)) ∧ f 123 = B (decide (((i4 : Int) < (sm.length : Int)) ∧ ((keptB l (pickR r sm)) = true))) ∧ H71 = H) ?_ ?_
  · refine wpF_region ?_
    refine wpL_q (U := NoB) rfl (q_move (v := I ((i4 : Int))) rfl a71_16) ?_
    refine wpL_q (U := NoB) rfl (q_move (v := vs) rfl a71_2) ?_
    refine wpL_q (U := NoB) rfl (q_lenRd rfl Try.underlying32 rfl (hS71.rdl 9 rfl)) ?_
    refine wpL_q (U := NoB) rfl (q_lss rfl rfl rfl) ?_
    refine wpL_q (U := NoB) rfl (q_move (v := B (decide ((i4 : Int) < (sm.length : Int)))) rfl rfl) ?_
    by_cases hg72 : (i4 : Int) < (sm.length : Int)
    · have hb73 := Eq.trans rfl (congrArg B (decide_eq_true hg72))
      refine wpL_gq (U := NoB) rfl rfl rfl hb73 (q_move (v := B (keptB l (pickR r sm))) rfl a71_14) ?_
      refine wpL_q (U := NoB) rfl (q_pickT (v := B (keptB l (pickR r sm))) rfl hb73 rfl) ?_
      exact ⟨a71_2, a71_8, a71_14, a71_16, (Eq.trans rfl (congrArg B (bool_congr_of ((Iff.rfl).trans (((and_iff_right hg72).trans Iff.rfl)).symm)))), rfl⟩
    · have hb74 := Eq.trans rfl (congrArg B (decide_eq_false hg72))
      refine wpL_gs rfl rfl rfl hb74 rfl ?_
      refine wpL_q (U := NoB) rfl (q_pickF (v := B (false)) rfl hb74 rfl) ?_
      exact ⟨a71_2, a71_8, a71_14, a71_16, (Eq.trans rfl (congrArg B ((decide_eq_false (fun h => hg72 h.1)).symm))), rfl⟩
  rintro f75 _ ⟨a75_2, a75_8, a75_14, a75_16, a75_123, rfl⟩
  clear a71_14 a71_16 a71_2 a71_8
  refine wpF_condP a75_123 (fun h123 => ?t86) (fun h123 => ?e86)
  case e86 =>
    refine wpF_exit ?_
    refine atX_here ?_
    refine wpF_seq ?_
    refine wpF_cut (fun f H => f 6 = B (true) ∧ H71 = H) ?_ ?_
    · refine wpF_region ?_
      refine wpL_q (U := NoB) rfl (q_assign (v := B (true)) rfl rfl) ?_
      exact ⟨rfl, rfl⟩
    rintro f85 _ ⟨a85_6, rfl⟩
    clear a75_123 a75_14 a75_16 a75_2 a75_8
    refine wpF_ret ?_
    refine ⟨_, resT a85_6 resN, hS71.frame, ?_⟩
    show (B (true)) = B true
    rfl
  refine wpF_skip ?_
  refine wpF_seq ?_
  refine wpF_block ?_
  refine wpF_seq ?_
  refine wpF_cut (fun f H => f 2 = vs ∧ f 8 = r10 ∧ f 14 = B (keptB l (pickR r sm)) ∧ f 16 = I ((i4 : Int)) ∧ f 132 = B (!(hasB (holdMost l r) (nth sm i4))) ∧ St H0 NoB NoB [blkE g14 (.cells #[I ((chkFault l (pickR r sm)).1), I ((chkFault l (pickR r sm)).2)] 27), rdE r10 (holdMost l r : List Int), blkE g1 (.cells #[wa, wb, wc, wd, we] 42), rdE wa (l.Low : List Int), rdE wb (l.High : List Int), rdE wc (l.Start : List LRow), rdE wd (l.Jumps : List Jump), rdE we (l.Bad : List LRow), rdE vr (r : List LRow), rdE vs (sm : List Int)] H) ?_ ?_
  · refine wpF_region ?_
    refine wpL_q (U := NoB) rfl (q_move (v := r10) rfl a75_8) ?_
    refine wpL_q (U := NoB) rfl (q_move (v := vs) rfl a75_2) ?_
    refine wpL_q (U := NoB) rfl (q_move (v := I ((i4 : Int))) rfl a75_16) ?_
    refine wpL_q (U := NoB) rfl (q_indexRd (k := i4) rfl Try.underlying32 el_Int_3_HoldMost1 rfl rfl (hS71.rdl 9 rfl) (by omega) (by omega)) ?_
    refine wpL_q (U := NoB) rfl (q_loadInt (k := i4) rfl rfl el_Int_3_HoldMost1 (hS71.rdl 9 rfl) (by omega) (fun _ h => h)) ?_
    refine wpL_o rfl ?_
    refine e_call rfl Try.call43 (arr2 (v0 := r10) (v1 := I (nth sm i4)) rfl rfl) (Has_R r10 (holdMost l r) (nth sm i4) (hS71.rdN 1 rfl) ) ?_
    rintro _ H77 ⟨hxx, rfl⟩
    have hS78 : St H0 NoB NoB [blkE g14 (.cells #[I ((chkFault l (pickR r sm)).1), I ((chkFault l (pickR r sm)).2)] 27), rdE r10 (holdMost l r : List Int), blkE g1 (.cells #[wa, wb, wc, wd, we] 42), rdE wa (l.Low : List Int), rdE wb (l.High : List Int), rdE wc (l.Start : List LRow), rdE wd (l.Jumps : List Jump), rdE we (l.Bad : List LRow), rdE vr (r : List LRow), rdE vs (sm : List Int)] H77 := hS71.ext hxx
    refine wpL_q (U := NoB) rfl (q_not rfl rfl) ?_
    exact ⟨a75_2, a75_8, a75_14, a75_16, rfl, hS78⟩
  rintro f80 H80 ⟨a80_2, a80_8, a80_14, a80_16, a80_132, hS80⟩
  clear a75_123 a75_14 a75_16 a75_2 a75_8
  refine wpF_cond a80_132 (fun h132 => ?t84) (fun h132 => ?e84)
  case e84 =>
    refine wpF_skip ?_
    refine wpF_cut (fun f H => f 2 = vs ∧ f 8 = r10 ∧ f 14 = B (keptB l (pickR r sm)) ∧ f 16 = I ((i4 : Int) + 1) ∧ H80 = H) ?_ ?_
    · refine wpF_region ?_
      refine wpL_q (U := NoB) rfl (q_move (v := I ((i4 : Int))) rfl a80_16) ?_
      refine wpL_q (U := NoB) rfl (q_add rfl rfl rfl (by constructor <;> omega)) ?_
      refine wpL_q (U := NoB) rfl (q_assign (v := I ((i4 : Int) + 1)) rfl rfl) ?_
      exact ⟨a80_2, a80_8, a80_14, rfl, rfl⟩
    rintro f83 _ ⟨a83_2, a83_8, a83_14, a83_16, rfl⟩
    clear a80_132 a80_14 a80_16 a80_2 a80_8
    refine ⟨_, ?_, i4 + 1, rfl, (by omega), a83_2, a83_8, a83_14, (Eq.trans a83_16 (congrArg I (by omega))), hS80⟩
    omega
  refine wpF_seq ?_
  refine wpF_cut (fun f H => f 6 = B (false) ∧ H80 = H) ?_ ?_
  · refine wpF_region ?_
    refine wpL_q (U := NoB) rfl (q_assign (v := B (false)) rfl rfl) ?_
    exact ⟨rfl, rfl⟩
  rintro f82 _ ⟨a82_6, rfl⟩
  clear a80_132 a80_14 a80_16 a80_2 a80_8
  refine wpF_ret ?_
  refine ⟨_, resT a82_6 resN, hS80.frame, ?_⟩
  show (B (false)) = B true
  exfalso
  have := most_has hc0 hins h123.2 (nth sm i4) (nth_mem (by omega))
  rw [hasB, decide_eq_true this] at h132
  cases h132

end Go.Um
