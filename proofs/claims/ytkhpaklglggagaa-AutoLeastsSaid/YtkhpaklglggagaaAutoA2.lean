import Derived.Test.YtkhpaklglggagaaProg
import Derived.Test.YtkhpaklglggagaaAutoA1
import Derived.Test.YtkhpaklglggagaaAutoData
import Derived.Test.YtkhpaklglggagaaUmSub
namespace Go.Um
open Go.Proofs
open GoT (sz ag rdc)
open KeyT (kv)

theorem el_Bool_4_AutoA2 : ElT Try.prog Bool 4 := ⟨Try.isAgg4, Try.sizeOf4⟩
theorem el_Int_3_AutoA2 : ElT Try.prog Int 3 := ⟨Try.isAgg3, Try.sizeOf3⟩
theorem el_LInt_22_AutoA2 : ElT Try.prog (List Int) 22 := ⟨Try.isAgg22, Try.sizeOf22⟩
theorem em_Bool_4_AutoA2 : ElemOk Try.prog Bool 4 := ⟨Try.t4, (.bool false), by kernel_rfl, by kernel_rfl, by kernel_rfl, by kernel_rfl, by kernel_rfl⟩
theorem em_LInt_22_AutoA2 : ElemOk Try.prog (List Int) 22 := ⟨Try.t22, (.slice none 0 0), by kernel_rfl, by kernel_rfl, by kernel_rfl, by kernel_rfl, by kernel_rfl⟩

set_option maxRecDepth 100000 in
theorem Check_1 {H0 : Heap} (x : Int) (gx : Nat) (c0 vn c2 : Value) (l : List (List Int)) (hb : H0[gx]? = some (.cells #[c0, vn, c2] 36)) (rn : Rd NoB H0 vn l) : CallsH Try.prog 49 #[I (x), PT gx 0] H0 (fun rv_ H' => Ext NoB H0 H' ∧ rv_ = B (decide (x < 0 ∨ (l.length : Int) ≤ x))) := by
  have hS0 : St H0 NoB NoB [fixE gx (.cells #[c0, vn, c2] 36), rdE vn l] H0 := St.argFix (St.arg (St.start (fun _ h => h.elim)) (Bl0.nil) rn (fun _ h => h)) (Bl0.cons (Bl0.nil)) hb (fun h => h)
  refine callsH_of_wpF (args := [I (x), PT gx 0]) (rs := [.tmp 3]) Try.func49 rfl Try.ntmps49 Try.results49 (by kernel_rfl) (Nat.le_of_ble_eq_true rfl) ?_
  have a0_0 : argF [I (x), PT gx 0] 0 = I (x) := rfl
  have a0_1 : argF [I (x), PT gx 0] 1 = PT gx 0 := rfl
  generalize argF [I (x), PT gx 0] = f0 at *
  refine wpF_seq ?_
  refine wpF_cut (fun f H => f 0 = I (x) ∧ f 1 = PT gx 0 ∧ H0 = H) ?_ ?_
  · refine wpF_region ?_
    refine wpL_q (U := NoB) rfl (q_assign (v := B (false)) rfl rfl) ?_
    exact ⟨a0_0, a0_1, rfl⟩
  rintro f1 _ ⟨a1_0, a1_1, rfl⟩
  clear a0_0 a0_1
  refine wpF_seq ?_
  refine wpF_cut (fun f H => f 3 = B (decide ((x < 0) ∨ ((l.length : Int) ≤ x))) ∧ H0 = H) ?_ ?_
  · refine wpF_region ?_
    refine wpL_q (U := NoB) rfl (q_move (v := I (x)) rfl a1_0) ?_
    refine wpL_q (U := NoB) rfl (q_lss rfl rfl rfl) ?_
    refine wpL_q (U := NoB) rfl (q_move (v := B (decide (x < 0))) rfl rfl) ?_
    by_cases hg2 : x < 0
    · have hb3 := Eq.trans rfl (congrArg B (decide_eq_true hg2))
      refine wpL_gs rfl rfl rfl hb3 rfl ?_
      refine wpL_gs rfl rfl rfl hb3 rfl ?_
      refine wpL_gs rfl rfl rfl hb3 rfl ?_
      refine wpL_gs rfl rfl rfl hb3 rfl ?_
      refine wpL_gs rfl rfl rfl hb3 rfl ?_
      refine wpL_q (U := NoB) rfl (q_pickT (v := B (true)) rfl hb3 rfl) ?_
      refine wpL_q (U := NoB) rfl (q_assign (v := B (true)) rfl rfl) ?_
      exact ⟨(Eq.trans rfl (congrArg B ((decide_eq_true (Or.inl hg2)).symm))), rfl⟩
    · have hb4 := Eq.trans rfl (congrArg B (decide_eq_false hg2))
      refine wpL_gq (U := NoB) rfl rfl rfl hb4 (q_move (v := I (x)) rfl a1_0) ?_
      refine wpL_gq (U := NoB) rfl rfl rfl hb4 (q_fieldAddr rfl Try.underlying36 rfl Try.sizeOf27 a1_1) ?_
      refine wpL_gq (U := NoB) rfl rfl rfl hb4 (q_loadBlk rfl rfl Try.isAgg27 (hS0.fixd 0 rfl) rfl (fun h => h)) ?_
      refine wpL_gq (U := NoB) rfl rfl rfl hb4 (q_lenRd rfl Try.underlying27 rfl (hS0.rdl 1 rfl)) ?_
      refine wpL_gq (U := NoB) rfl rfl rfl hb4 (q_geq rfl rfl rfl) ?_
      refine wpL_q (U := NoB) rfl (q_pickF (v := B (decide ((l.length : Int) ≤ x))) rfl hb4 rfl) ?_
      refine wpL_q (U := NoB) rfl (q_assign (v := B (decide ((l.length : Int) ≤ x))) rfl rfl) ?_
      exact ⟨(Eq.trans rfl (congrArg B (decide_congr_of ((Iff.rfl).trans (((or_iff_right hg2).trans Iff.rfl)).symm)))), rfl⟩
  rintro f5 _ ⟨a5_3, rfl⟩
  clear a1_0 a1_1
  refine wpF_ret ?_
  refine ⟨_, resT a5_3 resN, hS0.frame, ?_⟩
  show (B (decide ((x < 0) ∨ ((l.length : Int) ≤ x)))) = B (decide (x < 0 ∨ (l.length : Int) ≤ x))
  exact congrArg B (by simp)

set_option maxRecDepth 100000 in
theorem IndexFunc {H0 : Heap} (vs vf : Value) (l : List Int) (gp : Int → Bool) (rs : Rd NoB H0 vs l) (hf : ∀ x, x ∈ l → ∀ H, Ext NoB H0 H → FnH Try.prog vf #[I x] H (fun rv H' => Ext NoB H H' ∧ rv = B (gp x))) : CallsH Try.prog 50 #[vs, vf] H0 (fun rv_ H' => Ext NoB H0 H' ∧ rv_ = I (idxOf gp l)) := by
  have hsm := (Rd.list.1 rs).small
  have hS0 : St H0 NoB NoB [rdE vs l] H0 := St.arg (St.start (fun _ h => h.elim)) (Bl0.nil) rs (fun _ h => h)
  refine callsH_of_wpF (args := [vs, vf]) (rs := [.tmp 4]) Try.func50 rfl Try.ntmps50 Try.results50 (by kernel_rfl) (Nat.le_of_ble_eq_true rfl) ?_
  have a0_0 : argF [vs, vf] 0 = vs := rfl
  have a0_1 : argF [vs, vf] 1 = vf := rfl
  generalize argF [vs, vf] = f0 at *
  refine wpF_seq ?_
  refine wpF_cut (fun f H => f 0 = vs ∧ f 1 = vf ∧ H0 = H) ?_ ?_
  · refine wpF_region ?_
    refine wpL_q (U := NoB) rfl (q_assign (v := I (0)) rfl rfl) ?_
    exact ⟨a0_0, a0_1, rfl⟩
  rintro f1 _ ⟨a1_0, a1_1, rfl⟩
  clear a0_0 a0_1
  refine wpF_seq ?_
  refine wpF_seq ?_
  refine wpF_cut (fun f H => f 0 = vs ∧ f 1 = vf ∧ f 7 = I ((l.length : Int)) ∧ f 8 = I (0) ∧ H0 = H) ?_ ?_
  · refine wpF_region ?_
    refine wpL_q (U := NoB) rfl (q_move (v := vs) rfl a1_0) ?_
    refine wpL_q (U := NoB) rfl (q_lenRd rfl Try.underlying22 rfl (hS0.rdl 0 rfl)) ?_
    refine wpL_q (U := NoB) rfl (q_move (v := I (0)) rfl rfl) ?_
    exact ⟨a1_0, a1_1, rfl, rfl, rfl⟩
  rintro f2 _ ⟨a2_0, a2_1, a2_7, a2_8, rfl⟩
  clear a1_0 a1_1
  refine wpF_block ?_
  refine wpF_loop (fun mz f H => ∃ (k : Nat), mz = l.length - k ∧ (k ≤ l.length) ∧ (∀ j, j < k → gp (nth l j) = false) ∧ f 0 = vs ∧ f 1 = vf ∧ f 7 = I ((l.length : Int)) ∧ f 8 = I ((k : Int)) ∧ St H0 NoB NoB [rdE vs l] H) (l.length - 0) ?_ ?_
  · exact ⟨0, rfl, Nat.zero_le _, (fun j hj => absurd hj (Nat.not_lt_zero j)), a2_0, a2_1, a2_7, (Eq.trans a2_8 (congrArg I (by omega))), hS0⟩
  intro m3 f3 H3 hI3
  obtain ⟨k, hm3, hk, hno, a3_0, a3_1, a3_7, a3_8, hS3⟩ := hI3
  clear a2_0 a2_1 a2_7 a2_8
  refine wpF_seq ?_
  refine wpF_cut (fun f H => f 0 = vs ∧ f 1 = vf ∧ f 7 = I ((l.length : Int)) ∧ f 8 = I ((k : Int)) ∧ f 9 = B (decide ((k : Int) < (l.length : Int))) ∧ H3 = H) ?_ ?_
  · refine wpF_region ?_
    refine wpL_q (U := NoB) rfl (q_lss rfl a3_8 a3_7) ?_
    exact ⟨a3_0, a3_1, a3_7, a3_8, rfl, rfl⟩
  rintro f4 _ ⟨a4_0, a4_1, a4_7, a4_8, a4_9, rfl⟩
  clear a3_0 a3_1 a3_7 a3_8
  refine wpF_seq ?_
  refine wpF_condP a4_9 (fun hlt => ?t16) (fun hlt => ?e16)
  case e16 =>
    refine wpF_exit ?_
    refine atX_here ?_
    refine wpF_seq ?_
    refine wpF_cut (fun f H => f 4 = I (-1) ∧ H3 = H) ?_ ?_
    · refine wpF_region ?_
      refine wpL_q (U := NoB) rfl (q_assign (v := I (-1)) rfl rfl) ?_
      exact ⟨rfl, rfl⟩
    rintro f15 _ ⟨a15_4, rfl⟩
    clear a4_0 a4_1 a4_7 a4_8 a4_9
    refine wpF_ret ?_
    refine ⟨_, resT a15_4 resN, hS3.frame, ?_⟩
    show (I (-1)) = I (idxOf gp l)
    exact congrArg I (idxOf_no fun j hj => hno j (by omega)).symm
  refine wpF_skip ?_
  refine wpF_seq ?_
  refine wpF_block ?_
  refine wpF_seq ?_
  refine wpF_cut (fun f H => f 0 = vs ∧ f 1 = vf ∧ f 5 = I ((k : Int)) ∧ f 7 = I ((l.length : Int)) ∧ f 8 = I ((k : Int)) ∧ H3 = H) ?_ ?_
  · refine wpF_region ?_
    refine wpL_q (U := NoB) rfl (q_move (v := I ((k : Int))) rfl a4_8) ?_
    refine wpL_q (U := NoB) rfl (q_assign (v := I ((k : Int))) rfl rfl) ?_
    exact ⟨a4_0, a4_1, rfl, a4_7, a4_8, rfl⟩
  rintro f6 _ ⟨a6_0, a6_1, a6_5, a6_7, a6_8, rfl⟩
  clear a4_0 a4_1 a4_7 a4_8 a4_9
  refine wpF_seq ?_
  refine wpF_cut (fun f H => f 0 = vs ∧ f 1 = vf ∧ f 5 = I ((k : Int)) ∧ f 7 = I ((l.length : Int)) ∧ f 8 = I ((k : Int)) ∧ f 16 = B (gp (nth l k)) ∧ St H0 NoB NoB [rdE vs l] H) ?_ ?_
  · refine wpF_region ?_
    refine wpL_q (U := NoB) rfl (q_move (v := vf) rfl a6_1) ?_
    refine wpL_q (U := NoB) rfl (q_move (v := vs) rfl a6_0) ?_
    refine wpL_q (U := NoB) rfl (q_move (v := I ((k : Int))) rfl a6_5) ?_
    refine wpL_q (U := NoB) rfl (q_indexRd (k := k) rfl Try.underlying22 el_Int_3_AutoA2 rfl rfl (hS3.rdl 0 rfl) (by omega) (by omega)) ?_
    refine wpL_q (U := NoB) rfl (q_loadInt (k := k) rfl rfl el_Int_3_AutoA2 (hS3.rdl 0 rfl) (by omega) (fun _ h => h)) ?_
    refine wpL_o rfl ?_
    refine e_callF rfl rfl (arr1 (v0 := I (nth l k)) rfl) (hf _ (nth_mem (by omega)) _ hS3.frame) ?_
    rintro _ H7 ⟨hxx, rfl⟩
    have hS8 : St H0 NoB NoB [rdE vs l] H7 := hS3.ext hxx
    exact ⟨a6_0, a6_1, a6_5, a6_7, a6_8, rfl, hS8⟩
  rintro f10 H10 ⟨a10_0, a10_1, a10_5, a10_7, a10_8, a10_16, hS10⟩
  clear a6_0 a6_1 a6_5 a6_7 a6_8
  refine wpF_cond a10_16 (fun hg => ?t14) (fun hg => ?e14)
  case e14 =>
    refine wpF_skip ?_
    refine wpF_cut (fun f H => f 0 = vs ∧ f 1 = vf ∧ f 7 = I ((l.length : Int)) ∧ f 8 = I ((k : Int) + 1) ∧ H10 = H) ?_ ?_
    · refine wpF_region ?_
      refine wpL_q (U := NoB) rfl (q_add rfl a10_8 rfl (by constructor <;> omega)) ?_
      refine wpL_q (U := NoB) rfl (q_move (v := I ((k : Int) + 1)) rfl rfl) ?_
      exact ⟨a10_0, a10_1, a10_7, rfl, rfl⟩
    rintro f13 _ ⟨a13_0, a13_1, a13_7, a13_8, rfl⟩
    clear a10_0 a10_1 a10_16 a10_5 a10_7 a10_8
    refine ⟨_, ?_, k + 1, rfl, (by omega), (all_succ hno (by simpa using hg)), a13_0, a13_1, a13_7, (Eq.trans a13_8 (congrArg I (by omega))), hS10⟩
    omega
  refine wpF_seq ?_
  refine wpF_cut (fun f H => f 4 = I ((k : Int)) ∧ H10 = H) ?_ ?_
  · refine wpF_region ?_
    refine wpL_q (U := NoB) rfl (q_move (v := I ((k : Int))) rfl a10_5) ?_
    refine wpL_q (U := NoB) rfl (q_assign (v := I ((k : Int))) rfl rfl) ?_
    exact ⟨rfl, rfl⟩
  rintro f12 _ ⟨a12_4, rfl⟩
  clear a10_0 a10_1 a10_16 a10_5 a10_7 a10_8
  refine wpF_ret ?_
  refine ⟨_, resT a12_4 resN, hS10.frame, ?_⟩
  show (I ((k : Int))) = I (idxOf gp l)
  exact congrArg I (idxOf_at (by omega) hno (by simpa using hg)).symm

set_option maxRecDepth 100000 in
theorem ContainsFunc {H0 : Heap} (vs vf : Value) (l : List Int) (gp : Int → Bool) (rs : Rd NoB H0 vs l) (hf : ∀ x, x ∈ l → ∀ H, Ext NoB H0 H → FnH Try.prog vf #[I x] H (fun rv H' => Ext NoB H H' ∧ rv = B (gp x))) : CallsH Try.prog 48 #[vs, vf] H0 (fun rv_ H' => Ext NoB H0 H' ∧ rv_ = B (l.any gp)) := by
  have hS0 : St H0 NoB NoB [rdE vs l] H0 := St.arg (St.start (fun _ h => h.elim)) (Bl0.nil) rs (fun _ h => h)
  refine callsH_of_wpF (args := [vs, vf]) (rs := [.tmp 4]) Try.func48 rfl Try.ntmps48 Try.results48 (by kernel_rfl) (Nat.le_of_ble_eq_true rfl) ?_
  have a0_0 : argF [vs, vf] 0 = vs := rfl
  have a0_1 : argF [vs, vf] 1 = vf := rfl
  generalize argF [vs, vf] = f0 at *
  refine wpF_seq ?_
  refine wpF_cut (fun f H => f 0 = vs ∧ f 1 = vf ∧ H0 = H) ?_ ?_
  · refine wpF_region ?_
    refine wpL_q (U := NoB) rfl (q_assign (v := B (false)) rfl rfl) ?_
    exact ⟨a0_0, a0_1, rfl⟩
  rintro f1 _ ⟨a1_0, a1_1, rfl⟩
  clear a0_0 a0_1
  refine wpF_seq ?_
  refine wpF_cut (fun f H => f 4 = B (decide (0 ≤ (idxOf gp l))) ∧ St H0 NoB NoB [] H) ?_ ?_
  · refine wpF_region ?_
    refine wpL_q (U := NoB) rfl (q_move (v := vs) rfl a1_0) ?_
    refine wpL_q (U := NoB) rfl (q_move (v := vf) rfl a1_1) ?_
    refine wpL_o rfl ?_
    refine e_call rfl Try.call50 (arr2 (v0 := vs) (v1 := vf) rfl rfl) (IndexFunc vs vf l gp (hS0.rdN 0 rfl) (fun x hx H hE => hf x hx H (hS0.frame.trans hE))) ?_
    rintro _ H2 ⟨hxx, rfl⟩
    have hS3 : St H0 NoB NoB [rdE vs l] H2 := hS0.ext hxx
    refine wpL_q (U := NoB) rfl (q_geq rfl rfl rfl) ?_
    refine wpL_q (U := NoB) rfl (q_assign (v := B (decide (0 ≤ (idxOf gp l)))) rfl rfl) ?_
    exact ⟨rfl, (hS3.drop (sn (List.Sublist.slnil)))⟩
  rintro f5 H5 ⟨a5_4, hS5⟩
  clear a1_0 a1_1
  refine wpF_ret ?_
  refine ⟨_, resT a5_4 resN, hS5.frame, ?_⟩
  show (B (decide (0 ≤ (idxOf gp l)))) = B (l.any gp)
  exact congrArg B (bool_congr_of idxOf_any.symm).symm

set_option maxRecDepth 100000 in
theorem Auto_R {H0 : Heap} (vn vt : Value) (a : Auto) (rn : Rd NoB H0 vn a.Next) (rt : Rd NoB H0 vt a.Takes) (hsg : In64 a.Signs) : CallsH Try.prog 20 #[Value.agg #[I (a.Signs), vn, vt]] H0 (fun rv_ H' => Ext NoB H0 H' ∧ rv_ = Value.agg #[I (autoFault a).1, I (autoFault a).2]) := by
  have hsn := (Rd.list.1 rn).small
  have hst := (Rd.list.1 rt).small
  have hS0 : St H0 NoB NoB [rdE vn a.Next, rdE vt a.Takes] H0 := St.arg (St.arg (St.start (fun _ h => h.elim)) (Bl0.nil) rt (fun _ h => h)) (Bl0.cons (Bl0.nil)) rn (fun _ h => h)
  refine callsH_of_wpF (args := [Value.agg #[I (a.Signs), vn, vt]]) (rs := [.cell 2 24]) Try.func20 rfl Try.ntmps20 Try.results20 (by kernel_rfl) (Nat.le_of_ble_eq_true rfl) ?_
  have a0_0 : argF [Value.agg #[I (a.Signs), vn, vt]] 0 = Value.agg #[I (a.Signs), vn, vt] := rfl
  generalize argF [Value.agg #[I (a.Signs), vn, vt]] = f0 at *
  refine wpF_seq ?_
  refine wpF_cut (fun f H => ∃ (g1 : Nat), ∃ (g4 : Nat), f 1 = PT g1 0 ∧ f 2 = PT g4 0 ∧ St H0 NoB NoB [blkE g4 (.cells #[I (0), I (0)] 24), blkE g1 (.cells #[I (a.Signs), vn, vt] 36), rdE vn a.Next, rdE vt a.Takes] H) ?_ ?_
  · refine wpF_region ?_
    refine wpL_o rfl ?_
    refine e_box (v := Value.agg #[I (a.Signs), vn, vt]) rfl a0_0 hS0 (fun g1 H2 hS3 hxx => ?_)
    replace hS3 : St H0 NoB NoB [blkE g1 (.cells #[I (a.Signs), vn, vt] 36), rdE vn a.Next, rdE vt a.Takes] H2 := hS3
    refine wpL_o rfl ?_
    refine e_alloc rfl Try.zeroValue24 hS3 (fun g4 H5 hS6 hxx => ?_)
    replace hS6 : St H0 NoB NoB [blkE g4 (.cells #[I (0), I (0)] 24), blkE g1 (.cells #[I (a.Signs), vn, vt] 36), rdE vn a.Next, rdE vt a.Takes] H5 := hS6
    exact ⟨g1, g4, rfl, rfl, hS6⟩
  rintro f7 H7 ⟨g1, g4, a7_1, a7_2, hS7⟩
  clear a0_0
  refine wpF_seq ?_
  refine wpF_seq ?_
  refine wpF_cut (fun f H => f 1 = PT g1 0 ∧ f 2 = PT g4 0 ∧ f 8 = B (decide (¬ (1 ≤ a.Signs ∧ a.Signs ≤ 12))) ∧ St H0 NoB NoB [blkE g4 (.cells #[I (0), I (0)] 24), blkE g1 (.cells #[I (a.Signs), vn, vt] 36), rdE vn a.Next, rdE vt a.Takes] H) ?_ ?_
  · refine wpF_region ?_
    refine wpL_q (U := NoB) rfl (q_fieldAddr rfl Try.underlying36 rfl Try.sizeOf3 a7_1) ?_
    refine wpL_q (U := NoB) rfl (q_loadBlk rfl rfl Try.isAgg3 (hS7.blk 1 rfl) rfl (fun h => h)) ?_
    refine wpL_o rfl ?_
    refine e_call rfl Try.call46 (arr3 (v0 := I (a.Signs)) (v1 := I (1)) (v2 := I (12)) rfl rfl rfl) (in_R a.Signs 1 12) ?_
    rintro _ H8 ⟨hxx, rfl⟩
    have hS9 : St H0 NoB NoB [blkE g4 (.cells #[I (0), I (0)] 24), blkE g1 (.cells #[I (a.Signs), vn, vt] 36), rdE vn a.Next, rdE vt a.Takes] H8 := hS7.ext hxx
    refine wpL_q (U := NoB) rfl (q_notP rfl rfl) ?_
    exact ⟨a7_1, a7_2, rfl, hS9⟩
  rintro f11 H11 ⟨a11_1, a11_2, a11_8, hS11⟩
  clear a7_1 a7_2
  refine wpF_condP a11_8 (fun h1 => ?t77) (fun h1 => ?e77)
  case t77 =>
    refine wpF_seq ?_
    refine wpF_cut (fun f H => f 2 = PT g4 0 ∧ St H0 NoB NoB [blkE g4 (.cells #[I (3), I (-1)] 24), blkE g1 (.cells #[I (a.Signs), vn, vt] 36), rdE vn a.Next, rdE vt a.Takes] H) ?_ ?_
    · refine wpF_region ?_
      refine wpL_o rfl ?_
      refine e_call rfl Try.call47 (arr2 (v0 := I (3)) (v1 := I (-1)) rfl rfl) (fault_R 3 (-1)) ?_
      rintro _ H13 ⟨hxx, rfl⟩
      have hS14 : St H0 NoB NoB [blkE g4 (.cells #[I (0), I (0)] 24), blkE g1 (.cells #[I (a.Signs), vn, vt] 36), rdE vn a.Next, rdE vt a.Takes] H13 := hS11.ext hxx
      refine wpL_o rfl ?_
      refine e_storeBlkA (cs' := #[I (3), I (-1)]) rfl a11_2 rfl Try.sizeOf24 rfl rfl (List.forall_mem_cons.2 ⟨rfl, List.forall_mem_cons.2 ⟨rfl, List.forall_mem_nil _⟩⟩) hS14 (fun H16 hS17 hxx => ?_)
      replace hS17 : St H0 NoB NoB [blkE g4 (.cells #[I (3), I (-1)] 24), blkE g1 (.cells #[I (a.Signs), vn, vt] 36), rdE vn a.Next, rdE vt a.Takes] H16 := hS17
      exact ⟨a11_2, hS17⟩
    rintro f18 H18 ⟨a18_2, hS18⟩
    clear a11_1 a11_2 a11_8
    refine wpF_ret ?_
    refine ⟨_, resC a18_2 (loadV_blkA Try.isAgg24 Try.sizeOf24 rfl (hS18.blk 0 rfl)) (resN), hS18.frame, ?_⟩
    show (Value.agg #[I (3), I (-1)]) = Value.agg #[I (autoFault a).1, I (autoFault a).2]
    have hq := autoFault_signs (a := a) (by omega)
    rw [hq]
  refine wpF_skip ?_
  refine wpF_seq ?_
  refine wpF_seq ?_
  refine wpF_cut (fun f H => f 1 = PT g1 0 ∧ f 2 = PT g4 0 ∧ f 14 = B (decide (¬ (1 ≤ (a.Next.length : Int) ∧ (a.Next.length : Int) ≤ 40))) ∧ St H0 NoB NoB [blkE g4 (.cells #[I (0), I (0)] 24), blkE g1 (.cells #[I (a.Signs), vn, vt] 36), rdE vn a.Next, rdE vt a.Takes] H) ?_ ?_
  · refine wpF_region ?_
    refine wpL_q (U := NoB) rfl (q_fieldAddr rfl Try.underlying36 rfl Try.sizeOf27 a11_1) ?_
    refine wpL_q (U := NoB) rfl (q_loadBlk rfl rfl Try.isAgg27 (hS11.blk 1 rfl) rfl (fun h => h)) ?_
    refine wpL_q (U := NoB) rfl (q_lenRd rfl Try.underlying27 rfl (hS11.rdl 2 rfl)) ?_
    refine wpL_o rfl ?_
    refine e_call rfl Try.call46 (arr3 (v0 := I ((a.Next.length : Int))) (v1 := I (1)) (v2 := I (40)) rfl rfl rfl) (in_R (a.Next.length : Int) 1 40) ?_
    rintro _ H19 ⟨hxx, rfl⟩
    have hS20 : St H0 NoB NoB [blkE g4 (.cells #[I (0), I (0)] 24), blkE g1 (.cells #[I (a.Signs), vn, vt] 36), rdE vn a.Next, rdE vt a.Takes] H19 := hS11.ext hxx
    refine wpL_q (U := NoB) rfl (q_notP rfl rfl) ?_
    exact ⟨a11_1, a11_2, rfl, hS20⟩
  rintro f22 H22 ⟨a22_1, a22_2, a22_14, hS22⟩
  clear a11_1 a11_2 a11_8
  refine wpF_condP a22_14 (fun h2 => ?t76) (fun h2 => ?e76)
  case t76 =>
    refine wpF_seq ?_
    refine wpF_cut (fun f H => f 2 = PT g4 0 ∧ St H0 NoB NoB [blkE g4 (.cells #[I (2), I (0)] 24), blkE g1 (.cells #[I (a.Signs), vn, vt] 36), rdE vn a.Next, rdE vt a.Takes] H) ?_ ?_
    · refine wpF_region ?_
      refine wpL_o rfl ?_
      refine e_call rfl Try.call47 (arr2 (v0 := I (2)) (v1 := I (0)) rfl rfl) (fault_R 2 0) ?_
      rintro _ H24 ⟨hxx, rfl⟩
      have hS25 : St H0 NoB NoB [blkE g4 (.cells #[I (0), I (0)] 24), blkE g1 (.cells #[I (a.Signs), vn, vt] 36), rdE vn a.Next, rdE vt a.Takes] H24 := hS22.ext hxx
      refine wpL_o rfl ?_
      refine e_storeBlkA (cs' := #[I (2), I (0)]) rfl a22_2 rfl Try.sizeOf24 rfl rfl (List.forall_mem_cons.2 ⟨rfl, List.forall_mem_cons.2 ⟨rfl, List.forall_mem_nil _⟩⟩) hS25 (fun H27 hS28 hxx => ?_)
      replace hS28 : St H0 NoB NoB [blkE g4 (.cells #[I (2), I (0)] 24), blkE g1 (.cells #[I (a.Signs), vn, vt] 36), rdE vn a.Next, rdE vt a.Takes] H27 := hS28
      exact ⟨a22_2, hS28⟩
    rintro f29 H29 ⟨a29_2, hS29⟩
    clear a22_1 a22_14 a22_2
    refine wpF_ret ?_
    refine ⟨_, resC a29_2 (loadV_blkA Try.isAgg24 Try.sizeOf24 rfl (hS29.blk 0 rfl)) (resN), hS29.frame, ?_⟩
    show (Value.agg #[I (2), I (0)]) = Value.agg #[I (autoFault a).1, I (autoFault a).2]
    have hq := autoFault_many (a := a) (by omega) (by omega)
    rw [hq]
  refine wpF_skip ?_
  refine wpF_seq ?_
  refine wpF_seq ?_
  refine wpF_cut (fun f H => f 1 = PT g1 0 ∧ f 2 = PT g4 0 ∧ f 22 = B (decide ((a.Takes.length : Int) ≠ (a.Next.length : Int))) ∧ H22 = H) ?_ ?_
  · refine wpF_region ?_
    refine wpL_q (U := NoB) rfl (q_fieldAddr rfl Try.underlying36 rfl Try.sizeOf32 a22_1) ?_
    refine wpL_q (U := NoB) rfl (q_loadBlk rfl rfl Try.isAgg32 (hS22.blk 1 rfl) rfl (fun h => h)) ?_
    refine wpL_q (U := NoB) rfl (q_lenRd rfl Try.underlying32 rfl (hS22.rdl 3 rfl)) ?_
    refine wpL_q (U := NoB) rfl (q_fieldAddr rfl Try.underlying36 rfl Try.sizeOf27 a22_1) ?_
    refine wpL_q (U := NoB) rfl (q_loadBlk rfl rfl Try.isAgg27 (hS22.blk 1 rfl) rfl (fun h => h)) ?_
    refine wpL_q (U := NoB) rfl (q_lenRd rfl Try.underlying27 rfl (hS22.rdl 2 rfl)) ?_
    refine wpL_q (U := NoB) rfl (q_neq rfl rfl rfl) ?_
    exact ⟨a22_1, a22_2, rfl, rfl⟩
  rintro f30 _ ⟨a30_1, a30_2, a30_22, rfl⟩
  clear a22_1 a22_14 a22_2
  refine wpF_condP a30_22 (fun h3 => ?t75) (fun h3 => ?e75)
  case t75 =>
    refine wpF_seq ?_
    refine wpF_cut (fun f H => f 2 = PT g4 0 ∧ St H0 NoB NoB [blkE g4 (.cells #[I (9), I (-1)] 24), blkE g1 (.cells #[I (a.Signs), vn, vt] 36), rdE vn a.Next, rdE vt a.Takes] H) ?_ ?_
    · refine wpF_region ?_
      refine wpL_o rfl ?_
      refine e_call rfl Try.call47 (arr2 (v0 := I (9)) (v1 := I (-1)) rfl rfl) (fault_R 9 (-1)) ?_
      rintro _ H32 ⟨hxx, rfl⟩
      have hS33 : St H0 NoB NoB [blkE g4 (.cells #[I (0), I (0)] 24), blkE g1 (.cells #[I (a.Signs), vn, vt] 36), rdE vn a.Next, rdE vt a.Takes] H32 := hS22.ext hxx
      refine wpL_o rfl ?_
      refine e_storeBlkA (cs' := #[I (9), I (-1)]) rfl a30_2 rfl Try.sizeOf24 rfl rfl (List.forall_mem_cons.2 ⟨rfl, List.forall_mem_cons.2 ⟨rfl, List.forall_mem_nil _⟩⟩) hS33 (fun H35 hS36 hxx => ?_)
      replace hS36 : St H0 NoB NoB [blkE g4 (.cells #[I (9), I (-1)] 24), blkE g1 (.cells #[I (a.Signs), vn, vt] 36), rdE vn a.Next, rdE vt a.Takes] H35 := hS36
      exact ⟨a30_2, hS36⟩
    rintro f37 H37 ⟨a37_2, hS37⟩
    clear a30_1 a30_2 a30_22
    refine wpF_ret ?_
    refine ⟨_, resC a37_2 (loadV_blkA Try.isAgg24 Try.sizeOf24 rfl (hS37.blk 0 rfl)) (resN), hS37.frame, ?_⟩
    show (Value.agg #[I (9), I (-1)]) = Value.agg #[I (autoFault a).1, I (autoFault a).2]
    have hq := autoFault_size (a := a) (by omega) (by omega) h3
    rw [hq]
  refine wpF_skip ?_
  refine wpF_seq ?_
  refine wpF_seq ?_
  refine wpF_cut (fun f H => f 1 = PT g1 0 ∧ f 2 = PT g4 0 ∧ f 3 = I (0) ∧ H22 = H) ?_ ?_
  · refine wpF_region ?_
    refine wpL_q (U := NoB) rfl (q_assign (v := I (0)) rfl rfl) ?_
    exact ⟨a30_1, a30_2, rfl, rfl⟩
  rintro f38 _ ⟨a38_1, a38_2, a38_3, rfl⟩
  clear a30_1 a30_2 a30_22
  refine wpF_block ?_
  refine wpF_loop (fun mz f H => ∃ (k : Nat), mz = a.Next.length - k ∧ (k ≤ a.Next.length) ∧ (∀ j, j < k → rowBad a j = none) ∧ f 1 = PT g1 0 ∧ f 2 = PT g4 0 ∧ f 3 = I ((k : Int)) ∧ St H0 NoB NoB [blkE g4 (.cells #[I (0), I (0)] 24), blkE g1 (.cells #[I (a.Signs), vn, vt] 36), rdE vn a.Next, rdE vt a.Takes] H) (a.Next.length - 0) ?_ ?_
  · exact ⟨0, rfl, Nat.zero_le _, (fun j hj => absurd hj (Nat.not_lt_zero j)), a38_1, a38_2, (Eq.trans a38_3 (congrArg I (by omega))), hS22⟩
  intro m39 f39 H39 hI39
  obtain ⟨k, hm39, hk, hp, a39_1, a39_2, a39_3, hS39⟩ := hI39
  clear a38_1 a38_2 a38_3
  refine wpF_seq ?_
  refine wpF_seq ?_
  refine wpF_cut (fun f H => f 1 = PT g1 0 ∧ f 2 = PT g4 0 ∧ f 3 = I ((k : Int)) ∧ f 28 = B (decide ((k : Int) < (a.Next.length : Int))) ∧ H39 = H) ?_ ?_
  · refine wpF_region ?_
    refine wpL_q (U := NoB) rfl (q_move (v := I ((k : Int))) rfl a39_3) ?_
    refine wpL_q (U := NoB) rfl (q_fieldAddr rfl Try.underlying36 rfl Try.sizeOf27 a39_1) ?_
    refine wpL_q (U := NoB) rfl (q_loadBlk rfl rfl Try.isAgg27 (hS39.blk 1 rfl) rfl (fun h => h)) ?_
    refine wpL_q (U := NoB) rfl (q_lenRd rfl Try.underlying27 rfl (hS39.rdl 2 rfl)) ?_
    refine wpL_q (U := NoB) rfl (q_lss rfl rfl rfl) ?_
    exact ⟨a39_1, a39_2, a39_3, rfl, rfl⟩
  rintro f40 _ ⟨a40_1, a40_2, a40_3, a40_28, rfl⟩
  clear a39_1 a39_2 a39_3
  refine wpF_condP a40_28 (fun hlt => ?t74) (fun hlt => ?e74)
  case e74 =>
    refine wpF_exit ?_
    refine atX_here ?_
    refine wpF_seq ?_
    refine wpF_cut (fun f H => f 2 = PT g4 0 ∧ St H0 NoB NoB [blkE g4 (.cells #[I (0), I (0)] 24), blkE g1 (.cells #[I (a.Signs), vn, vt] 36), rdE vn a.Next, rdE vt a.Takes] H) ?_ ?_
    · refine wpF_region ?_
      refine wpL_q (U := NoB) rfl (q_build (v := Value.agg #[I (0), I (0)]) rfl par0 (fun w => by kernel_rfl)) ?_
      refine wpL_o rfl ?_
      refine e_storeBlkA (cs' := #[I (0), I (0)]) rfl a40_2 rfl Try.sizeOf24 rfl rfl (List.forall_mem_cons.2 ⟨rfl, List.forall_mem_cons.2 ⟨rfl, List.forall_mem_nil _⟩⟩) hS39 (fun H71 hS72 hxx => ?_)
      replace hS72 : St H0 NoB NoB [blkE g4 (.cells #[I (0), I (0)] 24), blkE g1 (.cells #[I (a.Signs), vn, vt] 36), rdE vn a.Next, rdE vt a.Takes] H71 := hS72
      exact ⟨a40_2, hS72⟩
    rintro f73 H73 ⟨a73_2, hS73⟩
    clear a40_1 a40_2 a40_28 a40_3
    refine wpF_ret ?_
    refine ⟨_, resC a73_2 (loadV_blkA Try.isAgg24 Try.sizeOf24 rfl (hS73.blk 0 rfl)) (resN), hS73.frame, ?_⟩
    show (Value.agg #[I (0), I (0)]) = Value.agg #[I (autoFault a).1, I (autoFault a).2]
    have hq := autoFault_ok (a := a) (by omega) (by omega) h3 fun j hj => hp j (by omega)
    rw [hq]
  refine wpF_skip ?_
  refine wpF_seq ?_
  refine wpF_block ?_
  refine wpF_seq ?_
  refine wpF_seq ?_
  obtain ⟨u42o4, huu42o4, hlu42o4⟩ := (Rd.list.1 (hS39.rdS 2 rfl)).elem k (by omega)
  have hS42o4 : St H0 NoB NoB [rdE u42o4 (nth a.Next k), blkE g4 (.cells #[I (0), I (0)] 24), blkE g1 (.cells #[I (a.Signs), vn, vt] 36), rdE vn a.Next, rdE vt a.Takes] H39 := hS39.rd huu42o4
  refine wpF_cut (fun f H => f 1 = PT g1 0 ∧ f 2 = PT g4 0 ∧ f 3 = I ((k : Int)) ∧ f 39 = B (decide (((nth a.Next k).length : Int) ≠ a.Signs)) ∧ H39 = H) ?_ ?_
  · refine wpF_drawn [] [] (fun _ _ => False) (by kernel_rfl) (by kernel_rfl) ?_
    refine wpR_q 0 (by kernel_rfl) rfl (quietAt rfl rfl (q_fieldAddr rfl Try.underlying36 rfl Try.sizeOf27 a40_1)) ?_
    refine wpR_q 1 (by kernel_rfl) rfl (quietAt rfl rfl (q_loadBlk rfl rfl Try.isAgg27 (hS39.blk 1 rfl) rfl (labU_not [] rfl (List.forall_mem_nil _)))) ?_
    refine wpR_q 2 (by kernel_rfl) rfl (quietAt rfl rfl (q_move (v := I ((k : Int))) rfl a40_3)) ?_
    refine wpR_q 3 (by kernel_rfl) rfl (quietAt rfl rfl (q_indexRd (k := k) rfl Try.underlying27 el_LInt_22_AutoA2 rfl rfl (hS39.rdl 2 rfl) (by omega) (by omega))) ?_
    refine wpR_q 4 (by kernel_rfl) rfl (quietAt rfl rfl (q_loadE rfl rfl (hlu42o4 Try.prog 22 _ el_LInt_22_AutoA2 (labU_sub [] rfl (List.forall_mem_nil _))))) ?_
    refine wpR_q 5 (by kernel_rfl) rfl (quietAt rfl rfl (q_lenRd rfl Try.underlying22 rfl (hS42o4.rdl 0 rfl))) ?_
    refine wpR_q 6 (by kernel_rfl) rfl (quietAt rfl rfl (q_fieldAddr rfl Try.underlying36 rfl Try.sizeOf3 a40_1)) ?_
    refine wpR_q 7 (by kernel_rfl) rfl (quietAt rfl rfl (q_loadBlk rfl rfl Try.isAgg3 (hS42o4.blk 2 rfl) rfl (labU_not [] rfl (List.forall_mem_nil _)))) ?_
    refine wpR_q 8 (by kernel_rfl) rfl (quietAt rfl rfl (q_neq rfl rfl rfl)) ?_
    refine wpR_end (by kernel_rfl) ?_
    exact ⟨a40_1, a40_2, a40_3, rfl, rfl⟩
  rintro f43 _ ⟨a43_1, a43_2, a43_3, a43_39, rfl⟩
  clear a40_1 a40_2 a40_28 a40_3
  refine wpF_condP a43_39 (fun h4 => ?t70) (fun h4 => ?e70)
  case t70 =>
    refine wpF_seq ?_
    refine wpF_cut (fun f H => f 2 = PT g4 0 ∧ St H0 NoB NoB [blkE g4 (.cells #[I (9), I ((k : Int))] 24), blkE g1 (.cells #[I (a.Signs), vn, vt] 36), rdE vn a.Next, rdE vt a.Takes] H) ?_ ?_
    · refine wpF_region ?_
      refine wpL_q (U := NoB) rfl (q_move (v := I ((k : Int))) rfl a43_3) ?_
      refine wpL_o rfl ?_
      refine e_call rfl Try.call47 (arr2 (v0 := I (9)) (v1 := I ((k : Int))) rfl rfl) (fault_R 9 (k : Int)) ?_
      rintro _ H45 ⟨hxx, rfl⟩
      have hS46 : St H0 NoB NoB [blkE g4 (.cells #[I (0), I (0)] 24), blkE g1 (.cells #[I (a.Signs), vn, vt] 36), rdE vn a.Next, rdE vt a.Takes] H45 := hS39.ext hxx
      refine wpL_o rfl ?_
      refine e_storeBlkA (cs' := #[I (9), I ((k : Int))]) rfl a43_2 rfl Try.sizeOf24 rfl rfl (List.forall_mem_cons.2 ⟨rfl, List.forall_mem_cons.2 ⟨rfl, List.forall_mem_nil _⟩⟩) hS46 (fun H48 hS49 hxx => ?_)
      replace hS49 : St H0 NoB NoB [blkE g4 (.cells #[I (9), I ((k : Int))] 24), blkE g1 (.cells #[I (a.Signs), vn, vt] 36), rdE vn a.Next, rdE vt a.Takes] H48 := hS49
      exact ⟨a43_2, hS49⟩
    rintro f50 H50 ⟨a50_2, hS50⟩
    clear a43_1 a43_2 a43_3 a43_39
    refine wpF_ret ?_
    refine ⟨_, resC a50_2 (loadV_blkA Try.isAgg24 Try.sizeOf24 rfl (hS50.blk 0 rfl)) (resN), hS50.frame, ?_⟩
    show (Value.agg #[I (9), I ((k : Int))]) = Value.agg #[I (autoFault a).1, I (autoFault a).2]
    have hq := autoFault_row (a := a) (by omega) (by omega) h3 (by omega) hp (rowBad_len h4)
    rw [hq]
  refine wpF_skip ?_
  refine wpF_seq ?_
  refine wpF_cut (fun f H => f 1 = PT g1 0 ∧ f 2 = PT g4 0 ∧ f 3 = I ((k : Int)) ∧ f 4 = I (0) ∧ H39 = H) ?_ ?_
  · refine wpF_region ?_
    refine wpL_q (U := NoB) rfl (q_assign (v := I (0)) rfl rfl) ?_
    exact ⟨a43_1, a43_2, a43_3, rfl, rfl⟩
  rintro f51 _ ⟨a51_1, a51_2, a51_3, a51_4, rfl⟩
  clear a43_1 a43_2 a43_3 a43_39
  refine wpF_block ?_
  refine wpF_loop (fun mz f H => ∃ (i : Nat), mz = (nth a.Next k).length - i ∧ (i ≤ (nth a.Next k).length) ∧ (∀ j, j < i → 0 ≤ nth (nth a.Next k) j ∧ nth (nth a.Next k) j < (a.Next.length : Int)) ∧ f 1 = PT g1 0 ∧ f 2 = PT g4 0 ∧ f 3 = I ((k : Int)) ∧ f 4 = I ((i : Int)) ∧ St H0 NoB NoB [blkE g4 (.cells #[I (0), I (0)] 24), blkE g1 (.cells #[I (a.Signs), vn, vt] 36), rdE vn a.Next, rdE vt a.Takes] H) ((nth a.Next k).length - 0) ?_ ?_
  · exact ⟨0, rfl, Nat.zero_le _, (fun j hj => absurd hj (Nat.not_lt_zero j)), a51_1, a51_2, a51_3, (Eq.trans a51_4 (congrArg I (by omega))), hS39⟩
  intro m52 f52 H52 hI52
  obtain ⟨i, hm52, hi, hq, a52_1, a52_2, a52_3, a52_4, hS52⟩ := hI52
  clear a51_1 a51_2 a51_3 a51_4
  refine wpF_seq ?_
  refine wpF_seq ?_
  obtain ⟨u53, huu53, hlu53⟩ := (Rd.list.1 (hS52.rdS 2 rfl)).elem k (by omega)
  have hS54 : St H0 NoB NoB [rdE u53 (nth a.Next k), blkE g4 (.cells #[I (0), I (0)] 24), blkE g1 (.cells #[I (a.Signs), vn, vt] 36), rdE vn a.Next, rdE vt a.Takes] H52 := hS52.rd huu53
  refine wpF_cut (fun f H => f 1 = PT g1 0 ∧ f 2 = PT g4 0 ∧ f 3 = I ((k : Int)) ∧ f 4 = I ((i : Int)) ∧ f 49 = B (decide ((i : Int) < ((nth a.Next k).length : Int))) ∧ H52 = H) ?_ ?_
  · refine wpF_region ?_
    refine wpL_q (U := NoB) rfl (q_move (v := I ((i : Int))) rfl a52_4) ?_
    refine wpL_q (U := NoB) rfl (q_fieldAddr rfl Try.underlying36 rfl Try.sizeOf27 a52_1) ?_
    refine wpL_q (U := NoB) rfl (q_loadBlk rfl rfl Try.isAgg27 (hS52.blk 1 rfl) rfl (fun h => h)) ?_
    refine wpL_q (U := NoB) rfl (q_move (v := I ((k : Int))) rfl a52_3) ?_
    refine wpL_q (U := NoB) rfl (q_indexRd (k := k) rfl Try.underlying27 el_LInt_22_AutoA2 rfl rfl (hS52.rdl 2 rfl) (by omega) (by omega)) ?_
    refine wpL_q (U := NoB) rfl (q_loadE rfl rfl (hlu53 Try.prog 22 _ el_LInt_22_AutoA2 (fun _ h => False.elim h))) ?_
    refine wpL_q (U := NoB) rfl (q_lenRd rfl Try.underlying22 rfl (hS54.rdl 0 rfl)) ?_
    refine wpL_q (U := NoB) rfl (q_lss rfl rfl rfl) ?_
    exact ⟨a52_1, a52_2, a52_3, a52_4, rfl, rfl⟩
  rintro f55 _ ⟨a55_1, a55_2, a55_3, a55_4, a55_49, rfl⟩
  clear a52_1 a52_2 a52_3 a52_4
  refine wpF_condP a55_49 (fun hlt2 => ?t69) (fun hlt2 => ?e69)
  case e69 =>
    refine wpF_exit ?_
    refine atX_here ?_
    refine wpF_cut (fun f H => f 1 = PT g1 0 ∧ f 2 = PT g4 0 ∧ f 3 = I ((k : Int) + 1) ∧ H52 = H) ?_ ?_
    · refine wpF_region ?_
      refine wpL_q (U := NoB) rfl (q_move (v := I ((k : Int))) rfl a55_3) ?_
      refine wpL_q (U := NoB) rfl (q_add rfl rfl rfl (by constructor <;> omega)) ?_
      refine wpL_q (U := NoB) rfl (q_assign (v := I ((k : Int) + 1)) rfl rfl) ?_
      exact ⟨a55_1, a55_2, rfl, rfl⟩
    rintro f68 _ ⟨a68_1, a68_2, a68_3, rfl⟩
    clear a55_1 a55_2 a55_3 a55_4 a55_49
    refine ⟨_, ?_, k + 1, rfl, (by omega), (all_succ hp (rowBad_no h4 fun i hi => hq i (by omega))), a68_1, a68_2, (Eq.trans a68_3 (congrArg I (by omega))), hS52⟩
    omega
  refine wpF_skip ?_
  refine wpF_seq ?_
  refine wpF_block ?_
  refine wpF_seq ?_
  obtain ⟨u57o4, huu57o4, hlu57o4⟩ := (Rd.list.1 (hS52.rdS 2 rfl)).elem k (by omega)
  have hS57o4 : St H0 NoB NoB [rdE u57o4 (nth a.Next k), blkE g4 (.cells #[I (0), I (0)] 24), blkE g1 (.cells #[I (a.Signs), vn, vt] 36), rdE vn a.Next, rdE vt a.Takes] H52 := hS52.rd huu57o4
  refine wpF_cut (fun f H => f 1 = PT g1 0 ∧ f 2 = PT g4 0 ∧ f 3 = I ((k : Int)) ∧ f 4 = I ((i : Int)) ∧ f 65 = B (decide (¬ (0 ≤ (nth (nth a.Next k) i) ∧ (nth (nth a.Next k) i) ≤ ((a.Next.length : Int) - 1)))) ∧ St H0 NoB NoB [blkE g4 (.cells #[I (0), I (0)] 24), blkE g1 (.cells #[I (a.Signs), vn, vt] 36), rdE vn a.Next, rdE vt a.Takes] H) ?_ ?_
  · refine wpF_drawn [] [] (fun _ _ => False) (by kernel_rfl) (by kernel_rfl) ?_
    refine wpR_q 0 (by kernel_rfl) rfl (quietAt rfl rfl (q_fieldAddr rfl Try.underlying36 rfl Try.sizeOf27 a55_1)) ?_
    refine wpR_q 1 (by kernel_rfl) rfl (quietAt rfl rfl (q_loadBlk rfl rfl Try.isAgg27 (hS52.blk 1 rfl) rfl (labU_not [] rfl (List.forall_mem_nil _)))) ?_
    refine wpR_q 2 (by kernel_rfl) rfl (quietAt rfl rfl (q_move (v := I ((k : Int))) rfl a55_3)) ?_
    refine wpR_q 3 (by kernel_rfl) rfl (quietAt rfl rfl (q_indexRd (k := k) rfl Try.underlying27 el_LInt_22_AutoA2 rfl rfl (hS52.rdl 2 rfl) (by omega) (by omega))) ?_
    refine wpR_q 4 (by kernel_rfl) rfl (quietAt rfl rfl (q_loadE rfl rfl (hlu57o4 Try.prog 22 _ el_LInt_22_AutoA2 (labU_sub [] rfl (List.forall_mem_nil _))))) ?_
    refine wpR_q 5 (by kernel_rfl) rfl (quietAt rfl rfl (q_move (v := I ((i : Int))) rfl a55_4)) ?_
    refine wpR_q 6 (by kernel_rfl) rfl (quietAt rfl rfl (q_indexRd (k := i) rfl Try.underlying22 el_Int_3_AutoA2 rfl rfl (hS57o4.rdl 0 rfl) (by omega) (by omega))) ?_
    refine wpR_q 7 (by kernel_rfl) rfl (quietAt rfl rfl (q_loadInt (k := i) rfl rfl el_Int_3_AutoA2 (hS57o4.rdl 0 rfl) (by omega) (labU_sub [] rfl (List.forall_mem_nil _)))) ?_
    refine wpR_q 8 (by kernel_rfl) rfl (quietAt rfl rfl (q_fieldAddr rfl Try.underlying36 rfl Try.sizeOf27 a55_1)) ?_
    refine wpR_q 9 (by kernel_rfl) rfl (quietAt rfl rfl (q_loadBlk rfl rfl Try.isAgg27 (hS57o4.blk 2 rfl) rfl (labU_not [] rfl (List.forall_mem_nil _)))) ?_
    refine wpR_q 10 (by kernel_rfl) rfl (quietAt rfl rfl (q_lenRd rfl Try.underlying27 rfl (hS57o4.rdl 3 rfl))) ?_
    refine wpR_q 11 (by kernel_rfl) rfl (quietAt rfl rfl (q_sub rfl rfl rfl (by constructor <;> omega))) ?_
    refine wpR_n [12] (by kernel_rfl) ?_
    refine List.forall_mem_cons.2 ⟨?_, List.forall_mem_nil _⟩
    refine exE rfl rfl ?_
    refine e_call rfl Try.call46 (arr3 (v0 := I (nth (nth a.Next k) i)) (v1 := I (0)) (v2 := I ((a.Next.length : Int) - 1)) rfl rfl rfl) (in_R (nth (nth a.Next k) i) 0 ((a.Next.length : Int) - 1)) ?_
    rintro _ H57o12 ⟨hxx, rfl⟩
    have hS57o12 : St H0 NoB NoB [rdE u57o4 (nth a.Next k), blkE g4 (.cells #[I (0), I (0)] 24), blkE g1 (.cells #[I (a.Signs), vn, vt] 36), rdE vn a.Next, rdE vt a.Takes] H57o12 := hS57o4.ext hxx
    refine ⟨Ext.mono hxx (fun _ h => h.elim), ?_⟩
    refine wpR_q 13 (by kernel_rfl) rfl (quietAt rfl rfl (q_notP rfl rfl)) ?_
    refine wpR_end (by kernel_rfl) ?_
    exact ⟨a55_1, a55_2, a55_3, a55_4, rfl, (hS57o12.drop (sn (sk (sk (sk (sk (List.Sublist.slnil)))))))⟩
  rintro f58 H58 ⟨a58_1, a58_2, a58_3, a58_4, a58_65, hS58⟩
  clear a55_1 a55_2 a55_3 a55_4 a55_49
  refine wpF_condP a58_65 (fun h5 => ?t67) (fun h5 => ?e67)
  case e67 =>
    refine wpF_skip ?_
    refine wpF_cut (fun f H => f 1 = PT g1 0 ∧ f 2 = PT g4 0 ∧ f 3 = I ((k : Int)) ∧ f 4 = I ((i : Int) + 1) ∧ H58 = H) ?_ ?_
    · refine wpF_region ?_
      refine wpL_q (U := NoB) rfl (q_move (v := I ((i : Int))) rfl a58_4) ?_
      refine wpL_q (U := NoB) rfl (q_add rfl rfl rfl (by constructor <;> omega)) ?_
      refine wpL_q (U := NoB) rfl (q_assign (v := I ((i : Int) + 1)) rfl rfl) ?_
      exact ⟨a58_1, a58_2, a58_3, rfl, rfl⟩
    rintro f66 _ ⟨a66_1, a66_2, a66_3, a66_4, rfl⟩
    clear a58_1 a58_2 a58_3 a58_4 a58_65
    refine ⟨_, ?_, i + 1, rfl, (by omega), (all_succ hq (by omega)), a66_1, a66_2, a66_3, (Eq.trans a66_4 (congrArg I (by omega))), hS58⟩
    omega
  refine wpF_seq ?_
  refine wpF_cut (fun f H => f 2 = PT g4 0 ∧ St H0 NoB NoB [blkE g4 (.cells #[I (3), I ((k : Int))] 24), blkE g1 (.cells #[I (a.Signs), vn, vt] 36), rdE vn a.Next, rdE vt a.Takes] H) ?_ ?_
  · refine wpF_region ?_
    refine wpL_q (U := NoB) rfl (q_move (v := I ((k : Int))) rfl a58_3) ?_
    refine wpL_o rfl ?_
    refine e_call rfl Try.call47 (arr2 (v0 := I (3)) (v1 := I ((k : Int))) rfl rfl) (fault_R 3 (k : Int)) ?_
    rintro _ H60 ⟨hxx, rfl⟩
    have hS61 : St H0 NoB NoB [blkE g4 (.cells #[I (0), I (0)] 24), blkE g1 (.cells #[I (a.Signs), vn, vt] 36), rdE vn a.Next, rdE vt a.Takes] H60 := hS58.ext hxx
    refine wpL_o rfl ?_
    refine e_storeBlkA (cs' := #[I (3), I ((k : Int))]) rfl a58_2 rfl Try.sizeOf24 rfl rfl (List.forall_mem_cons.2 ⟨rfl, List.forall_mem_cons.2 ⟨rfl, List.forall_mem_nil _⟩⟩) hS61 (fun H63 hS64 hxx => ?_)
    replace hS64 : St H0 NoB NoB [blkE g4 (.cells #[I (3), I ((k : Int))] 24), blkE g1 (.cells #[I (a.Signs), vn, vt] 36), rdE vn a.Next, rdE vt a.Takes] H63 := hS64
    exact ⟨a58_2, hS64⟩
  rintro f65 H65 ⟨a65_2, hS65⟩
  clear a58_1 a58_2 a58_3 a58_4 a58_65
  refine wpF_ret ?_
  refine ⟨_, resC a65_2 (loadV_blkA Try.isAgg24 Try.sizeOf24 rfl (hS65.blk 0 rfl)) (resN), hS65.frame, ?_⟩
  show (Value.agg #[I (3), I ((k : Int))]) = Value.agg #[I (autoFault a).1, I (autoFault a).2]
  have hq := autoFault_row (a := a) (by omega) (by omega) h3 (by omega) hp (rowBad_to (i := i) h4 (by omega) (by omega))
  rw [hq]

set_option maxRecDepth 100000 in
theorem Check {H0 : Heap} (vn vt : Value) (a : Auto) (rn : Rd NoB H0 vn a.Next) (rt : Rd NoB H0 vt a.Takes) (hsg : In64 a.Signs) : CallsH Try.prog 21 #[Value.agg #[I (a.Signs), vn, vt]] H0 (fun rv_ H' => Ext NoB H0 H' ∧ rv_ = Value.agg #[I (autoFault a).1, I (autoFault a).2]) := by
  have hsn := (Rd.list.1 rn).small
  have hst := (Rd.list.1 rt).small
  have hS0 : St H0 NoB NoB [rdE vn a.Next, rdE vt a.Takes] H0 := St.arg (St.arg (St.start (fun _ h => h.elim)) (Bl0.nil) rt (fun _ h => h)) (Bl0.cons (Bl0.nil)) rn (fun _ h => h)
  refine callsH_of_wpF (args := [Value.agg #[I (a.Signs), vn, vt]]) (rs := [.cell 2 24]) Try.func21 rfl Try.ntmps21 Try.results21 (by kernel_rfl) (Nat.le_of_ble_eq_true rfl) ?_
  have a0_0 : argF [Value.agg #[I (a.Signs), vn, vt]] 0 = Value.agg #[I (a.Signs), vn, vt] := rfl
  generalize argF [Value.agg #[I (a.Signs), vn, vt]] = f0 at *
  refine wpF_seq ?_
  refine wpF_cut (fun f H => ∃ (g1 : Nat), ∃ (g4 : Nat), f 1 = PT g1 0 ∧ f 2 = PT g4 0 ∧ St H0 NoB NoB [blkE g4 (.cells #[I (0), I (0)] 24), blkE g1 (.cells #[I (a.Signs), vn, vt] 36), rdE vn a.Next, rdE vt a.Takes] H) ?_ ?_
  · refine wpF_region ?_
    refine wpL_o rfl ?_
    refine e_box (v := Value.agg #[I (a.Signs), vn, vt]) rfl a0_0 hS0 (fun g1 H2 hS3 hxx => ?_)
    replace hS3 : St H0 NoB NoB [blkE g1 (.cells #[I (a.Signs), vn, vt] 36), rdE vn a.Next, rdE vt a.Takes] H2 := hS3
    refine wpL_o rfl ?_
    refine e_alloc rfl Try.zeroValue24 hS3 (fun g4 H5 hS6 hxx => ?_)
    replace hS6 : St H0 NoB NoB [blkE g4 (.cells #[I (0), I (0)] 24), blkE g1 (.cells #[I (a.Signs), vn, vt] 36), rdE vn a.Next, rdE vt a.Takes] H5 := hS6
    exact ⟨g1, g4, rfl, rfl, hS6⟩
  rintro f7 H7 ⟨g1, g4, a7_1, a7_2, hS7⟩
  clear a0_0
  refine wpF_seq ?_
  refine wpF_block ?_
  refine wpF_seq ?_
  refine wpF_cut (fun f H => f 1 = PT g1 0 ∧ f 2 = PT g4 0 ∧ f 5 = B (decide ((a.Signs < 1) ∨ (12 < a.Signs))) ∧ H7 = H) ?_ ?_
  · refine wpF_region ?_
    refine wpL_q (U := NoB) rfl (q_fieldAddr rfl Try.underlying36 rfl Try.sizeOf3 a7_1) ?_
    refine wpL_q (U := NoB) rfl (q_loadBlk rfl rfl Try.isAgg3 (hS7.blk 1 rfl) rfl (fun h => h)) ?_
    refine wpL_q (U := NoB) rfl (q_lss rfl rfl rfl) ?_
    refine wpL_q (U := NoB) rfl (q_move (v := B (decide (a.Signs < 1))) rfl rfl) ?_
    by_cases hg8 : a.Signs < 1
    · have hb9 := Eq.trans rfl (congrArg B (decide_eq_true hg8))
      refine wpL_gs rfl rfl rfl hb9 rfl ?_
      refine wpL_gs rfl rfl rfl hb9 rfl ?_
      refine wpL_gs rfl rfl rfl hb9 rfl ?_
      refine wpL_q (U := NoB) rfl (q_pickT (v := B (true)) rfl hb9 rfl) ?_
      refine wpL_q (U := NoB) rfl (q_assign (v := B (true)) rfl rfl) ?_
      exact ⟨a7_1, a7_2, (Eq.trans rfl (congrArg B ((decide_eq_true (Or.inl hg8)).symm))), rfl⟩
    · have hb10 := Eq.trans rfl (congrArg B (decide_eq_false hg8))
      refine wpL_gq (U := NoB) rfl rfl rfl hb10 (q_fieldAddr rfl Try.underlying36 rfl Try.sizeOf3 a7_1) ?_
      refine wpL_gq (U := NoB) rfl rfl rfl hb10 (q_loadBlk rfl rfl Try.isAgg3 (hS7.blk 1 rfl) rfl (fun h => h)) ?_
      refine wpL_gq (U := NoB) rfl rfl rfl hb10 (q_gtr rfl rfl rfl) ?_
      refine wpL_q (U := NoB) rfl (q_pickF (v := B (decide (12 < a.Signs))) rfl hb10 rfl) ?_
      refine wpL_q (U := NoB) rfl (q_assign (v := B (decide (12 < a.Signs))) rfl rfl) ?_
      exact ⟨a7_1, a7_2, (Eq.trans rfl (congrArg B (decide_congr_of ((Iff.rfl).trans (((or_iff_right hg8).trans Iff.rfl)).symm)))), rfl⟩
  rintro f11 _ ⟨a11_1, a11_2, a11_5, rfl⟩
  clear a7_1 a7_2
  refine wpF_condP a11_5 (fun h1 => ?t58) (fun h1 => ?e58)
  case t58 =>
    refine wpF_seq ?_
    refine wpF_cut (fun f H => f 2 = PT g4 0 ∧ St H0 NoB NoB [blkE g4 (.cells #[I (3), I (-1)] 24), blkE g1 (.cells #[I (a.Signs), vn, vt] 36), rdE vn a.Next, rdE vt a.Takes] H) ?_ ?_
    · refine wpF_region ?_
      refine wpL_q (U := NoB) rfl (q_build (v := Value.agg #[I (3), I (-1)]) rfl (par2 (v0 := I (3)) (v1 := I (-1)) rfl rfl) (fun w => by kernel_rfl)) ?_
      refine wpL_o rfl ?_
      refine e_storeBlkA (cs' := #[I (3), I (-1)]) rfl a11_2 rfl Try.sizeOf24 rfl rfl (List.forall_mem_cons.2 ⟨rfl, List.forall_mem_cons.2 ⟨rfl, List.forall_mem_nil _⟩⟩) hS7 (fun H13 hS14 hxx => ?_)
      replace hS14 : St H0 NoB NoB [blkE g4 (.cells #[I (3), I (-1)] 24), blkE g1 (.cells #[I (a.Signs), vn, vt] 36), rdE vn a.Next, rdE vt a.Takes] H13 := hS14
      exact ⟨a11_2, hS14⟩
    rintro f15 H15 ⟨a15_2, hS15⟩
    clear a11_1 a11_2 a11_5
    refine wpF_ret ?_
    refine ⟨_, resC a15_2 (loadV_blkA Try.isAgg24 Try.sizeOf24 rfl (hS15.blk 0 rfl)) (resN), hS15.frame, ?_⟩
    show (Value.agg #[I (3), I (-1)]) = Value.agg #[I (autoFault a).1, I (autoFault a).2]
    have hq := autoFault_signs (a := a) h1
    rw [hq]
  refine wpF_seq ?_
  refine wpF_cut (fun f H => f 1 = PT g1 0 ∧ f 2 = PT g4 0 ∧ f 15 = B (decide (((a.Next.length : Int) < 1) ∨ (40 < (a.Next.length : Int)))) ∧ H7 = H) ?_ ?_
  · refine wpF_region ?_
    refine wpL_q (U := NoB) rfl (q_fieldAddr rfl Try.underlying36 rfl Try.sizeOf27 a11_1) ?_
    refine wpL_q (U := NoB) rfl (q_loadBlk rfl rfl Try.isAgg27 (hS7.blk 1 rfl) rfl (fun h => h)) ?_
    refine wpL_q (U := NoB) rfl (q_lenRd rfl Try.underlying27 rfl (hS7.rdl 2 rfl)) ?_
    refine wpL_q (U := NoB) rfl (q_lss rfl rfl rfl) ?_
    refine wpL_q (U := NoB) rfl (q_move (v := B (decide ((a.Next.length : Int) < 1))) rfl rfl) ?_
    by_cases hg16 : (a.Next.length : Int) < 1
    · have hb17 := Eq.trans rfl (congrArg B (decide_eq_true hg16))
      refine wpL_gs rfl rfl rfl hb17 rfl ?_
      refine wpL_gs rfl rfl rfl hb17 rfl ?_
      refine wpL_gs rfl rfl rfl hb17 rfl ?_
      refine wpL_gs rfl rfl rfl hb17 rfl ?_
      refine wpL_q (U := NoB) rfl (q_pickT (v := B (true)) rfl hb17 rfl) ?_
      refine wpL_q (U := NoB) rfl (q_assign (v := B (true)) rfl rfl) ?_
      exact ⟨a11_1, a11_2, (Eq.trans rfl (congrArg B ((decide_eq_true (Or.inl hg16)).symm))), rfl⟩
    · have hb18 := Eq.trans rfl (congrArg B (decide_eq_false hg16))
      refine wpL_gq (U := NoB) rfl rfl rfl hb18 (q_fieldAddr rfl Try.underlying36 rfl Try.sizeOf27 a11_1) ?_
      refine wpL_gq (U := NoB) rfl rfl rfl hb18 (q_loadBlk rfl rfl Try.isAgg27 (hS7.blk 1 rfl) rfl (fun h => h)) ?_
      refine wpL_gq (U := NoB) rfl rfl rfl hb18 (q_lenRd rfl Try.underlying27 rfl (hS7.rdl 2 rfl)) ?_
      refine wpL_gq (U := NoB) rfl rfl rfl hb18 (q_gtr rfl rfl rfl) ?_
      refine wpL_q (U := NoB) rfl (q_pickF (v := B (decide (40 < (a.Next.length : Int)))) rfl hb18 rfl) ?_
      refine wpL_q (U := NoB) rfl (q_assign (v := B (decide (40 < (a.Next.length : Int)))) rfl rfl) ?_
      exact ⟨a11_1, a11_2, (Eq.trans rfl (congrArg B (decide_congr_of ((Iff.rfl).trans (((or_iff_right hg16).trans Iff.rfl)).symm)))), rfl⟩
  rintro f19 _ ⟨a19_1, a19_2, a19_15, rfl⟩
  clear a11_1 a11_2 a11_5
  refine wpF_condP a19_15 (fun h2 => ?t57) (fun h2 => ?e57)
  case t57 =>
    refine wpF_seq ?_
    refine wpF_cut (fun f H => f 2 = PT g4 0 ∧ St H0 NoB NoB [blkE g4 (.cells #[I (2), I (0)] 24), blkE g1 (.cells #[I (a.Signs), vn, vt] 36), rdE vn a.Next, rdE vt a.Takes] H) ?_ ?_
    · refine wpF_region ?_
      refine wpL_q (U := NoB) rfl (q_build (v := Value.agg #[I (2), I (0)]) rfl (par1 (v0 := I (2)) rfl) (fun w => by kernel_rfl)) ?_
      refine wpL_o rfl ?_
      refine e_storeBlkA (cs' := #[I (2), I (0)]) rfl a19_2 rfl Try.sizeOf24 rfl rfl (List.forall_mem_cons.2 ⟨rfl, List.forall_mem_cons.2 ⟨rfl, List.forall_mem_nil _⟩⟩) hS7 (fun H21 hS22 hxx => ?_)
      replace hS22 : St H0 NoB NoB [blkE g4 (.cells #[I (2), I (0)] 24), blkE g1 (.cells #[I (a.Signs), vn, vt] 36), rdE vn a.Next, rdE vt a.Takes] H21 := hS22
      exact ⟨a19_2, hS22⟩
    rintro f23 H23 ⟨a23_2, hS23⟩
    clear a19_1 a19_15 a19_2
    refine wpF_ret ?_
    refine ⟨_, resC a23_2 (loadV_blkA Try.isAgg24 Try.sizeOf24 rfl (hS23.blk 0 rfl)) (resN), hS23.frame, ?_⟩
    show (Value.agg #[I (2), I (0)]) = Value.agg #[I (autoFault a).1, I (autoFault a).2]
    have hq := autoFault_many (a := a) h1 h2
    rw [hq]
  refine wpF_seq ?_
  refine wpF_cut (fun f H => f 1 = PT g1 0 ∧ f 2 = PT g4 0 ∧ f 27 = B (decide ((a.Takes.length : Int) ≠ (a.Next.length : Int))) ∧ H7 = H) ?_ ?_
  · refine wpF_region ?_
    refine wpL_q (U := NoB) rfl (q_fieldAddr rfl Try.underlying36 rfl Try.sizeOf32 a19_1) ?_
    refine wpL_q (U := NoB) rfl (q_loadBlk rfl rfl Try.isAgg32 (hS7.blk 1 rfl) rfl (fun h => h)) ?_
    refine wpL_q (U := NoB) rfl (q_lenRd rfl Try.underlying32 rfl (hS7.rdl 3 rfl)) ?_
    refine wpL_q (U := NoB) rfl (q_fieldAddr rfl Try.underlying36 rfl Try.sizeOf27 a19_1) ?_
    refine wpL_q (U := NoB) rfl (q_loadBlk rfl rfl Try.isAgg27 (hS7.blk 1 rfl) rfl (fun h => h)) ?_
    refine wpL_q (U := NoB) rfl (q_lenRd rfl Try.underlying27 rfl (hS7.rdl 2 rfl)) ?_
    refine wpL_q (U := NoB) rfl (q_neq rfl rfl rfl) ?_
    refine wpL_q (U := NoB) rfl (q_assign (v := B (decide ((a.Takes.length : Int) ≠ (a.Next.length : Int)))) rfl rfl) ?_
    exact ⟨a19_1, a19_2, rfl, rfl⟩
  rintro f24 _ ⟨a24_1, a24_2, a24_27, rfl⟩
  clear a19_1 a19_15 a19_2
  refine wpF_condP a24_27 (fun h3 => ?t56) (fun h3 => ?e56)
  case t56 =>
    refine wpF_seq ?_
    refine wpF_cut (fun f H => f 2 = PT g4 0 ∧ St H0 NoB NoB [blkE g4 (.cells #[I (9), I (-1)] 24), blkE g1 (.cells #[I (a.Signs), vn, vt] 36), rdE vn a.Next, rdE vt a.Takes] H) ?_ ?_
    · refine wpF_region ?_
      refine wpL_q (U := NoB) rfl (q_build (v := Value.agg #[I (9), I (-1)]) rfl (par2 (v0 := I (9)) (v1 := I (-1)) rfl rfl) (fun w => by kernel_rfl)) ?_
      refine wpL_o rfl ?_
      refine e_storeBlkA (cs' := #[I (9), I (-1)]) rfl a24_2 rfl Try.sizeOf24 rfl rfl (List.forall_mem_cons.2 ⟨rfl, List.forall_mem_cons.2 ⟨rfl, List.forall_mem_nil _⟩⟩) hS7 (fun H26 hS27 hxx => ?_)
      replace hS27 : St H0 NoB NoB [blkE g4 (.cells #[I (9), I (-1)] 24), blkE g1 (.cells #[I (a.Signs), vn, vt] 36), rdE vn a.Next, rdE vt a.Takes] H26 := hS27
      exact ⟨a24_2, hS27⟩
    rintro f28 H28 ⟨a28_2, hS28⟩
    clear a24_1 a24_2 a24_27
    refine wpF_ret ?_
    refine ⟨_, resC a28_2 (loadV_blkA Try.isAgg24 Try.sizeOf24 rfl (hS28.blk 0 rfl)) (resN), hS28.frame, ?_⟩
    show (Value.agg #[I (9), I (-1)]) = Value.agg #[I (autoFault a).1, I (autoFault a).2]
    have hq := autoFault_size (a := a) h1 h2 h3
    rw [hq]
  refine wpF_skip ?_
  refine wpF_seq ?_
  refine wpF_seq ?_
  refine wpF_cut (fun f H => f 1 = PT g1 0 ∧ f 2 = PT g4 0 ∧ f 37 = vn ∧ f 38 = I ((a.Next.length : Int)) ∧ f 39 = I (0) ∧ H7 = H) ?_ ?_
  · refine wpF_region ?_
    refine wpL_q (U := NoB) rfl (q_fieldAddr rfl Try.underlying36 rfl Try.sizeOf27 a24_1) ?_
    refine wpL_q (U := NoB) rfl (q_loadBlk rfl rfl Try.isAgg27 (hS7.blk 1 rfl) rfl (fun h => h)) ?_
    refine wpL_q (U := NoB) rfl (q_lenRd rfl Try.underlying27 rfl (hS7.rdl 2 rfl)) ?_
    refine wpL_q (U := NoB) rfl (q_move (v := I (0)) rfl rfl) ?_
    exact ⟨a24_1, a24_2, rfl, rfl, rfl, rfl⟩
  rintro f29 _ ⟨a29_1, a29_2, a29_37, a29_38, a29_39, rfl⟩
  clear a24_1 a24_2 a24_27
  refine wpF_block ?_
  refine wpF_loop (fun mz f H => ∃ (k : Nat), mz = a.Next.length - k ∧ (k ≤ a.Next.length) ∧ (∀ j, j < k → rowBad a j = none) ∧ f 1 = PT g1 0 ∧ f 2 = PT g4 0 ∧ f 37 = vn ∧ f 38 = I ((a.Next.length : Int)) ∧ f 39 = I ((k : Int)) ∧ St H0 NoB NoB [blkE g4 (.cells #[I (0), I (0)] 24), blkE g1 (.cells #[I (a.Signs), vn, vt] 36), rdE vn a.Next, rdE vt a.Takes] H) (a.Next.length - 0) ?_ ?_
  · exact ⟨0, rfl, Nat.zero_le _, (fun j hj => absurd hj (Nat.not_lt_zero j)), a29_1, a29_2, a29_37, a29_38, (Eq.trans a29_39 (congrArg I (by omega))), hS7⟩
  intro m30 f30 H30 hI30
  obtain ⟨k, hm30, hk, hp, a30_1, a30_2, a30_37, a30_38, a30_39, hS30⟩ := hI30
  clear a29_1 a29_2 a29_37 a29_38 a29_39
  refine wpF_seq ?_
  refine wpF_cut (fun f H => f 1 = PT g1 0 ∧ f 2 = PT g4 0 ∧ f 37 = vn ∧ f 38 = I ((a.Next.length : Int)) ∧ f 39 = I ((k : Int)) ∧ f 40 = B (decide ((k : Int) < (a.Next.length : Int))) ∧ H30 = H) ?_ ?_
  · refine wpF_region ?_
    refine wpL_q (U := NoB) rfl (q_lss rfl a30_39 a30_38) ?_
    exact ⟨a30_1, a30_2, a30_37, a30_38, a30_39, rfl, rfl⟩
  rintro f31 _ ⟨a31_1, a31_2, a31_37, a31_38, a31_39, a31_40, rfl⟩
  clear a30_1 a30_2 a30_37 a30_38 a30_39
  refine wpF_seq ?_
  refine wpF_condP a31_40 (fun hlt => ?t55) (fun hlt => ?e55)
  case e55 =>
    refine wpF_exit ?_
    refine atX_here ?_
    refine wpF_seq ?_
    refine wpF_cut (fun f H => f 2 = PT g4 0 ∧ St H0 NoB NoB [blkE g4 (.cells #[I (0), I (0)] 24), blkE g1 (.cells #[I (a.Signs), vn, vt] 36), rdE vn a.Next, rdE vt a.Takes] H) ?_ ?_
    · refine wpF_region ?_
      refine wpL_q (U := NoB) rfl (q_build (v := Value.agg #[I (0), I (0)]) rfl par0 (fun w => by kernel_rfl)) ?_
      refine wpL_o rfl ?_
      refine e_storeBlkA (cs' := #[I (0), I (0)]) rfl a31_2 rfl Try.sizeOf24 rfl rfl (List.forall_mem_cons.2 ⟨rfl, List.forall_mem_cons.2 ⟨rfl, List.forall_mem_nil _⟩⟩) hS30 (fun H52 hS53 hxx => ?_)
      replace hS53 : St H0 NoB NoB [blkE g4 (.cells #[I (0), I (0)] 24), blkE g1 (.cells #[I (a.Signs), vn, vt] 36), rdE vn a.Next, rdE vt a.Takes] H52 := hS53
      exact ⟨a31_2, hS53⟩
    rintro f54 H54 ⟨a54_2, hS54⟩
    clear a31_1 a31_2 a31_37 a31_38 a31_39 a31_40
    refine wpF_ret ?_
    refine ⟨_, resC a54_2 (loadV_blkA Try.isAgg24 Try.sizeOf24 rfl (hS54.blk 0 rfl)) (resN), hS54.frame, ?_⟩
    show (Value.agg #[I (0), I (0)]) = Value.agg #[I (autoFault a).1, I (autoFault a).2]
    have hq := autoFault_ok (a := a) h1 h2 h3 fun j hj => hp j (by omega)
    rw [hq]
  refine wpF_skip ?_
  refine wpF_seq ?_
  refine wpF_block ?_
  refine wpF_seq ?_
  obtain ⟨u33, huu33, hlu33⟩ := (Rd.list.1 (hS30.rdS 2 rfl)).elem k (by omega)
  have hS34 : St H0 NoB NoB [rdE u33 (nth a.Next k), blkE g4 (.cells #[I (0), I (0)] 24), blkE g1 (.cells #[I (a.Signs), vn, vt] 36), rdE vn a.Next, rdE vt a.Takes] H30 := hS30.rd huu33
  refine wpF_cut (fun f H => f 1 = PT g1 0 ∧ f 2 = PT g4 0 ∧ f 3 = I ((k : Int)) ∧ f 4 = u33 ∧ f 37 = vn ∧ f 38 = I ((a.Next.length : Int)) ∧ f 39 = I ((k : Int)) ∧ St H0 NoB NoB [rdE u33 (nth a.Next k), blkE g4 (.cells #[I (0), I (0)] 24), blkE g1 (.cells #[I (a.Signs), vn, vt] 36), rdE vn a.Next, rdE vt a.Takes] H) ?_ ?_
  · refine wpF_region ?_
    refine wpL_q (U := NoB) rfl (q_move (v := I ((k : Int))) rfl a31_39) ?_
    refine wpL_q (U := NoB) rfl (q_indexRd (k := k) rfl Try.underlying27 el_LInt_22_AutoA2 a31_37 a31_39 (hS30.rdl 2 rfl) (by omega) (by omega)) ?_
    refine wpL_q (U := NoB) rfl (q_loadE rfl rfl (hlu33 Try.prog 22 _ el_LInt_22_AutoA2 (fun _ h => False.elim h))) ?_
    refine wpL_q (U := NoB) rfl (q_assign (v := I ((k : Int))) rfl rfl) ?_
    refine wpL_q (U := NoB) rfl (q_assign (v := u33) rfl rfl) ?_
    exact ⟨a31_1, a31_2, rfl, rfl, a31_37, a31_38, a31_39, hS34⟩
  rintro f35 H35 ⟨a35_1, a35_2, a35_3, a35_4, a35_37, a35_38, a35_39, hS35⟩
  clear a31_1 a31_2 a31_37 a31_38 a31_39 a31_40
  refine wpF_block ?_
  refine wpF_seq ?_
  refine wpF_cut (fun f H => f 1 = PT g1 0 ∧ f 2 = PT g4 0 ∧ f 3 = I ((k : Int)) ∧ f 4 = u33 ∧ f 37 = vn ∧ f 38 = I ((a.Next.length : Int)) ∧ f 39 = I ((k : Int)) ∧ f 44 = B (decide (((nth a.Next k).length : Int) ≠ a.Signs)) ∧ H35 = H) ?_ ?_
  · refine wpF_region ?_
    refine wpL_q (U := NoB) rfl (q_move (v := u33) rfl a35_4) ?_
    refine wpL_q (U := NoB) rfl (q_lenRd rfl Try.underlying22 rfl (hS35.rdl 0 rfl)) ?_
    refine wpL_q (U := NoB) rfl (q_fieldAddr rfl Try.underlying36 rfl Try.sizeOf3 a35_1) ?_
    refine wpL_q (U := NoB) rfl (q_loadBlk rfl rfl Try.isAgg3 (hS35.blk 2 rfl) rfl (fun h => h)) ?_
    refine wpL_q (U := NoB) rfl (q_neq rfl rfl rfl) ?_
    refine wpL_q (U := NoB) rfl (q_assign (v := B (decide (((nth a.Next k).length : Int) ≠ a.Signs))) rfl rfl) ?_
    exact ⟨a35_1, a35_2, a35_3, a35_4, a35_37, a35_38, a35_39, rfl, rfl⟩
  rintro f36 _ ⟨a36_1, a36_2, a36_3, a36_4, a36_37, a36_38, a36_39, a36_44, rfl⟩
  clear a35_1 a35_2 a35_3 a35_37 a35_38 a35_39 a35_4
  refine wpF_condP a36_44 (fun h4 => ?t51) (fun h4 => ?e51)
  case t51 =>
    refine wpF_seq ?_
    refine wpF_cut (fun f H => f 2 = PT g4 0 ∧ St H0 NoB NoB [blkE g4 (.cells #[I (9), I ((k : Int))] 24), blkE g1 (.cells #[I (a.Signs), vn, vt] 36), rdE vn a.Next, rdE vt a.Takes] H) ?_ ?_
    · refine wpF_region ?_
      refine wpL_q (U := NoB) rfl (q_move (v := I ((k : Int))) rfl a36_3) ?_
      refine wpL_q (U := NoB) rfl (q_build (v := Value.agg #[I (9), I ((k : Int))]) rfl (par2 (v0 := I (9)) (v1 := I ((k : Int))) rfl rfl) (fun w => by kernel_rfl)) ?_
      refine wpL_o rfl ?_
      refine e_storeBlkA (cs' := #[I (9), I ((k : Int))]) rfl a36_2 rfl Try.sizeOf24 rfl rfl (List.forall_mem_cons.2 ⟨rfl, List.forall_mem_cons.2 ⟨rfl, List.forall_mem_nil _⟩⟩) (hS35.front 1 rfl) (fun H38 hS39 hxx => ?_)
      replace hS39 : St H0 NoB NoB [blkE g4 (.cells #[I (9), I ((k : Int))] 24), rdE u33 (nth a.Next k), blkE g1 (.cells #[I (a.Signs), vn, vt] 36), rdE vn a.Next, rdE vt a.Takes] H38 := hS39
      exact ⟨a36_2, (hS39.drop (sk (sn (sk (sk (sk (List.Sublist.slnil)))))))⟩
    rintro f40 H40 ⟨a40_2, hS40⟩
    clear a36_1 a36_2 a36_3 a36_37 a36_38 a36_39 a36_4 a36_44
    refine wpF_ret ?_
    refine ⟨_, resC a40_2 (loadV_blkA Try.isAgg24 Try.sizeOf24 rfl (hS40.blk 0 rfl)) (resN), hS40.frame, ?_⟩
    show (Value.agg #[I (9), I ((k : Int))]) = Value.agg #[I (autoFault a).1, I (autoFault a).2]
    have hq := autoFault_row (a := a) h1 h2 h3 (by omega) hp (rowBad_len h4)
    rw [hq]
  refine wpF_seq ?_
  refine wpF_cut (fun f H => f 1 = PT g1 0 ∧ f 2 = PT g4 0 ∧ f 3 = I ((k : Int)) ∧ f 37 = vn ∧ f 38 = I ((a.Next.length : Int)) ∧ f 39 = I ((k : Int)) ∧ f 52 = B ((nth a.Next k).any (fun s => decide (s < 0 ∨ ((a.Next).length : Int) ≤ s))) ∧ St H0 NoB NoB [blkE g4 (.cells #[I (0), I (0)] 24), blkE g1 (.cells #[I (a.Signs), vn, vt] 36), rdE vn a.Next, rdE vt a.Takes] H) ?_ ?_
  · refine wpF_region ?_
    refine wpL_q (U := NoB) rfl (q_move (v := u33) rfl a36_4) ?_
    refine wpL_q (U := NoB) rfl (q_makeFunc (fi' := #[]) rfl (by simp) (arr1 (v0 := PT g1 0) a36_1)) ?_
    refine wpL_o rfl ?_
    refine e_call rfl Try.call48 (arr2 (v0 := u33) (v1 := Value.func (.func 49) #[] #[PT g1 0]) rfl rfl) (ContainsFunc u33 (Value.func (.func 49) #[] #[PT g1 0]) (nth a.Next k) (fun s => decide (s < 0 ∨ ((a.Next).length : Int) ≤ s)) (hS35.rdN 0 rfl) (fun x hx H hE => ⟨_, _, rfl, Try.call49, Check_1 x g1 _ vn _ _ (hE.blk (hS35.blk 2 rfl)) ((hS35.rdN 3 rfl).extN hE)⟩)) ?_
    rintro _ H41 ⟨hxx, rfl⟩
    have hS42 : St H0 NoB NoB [rdE u33 (nth a.Next k), blkE g4 (.cells #[I (0), I (0)] 24), blkE g1 (.cells #[I (a.Signs), vn, vt] 36), rdE vn a.Next, rdE vt a.Takes] H41 := hS35.ext hxx
    refine wpL_q (U := NoB) rfl (q_assign (v := B ((nth a.Next k).any (fun s => decide (s < 0 ∨ ((a.Next).length : Int) ≤ s)))) rfl rfl) ?_
    exact ⟨a36_1, a36_2, a36_3, a36_37, a36_38, a36_39, rfl, (hS42.drop (sn (sk (sk (sk (sk (List.Sublist.slnil)))))))⟩
  rintro f44 H44 ⟨a44_1, a44_2, a44_3, a44_37, a44_38, a44_39, a44_52, hS44⟩
  clear a36_1 a36_2 a36_3 a36_37 a36_38 a36_39 a36_4 a36_44
  refine wpF_cond a44_52 (fun h5 => ?t50) (fun h5 => ?e50)
  case e50 =>
    refine wpF_skip ?_
    refine wpF_cut (fun f H => f 1 = PT g1 0 ∧ f 2 = PT g4 0 ∧ f 37 = vn ∧ f 38 = I ((a.Next.length : Int)) ∧ f 39 = I ((k : Int) + 1) ∧ H44 = H) ?_ ?_
    · refine wpF_region ?_
      refine wpL_q (U := NoB) rfl (q_add rfl a44_39 rfl (by constructor <;> omega)) ?_
      refine wpL_q (U := NoB) rfl (q_move (v := I ((k : Int) + 1)) rfl rfl) ?_
      exact ⟨a44_1, a44_2, a44_37, a44_38, rfl, rfl⟩
    rintro f49 _ ⟨a49_1, a49_2, a49_37, a49_38, a49_39, rfl⟩
    clear a44_1 a44_2 a44_3 a44_37 a44_38 a44_39 a44_52
    refine ⟨_, ?_, k + 1, rfl, (by omega), (all_succ hp (by rw [rowBad, if_neg h4, if_neg (Bool.eq_false_iff.1 h5)])), a49_1, a49_2, a49_37, a49_38, (Eq.trans a49_39 (congrArg I (by omega))), hS44⟩
    omega
  refine wpF_seq ?_
  refine wpF_cut (fun f H => f 2 = PT g4 0 ∧ St H0 NoB NoB [blkE g4 (.cells #[I (3), I ((k : Int))] 24), blkE g1 (.cells #[I (a.Signs), vn, vt] 36), rdE vn a.Next, rdE vt a.Takes] H) ?_ ?_
  · refine wpF_region ?_
    refine wpL_q (U := NoB) rfl (q_move (v := I ((k : Int))) rfl a44_3) ?_
    refine wpL_q (U := NoB) rfl (q_build (v := Value.agg #[I (3), I ((k : Int))]) rfl (par2 (v0 := I (3)) (v1 := I ((k : Int))) rfl rfl) (fun w => by kernel_rfl)) ?_
    refine wpL_o rfl ?_
    refine e_storeBlkA (cs' := #[I (3), I ((k : Int))]) rfl a44_2 rfl Try.sizeOf24 rfl rfl (List.forall_mem_cons.2 ⟨rfl, List.forall_mem_cons.2 ⟨rfl, List.forall_mem_nil _⟩⟩) hS44 (fun H46 hS47 hxx => ?_)
    replace hS47 : St H0 NoB NoB [blkE g4 (.cells #[I (3), I ((k : Int))] 24), blkE g1 (.cells #[I (a.Signs), vn, vt] 36), rdE vn a.Next, rdE vt a.Takes] H46 := hS47
    exact ⟨a44_2, hS47⟩
  rintro f48 H48 ⟨a48_2, hS48⟩
  clear a44_1 a44_2 a44_3 a44_37 a44_38 a44_39 a44_52
  refine wpF_ret ?_
  refine ⟨_, resC a48_2 (loadV_blkA Try.isAgg24 Try.sizeOf24 rfl (hS48.blk 0 rfl)) (resN), hS48.frame, ?_⟩
  show (Value.agg #[I (3), I ((k : Int))]) = Value.agg #[I (autoFault a).1, I (autoFault a).2]
  have hq := autoFault_row (a := a) h1 h2 h3 (by omega) hp (by rw [rowBad, if_neg h4, if_pos h5])
  rw [hq]

set_option maxRecDepth 100000 in
theorem Text_1 {H0 : Heap} (x : Int) (gx : Nat) (sg : Int) (hb : H0[gx]? = some (.cells #[I sg] 3)) : CallsH Try.prog 51 #[I (x), PT gx 0] H0 (fun rv_ H' => Ext NoB H0 H' ∧ rv_ = B (signBad sg x)) := by
  have hS0 : St H0 NoB NoB [fixE gx (.cells #[I (sg)] 3)] H0 := St.argFix (St.start (fun _ h => h.elim)) (Bl0.nil) hb (fun h => h)
  refine callsH_of_wpF (args := [I (x), PT gx 0]) (rs := [.tmp 3]) Try.func51 rfl Try.ntmps51 Try.results51 (by kernel_rfl) (Nat.le_of_ble_eq_true rfl) ?_
  have a0_0 : argF [I (x), PT gx 0] 0 = I (x) := rfl
  have a0_1 : argF [I (x), PT gx 0] 1 = PT gx 0 := rfl
  generalize argF [I (x), PT gx 0] = f0 at *
  refine wpF_seq ?_
  refine wpF_cut (fun f H => f 0 = I (x) ∧ f 1 = PT gx 0 ∧ H0 = H) ?_ ?_
  · refine wpF_region ?_
    refine wpL_q (U := NoB) rfl (q_assign (v := B (false)) rfl rfl) ?_
    exact ⟨a0_0, a0_1, rfl⟩
  rintro f1 _ ⟨a1_0, a1_1, rfl⟩
  clear a0_0 a0_1
  refine wpF_seq ?_
  refine wpF_cut (fun f H => f 3 = B (decide ((x < 0) ∨ (sg ≤ x))) ∧ H0 = H) ?_ ?_
  · refine wpF_region ?_
    refine wpL_q (U := NoB) rfl (q_move (v := I (x)) rfl a1_0) ?_
    refine wpL_q (U := NoB) rfl (q_lss rfl rfl rfl) ?_
    refine wpL_q (U := NoB) rfl (q_move (v := B (decide (x < 0))) rfl rfl) ?_
    by_cases hg2 : x < 0
    · have hb3 := Eq.trans rfl (congrArg B (decide_eq_true hg2))
      refine wpL_gs rfl rfl rfl hb3 rfl ?_
      refine wpL_gs rfl rfl rfl hb3 rfl ?_
      refine wpL_gs rfl rfl rfl hb3 rfl ?_
      refine wpL_q (U := NoB) rfl (q_pickT (v := B (true)) rfl hb3 rfl) ?_
      refine wpL_q (U := NoB) rfl (q_assign (v := B (true)) rfl rfl) ?_
      exact ⟨(Eq.trans rfl (congrArg B ((decide_eq_true (Or.inl hg2)).symm))), rfl⟩
    · have hb4 := Eq.trans rfl (congrArg B (decide_eq_false hg2))
      refine wpL_gq (U := NoB) rfl rfl rfl hb4 (q_move (v := I (x)) rfl a1_0) ?_
      refine wpL_gq (U := NoB) rfl rfl rfl hb4 (q_loadBlk rfl a1_1 Try.isAgg3 (hS0.fixd 0 rfl) rfl (fun h => h)) ?_
      refine wpL_gq (U := NoB) rfl rfl rfl hb4 (q_geq rfl rfl rfl) ?_
      refine wpL_q (U := NoB) rfl (q_pickF (v := B (decide (sg ≤ x))) rfl hb4 rfl) ?_
      refine wpL_q (U := NoB) rfl (q_assign (v := B (decide (sg ≤ x))) rfl rfl) ?_
      exact ⟨(Eq.trans rfl (congrArg B (decide_congr_of ((Iff.rfl).trans (((or_iff_right hg2).trans Iff.rfl)).symm)))), rfl⟩
  rintro f5 _ ⟨a5_3, rfl⟩
  clear a1_0 a1_1
  refine wpF_ret ?_
  refine ⟨_, resT a5_3 resN, hS0.frame, ?_⟩
  show (B (decide ((x < 0) ∨ (sg ≤ x)))) = B (signBad sg x)
  exact congrArg B (by simp [signBad])

set_option maxRecDepth 100000 in
theorem Text {H0 : Heap} (vl : Value) (sg : Int) (l : List Int) (rl : Rd NoB H0 vl l) : CallsH Try.prog 22 #[I (sg), vl] H0 (fun rv_ H' => Ext NoB H0 H' ∧ rv_ = Value.agg #[I (textFault sg l).1, I (textFault sg l).2]) := by
  have hsl := (Rd.list.1 rl).small
  have hS0 : St H0 NoB NoB [rdE vl l] H0 := St.arg (St.start (fun _ h => h.elim)) (Bl0.nil) rl (fun _ h => h)
  refine callsH_of_wpF (args := [I (sg), vl]) (rs := [.cell 4 24]) Try.func22 rfl Try.ntmps22 Try.results22 (by kernel_rfl) (Nat.le_of_ble_eq_true rfl) ?_
  have a0_0 : argF [I (sg), vl] 0 = I (sg) := rfl
  have a0_1 : argF [I (sg), vl] 1 = vl := rfl
  generalize argF [I (sg), vl] = f0 at *
  refine wpF_seq ?_
  refine wpF_cut (fun f H => ∃ (g1 : Nat), ∃ (g4 : Nat), f 1 = vl ∧ f 2 = PT g1 0 ∧ f 4 = PT g4 0 ∧ St H0 NoB NoB [blkE g4 (.cells #[I (0), I (0)] 24), blkE g1 (.cells #[I (sg)] 3), rdE vl l] H) ?_ ?_
  · refine wpF_region ?_
    refine wpL_o rfl ?_
    refine e_box (v := I (sg)) rfl a0_0 hS0 (fun g1 H2 hS3 hxx => ?_)
    replace hS3 : St H0 NoB NoB [blkE g1 (.cells #[I (sg)] 3), rdE vl l] H2 := hS3
    refine wpL_o rfl ?_
    refine e_alloc rfl Try.zeroValue24 hS3 (fun g4 H5 hS6 hxx => ?_)
    replace hS6 : St H0 NoB NoB [blkE g4 (.cells #[I (0), I (0)] 24), blkE g1 (.cells #[I (sg)] 3), rdE vl l] H5 := hS6
    exact ⟨g1, g4, a0_1, rfl, rfl, hS6⟩
  rintro f7 H7 ⟨g1, g4, a7_1, a7_2, a7_4, hS7⟩
  clear a0_0 a0_1
  refine wpF_seq ?_
  refine wpF_seq ?_
  refine wpF_cut (fun f H => f 1 = vl ∧ f 2 = PT g1 0 ∧ f 4 = PT g4 0 ∧ f 8 = B (decide (30 < (l.length : Int))) ∧ H7 = H) ?_ ?_
  · refine wpF_region ?_
    refine wpL_q (U := NoB) rfl (q_move (v := vl) rfl a7_1) ?_
    refine wpL_q (U := NoB) rfl (q_lenRd rfl Try.underlying22 rfl (hS7.rdl 2 rfl)) ?_
    refine wpL_q (U := NoB) rfl (q_gtr rfl rfl rfl) ?_
    exact ⟨a7_1, a7_2, a7_4, rfl, rfl⟩
  rintro f8 _ ⟨a8_1, a8_2, a8_4, a8_8, rfl⟩
  clear a7_1 a7_2 a7_4
  refine wpF_condP a8_8 (fun h1 => ?t26) (fun h1 => ?e26)
  case t26 =>
    refine wpF_seq ?_
    refine wpF_cut (fun f H => f 4 = PT g4 0 ∧ St H0 NoB NoB [blkE g4 (.cells #[I (2), I (-2)] 24), blkE g1 (.cells #[I (sg)] 3), rdE vl l] H) ?_ ?_
    · refine wpF_region ?_
      refine wpL_q (U := NoB) rfl (q_build (v := Value.agg #[I (2), I (-2)]) rfl (par2 (v0 := I (2)) (v1 := I (-2)) rfl rfl) (fun w => by kernel_rfl)) ?_
      refine wpL_o rfl ?_
      refine e_storeBlkA (cs' := #[I (2), I (-2)]) rfl a8_4 rfl Try.sizeOf24 rfl rfl (List.forall_mem_cons.2 ⟨rfl, List.forall_mem_cons.2 ⟨rfl, List.forall_mem_nil _⟩⟩) hS7 (fun H10 hS11 hxx => ?_)
      replace hS11 : St H0 NoB NoB [blkE g4 (.cells #[I (2), I (-2)] 24), blkE g1 (.cells #[I (sg)] 3), rdE vl l] H10 := hS11
      exact ⟨a8_4, hS11⟩
    rintro f12 H12 ⟨a12_4, hS12⟩
    clear a8_1 a8_2 a8_4 a8_8
    refine wpF_ret ?_
    refine ⟨_, resC a12_4 (loadV_blkA Try.isAgg24 Try.sizeOf24 rfl (hS12.blk 0 rfl)) (resN), hS12.frame, ?_⟩
    show (Value.agg #[I (2), I (-2)]) = Value.agg #[I (textFault sg l).1, I (textFault sg l).2]
    have hq := textFault_many (signs := sg) h1
    rw [hq]
  refine wpF_skip ?_
  refine wpF_seq ?_
  refine wpF_seq ?_
  refine wpF_cut (fun f H => f 4 = PT g4 0 ∧ f 5 = I (idxOf (signBad sg) l) ∧ St H0 NoB NoB [blkE g4 (.cells #[I (0), I (0)] 24), blkE g1 (.cells #[I (sg)] 3), rdE vl l] H) ?_ ?_
  · refine wpF_region ?_
    refine wpL_q (U := NoB) rfl (q_move (v := vl) rfl a8_1) ?_
    refine wpL_q (U := NoB) rfl (q_makeFunc (fi' := #[]) rfl (by simp) (arr1 (v0 := PT g1 0) a8_2)) ?_
    refine wpL_o rfl ?_
    refine e_call rfl Try.call50 (arr2 (v0 := vl) (v1 := Value.func (.func 51) #[] #[PT g1 0]) rfl rfl) (IndexFunc vl (Value.func (.func 51) #[] #[PT g1 0]) l (signBad sg) (hS7.rdN 2 rfl) (fun x hx H hE => ⟨_, _, rfl, Try.call51, Text_1 x g1 _ (hE.blk (hS7.blk 1 rfl))⟩)) ?_
    rintro _ H13 ⟨hxx, rfl⟩
    have hS14 : St H0 NoB NoB [blkE g4 (.cells #[I (0), I (0)] 24), blkE g1 (.cells #[I (sg)] 3), rdE vl l] H13 := hS7.ext hxx
    refine wpL_q (U := NoB) rfl (q_assign (v := I (idxOf (signBad sg) l)) rfl rfl) ?_
    exact ⟨a8_4, rfl, hS14⟩
  rintro f16 H16 ⟨a16_4, a16_5, hS16⟩
  clear a8_1 a8_2 a8_4 a8_8
  refine wpF_seq ?_
  refine wpF_cut (fun f H => f 4 = PT g4 0 ∧ f 5 = I (idxOf (signBad sg) l) ∧ f 14 = B (decide (0 ≤ (idxOf (signBad sg) l))) ∧ H16 = H) ?_ ?_
  · refine wpF_region ?_
    refine wpL_q (U := NoB) rfl (q_move (v := I (idxOf (signBad sg) l)) rfl a16_5) ?_
    refine wpL_q (U := NoB) rfl (q_geq rfl rfl rfl) ?_
    exact ⟨a16_4, a16_5, rfl, rfl⟩
  rintro f17 _ ⟨a17_4, a17_5, a17_14, rfl⟩
  clear a16_4 a16_5
  refine wpF_condP a17_14 (fun h2 => ?t25) (fun h2 => ?e25)
  case e25 =>
    refine wpF_skip ?_
    refine wpF_seq ?_
    refine wpF_cut (fun f H => f 4 = PT g4 0 ∧ St H0 NoB NoB [blkE g4 (.cells #[I (0), I (0)] 24), blkE g1 (.cells #[I (sg)] 3), rdE vl l] H) ?_ ?_
    · refine wpF_region ?_
      refine wpL_q (U := NoB) rfl (q_build (v := Value.agg #[I (0), I (0)]) rfl par0 (fun w => by kernel_rfl)) ?_
      refine wpL_o rfl ?_
      refine e_storeBlkA (cs' := #[I (0), I (0)]) rfl a17_4 rfl Try.sizeOf24 rfl rfl (List.forall_mem_cons.2 ⟨rfl, List.forall_mem_cons.2 ⟨rfl, List.forall_mem_nil _⟩⟩) hS16 (fun H22 hS23 hxx => ?_)
      replace hS23 : St H0 NoB NoB [blkE g4 (.cells #[I (0), I (0)] 24), blkE g1 (.cells #[I (sg)] 3), rdE vl l] H22 := hS23
      exact ⟨a17_4, hS23⟩
    rintro f24 H24 ⟨a24_4, hS24⟩
    clear a17_14 a17_4 a17_5
    refine wpF_ret ?_
    refine ⟨_, resC a24_4 (loadV_blkA Try.isAgg24 Try.sizeOf24 rfl (hS24.blk 0 rfl)) (resN), hS24.frame, ?_⟩
    show (Value.agg #[I (0), I (0)]) = Value.agg #[I (textFault sg l).1, I (textFault sg l).2]
    have hq := textFault_no h1 h2
    rw [hq]
  refine wpF_seq ?_
  refine wpF_cut (fun f H => f 4 = PT g4 0 ∧ St H0 NoB NoB [blkE g4 (.cells #[I (3), I ((-3) - (idxOf (signBad sg) l))] 24), blkE g1 (.cells #[I (sg)] 3), rdE vl l] H) ?_ ?_
  · refine wpF_region ?_
    refine wpL_q (U := NoB) rfl (q_move (v := I (idxOf (signBad sg) l)) rfl a17_5) ?_
    refine wpL_q (U := NoB) rfl (q_sub rfl rfl rfl (by have := idxOf_lt (g := signBad sg) (l := l); constructor <;> omega)) ?_
    refine wpL_q (U := NoB) rfl (q_build (v := Value.agg #[I (3), I ((-3) - (idxOf (signBad sg) l))]) rfl (par2 (v0 := I (3)) (v1 := I ((-3) - (idxOf (signBad sg) l))) rfl rfl) (fun w => by kernel_rfl)) ?_
    refine wpL_o rfl ?_
    refine e_storeBlkA (cs' := #[I (3), I ((-3) - (idxOf (signBad sg) l))]) rfl a17_4 rfl Try.sizeOf24 rfl rfl (List.forall_mem_cons.2 ⟨rfl, List.forall_mem_cons.2 ⟨rfl, List.forall_mem_nil _⟩⟩) hS16 (fun H19 hS20 hxx => ?_)
    replace hS20 : St H0 NoB NoB [blkE g4 (.cells #[I (3), I ((-3) - (idxOf (signBad sg) l))] 24), blkE g1 (.cells #[I (sg)] 3), rdE vl l] H19 := hS20
    exact ⟨a17_4, hS20⟩
  rintro f21 H21 ⟨a21_4, hS21⟩
  clear a17_14 a17_4 a17_5
  refine wpF_ret ?_
  refine ⟨_, resC a21_4 (loadV_blkA Try.isAgg24 Try.sizeOf24 rfl (hS21.blk 0 rfl)) (resN), hS21.frame, ?_⟩
  show (Value.agg #[I (3), I ((-3) - (idxOf (signBad sg) l))]) = Value.agg #[I (textFault sg l).1, I (textFault sg l).2]
  have hq := textFault_at h1 h2 rfl
  rw [hq]

set_option maxRecDepth 100000 in
theorem Text_R {H0 : Heap} (vl : Value) (sg : Int) (l : List Int) (rl : Rd NoB H0 vl l) : CallsH Try.prog 23 #[I (sg), vl] H0 (fun rv_ H' => Ext NoB H0 H' ∧ rv_ = Value.agg #[I (textFault sg l).1, I (textFault sg l).2]) := by
  have hsl := (Rd.list.1 rl).small
  have hS0 : St H0 NoB NoB [rdE vl l] H0 := St.arg (St.start (fun _ h => h.elim)) (Bl0.nil) rl (fun _ h => h)
  refine callsH_of_wpF (args := [I (sg), vl]) (rs := [.cell 4 24]) Try.func23 rfl Try.ntmps23 Try.results23 (by kernel_rfl) (Nat.le_of_ble_eq_true rfl) ?_
  have a0_0 : argF [I (sg), vl] 0 = I (sg) := rfl
  have a0_1 : argF [I (sg), vl] 1 = vl := rfl
  generalize argF [I (sg), vl] = f0 at *
  refine wpF_seq ?_
  refine wpF_cut (fun f H => ∃ (g1 : Nat), f 0 = I (sg) ∧ f 1 = vl ∧ f 4 = PT g1 0 ∧ St H0 NoB NoB [blkE g1 (.cells #[I (0), I (0)] 24), rdE vl l] H) ?_ ?_
  · refine wpF_region ?_
    refine wpL_o rfl ?_
    refine e_alloc rfl Try.zeroValue24 hS0 (fun g1 H2 hS3 hxx => ?_)
    replace hS3 : St H0 NoB NoB [blkE g1 (.cells #[I (0), I (0)] 24), rdE vl l] H2 := hS3
    exact ⟨g1, a0_0, a0_1, rfl, hS3⟩
  rintro f4 H4 ⟨g1, a4_0, a4_1, a4_4, hS4⟩
  clear a0_0 a0_1
  refine wpF_seq ?_
  refine wpF_seq ?_
  refine wpF_cut (fun f H => f 0 = I (sg) ∧ f 1 = vl ∧ f 4 = PT g1 0 ∧ f 8 = B (decide (30 < (l.length : Int))) ∧ H4 = H) ?_ ?_
  · refine wpF_region ?_
    refine wpL_q (U := NoB) rfl (q_move (v := vl) rfl a4_1) ?_
    refine wpL_q (U := NoB) rfl (q_lenRd rfl Try.underlying22 rfl (hS4.rdl 1 rfl)) ?_
    refine wpL_q (U := NoB) rfl (q_gtr rfl rfl rfl) ?_
    exact ⟨a4_0, a4_1, a4_4, rfl, rfl⟩
  rintro f5 _ ⟨a5_0, a5_1, a5_4, a5_8, rfl⟩
  clear a4_0 a4_1 a4_4
  refine wpF_condP a5_8 (fun h1 => ?t34) (fun h1 => ?e34)
  case t34 =>
    refine wpF_seq ?_
    refine wpF_cut (fun f H => f 4 = PT g1 0 ∧ St H0 NoB NoB [blkE g1 (.cells #[I (2), I (-2)] 24), rdE vl l] H) ?_ ?_
    · refine wpF_region ?_
      refine wpL_o rfl ?_
      refine e_call rfl Try.call47 (arr2 (v0 := I (2)) (v1 := I (-2)) rfl rfl) (fault_R 2 (-2)) ?_
      rintro _ H7 ⟨hxx, rfl⟩
      have hS8 : St H0 NoB NoB [blkE g1 (.cells #[I (0), I (0)] 24), rdE vl l] H7 := hS4.ext hxx
      refine wpL_o rfl ?_
      refine e_storeBlkA (cs' := #[I (2), I (-2)]) rfl a5_4 rfl Try.sizeOf24 rfl rfl (List.forall_mem_cons.2 ⟨rfl, List.forall_mem_cons.2 ⟨rfl, List.forall_mem_nil _⟩⟩) hS8 (fun H10 hS11 hxx => ?_)
      replace hS11 : St H0 NoB NoB [blkE g1 (.cells #[I (2), I (-2)] 24), rdE vl l] H10 := hS11
      exact ⟨a5_4, hS11⟩
    rintro f12 H12 ⟨a12_4, hS12⟩
    clear a5_0 a5_1 a5_4 a5_8
    refine wpF_ret ?_
    refine ⟨_, resC a12_4 (loadV_blkA Try.isAgg24 Try.sizeOf24 rfl (hS12.blk 0 rfl)) (resN), hS12.frame, ?_⟩
    show (Value.agg #[I (2), I (-2)]) = Value.agg #[I (textFault sg l).1, I (textFault sg l).2]
    have hq := textFault_many (signs := sg) h1
    rw [hq]
  refine wpF_skip ?_
  refine wpF_seq ?_
  refine wpF_seq ?_
  refine wpF_cut (fun f H => f 0 = I (sg) ∧ f 1 = vl ∧ f 4 = PT g1 0 ∧ f 5 = I (0) ∧ H4 = H) ?_ ?_
  · refine wpF_region ?_
    refine wpL_q (U := NoB) rfl (q_assign (v := I (0)) rfl rfl) ?_
    exact ⟨a5_0, a5_1, a5_4, rfl, rfl⟩
  rintro f13 _ ⟨a13_0, a13_1, a13_4, a13_5, rfl⟩
  clear a5_0 a5_1 a5_4 a5_8
  refine wpF_block ?_
  refine wpF_loop (fun mz f H => ∃ (k : Nat), mz = l.length - k ∧ (k ≤ l.length) ∧ (∀ j, j < k → signBad sg (nth l j) = false) ∧ f 0 = I (sg) ∧ f 1 = vl ∧ f 4 = PT g1 0 ∧ f 5 = I ((k : Int)) ∧ St H0 NoB NoB [blkE g1 (.cells #[I (0), I (0)] 24), rdE vl l] H) (l.length - 0) ?_ ?_
  · exact ⟨0, rfl, Nat.zero_le _, (fun j hj => absurd hj (Nat.not_lt_zero j)), a13_0, a13_1, a13_4, (Eq.trans a13_5 (congrArg I (by omega))), hS4⟩
  intro m14 f14 H14 hI14
  obtain ⟨k, hm14, hk, hp, a14_0, a14_1, a14_4, a14_5, hS14⟩ := hI14
  clear a13_0 a13_1 a13_4 a13_5
  refine wpF_seq ?_
  refine wpF_seq ?_
  refine wpF_cut (fun f H => f 0 = I (sg) ∧ f 1 = vl ∧ f 4 = PT g1 0 ∧ f 5 = I ((k : Int)) ∧ f 13 = B (decide ((k : Int) < (l.length : Int))) ∧ H14 = H) ?_ ?_
  · refine wpF_region ?_
    refine wpL_q (U := NoB) rfl (q_move (v := I ((k : Int))) rfl a14_5) ?_
    refine wpL_q (U := NoB) rfl (q_move (v := vl) rfl a14_1) ?_
    refine wpL_q (U := NoB) rfl (q_lenRd rfl Try.underlying22 rfl (hS14.rdl 1 rfl)) ?_
    refine wpL_q (U := NoB) rfl (q_lss rfl rfl rfl) ?_
    exact ⟨a14_0, a14_1, a14_4, a14_5, rfl, rfl⟩
  rintro f15 _ ⟨a15_0, a15_1, a15_4, a15_5, a15_13, rfl⟩
  clear a14_0 a14_1 a14_4 a14_5
  refine wpF_condP a15_13 (fun hlt => ?t33) (fun hlt => ?e33)
  case e33 =>
    refine wpF_exit ?_
    refine atX_here ?_
    refine wpF_seq ?_
    refine wpF_cut (fun f H => f 4 = PT g1 0 ∧ St H0 NoB NoB [blkE g1 (.cells #[I (0), I (0)] 24), rdE vl l] H) ?_ ?_
    · refine wpF_region ?_
      refine wpL_q (U := NoB) rfl (q_build (v := Value.agg #[I (0), I (0)]) rfl par0 (fun w => by kernel_rfl)) ?_
      refine wpL_o rfl ?_
      refine e_storeBlkA (cs' := #[I (0), I (0)]) rfl a15_4 rfl Try.sizeOf24 rfl rfl (List.forall_mem_cons.2 ⟨rfl, List.forall_mem_cons.2 ⟨rfl, List.forall_mem_nil _⟩⟩) hS14 (fun H30 hS31 hxx => ?_)
      replace hS31 : St H0 NoB NoB [blkE g1 (.cells #[I (0), I (0)] 24), rdE vl l] H30 := hS31
      exact ⟨a15_4, hS31⟩
    rintro f32 H32 ⟨a32_4, hS32⟩
    clear a15_0 a15_1 a15_13 a15_4 a15_5
    refine wpF_ret ?_
    refine ⟨_, resC a32_4 (loadV_blkA Try.isAgg24 Try.sizeOf24 rfl (hS32.blk 0 rfl)) (resN), hS32.frame, ?_⟩
    show (Value.agg #[I (0), I (0)]) = Value.agg #[I (textFault sg l).1, I (textFault sg l).2]
    have hq := textFault_none h1 fun j hj => hp j (by omega)
    rw [hq]
  refine wpF_skip ?_
  refine wpF_seq ?_
  refine wpF_block ?_
  refine wpF_seq ?_
  refine wpF_cut (fun f H => f 0 = I (sg) ∧ f 1 = vl ∧ f 4 = PT g1 0 ∧ f 5 = I ((k : Int)) ∧ f 28 = B (decide (((nth l k) < 0) ∨ (sg ≤ (nth l k)))) ∧ H14 = H) ?_ ?_
  · refine wpF_region ?_
    refine wpL_q (U := NoB) rfl (q_move (v := vl) rfl a15_1) ?_
    refine wpL_q (U := NoB) rfl (q_move (v := I ((k : Int))) rfl a15_5) ?_
    refine wpL_q (U := NoB) rfl (q_indexRd (k := k) rfl Try.underlying22 el_Int_3_AutoA2 rfl rfl (hS14.rdl 1 rfl) (by omega) (by omega)) ?_
    refine wpL_q (U := NoB) rfl (q_loadInt (k := k) rfl rfl el_Int_3_AutoA2 (hS14.rdl 1 rfl) (by omega) (fun _ h => h)) ?_
    refine wpL_q (U := NoB) rfl (q_lss rfl rfl rfl) ?_
    refine wpL_q (U := NoB) rfl (q_move (v := B (decide ((nth l k) < 0))) rfl rfl) ?_
    by_cases hg17 : (nth l k) < 0
    · have hb18 := Eq.trans rfl (congrArg B (decide_eq_true hg17))
      refine wpL_gs rfl rfl rfl hb18 rfl ?_
      refine wpL_gs rfl rfl rfl hb18 rfl ?_
      refine wpL_gs rfl rfl rfl hb18 rfl ?_
      refine wpL_gs rfl rfl rfl hb18 rfl ?_
      refine wpL_gs rfl rfl rfl hb18 rfl ?_
      refine wpL_gs rfl rfl rfl hb18 rfl ?_
      refine wpL_q (U := NoB) rfl (q_pickT (v := B (true)) rfl hb18 rfl) ?_
      exact ⟨a15_0, a15_1, a15_4, a15_5, (Eq.trans rfl (congrArg B ((decide_eq_true (Or.inl hg17)).symm))), rfl⟩
    · have hb19 := Eq.trans rfl (congrArg B (decide_eq_false hg17))
      refine wpL_gq (U := NoB) rfl rfl rfl hb19 (q_move (v := vl) rfl a15_1) ?_
      refine wpL_gq (U := NoB) rfl rfl rfl hb19 (q_move (v := I ((k : Int))) rfl a15_5) ?_
      refine wpL_gq (U := NoB) rfl rfl rfl hb19 (q_indexRd (k := k) rfl Try.underlying22 el_Int_3_AutoA2 rfl rfl (hS14.rdl 1 rfl) (by omega) (by omega)) ?_
      refine wpL_gq (U := NoB) rfl rfl rfl hb19 (q_loadInt (k := k) rfl rfl el_Int_3_AutoA2 (hS14.rdl 1 rfl) (by omega) (fun _ h => h)) ?_
      refine wpL_gq (U := NoB) rfl rfl rfl hb19 (q_move (v := I (sg)) rfl a15_0) ?_
      refine wpL_gq (U := NoB) rfl rfl rfl hb19 (q_geq rfl rfl rfl) ?_
      refine wpL_q (U := NoB) rfl (q_pickF (v := B (decide (sg ≤ (nth l k)))) rfl hb19 rfl) ?_
      exact ⟨a15_0, a15_1, a15_4, a15_5, (Eq.trans rfl (congrArg B (decide_congr_of ((Iff.rfl).trans (((or_iff_right hg17).trans Iff.rfl)).symm)))), rfl⟩
  rintro f20 _ ⟨a20_0, a20_1, a20_4, a20_5, a20_28, rfl⟩
  clear a15_0 a15_1 a15_13 a15_4 a15_5
  refine wpF_condP a20_28 (fun h2 => ?t29) (fun h2 => ?e29)
  case e29 =>
    refine wpF_skip ?_
    refine wpF_cut (fun f H => f 0 = I (sg) ∧ f 1 = vl ∧ f 4 = PT g1 0 ∧ f 5 = I ((k : Int) + 1) ∧ H14 = H) ?_ ?_
    · refine wpF_region ?_
      refine wpL_q (U := NoB) rfl (q_move (v := I ((k : Int))) rfl a20_5) ?_
      refine wpL_q (U := NoB) rfl (q_add rfl rfl rfl (by constructor <;> omega)) ?_
      refine wpL_q (U := NoB) rfl (q_assign (v := I ((k : Int) + 1)) rfl rfl) ?_
      exact ⟨a20_0, a20_1, a20_4, rfl, rfl⟩
    rintro f28 _ ⟨a28_0, a28_1, a28_4, a28_5, rfl⟩
    clear a20_0 a20_1 a20_28 a20_4 a20_5
    refine ⟨_, ?_, k + 1, rfl, (by omega), (all_succ hp (signBad_no h2)), a28_0, a28_1, a28_4, (Eq.trans a28_5 (congrArg I (by omega))), hS14⟩
    omega
  refine wpF_seq ?_
  refine wpF_cut (fun f H => f 4 = PT g1 0 ∧ St H0 NoB NoB [blkE g1 (.cells #[I (3), I ((-3) - (k : Int))] 24), rdE vl l] H) ?_ ?_
  · refine wpF_region ?_
    refine wpL_q (U := NoB) rfl (q_move (v := I ((k : Int))) rfl a20_5) ?_
    refine wpL_q (U := NoB) rfl (q_sub rfl rfl rfl (by constructor <;> omega)) ?_
    refine wpL_o rfl ?_
    refine e_call rfl Try.call47 (arr2 (v0 := I (3)) (v1 := I ((-3) - (k : Int))) rfl rfl) (fault_R 3 ((-3) - (k : Int))) ?_
    rintro _ H22 ⟨hxx, rfl⟩
    have hS23 : St H0 NoB NoB [blkE g1 (.cells #[I (0), I (0)] 24), rdE vl l] H22 := hS14.ext hxx
    refine wpL_o rfl ?_
    refine e_storeBlkA (cs' := #[I (3), I ((-3) - (k : Int))]) rfl a20_4 rfl Try.sizeOf24 rfl rfl (List.forall_mem_cons.2 ⟨rfl, List.forall_mem_cons.2 ⟨rfl, List.forall_mem_nil _⟩⟩) hS23 (fun H25 hS26 hxx => ?_)
    replace hS26 : St H0 NoB NoB [blkE g1 (.cells #[I (3), I ((-3) - (k : Int))] 24), rdE vl l] H25 := hS26
    exact ⟨a20_4, hS26⟩
  rintro f27 H27 ⟨a27_4, hS27⟩
  clear a20_0 a20_1 a20_28 a20_4 a20_5
  refine wpF_ret ?_
  refine ⟨_, resC a27_4 (loadV_blkA Try.isAgg24 Try.sizeOf24 rfl (hS27.blk 0 rfl)) (resN), hS27.frame, ?_⟩
  show (Value.agg #[I (3), I ((-3) - (k : Int))]) = Value.agg #[I (textFault sg l).1, I (textFault sg l).2]
  have hq := textFault_at h1 (i := (k : Int)) (by omega) (idxOf_at (by omega) hp (signBad_is h2))
  rw [hq]

set_option maxRecDepth 100000 in
theorem Run {H0 : Heap} (vn vt vl : Value) (a : Auto) (l : List Int) (rn : Rd NoB H0 vn a.Next) (rt : Rd NoB H0 vt a.Takes) (hsg : In64 a.Signs) (rl : Rd NoB H0 vl l) (hW : WF a) (hl : ∀ c ∈ l, 0 ≤ c ∧ c < a.Signs) : CallsH Try.prog 52 #[Value.agg #[I (a.Signs), vn, vt], vl] H0 (fun rv_ H' => Ext NoB H0 H' ∧ rv_ = I (runA a 0 l)) := by
  have hsn := (Rd.list.1 rn).small
  have hst := (Rd.list.1 rt).small
  have hsl := (Rd.list.1 rl).small
  have hm := hW.many
  have hS0 : St H0 NoB NoB [rdE vn a.Next, rdE vt a.Takes, rdE vl l] H0 := St.arg (St.arg (St.arg (St.start (fun _ h => h.elim)) (Bl0.nil) rl (fun _ h => h)) (Bl0.cons (Bl0.nil)) rt (fun _ h => h)) (Bl0.cons (Bl0.cons (Bl0.nil))) rn (fun _ h => h)
  refine callsH_of_wpF (args := [Value.agg #[I (a.Signs), vn, vt], vl]) (rs := [.tmp 4]) Try.func52 rfl Try.ntmps52 Try.results52 (by kernel_rfl) (Nat.le_of_ble_eq_true rfl) ?_
  have a0_0 : argF [Value.agg #[I (a.Signs), vn, vt], vl] 0 = Value.agg #[I (a.Signs), vn, vt] := rfl
  have a0_1 : argF [Value.agg #[I (a.Signs), vn, vt], vl] 1 = vl := rfl
  generalize argF [Value.agg #[I (a.Signs), vn, vt], vl] = f0 at *
  refine wpF_seq ?_
  refine wpF_cut (fun f H => ∃ (g1 : Nat), f 1 = vl ∧ f 2 = PT g1 0 ∧ St H0 NoB NoB [blkE g1 (.cells #[I (a.Signs), vn, vt] 36), rdE vn a.Next, rdE vt a.Takes, rdE vl l] H) ?_ ?_
  · refine wpF_region ?_
    refine wpL_o rfl ?_
    refine e_box (v := Value.agg #[I (a.Signs), vn, vt]) rfl a0_0 hS0 (fun g1 H2 hS3 hxx => ?_)
    replace hS3 : St H0 NoB NoB [blkE g1 (.cells #[I (a.Signs), vn, vt] 36), rdE vn a.Next, rdE vt a.Takes, rdE vl l] H2 := hS3
    refine wpL_q (U := NoB) rfl (q_assign (v := I (0)) rfl rfl) ?_
    exact ⟨g1, a0_1, rfl, hS3⟩
  rintro f4 H4 ⟨g1, a4_1, a4_2, hS4⟩
  clear a0_0 a0_1
  refine wpF_seq ?_
  refine wpF_cut (fun f H => f 1 = vl ∧ f 2 = PT g1 0 ∧ f 5 = I (0) ∧ H4 = H) ?_ ?_
  · refine wpF_region ?_
    refine wpL_q (U := NoB) rfl (q_assign (v := I (0)) rfl rfl) ?_
    exact ⟨a4_1, a4_2, rfl, rfl⟩
  rintro f5 _ ⟨a5_1, a5_2, a5_5, rfl⟩
  clear a4_1 a4_2
  refine wpF_seq ?_
  refine wpF_seq ?_
  refine wpF_cut (fun f H => f 2 = PT g1 0 ∧ f 5 = I (0) ∧ f 8 = vl ∧ f 9 = I ((l.length : Int)) ∧ f 10 = I (0) ∧ H4 = H) ?_ ?_
  · refine wpF_region ?_
    refine wpL_q (U := NoB) rfl (q_move (v := vl) rfl a5_1) ?_
    refine wpL_q (U := NoB) rfl (q_lenRd rfl Try.underlying22 rfl (hS4.rdl 3 rfl)) ?_
    refine wpL_q (U := NoB) rfl (q_move (v := I (0)) rfl rfl) ?_
    exact ⟨a5_2, a5_5, rfl, rfl, rfl, rfl⟩
  rintro f6 _ ⟨a6_2, a6_5, a6_8, a6_9, a6_10, rfl⟩
  clear a5_1 a5_2 a5_5
  refine wpF_block ?_
  refine wpF_loop (fun mz f H => ∃ (k : Nat), mz = l.length - k ∧ (k ≤ l.length) ∧ (0 ≤ runA a 0 (l.take k) ∧ runA a 0 (l.take k) < (a.Next.length : Int)) ∧ f 2 = PT g1 0 ∧ f 5 = I (runA a 0 (l.take k)) ∧ f 8 = vl ∧ f 9 = I ((l.length : Int)) ∧ f 10 = I ((k : Int)) ∧ St H0 NoB NoB [blkE g1 (.cells #[I (a.Signs), vn, vt] 36), rdE vn a.Next, rdE vt a.Takes, rdE vl l] H) (l.length - 0) ?_ ?_
  · exact ⟨0, rfl, Nat.zero_le _, (by show (0:Int) ≤ 0 ∧ (0:Int) < _; omega), a6_2, a6_5, a6_8, a6_9, (Eq.trans a6_10 (congrArg I (by omega))), hS4⟩
  intro m7 f7 H7 hI7
  obtain ⟨k, hm7, hk, hr, a7_2, a7_5, a7_8, a7_9, a7_10, hS7⟩ := hI7
  clear a6_10 a6_2 a6_5 a6_8 a6_9
  refine wpF_seq ?_
  refine wpF_cut (fun f H => f 2 = PT g1 0 ∧ f 5 = I (runA a 0 (l.take k)) ∧ f 8 = vl ∧ f 9 = I ((l.length : Int)) ∧ f 10 = I ((k : Int)) ∧ f 11 = B (decide ((k : Int) < (l.length : Int))) ∧ H7 = H) ?_ ?_
  · refine wpF_region ?_
    refine wpL_q (U := NoB) rfl (q_lss rfl a7_10 a7_9) ?_
    exact ⟨a7_2, a7_5, a7_8, a7_9, a7_10, rfl, rfl⟩
  rintro f8 _ ⟨a8_2, a8_5, a8_8, a8_9, a8_10, a8_11, rfl⟩
  clear a7_10 a7_2 a7_5 a7_8 a7_9
  refine wpF_seq ?_
  refine wpF_condP a8_11 (fun hlt => ?t16) (fun hlt => ?e16)
  case e16 =>
    refine wpF_exit ?_
    refine atX_here ?_
    refine wpF_seq ?_
    refine wpF_cut (fun f H => f 4 = I (runA a 0 (l.take k)) ∧ H7 = H) ?_ ?_
    · refine wpF_region ?_
      refine wpL_q (U := NoB) rfl (q_move (v := I (runA a 0 (l.take k))) rfl a8_5) ?_
      refine wpL_q (U := NoB) rfl (q_assign (v := I (runA a 0 (l.take k))) rfl rfl) ?_
      exact ⟨rfl, rfl⟩
    rintro f15 _ ⟨a15_4, rfl⟩
    clear a8_10 a8_11 a8_2 a8_5 a8_8 a8_9
    refine wpF_ret ?_
    refine ⟨_, resT a15_4 resN, hS7.frame, ?_⟩
    show (I (runA a 0 (l.take k))) = I (runA a 0 l)
    exact congrArg I (by rw [List.take_of_length_le (by omega)])
  refine wpF_skip ?_
  refine wpF_seq ?_
  refine wpF_block ?_
  refine wpF_seq ?_
  refine wpF_cut (fun f H => f 2 = PT g1 0 ∧ f 5 = I (runA a 0 (l.take k)) ∧ f 7 = I (nth l k) ∧ f 8 = vl ∧ f 9 = I ((l.length : Int)) ∧ f 10 = I ((k : Int)) ∧ H7 = H) ?_ ?_
  · refine wpF_region ?_
    refine wpL_q (U := NoB) rfl (q_indexRd (k := k) rfl Try.underlying22 el_Int_3_AutoA2 a8_8 a8_10 (hS7.rdl 3 rfl) (by omega) (by omega)) ?_
    refine wpL_q (U := NoB) rfl (q_loadInt (k := k) rfl rfl el_Int_3_AutoA2 (hS7.rdl 3 rfl) (by omega) (fun _ h => h)) ?_
    refine wpL_q (U := NoB) rfl (q_assign (v := I (nth l k)) rfl rfl) ?_
    exact ⟨a8_2, a8_5, rfl, a8_8, a8_9, a8_10, rfl⟩
  rintro f10 _ ⟨a10_2, a10_5, a10_7, a10_8, a10_9, a10_10, rfl⟩
  clear a8_10 a8_11 a8_2 a8_5 a8_8 a8_9
  have hrow := hW.rows (runA a 0 (l.take k)).toNat (by omega)
  have hc := hl _ (nth_mem (k := k) (l := l) (by omega))
  obtain ⟨u11, huu11, hlu11⟩ := (Rd.list.1 (hS7.rdS 1 rfl)).elem ((runA a 0 (l.take k)).toNat) (by omega)
  have hS12 : St H0 NoB NoB [rdE u11 (nth a.Next ((runA a 0 (l.take k)).toNat)), blkE g1 (.cells #[I (a.Signs), vn, vt] 36), rdE vn a.Next, rdE vt a.Takes, rdE vl l] H7 := hS7.rd huu11
  refine wpF_cut (fun f H => f 2 = PT g1 0 ∧ f 5 = I (nth (nth a.Next ((runA a 0 (l.take k)).toNat)) ((nth l k).toNat)) ∧ f 8 = vl ∧ f 9 = I ((l.length : Int)) ∧ f 10 = I ((k : Int)) ∧ H7 = H) ?_ ?_
  · refine wpF_region ?_
    refine wpL_q (U := NoB) rfl (q_fieldAddr rfl Try.underlying36 rfl Try.sizeOf27 a10_2) ?_
    refine wpL_q (U := NoB) rfl (q_loadBlk rfl rfl Try.isAgg27 (hS7.blk 0 rfl) rfl (fun h => h)) ?_
    refine wpL_q (U := NoB) rfl (q_move (v := I (runA a 0 (l.take k))) rfl a10_5) ?_
    refine wpL_q (U := NoB) rfl (q_indexRd (k := (runA a 0 (l.take k)).toNat) rfl Try.underlying27 el_LInt_22_AutoA2 rfl rfl (hS7.rdl 1 rfl) (by omega) (by omega)) ?_
    refine wpL_q (U := NoB) rfl (q_loadE rfl rfl (hlu11 Try.prog 22 _ el_LInt_22_AutoA2 (fun _ h => False.elim h))) ?_
    refine wpL_q (U := NoB) rfl (q_move (v := I (nth l k)) rfl a10_7) ?_
    refine wpL_q (U := NoB) rfl (q_indexRd (k := (nth l k).toNat) rfl Try.underlying22 el_Int_3_AutoA2 rfl rfl (hS12.rdl 0 rfl) (by omega) (by omega)) ?_
    refine wpL_q (U := NoB) rfl (q_loadInt (k := (nth l k).toNat) rfl rfl el_Int_3_AutoA2 (hS12.rdl 0 rfl) (by omega) (fun _ h => h)) ?_
    refine wpL_q (U := NoB) rfl (q_assign (v := I (nth (nth a.Next ((runA a 0 (l.take k)).toNat)) ((nth l k).toNat))) rfl rfl) ?_
    exact ⟨a10_2, rfl, a10_8, a10_9, a10_10, rfl⟩
  rintro f13 _ ⟨a13_2, a13_5, a13_8, a13_9, a13_10, rfl⟩
  clear a10_10 a10_2 a10_5 a10_7 a10_8 a10_9
  refine wpF_cut (fun f H => f 2 = PT g1 0 ∧ f 5 = I (nth (nth a.Next ((runA a 0 (l.take k)).toNat)) ((nth l k).toNat)) ∧ f 8 = vl ∧ f 9 = I ((l.length : Int)) ∧ f 10 = I ((k : Int) + 1) ∧ H7 = H) ?_ ?_
  · refine wpF_region ?_
    refine wpL_q (U := NoB) rfl (q_add rfl a13_10 rfl (by constructor <;> omega)) ?_
    refine wpL_q (U := NoB) rfl (q_move (v := I ((k : Int) + 1)) rfl rfl) ?_
    exact ⟨a13_2, a13_5, a13_8, a13_9, rfl, rfl⟩
  rintro f14 _ ⟨a14_2, a14_5, a14_8, a14_9, a14_10, rfl⟩
  clear a13_10 a13_2 a13_5 a13_8 a13_9
  refine ⟨_, ?_, k + 1, rfl, (by omega), (by rw [runA_take (by omega)]; exact hW.step hr hc), a14_2, (Eq.trans a14_5 (congrArg I (runA_take (by omega)).symm)), a14_8, a14_9, (Eq.trans a14_10 (congrArg I (by omega))), hS7⟩
  omega

set_option maxRecDepth 100000 in
theorem Takes_R : ∀ (nn : Nat) {H0 : Heap} (vn vt vl : Value) (a : Auto) (s : Int) (l : List Int) (_rn : Rd NoB H0 vn a.Next) (_rt : Rd NoB H0 vt a.Takes) (_hsg : In64 a.Signs) (_rl : Rd NoB H0 vl l) (_hW : WF a) (_hs : 0 ≤ s ∧ s < (a.Next.length : Int)) (_hl : ∀ c ∈ l, 0 ≤ c ∧ c < a.Signs) (_hn : l.length = nn), CallsH Try.prog 26 #[Value.agg #[I (a.Signs), vn, vt], I (s), vl] H0 (fun rv_ H' => Ext NoB H0 H' ∧ rv_ = B (takesA a s l)) := by
  intro nn
  induction nn using Nat.strongRecOn with
  | _ nn ih =>
  intro H0 vn vt vl a s l rn rt hsg rl hW hs hl hnn
  have hsn := (Rd.list.1 rn).small
  have hst := (Rd.list.1 rt).small
  have hsl := (Rd.list.1 rl).small
  have hm := hW.takes
  have hS0 : St H0 NoB NoB [rdE vn a.Next, rdE vt a.Takes, rdE vl l] H0 := St.arg (St.arg (St.arg (St.start (fun _ h => h.elim)) (Bl0.nil) rl (fun _ h => h)) (Bl0.cons (Bl0.nil)) rt (fun _ h => h)) (Bl0.cons (Bl0.cons (Bl0.nil))) rn (fun _ h => h)
  refine callsH_of_wpF (args := [Value.agg #[I (a.Signs), vn, vt], I (s), vl]) (rs := [.tmp 6]) Try.func26 rfl Try.ntmps26 Try.results26 (by kernel_rfl) (Nat.le_of_ble_eq_true rfl) ?_
  have a0_0 : argF [Value.agg #[I (a.Signs), vn, vt], I (s), vl] 0 = Value.agg #[I (a.Signs), vn, vt] := rfl
  have a0_1 : argF [Value.agg #[I (a.Signs), vn, vt], I (s), vl] 1 = I (s) := rfl
  have a0_2 : argF [Value.agg #[I (a.Signs), vn, vt], I (s), vl] 2 = vl := rfl
  generalize argF [Value.agg #[I (a.Signs), vn, vt], I (s), vl] = f0 at *
  refine wpF_seq ?_
  refine wpF_cut (fun f H => ∃ (g1 : Nat), f 1 = I (s) ∧ f 2 = vl ∧ f 3 = PT g1 0 ∧ St H0 NoB NoB [blkE g1 (.cells #[I (a.Signs), vn, vt] 36), rdE vn a.Next, rdE vt a.Takes, rdE vl l] H) ?_ ?_
  · refine wpF_region ?_
    refine wpL_o rfl ?_
    refine e_box (v := Value.agg #[I (a.Signs), vn, vt]) rfl a0_0 hS0 (fun g1 H2 hS3 hxx => ?_)
    replace hS3 : St H0 NoB NoB [blkE g1 (.cells #[I (a.Signs), vn, vt] 36), rdE vn a.Next, rdE vt a.Takes, rdE vl l] H2 := hS3
    refine wpL_q (U := NoB) rfl (q_assign (v := B (false)) rfl rfl) ?_
    exact ⟨g1, a0_1, a0_2, rfl, hS3⟩
  rintro f4 H4 ⟨g1, a4_1, a4_2, a4_3, hS4⟩
  clear a0_0 a0_1 a0_2
  refine wpF_seq ?_
  refine wpF_seq ?_
  refine wpF_cut (fun f H => f 1 = I (s) ∧ f 2 = vl ∧ f 3 = PT g1 0 ∧ f 9 = B (decide ((l.length : Int) = 0)) ∧ H4 = H) ?_ ?_
  · refine wpF_region ?_
    refine wpL_q (U := NoB) rfl (q_move (v := vl) rfl a4_2) ?_
    refine wpL_q (U := NoB) rfl (q_lenRd rfl Try.underlying22 rfl (hS4.rdl 3 rfl)) ?_
    refine wpL_q (U := NoB) rfl (q_eql rfl rfl rfl) ?_
    exact ⟨a4_1, a4_2, a4_3, rfl, rfl⟩
  rintro f5 _ ⟨a5_1, a5_2, a5_3, a5_9, rfl⟩
  clear a4_1 a4_2 a4_3
  refine wpF_condP a5_9 (fun h0 => ?t10) (fun h0 => ?e10)
  case t10 =>
    refine wpF_seq ?_
    refine wpF_cut (fun f H => f 6 = B (nth a.Takes ((s).toNat)) ∧ H4 = H) ?_ ?_
    · refine wpF_region ?_
      refine wpL_q (U := NoB) rfl (q_fieldAddr rfl Try.underlying36 rfl Try.sizeOf32 a5_3) ?_
      refine wpL_q (U := NoB) rfl (q_loadBlk rfl rfl Try.isAgg32 (hS4.blk 0 rfl) rfl (fun h => h)) ?_
      refine wpL_q (U := NoB) rfl (q_move (v := I (s)) rfl a5_1) ?_
      refine wpL_q (U := NoB) rfl (q_indexRd (k := (s).toNat) rfl Try.underlying32 el_Bool_4_AutoA2 rfl rfl (hS4.rdl 2 rfl) (by omega) (by omega)) ?_
      refine wpL_q (U := NoB) rfl (q_loadBool (k := (s).toNat) rfl rfl el_Bool_4_AutoA2 (hS4.rdl 2 rfl) (by omega) (fun _ h => h)) ?_
      refine wpL_q (U := NoB) rfl (q_assign (v := B (nth a.Takes ((s).toNat))) rfl rfl) ?_
      exact ⟨rfl, rfl⟩
    rintro f7 _ ⟨a7_6, rfl⟩
    clear a5_1 a5_2 a5_3 a5_9
    refine wpF_ret ?_
    refine ⟨_, resT a7_6 resN, hS4.frame, ?_⟩
    show (B (nth a.Takes ((s).toNat))) = B (takesA a s l)
    exact congrArg B (takesA_nil (by omega)).symm
  have hlen : 0 < l.length := by omega
  have hrow := hW.rows s.toNat (by omega)
  have hc := hl _ (nth_mem hlen)
  refine wpF_skip ?_
  refine wpF_seq ?_
  obtain ⟨u8o5, huu8o5, hlu8o5⟩ := (Rd.list.1 (hS4.rdS 1 rfl)).elem ((s).toNat) (by omega)
  have hS8o5 : St H0 NoB NoB [rdE u8o5 (nth a.Next ((s).toNat)), blkE g1 (.cells #[I (a.Signs), vn, vt] 36), rdE vn a.Next, rdE vt a.Takes, rdE vl l] H4 := hS4.rd huu8o5
  refine wpF_cut (fun f H => f 6 = B (takesA a (nth (nth a.Next ((s).toNat)) ((nth l 0).toNat)) (l.drop 1)) ∧ St H0 NoB NoB [blkE g1 (.cells #[I (a.Signs), vn, vt] 36), rdE vn a.Next, rdE vt a.Takes, rdE vl l] H) ?_ ?_
  · refine wpF_drawn [] [] (fun _ _ => False) (by kernel_rfl) (by kernel_rfl) ?_
    refine wpR_q 0 (by kernel_rfl) rfl (quietAt rfl rfl (q_loadBlkA rfl a5_3 Try.isAgg36 Try.sizeOf36 rfl (hS4.blk 0 rfl) (labU_not [] rfl (List.forall_mem_nil _)))) ?_
    refine wpR_q 1 (by kernel_rfl) rfl (quietAt rfl rfl (q_fieldAddr rfl Try.underlying36 rfl Try.sizeOf27 a5_3)) ?_
    refine wpR_q 2 (by kernel_rfl) rfl (quietAt rfl rfl (q_loadBlk rfl rfl Try.isAgg27 (hS4.blk 0 rfl) rfl (labU_not [] rfl (List.forall_mem_nil _)))) ?_
    refine wpR_q 3 (by kernel_rfl) rfl (quietAt rfl rfl (q_move (v := I (s)) rfl a5_1)) ?_
    refine wpR_q 4 (by kernel_rfl) rfl (quietAt rfl rfl (q_indexRd (k := (s).toNat) rfl Try.underlying27 el_LInt_22_AutoA2 rfl rfl (hS4.rdl 1 rfl) (by omega) (by omega))) ?_
    refine wpR_q 5 (by kernel_rfl) rfl (quietAt rfl rfl (q_loadE rfl rfl (hlu8o5 Try.prog 22 _ el_LInt_22_AutoA2 (labU_sub [] rfl (List.forall_mem_nil _))))) ?_
    refine wpR_q 6 (by kernel_rfl) rfl (quietAt rfl rfl (q_move (v := vl) rfl a5_2)) ?_
    refine wpR_q 7 (by kernel_rfl) rfl (quietAt rfl rfl (q_indexRd (k := 0) rfl Try.underlying22 el_Int_3_AutoA2 rfl rfl (hS8o5.rdl 4 rfl) (by omega) (by omega))) ?_
    refine wpR_q 8 (by kernel_rfl) rfl (quietAt rfl rfl (q_loadInt (k := 0) rfl rfl el_Int_3_AutoA2 (hS8o5.rdl 4 rfl) (by omega) (labU_sub [] rfl (List.forall_mem_nil _)))) ?_
    refine wpR_q 9 (by kernel_rfl) rfl (quietAt rfl rfl (q_indexRd (k := (nth l 0).toNat) rfl Try.underlying22 el_Int_3_AutoA2 rfl rfl (hS8o5.rdl 0 rfl) (by omega) (by omega))) ?_
    refine wpR_q 10 (by kernel_rfl) rfl (quietAt rfl rfl (q_loadInt (k := (nth l 0).toNat) rfl rfl el_Int_3_AutoA2 (hS8o5.rdl 0 rfl) (by omega) (labU_sub [] rfl (List.forall_mem_nil _)))) ?_
    refine wpR_q 11 (by kernel_rfl) rfl (quietAt rfl rfl (q_move (v := vl) rfl a5_2)) ?_
    have hS8o12 : St H0 NoB NoB [rdE (sliceV 1 vl 1 l.length) (l.drop 1 : List Int), rdE u8o5 (nth a.Next ((s).toNat)), blkE g1 (.cells #[I (a.Signs), vn, vt] 36), rdE vn a.Next, rdE vt a.Takes, rdE vl l] H4 := hS8o5.rd (Rd.list.2 (sliceV_lo (k := 1) (Rd.list.1 (hS8o5.rdS 4 rfl)) (by omega)))
    refine wpR_q 12 (by kernel_rfl) rfl (quietAt rfl rfl (q_sliceRd (k := 1) (m := l.length) rfl Try.underlying22 el_Int_3_AutoA2 rfl (hS8o5.rdl 4 rfl) (lo1 rfl (by omega)) hi0 (by omega) (by omega))) ?_
    refine wpR_n [13] (by kernel_rfl) ?_
    refine List.forall_mem_cons.2 ⟨?_, List.forall_mem_nil _⟩
    refine exE rfl rfl ?_
    refine e_call rfl Try.call26 (arr3 (v0 := Value.agg #[I (a.Signs), vn, vt]) (v1 := I (nth (nth a.Next ((s).toNat)) ((nth l 0).toNat))) (v2 := (sliceV 1 vl 1 l.length)) rfl rfl rfl) (ih _ (by simp only [List.length_drop]; omega) vn vt ((sliceV 1 vl 1 l.length)) a (nth (nth a.Next ((s).toNat)) ((nth l 0).toNat)) (l.drop 1) (hS8o12.rdN 3 rfl) (hS8o12.rdN 4 rfl) hsg (hS8o12.rdN 0 rfl) hW (hW.step hs hc) (fun c hc => hl c (List.mem_of_mem_drop hc)) rfl) ?_
    rintro _ H8o13 ⟨hxx, rfl⟩
    have hS8o13 : St H0 NoB NoB [rdE (sliceV 1 vl 1 l.length) (l.drop 1 : List Int), rdE u8o5 (nth a.Next ((s).toNat)), blkE g1 (.cells #[I (a.Signs), vn, vt] 36), rdE vn a.Next, rdE vt a.Takes, rdE vl l] H8o13 := hS8o12.ext hxx
    refine ⟨Ext.mono hxx (fun _ h => h.elim), ?_⟩
    refine wpR_q 14 (by kernel_rfl) rfl (quietAt rfl rfl (q_assign (v := B (takesA a (nth (nth a.Next ((s).toNat)) ((nth l 0).toNat)) (l.drop 1))) rfl rfl)) ?_
    refine wpR_end (by kernel_rfl) ?_
    exact ⟨rfl, (hS8o13.drop (sn (sn (sk (sk (sk (sk (List.Sublist.slnil))))))))⟩
  rintro f9 H9 ⟨a9_6, hS9⟩
  clear a5_1 a5_2 a5_3 a5_9
  refine wpF_ret ?_
  refine ⟨_, resT a9_6 resN, hS9.frame, ?_⟩
  show (B (takesA a (nth (nth a.Next ((s).toNat)) ((nth l 0).toNat)) (l.drop 1))) = B (takesA a s l)
  exact congrArg B (takesA_cons hlen).symm

set_option maxRecDepth 100000 in
theorem Takes {H0 : Heap} (vn vt vl : Value) (a : Auto) (l : List Int) (rn : Rd NoB H0 vn a.Next) (rt : Rd NoB H0 vt a.Takes) (hsg : In64 a.Signs) (rl : Rd NoB H0 vl l) : CallsH Try.prog 24 #[Value.agg #[I (a.Signs), vn, vt], vl] H0 (fun rv_ H' => Ext NoB H0 H' ∧ rv_ = Value.tuple #[B (autoTakes a l).1, Value.agg #[I (autoTakes a l).2.1, I (autoTakes a l).2.2]]) := by
  have hsn := (Rd.list.1 rn).small
  have hst := (Rd.list.1 rt).small
  have hsl := (Rd.list.1 rl).small
  have hS0 : St H0 NoB NoB [rdE vn a.Next, rdE vt a.Takes, rdE vl l] H0 := St.arg (St.arg (St.arg (St.start (fun _ h => h.elim)) (Bl0.nil) rl (fun _ h => h)) (Bl0.cons (Bl0.nil)) rt (fun _ h => h)) (Bl0.cons (Bl0.cons (Bl0.nil))) rn (fun _ h => h)
  refine callsH_of_wpF (args := [Value.agg #[I (a.Signs), vn, vt], vl]) (rs := [.tmp 4, .cell 5 24]) Try.func24 rfl Try.ntmps24 Try.results24 (by kernel_rfl) (Nat.le_of_ble_eq_true rfl) ?_
  have a0_0 : argF [Value.agg #[I (a.Signs), vn, vt], vl] 0 = Value.agg #[I (a.Signs), vn, vt] := rfl
  have a0_1 : argF [Value.agg #[I (a.Signs), vn, vt], vl] 1 = vl := rfl
  generalize argF [Value.agg #[I (a.Signs), vn, vt], vl] = f0 at *
  refine wpF_seq ?_
  refine wpF_cut (fun f H => ∃ (g1 : Nat), ∃ (g4 : Nat), f 1 = vl ∧ f 2 = PT g1 0 ∧ f 5 = PT g4 0 ∧ St H0 NoB NoB [blkE g4 (.cells #[I (0), I (0)] 24), blkE g1 (.cells #[I (a.Signs), vn, vt] 36), rdE vn a.Next, rdE vt a.Takes, rdE vl l] H) ?_ ?_
  · refine wpF_region ?_
    refine wpL_o rfl ?_
    refine e_box (v := Value.agg #[I (a.Signs), vn, vt]) rfl a0_0 hS0 (fun g1 H2 hS3 hxx => ?_)
    replace hS3 : St H0 NoB NoB [blkE g1 (.cells #[I (a.Signs), vn, vt] 36), rdE vn a.Next, rdE vt a.Takes, rdE vl l] H2 := hS3
    refine wpL_q (U := NoB) rfl (q_assign (v := B (false)) rfl rfl) ?_
    refine wpL_o rfl ?_
    refine e_alloc rfl Try.zeroValue24 hS3 (fun g4 H5 hS6 hxx => ?_)
    replace hS6 : St H0 NoB NoB [blkE g4 (.cells #[I (0), I (0)] 24), blkE g1 (.cells #[I (a.Signs), vn, vt] 36), rdE vn a.Next, rdE vt a.Takes, rdE vl l] H5 := hS6
    exact ⟨g1, g4, a0_1, rfl, rfl, hS6⟩
  rintro f7 H7 ⟨g1, g4, a7_1, a7_2, a7_5, hS7⟩
  clear a0_0 a0_1
  refine wpF_seq ?_
  refine wpF_seq ?_
  refine wpF_cut (fun f H => ∃ (g11 : Nat), f 1 = vl ∧ f 2 = PT g1 0 ∧ f 5 = PT g4 0 ∧ f 6 = PT g11 0 ∧ St H0 NoB NoB [blkE g11 (.cells #[I ((autoFault a).1), I ((autoFault a).2)] 24), blkE g4 (.cells #[I (0), I (0)] 24), blkE g1 (.cells #[I (a.Signs), vn, vt] 36), rdE vn a.Next, rdE vt a.Takes, rdE vl l] H) ?_ ?_
  · refine wpF_region ?_
    refine wpL_q (U := NoB) rfl (q_loadBlkA rfl a7_2 Try.isAgg36 Try.sizeOf36 rfl (hS7.blk 1 rfl) (fun h => h)) ?_
    refine wpL_o rfl ?_
    refine e_call rfl Try.call21 (arr1 (v0 := Value.agg #[I (a.Signs), vn, vt]) rfl) (Check vn vt a (hS7.rdN 2 rfl) (hS7.rdN 3 rfl) hsg) ?_
    rintro _ H8 ⟨hxx, rfl⟩
    have hS9 : St H0 NoB NoB [blkE g4 (.cells #[I (0), I (0)] 24), blkE g1 (.cells #[I (a.Signs), vn, vt] 36), rdE vn a.Next, rdE vt a.Takes, rdE vl l] H8 := hS7.ext hxx
    refine wpL_o rfl ?_
    refine e_alloc rfl Try.zeroValue24 hS9 (fun g11 H12 hS13 hxx => ?_)
    replace hS13 : St H0 NoB NoB [blkE g11 (.cells #[I (0), I (0)] 24), blkE g4 (.cells #[I (0), I (0)] 24), blkE g1 (.cells #[I (a.Signs), vn, vt] 36), rdE vn a.Next, rdE vt a.Takes, rdE vl l] H12 := hS13
    refine wpL_o rfl ?_
    refine e_storeBlkA (cs' := #[I ((autoFault a).1), I ((autoFault a).2)]) rfl rfl rfl Try.sizeOf24 rfl rfl (List.forall_mem_cons.2 ⟨rfl, List.forall_mem_cons.2 ⟨rfl, List.forall_mem_nil _⟩⟩) hS13 (fun H14 hS15 hxx => ?_)
    replace hS15 : St H0 NoB NoB [blkE g11 (.cells #[I ((autoFault a).1), I ((autoFault a).2)] 24), blkE g4 (.cells #[I (0), I (0)] 24), blkE g1 (.cells #[I (a.Signs), vn, vt] 36), rdE vn a.Next, rdE vt a.Takes, rdE vl l] H14 := hS15
    exact ⟨g11, a7_1, a7_2, a7_5, rfl, hS15⟩
  rintro f16 H16 ⟨g11, a16_1, a16_2, a16_5, a16_6, hS16⟩
  clear a7_1 a7_2 a7_5
  refine wpF_seq ?_
  refine wpF_cut (fun f H => f 1 = vl ∧ f 2 = PT g1 0 ∧ f 5 = PT g4 0 ∧ f 6 = PT g11 0 ∧ f 12 = B (decide (((autoFault a).1) ≠ 0)) ∧ H16 = H) ?_ ?_
  · refine wpF_region ?_
    refine wpL_q (U := NoB) rfl (q_fieldAddr rfl Try.underlying24 rfl Try.sizeOf3 a16_6) ?_
    refine wpL_q (U := NoB) rfl (q_loadBlk rfl rfl Try.isAgg3 (hS16.blk 0 rfl) rfl (fun h => h)) ?_
    refine wpL_q (U := NoB) rfl (q_neq rfl rfl rfl) ?_
    exact ⟨a16_1, a16_2, a16_5, a16_6, rfl, rfl⟩
  rintro f17 _ ⟨a17_1, a17_2, a17_5, a17_6, a17_12, rfl⟩
  clear a16_1 a16_2 a16_5 a16_6
  refine wpF_condP a17_12 (fun h1 => ?t37) (fun h1 => ?e37)
  case t37 =>
    refine wpF_seq ?_
    refine wpF_cut (fun f H => f 4 = B (false) ∧ f 5 = PT g4 0 ∧ St H0 NoB NoB [blkE g4 (.cells #[I ((autoFault a).1), I ((autoFault a).2)] 24), blkE g11 (.cells #[I ((autoFault a).1), I ((autoFault a).2)] 24), blkE g1 (.cells #[I (a.Signs), vn, vt] 36), rdE vn a.Next, rdE vt a.Takes, rdE vl l] H) ?_ ?_
    · refine wpF_drawn [none, none, some 0] [[], [], []] (fun l b => match l with | 0 => True | _ => False) (by kernel_rfl) (by kernel_rfl) ?_
      refine wpR_q 0 (by kernel_rfl) rfl (quietAt rfl rfl (q_loadBlkA rfl a17_6 Try.isAgg24 Try.sizeOf24 rfl (hS16.blk 0 rfl) (labU_not [] rfl (List.forall_mem_nil _)))) ?_
      refine wpR_q 1 (by kernel_rfl) rfl (quietAt rfl rfl (q_assign (v := B (false)) rfl rfl)) ?_
      refine wpR_n [2] (by kernel_rfl) ?_
      refine List.forall_mem_cons.2 ⟨?_, List.forall_mem_nil _⟩
      refine exE rfl rfl ?_
      refine e_storeBlkA (cs' := #[I ((autoFault a).1), I ((autoFault a).2)]) rfl a17_5 rfl Try.sizeOf24 rfl rfl (List.forall_mem_cons.2 ⟨rfl, List.forall_mem_cons.2 ⟨rfl, List.forall_mem_nil _⟩⟩) (hS16.front 1 rfl) (fun H19o2 hS19o2 hxx => ?_)
      replace hS19o2 : St H0 NoB NoB [blkE g4 (.cells #[I ((autoFault a).1), I ((autoFault a).2)] 24), blkE g11 (.cells #[I ((autoFault a).1), I ((autoFault a).2)] 24), blkE g1 (.cells #[I (a.Signs), vn, vt] 36), rdE vn a.Next, rdE vt a.Takes, rdE vl l] H19o2 := hS19o2
      refine ⟨Ext.mono hxx (labS_of 0 rfl (fun _ _ => trivial)), ?_⟩
      refine wpR_end (by kernel_rfl) ?_
      exact ⟨rfl, a17_5, hS19o2⟩
    rintro f20 H20 ⟨a20_4, a20_5, hS20⟩
    clear a17_1 a17_12 a17_2 a17_5 a17_6
    refine wpF_ret ?_
    refine ⟨_, resT a20_4 (resC a20_5 (loadV_blkA Try.isAgg24 Try.sizeOf24 rfl (hS20.blk 0 rfl)) (resN)), hS20.frame, ?_⟩
    show (Value.tuple #[B (false), Value.agg #[I ((autoFault a).1), I ((autoFault a).2)]]) = Value.tuple #[B (autoTakes a l).1, Value.agg #[I (autoTakes a l).2.1, I (autoTakes a l).2.2]]
    have hq : autoTakes a l = (false, autoFault a) := by rw [autoTakes]; simp only [if_pos h1]
    rw [hq]
  refine wpF_skip ?_
  refine wpF_seq ?_
  refine wpF_seq ?_
  refine wpF_cut (fun f H => ∃ (g24 : Nat), f 1 = vl ∧ f 2 = PT g1 0 ∧ f 5 = PT g4 0 ∧ f 7 = PT g24 0 ∧ St H0 NoB NoB [blkE g24 (.cells #[I ((textFault a.Signs l).1), I ((textFault a.Signs l).2)] 24), blkE g11 (.cells #[I ((autoFault a).1), I ((autoFault a).2)] 24), blkE g4 (.cells #[I (0), I (0)] 24), blkE g1 (.cells #[I (a.Signs), vn, vt] 36), rdE vn a.Next, rdE vt a.Takes, rdE vl l] H) ?_ ?_
  · refine wpF_region ?_
    refine wpL_q (U := NoB) rfl (q_fieldAddr rfl Try.underlying36 rfl Try.sizeOf3 a17_2) ?_
    refine wpL_q (U := NoB) rfl (q_loadBlk rfl rfl Try.isAgg3 (hS16.blk 2 rfl) rfl (fun h => h)) ?_
    refine wpL_q (U := NoB) rfl (q_move (v := vl) rfl a17_1) ?_
    refine wpL_o rfl ?_
    refine e_call rfl Try.call22 (arr2 (v0 := I (a.Signs)) (v1 := vl) rfl rfl) (Text vl a.Signs l (hS16.rdN 5 rfl)) ?_
    rintro _ H21 ⟨hxx, rfl⟩
    have hS22 : St H0 NoB NoB [blkE g11 (.cells #[I ((autoFault a).1), I ((autoFault a).2)] 24), blkE g4 (.cells #[I (0), I (0)] 24), blkE g1 (.cells #[I (a.Signs), vn, vt] 36), rdE vn a.Next, rdE vt a.Takes, rdE vl l] H21 := hS16.ext hxx
    refine wpL_o rfl ?_
    refine e_alloc rfl Try.zeroValue24 hS22 (fun g24 H25 hS26 hxx => ?_)
    replace hS26 : St H0 NoB NoB [blkE g24 (.cells #[I (0), I (0)] 24), blkE g11 (.cells #[I ((autoFault a).1), I ((autoFault a).2)] 24), blkE g4 (.cells #[I (0), I (0)] 24), blkE g1 (.cells #[I (a.Signs), vn, vt] 36), rdE vn a.Next, rdE vt a.Takes, rdE vl l] H25 := hS26
    refine wpL_o rfl ?_
    refine e_storeBlkA (cs' := #[I ((textFault a.Signs l).1), I ((textFault a.Signs l).2)]) rfl rfl rfl Try.sizeOf24 rfl rfl (List.forall_mem_cons.2 ⟨rfl, List.forall_mem_cons.2 ⟨rfl, List.forall_mem_nil _⟩⟩) hS26 (fun H27 hS28 hxx => ?_)
    replace hS28 : St H0 NoB NoB [blkE g24 (.cells #[I ((textFault a.Signs l).1), I ((textFault a.Signs l).2)] 24), blkE g11 (.cells #[I ((autoFault a).1), I ((autoFault a).2)] 24), blkE g4 (.cells #[I (0), I (0)] 24), blkE g1 (.cells #[I (a.Signs), vn, vt] 36), rdE vn a.Next, rdE vt a.Takes, rdE vl l] H27 := hS28
    exact ⟨g24, a17_1, a17_2, a17_5, rfl, hS28⟩
  rintro f29 H29 ⟨g24, a29_1, a29_2, a29_5, a29_7, hS29⟩
  clear a17_1 a17_12 a17_2 a17_5 a17_6
  refine wpF_seq ?_
  refine wpF_cut (fun f H => f 1 = vl ∧ f 2 = PT g1 0 ∧ f 5 = PT g4 0 ∧ f 7 = PT g24 0 ∧ f 20 = B (decide (((textFault a.Signs l).1) ≠ 0)) ∧ H29 = H) ?_ ?_
  · refine wpF_region ?_
    refine wpL_q (U := NoB) rfl (q_fieldAddr rfl Try.underlying24 rfl Try.sizeOf3 a29_7) ?_
    refine wpL_q (U := NoB) rfl (q_loadBlk rfl rfl Try.isAgg3 (hS29.blk 0 rfl) rfl (fun h => h)) ?_
    refine wpL_q (U := NoB) rfl (q_neq rfl rfl rfl) ?_
    exact ⟨a29_1, a29_2, a29_5, a29_7, rfl, rfl⟩
  rintro f30 _ ⟨a30_1, a30_2, a30_5, a30_7, a30_20, rfl⟩
  clear a29_1 a29_2 a29_5 a29_7
  refine wpF_condP a30_20 (fun h2 => ?t36) (fun h2 => ?e36)
  case t36 =>
    refine wpF_seq ?_
    refine wpF_cut (fun f H => f 4 = B (false) ∧ f 5 = PT g4 0 ∧ St H0 NoB NoB [blkE g4 (.cells #[I ((textFault a.Signs l).1), I ((textFault a.Signs l).2)] 24), blkE g24 (.cells #[I ((textFault a.Signs l).1), I ((textFault a.Signs l).2)] 24), blkE g11 (.cells #[I ((autoFault a).1), I ((autoFault a).2)] 24), blkE g1 (.cells #[I (a.Signs), vn, vt] 36), rdE vn a.Next, rdE vt a.Takes, rdE vl l] H) ?_ ?_
    · refine wpF_drawn [none, none, some 0] [[], [], []] (fun l b => match l with | 0 => True | _ => False) (by kernel_rfl) (by kernel_rfl) ?_
      refine wpR_q 0 (by kernel_rfl) rfl (quietAt rfl rfl (q_loadBlkA rfl a30_7 Try.isAgg24 Try.sizeOf24 rfl (hS29.blk 0 rfl) (labU_not [] rfl (List.forall_mem_nil _)))) ?_
      refine wpR_q 1 (by kernel_rfl) rfl (quietAt rfl rfl (q_assign (v := B (false)) rfl rfl)) ?_
      refine wpR_n [2] (by kernel_rfl) ?_
      refine List.forall_mem_cons.2 ⟨?_, List.forall_mem_nil _⟩
      refine exE rfl rfl ?_
      refine e_storeBlkA (cs' := #[I ((textFault a.Signs l).1), I ((textFault a.Signs l).2)]) rfl a30_5 rfl Try.sizeOf24 rfl rfl (List.forall_mem_cons.2 ⟨rfl, List.forall_mem_cons.2 ⟨rfl, List.forall_mem_nil _⟩⟩) (hS29.front 2 rfl) (fun H32o2 hS32o2 hxx => ?_)
      replace hS32o2 : St H0 NoB NoB [blkE g4 (.cells #[I ((textFault a.Signs l).1), I ((textFault a.Signs l).2)] 24), blkE g24 (.cells #[I ((textFault a.Signs l).1), I ((textFault a.Signs l).2)] 24), blkE g11 (.cells #[I ((autoFault a).1), I ((autoFault a).2)] 24), blkE g1 (.cells #[I (a.Signs), vn, vt] 36), rdE vn a.Next, rdE vt a.Takes, rdE vl l] H32o2 := hS32o2
      refine ⟨Ext.mono hxx (labS_of 0 rfl (fun _ _ => trivial)), ?_⟩
      refine wpR_end (by kernel_rfl) ?_
      exact ⟨rfl, a30_5, hS32o2⟩
    rintro f33 H33 ⟨a33_4, a33_5, hS33⟩
    clear a30_1 a30_2 a30_20 a30_5 a30_7
    refine wpF_ret ?_
    refine ⟨_, resT a33_4 (resC a33_5 (loadV_blkA Try.isAgg24 Try.sizeOf24 rfl (hS33.blk 0 rfl)) (resN)), hS33.frame, ?_⟩
    show (Value.tuple #[B (false), Value.agg #[I ((textFault a.Signs l).1), I ((textFault a.Signs l).2)]]) = Value.tuple #[B (autoTakes a l).1, Value.agg #[I (autoTakes a l).2.1, I (autoTakes a l).2.2]]
    have hq : autoTakes a l = (false, textFault a.Signs l) := by rw [autoTakes]; simp only [if_neg h1, if_pos h2]
    rw [hq]
  have hW := WF.of (Decidable.of_not_not h1)
  have hl := (textFault_code (Decidable.of_not_not h2)).2.2
  have hm := hW.takes
  have hm2 := hW.many
  have hr := hW.run hl (s := 0) (by omega)
  refine wpF_skip ?_
  refine wpF_seq ?_
  refine wpF_cut (fun f H => f 4 = B (nth a.Takes ((runA a 0 l).toNat)) ∧ f 5 = PT g4 0 ∧ St H0 NoB NoB [blkE g4 (.cells #[I (0), I (0)] 24), blkE g24 (.cells #[I ((textFault a.Signs l).1), I ((textFault a.Signs l).2)] 24), blkE g11 (.cells #[I ((autoFault a).1), I ((autoFault a).2)] 24), blkE g1 (.cells #[I (a.Signs), vn, vt] 36), rdE vn a.Next, rdE vt a.Takes, rdE vl l] H) ?_ ?_
  · refine wpF_drawn [none, none, none, none, none, none, none, none, none, some 0] [[], [], [], [], [], [], [], [], [], []] (fun l b => match l with | 0 => True | _ => False) (by kernel_rfl) (by kernel_rfl) ?_
    refine wpR_q 0 (by kernel_rfl) rfl (quietAt rfl rfl (q_fieldAddr rfl Try.underlying36 rfl Try.sizeOf32 a30_2)) ?_
    refine wpR_q 1 (by kernel_rfl) rfl (quietAt rfl rfl (q_loadBlk rfl rfl Try.isAgg32 (hS29.blk 3 rfl) rfl (labU_not [] rfl (List.forall_mem_nil _)))) ?_
    refine wpR_q 2 (by kernel_rfl) rfl (quietAt rfl rfl (q_loadBlkA rfl a30_2 Try.isAgg36 Try.sizeOf36 rfl (hS29.blk 3 rfl) (labU_not [] rfl (List.forall_mem_nil _)))) ?_
    refine wpR_q 3 (by kernel_rfl) rfl (quietAt rfl rfl (q_move (v := vl) rfl a30_1)) ?_
    refine wpR_q 7 (by kernel_rfl) rfl (quietAt rfl rfl (q_build (v := Value.agg #[I (0), I (0)]) rfl par0 (fun w => by kernel_rfl))) ?_
    refine wpR_n [4] (by kernel_rfl) ?_
    refine List.forall_mem_cons.2 ⟨?_, List.forall_mem_nil _⟩
    refine exE rfl rfl ?_
    refine e_call rfl Try.call52 (arr2 (v0 := Value.agg #[I (a.Signs), vn, vt]) (v1 := vl) rfl rfl) (Run vn vt vl a l (hS29.rdN 4 rfl) (hS29.rdN 5 rfl) hsg (hS29.rdN 6 rfl) hW hl) ?_
    rintro _ H34o4 ⟨hxx, rfl⟩
    have hS34o4 : St H0 NoB NoB [blkE g24 (.cells #[I ((textFault a.Signs l).1), I ((textFault a.Signs l).2)] 24), blkE g11 (.cells #[I ((autoFault a).1), I ((autoFault a).2)] 24), blkE g4 (.cells #[I (0), I (0)] 24), blkE g1 (.cells #[I (a.Signs), vn, vt] 36), rdE vn a.Next, rdE vt a.Takes, rdE vl l] H34o4 := hS29.ext hxx
    refine ⟨Ext.mono hxx (fun _ h => h.elim), ?_⟩
    refine wpR_q 5 (by kernel_rfl) rfl (quietAt rfl rfl (q_indexRd (k := (runA a 0 l).toNat) rfl Try.underlying32 el_Bool_4_AutoA2 rfl rfl (hS34o4.rdl 5 rfl) (by omega) (by omega))) ?_
    refine wpR_q 6 (by kernel_rfl) rfl (quietAt rfl rfl (q_loadBool (k := (runA a 0 l).toNat) rfl rfl el_Bool_4_AutoA2 (hS34o4.rdl 5 rfl) (by omega) (labU_sub [] rfl (List.forall_mem_nil _)))) ?_
    refine wpR_q 8 (by kernel_rfl) rfl (quietAt rfl rfl (q_assign (v := B (nth a.Takes ((runA a 0 l).toNat))) rfl rfl)) ?_
    refine wpR_n [9] (by kernel_rfl) ?_
    refine List.forall_mem_cons.2 ⟨?_, List.forall_mem_nil _⟩
    refine exE rfl rfl ?_
    refine e_storeBlkA (cs' := #[I (0), I (0)]) rfl a30_5 rfl Try.sizeOf24 rfl rfl (List.forall_mem_cons.2 ⟨rfl, List.forall_mem_cons.2 ⟨rfl, List.forall_mem_nil _⟩⟩) (hS34o4.front 2 rfl) (fun H34o9 hS34o9 hxx => ?_)
    replace hS34o9 : St H0 NoB NoB [blkE g4 (.cells #[I (0), I (0)] 24), blkE g24 (.cells #[I ((textFault a.Signs l).1), I ((textFault a.Signs l).2)] 24), blkE g11 (.cells #[I ((autoFault a).1), I ((autoFault a).2)] 24), blkE g1 (.cells #[I (a.Signs), vn, vt] 36), rdE vn a.Next, rdE vt a.Takes, rdE vl l] H34o9 := hS34o9
    refine ⟨Ext.mono hxx (labS_of 0 rfl (fun _ _ => trivial)), ?_⟩
    refine wpR_end (by kernel_rfl) ?_
    exact ⟨rfl, a30_5, hS34o9⟩
  rintro f35 H35 ⟨a35_4, a35_5, hS35⟩
  clear a30_1 a30_2 a30_20 a30_5 a30_7
  refine wpF_ret ?_
  refine ⟨_, resT a35_4 (resC a35_5 (loadV_blkA Try.isAgg24 Try.sizeOf24 rfl (hS35.blk 0 rfl)) (resN)), hS35.frame, ?_⟩
  show (Value.tuple #[B (nth a.Takes ((runA a 0 l).toNat)), Value.agg #[I (0), I (0)]]) = Value.tuple #[B (autoTakes a l).1, Value.agg #[I (autoTakes a l).2.1, I (autoTakes a l).2.2]]
  have hq : autoTakes a l = (takesA a 0 l, 0, 0) := by rw [autoTakes]; simp only [if_neg h1, if_neg h2]
  rw [hq]
  rfl

set_option maxRecDepth 100000 in
theorem Not {H0 : Heap} {S : Nat → Prop} (vn vt : Value) (a : Auto) (rn : Rd S H0 vn a.Next) (rt : Rd S H0 vt a.Takes) (hsg : In64 a.Signs) : CallsH Try.prog 25 #[Value.agg #[I (a.Signs), vn, vt]] H0 (fun rv_ H' => Ext NoB H0 H' ∧ ∃ w1_ w2_, rv_ = Value.tuple #[Value.agg #[I (autoNot a).1.Signs, w1_, w2_], Value.agg #[I (autoNot a).2.1, I (autoNot a).2.2]] ∧ Rd (fun b => S b ∧ b < H0.size) H' w1_ (autoNot a).1.Next ∧ Rd (fun b => S b ∧ b < H0.size) H' w2_ (autoNot a).1.Takes) := by
  have hsn := (Rd.list.1 rn).small
  have hst := (Rd.list.1 rt).small
  have hS0 : St H0 NoB (fun b => S b ∧ b < H0.size) [rdE vn a.Next, rdE vt a.Takes] H0 := St.arg (St.arg (St.start (fun _ h => h.2)) (Bl0.nil) rt (fun _ h => h.1)) (Bl0.cons (Bl0.nil)) rn (fun _ h => h.1)
  refine callsH_of_wpF (args := [Value.agg #[I (a.Signs), vn, vt]]) (rs := [.cell 2 36, .cell 3 24]) Try.func25 rfl Try.ntmps25 Try.results25 (by kernel_rfl) (Nat.le_of_ble_eq_true rfl) ?_
  have a0_0 : argF [Value.agg #[I (a.Signs), vn, vt]] 0 = Value.agg #[I (a.Signs), vn, vt] := rfl
  generalize argF [Value.agg #[I (a.Signs), vn, vt]] = f0 at *
  refine wpF_seq ?_
  refine wpF_cut (fun f H => ∃ (g1 : Nat), ∃ (g4 : Nat), ∃ (g7 : Nat), f 1 = PT g1 0 ∧ f 2 = PT g4 0 ∧ f 3 = PT g7 0 ∧ St H0 NoB (fun b => S b ∧ b < H0.size) [blkE g7 (.cells #[I (0), I (0)] 24), blkE g4 (.cells #[I (0), (Value.slice none 0 0), (Value.slice none 0 0)] 36), blkE g1 (.cells #[I (a.Signs), vn, vt] 36), rdE vn a.Next, rdE vt a.Takes] H) ?_ ?_
  · refine wpF_region ?_
    refine wpL_o rfl ?_
    refine e_box (v := Value.agg #[I (a.Signs), vn, vt]) rfl a0_0 hS0 (fun g1 H2 hS3 hxx => ?_)
    replace hS3 : St H0 NoB (fun b => S b ∧ b < H0.size) [blkE g1 (.cells #[I (a.Signs), vn, vt] 36), rdE vn a.Next, rdE vt a.Takes] H2 := hS3
    refine wpL_o rfl ?_
    refine e_alloc rfl Try.zeroValue36 hS3 (fun g4 H5 hS6 hxx => ?_)
    replace hS6 : St H0 NoB (fun b => S b ∧ b < H0.size) [blkE g4 (.cells #[I (0), (Value.slice none 0 0), (Value.slice none 0 0)] 36), blkE g1 (.cells #[I (a.Signs), vn, vt] 36), rdE vn a.Next, rdE vt a.Takes] H5 := hS6
    refine wpL_o rfl ?_
    refine e_alloc rfl Try.zeroValue24 hS6 (fun g7 H8 hS9 hxx => ?_)
    replace hS9 : St H0 NoB (fun b => S b ∧ b < H0.size) [blkE g7 (.cells #[I (0), I (0)] 24), blkE g4 (.cells #[I (0), (Value.slice none 0 0), (Value.slice none 0 0)] 36), blkE g1 (.cells #[I (a.Signs), vn, vt] 36), rdE vn a.Next, rdE vt a.Takes] H8 := hS9
    exact ⟨g1, g4, g7, rfl, rfl, rfl, hS9⟩
  rintro f10 H10 ⟨g1, g4, g7, a10_1, a10_2, a10_3, hS10⟩
  clear a0_0
  refine wpF_seq ?_
  refine wpF_seq ?_
  refine wpF_cut (fun f H => ∃ (g14 : Nat), f 1 = PT g1 0 ∧ f 2 = PT g4 0 ∧ f 3 = PT g7 0 ∧ f 4 = PT g14 0 ∧ St H0 NoB (fun b => S b ∧ b < H0.size) [blkE g14 (.cells #[I ((autoFault a).1), I ((autoFault a).2)] 24), blkE g7 (.cells #[I (0), I (0)] 24), blkE g4 (.cells #[I (0), (Value.slice none 0 0), (Value.slice none 0 0)] 36), blkE g1 (.cells #[I (a.Signs), vn, vt] 36), rdE vn a.Next, rdE vt a.Takes] H) ?_ ?_
  · refine wpF_region ?_
    refine wpL_q (U := NoB) rfl (q_loadBlkA rfl a10_1 Try.isAgg36 Try.sizeOf36 rfl (hS10.blk 2 rfl) (fun h => h)) ?_
    refine wpL_o rfl ?_
    refine e_call rfl Try.call21 (arr1 (v0 := Value.agg #[I (a.Signs), vn, vt]) rfl) (Check vn vt a (hS10.rdN 3 rfl) (hS10.rdN 4 rfl) hsg) ?_
    rintro _ H11 ⟨hxx, rfl⟩
    have hS12 : St H0 NoB (fun b => S b ∧ b < H0.size) [blkE g7 (.cells #[I (0), I (0)] 24), blkE g4 (.cells #[I (0), (Value.slice none 0 0), (Value.slice none 0 0)] 36), blkE g1 (.cells #[I (a.Signs), vn, vt] 36), rdE vn a.Next, rdE vt a.Takes] H11 := hS10.ext hxx
    refine wpL_o rfl ?_
    refine e_alloc rfl Try.zeroValue24 hS12 (fun g14 H15 hS16 hxx => ?_)
    replace hS16 : St H0 NoB (fun b => S b ∧ b < H0.size) [blkE g14 (.cells #[I (0), I (0)] 24), blkE g7 (.cells #[I (0), I (0)] 24), blkE g4 (.cells #[I (0), (Value.slice none 0 0), (Value.slice none 0 0)] 36), blkE g1 (.cells #[I (a.Signs), vn, vt] 36), rdE vn a.Next, rdE vt a.Takes] H15 := hS16
    refine wpL_o rfl ?_
    refine e_storeBlkA (cs' := #[I ((autoFault a).1), I ((autoFault a).2)]) rfl rfl rfl Try.sizeOf24 rfl rfl (List.forall_mem_cons.2 ⟨rfl, List.forall_mem_cons.2 ⟨rfl, List.forall_mem_nil _⟩⟩) hS16 (fun H17 hS18 hxx => ?_)
    replace hS18 : St H0 NoB (fun b => S b ∧ b < H0.size) [blkE g14 (.cells #[I ((autoFault a).1), I ((autoFault a).2)] 24), blkE g7 (.cells #[I (0), I (0)] 24), blkE g4 (.cells #[I (0), (Value.slice none 0 0), (Value.slice none 0 0)] 36), blkE g1 (.cells #[I (a.Signs), vn, vt] 36), rdE vn a.Next, rdE vt a.Takes] H17 := hS18
    exact ⟨g14, a10_1, a10_2, a10_3, rfl, hS18⟩
  rintro f19 H19 ⟨g14, a19_1, a19_2, a19_3, a19_4, hS19⟩
  clear a10_1 a10_2 a10_3
  refine wpF_seq ?_
  refine wpF_cut (fun f H => f 1 = PT g1 0 ∧ f 2 = PT g4 0 ∧ f 3 = PT g7 0 ∧ f 4 = PT g14 0 ∧ f 12 = B (decide (((autoFault a).1) ≠ 0)) ∧ H19 = H) ?_ ?_
  · refine wpF_region ?_
    refine wpL_q (U := NoB) rfl (q_fieldAddr rfl Try.underlying24 rfl Try.sizeOf3 a19_4) ?_
    refine wpL_q (U := NoB) rfl (q_loadBlk rfl rfl Try.isAgg3 (hS19.blk 0 rfl) rfl (fun h => h)) ?_
    refine wpL_q (U := NoB) rfl (q_neq rfl rfl rfl) ?_
    exact ⟨a19_1, a19_2, a19_3, a19_4, rfl, rfl⟩
  rintro f20 _ ⟨a20_1, a20_2, a20_3, a20_4, a20_12, rfl⟩
  clear a19_1 a19_2 a19_3 a19_4
  refine wpF_condP a20_12 (fun h1 => ?t50) (fun h1 => ?e50)
  case t50 =>
    refine wpF_seq ?_
    refine wpF_cut (fun f H => f 2 = PT g4 0 ∧ f 3 = PT g7 0 ∧ St H0 NoB (fun b => S b ∧ b < H0.size) [blkE g7 (.cells #[I ((autoFault a).1), I ((autoFault a).2)] 24), blkE g4 (.cells #[I (0), (Value.slice none 0 0), (Value.slice none 0 0)] 36), blkE g14 (.cells #[I ((autoFault a).1), I ((autoFault a).2)] 24), blkE g1 (.cells #[I (a.Signs), vn, vt] 36), rdE vn a.Next, rdE vt a.Takes] H) ?_ ?_
    · refine wpF_drawn [none, none, some 0, some 1] [[], [0], [], []] (fun l b => match l with | 0 => b = g4 | 1 => True | _ => False) (by kernel_rfl) (by kernel_rfl) ?_
      refine wpR_q 0 (by kernel_rfl) rfl (quietAt rfl rfl (q_build (v := Value.agg #[I (0), (Value.slice none 0 0), (Value.slice none 0 0)]) rfl par0 (fun w => by kernel_rfl))) ?_
      refine wpR_q 1 (by kernel_rfl) rfl (quietAt rfl rfl (q_loadBlkA rfl a20_4 Try.isAgg24 Try.sizeOf24 rfl (hS19.blk 0 rfl) (labU_not [0] rfl (List.forall_mem_cons.2 ⟨fun hb => hS19.dis 0 2 (by decide) rfl rfl _ rfl hb, List.forall_mem_nil _⟩)))) ?_
      refine wpR_n [2] (by kernel_rfl) ?_
      refine List.forall_mem_cons.2 ⟨?_, List.forall_mem_nil _⟩
      refine exE rfl rfl ?_
      refine e_storeBlkA (cs' := #[I (0), (Value.slice none 0 0), (Value.slice none 0 0)]) rfl a20_2 rfl Try.sizeOf36 rfl rfl (List.forall_mem_cons.2 ⟨rfl, List.forall_mem_cons.2 ⟨rfl, List.forall_mem_cons.2 ⟨rfl, List.forall_mem_nil _⟩⟩⟩) (hS19.front 2 rfl) (fun H22o2 hS22o2 hxx => ?_)
      replace hS22o2 : St H0 NoB (fun b => S b ∧ b < H0.size) [blkE g4 (.cells #[I (0), (Value.slice none 0 0), (Value.slice none 0 0)] 36), blkE g14 (.cells #[I ((autoFault a).1), I ((autoFault a).2)] 24), blkE g7 (.cells #[I (0), I (0)] 24), blkE g1 (.cells #[I (a.Signs), vn, vt] 36), rdE vn a.Next, rdE vt a.Takes] H22o2 := hS22o2
      refine ⟨Ext.mono hxx (labS_of 0 rfl (fun b hb => hb)), ?_⟩
      refine wpR_n [3] (by kernel_rfl) ?_
      refine List.forall_mem_cons.2 ⟨?_, List.forall_mem_nil _⟩
      refine exE rfl rfl ?_
      refine e_storeBlkA (cs' := #[I ((autoFault a).1), I ((autoFault a).2)]) rfl a20_3 rfl Try.sizeOf24 rfl rfl (List.forall_mem_cons.2 ⟨rfl, List.forall_mem_cons.2 ⟨rfl, List.forall_mem_nil _⟩⟩) (hS22o2.front 2 rfl) (fun H22o3 hS22o3 hxx => ?_)
      replace hS22o3 : St H0 NoB (fun b => S b ∧ b < H0.size) [blkE g7 (.cells #[I ((autoFault a).1), I ((autoFault a).2)] 24), blkE g4 (.cells #[I (0), (Value.slice none 0 0), (Value.slice none 0 0)] 36), blkE g14 (.cells #[I ((autoFault a).1), I ((autoFault a).2)] 24), blkE g1 (.cells #[I (a.Signs), vn, vt] 36), rdE vn a.Next, rdE vt a.Takes] H22o3 := hS22o3
      refine ⟨Ext.mono hxx (labS_of 1 rfl (fun _ _ => trivial)), ?_⟩
      refine wpR_end (by kernel_rfl) ?_
      exact ⟨a20_2, a20_3, hS22o3⟩
    rintro f23 H23 ⟨a23_2, a23_3, hS23⟩
    clear a20_1 a20_12 a20_2 a20_3 a20_4
    refine wpF_ret ?_
    refine ⟨_, resC a23_2 (loadV_blkA Try.isAgg36 Try.sizeOf36 rfl (hS23.blk 1 rfl)) (resC a23_3 (loadV_blkA Try.isAgg24 Try.sizeOf24 rfl (hS23.blk 0 rfl)) (resN)), hS23.frame, ?_⟩
    show ∃ w1_ w2_, (Value.tuple #[Value.agg #[I (0), (Value.slice none 0 0), (Value.slice none 0 0)], Value.agg #[I ((autoFault a).1), I ((autoFault a).2)]]) = Value.tuple #[Value.agg #[I (autoNot a).1.Signs, w1_, w2_], Value.agg #[I (autoNot a).2.1, I (autoNot a).2.2]] ∧ Rd (fun b => S b ∧ b < H0.size) H23 w1_ (autoNot a).1.Next ∧ Rd (fun b => S b ∧ b < H0.size) H23 w2_ (autoNot a).1.Takes
    have hq : autoNot a = (⟨0, [], []⟩, autoFault a) := by rw [autoNot, if_pos h1]
    exact ⟨(Value.slice none 0 0), (Value.slice none 0 0), by rw [hq], by rw [hq]; exact rdNil, by rw [hq]; exact rdNil⟩
  have hW := WF.of (Decidable.of_not_not h1)
  have hm := hW.takes
  have hm2 := hW.many
  refine wpF_skip ?_
  refine wpF_seq ?_
  refine wpF_cut (fun f H => ∃ (g24 : Nat), f 1 = PT g1 0 ∧ f 2 = PT g4 0 ∧ f 3 = PT g7 0 ∧ f 5 = PT g24 0 ∧ St H0 NoB (fun b => S b ∧ b < H0.size) [blkE g24 (.cells #[I (a.Signs), (Value.slice none 0 0), (Value.slice none 0 0)] 36), blkE g14 (.cells #[I ((autoFault a).1), I ((autoFault a).2)] 24), blkE g7 (.cells #[I (0), I (0)] 24), blkE g4 (.cells #[I (0), (Value.slice none 0 0), (Value.slice none 0 0)] 36), blkE g1 (.cells #[I (a.Signs), vn, vt] 36), rdE vn a.Next, rdE vt a.Takes] H) ?_ ?_
  · refine wpF_region ?_
    refine wpL_q (U := NoB) rfl (q_fieldAddr rfl Try.underlying36 rfl Try.sizeOf3 a20_1) ?_
    refine wpL_q (U := NoB) rfl (q_loadBlk rfl rfl Try.isAgg3 (hS19.blk 3 rfl) rfl (fun h => h)) ?_
    refine wpL_q (U := NoB) rfl (q_build (v := Value.agg #[I (a.Signs), (Value.slice none 0 0), (Value.slice none 0 0)]) rfl (par1 (v0 := I (a.Signs)) rfl) (fun w => by kernel_rfl)) ?_
    refine wpL_o rfl ?_
    refine e_alloc rfl Try.zeroValue36 hS19 (fun g24 H25 hS26 hxx => ?_)
    replace hS26 : St H0 NoB (fun b => S b ∧ b < H0.size) [blkE g24 (.cells #[I (0), (Value.slice none 0 0), (Value.slice none 0 0)] 36), blkE g14 (.cells #[I ((autoFault a).1), I ((autoFault a).2)] 24), blkE g7 (.cells #[I (0), I (0)] 24), blkE g4 (.cells #[I (0), (Value.slice none 0 0), (Value.slice none 0 0)] 36), blkE g1 (.cells #[I (a.Signs), vn, vt] 36), rdE vn a.Next, rdE vt a.Takes] H25 := hS26
    refine wpL_o rfl ?_
    refine e_storeBlkA (cs' := #[I (a.Signs), (Value.slice none 0 0), (Value.slice none 0 0)]) rfl rfl rfl Try.sizeOf36 rfl rfl (List.forall_mem_cons.2 ⟨rfl, List.forall_mem_cons.2 ⟨rfl, List.forall_mem_cons.2 ⟨rfl, List.forall_mem_nil _⟩⟩⟩) hS26 (fun H27 hS28 hxx => ?_)
    replace hS28 : St H0 NoB (fun b => S b ∧ b < H0.size) [blkE g24 (.cells #[I (a.Signs), (Value.slice none 0 0), (Value.slice none 0 0)] 36), blkE g14 (.cells #[I ((autoFault a).1), I ((autoFault a).2)] 24), blkE g7 (.cells #[I (0), I (0)] 24), blkE g4 (.cells #[I (0), (Value.slice none 0 0), (Value.slice none 0 0)] 36), blkE g1 (.cells #[I (a.Signs), vn, vt] 36), rdE vn a.Next, rdE vt a.Takes] H27 := hS28
    exact ⟨g24, a20_1, a20_2, a20_3, rfl, hS28⟩
  rintro f29 H29 ⟨g24, a29_1, a29_2, a29_3, a29_5, hS29⟩
  clear a20_1 a20_12 a20_2 a20_3 a20_4
  refine wpF_seq ?_
  refine wpF_seq ?_
  refine wpF_cut (fun f H => f 1 = PT g1 0 ∧ f 2 = PT g4 0 ∧ f 3 = PT g7 0 ∧ f 5 = PT g24 0 ∧ f 19 = vn ∧ f 20 = I ((a.Next.length : Int)) ∧ f 21 = I (0) ∧ H29 = H) ?_ ?_
  · refine wpF_region ?_
    refine wpL_q (U := NoB) rfl (q_fieldAddr rfl Try.underlying36 rfl Try.sizeOf27 a29_1) ?_
    refine wpL_q (U := NoB) rfl (q_loadBlk rfl rfl Try.isAgg27 (hS29.blk 4 rfl) rfl (fun h => h)) ?_
    refine wpL_q (U := NoB) rfl (q_lenRd rfl Try.underlying27 rfl (hS29.rdl 5 rfl)) ?_
    refine wpL_q (U := NoB) rfl (q_move (v := I (0)) rfl rfl) ?_
    exact ⟨a29_1, a29_2, a29_3, a29_5, rfl, rfl, rfl, rfl⟩
  rintro f30 _ ⟨a30_1, a30_2, a30_3, a30_5, a30_19, a30_20, a30_21, rfl⟩
  clear a29_1 a29_2 a29_3 a29_5
  have hS31 : St H0 NoB (fun b => S b ∧ b < H0.size) [rowE 22 (Value.slice none 0 0) ([] : List (List Int)), blkE g24 (.cells #[I (a.Signs), (Value.slice none 0 0), (Value.slice none 0 0)] 36), blkE g14 (.cells #[I ((autoFault a).1), I ((autoFault a).2)] 24), blkE g7 (.cells #[I (0), I (0)] 24), blkE g4 (.cells #[I (0), (Value.slice none 0 0), (Value.slice none 0 0)] 36), blkE g1 (.cells #[I (a.Signs), vn, vt] 36), rdE vn a.Next, rdE vt a.Takes] H29 := hS29.row0 22
  have hS32 : St H0 NoB (fun b => S b ∧ b < H0.size) [rowE 4 (Value.slice none 0 0) ([] : List Bool), rowE 22 (Value.slice none 0 0) ([] : List (List Int)), blkE g24 (.cells #[I (a.Signs), (Value.slice none 0 0), (Value.slice none 0 0)] 36), blkE g14 (.cells #[I ((autoFault a).1), I ((autoFault a).2)] 24), blkE g7 (.cells #[I (0), I (0)] 24), blkE g4 (.cells #[I (0), (Value.slice none 0 0), (Value.slice none 0 0)] 36), blkE g1 (.cells #[I (a.Signs), vn, vt] 36), rdE vn a.Next, rdE vt a.Takes] H29 := hS31.row0 4
  refine wpF_block ?_
  refine wpF_loop (fun mz f H => ∃ (k : Nat), ∃ (v1 : Value), ∃ (v2 : Value), mz = a.Next.length - k ∧ (k ≤ a.Next.length) ∧ f 1 = PT g1 0 ∧ f 2 = PT g4 0 ∧ f 3 = PT g7 0 ∧ f 5 = PT g24 0 ∧ f 19 = vn ∧ f 20 = I ((a.Next.length : Int)) ∧ f 21 = I ((k : Int)) ∧ St H0 NoB (fun b => S b ∧ b < H0.size) [rowE 22 v1 (a.Next.take k : List (List Int)), rowE 4 v2 ((a.Takes.take k).map (!·) : List Bool), blkE g24 (.cells #[I (a.Signs), v1, v2] 36), blkE g14 (.cells #[I ((autoFault a).1), I ((autoFault a).2)] 24), blkE g7 (.cells #[I (0), I (0)] 24), blkE g4 (.cells #[I (0), (Value.slice none 0 0), (Value.slice none 0 0)] 36), blkE g1 (.cells #[I (a.Signs), vn, vt] 36), rdE vn a.Next, rdE vt a.Takes] H) (a.Next.length - 0) ?_ ?_
  · exact ⟨0, (Value.slice none 0 0), (Value.slice none 0 0), rfl, Nat.zero_le _, a30_1, a30_2, a30_3, a30_5, a30_19, a30_20, (Eq.trans a30_21 (congrArg I (by omega))), (show St H0 NoB (fun b => S b ∧ b < H0.size) [rowE 22 (Value.slice none 0 0) (a.Next.take 0 : List (List Int)), rowE 4 (Value.slice none 0 0) ((a.Takes.take 0).map (!·) : List Bool), blkE g24 (.cells #[I (a.Signs), (Value.slice none 0 0), (Value.slice none 0 0)] 36), blkE g14 (.cells #[I ((autoFault a).1), I ((autoFault a).2)] 24), blkE g7 (.cells #[I (0), I (0)] 24), blkE g4 (.cells #[I (0), (Value.slice none 0 0), (Value.slice none 0 0)] 36), blkE g1 (.cells #[I (a.Signs), vn, vt] 36), rdE vn a.Next, rdE vt a.Takes] H29 from (St.drop (show St H0 NoB (fun b => S b ∧ b < H0.size) [rowE 22 (Value.slice none 0 0) ([] : List (List Int)), rowE 4 (Value.slice none 0 0) ([] : List Bool), blkE g24 (.cells #[I (a.Signs), (Value.slice none 0 0), (Value.slice none 0 0)] 36), blkE g14 (.cells #[I ((autoFault a).1), I ((autoFault a).2)] 24), blkE g7 (.cells #[I (0), I (0)] 24), blkE g4 (.cells #[I (0), (Value.slice none 0 0), (Value.slice none 0 0)] 36), blkE g1 (.cells #[I (a.Signs), vn, vt] 36), rdE vn a.Next, rdE vt a.Takes] H29 from (hS32.front 1 rfl)) (sk (sk (sk (sk (sk (sk (sk (sk (sk (List.Sublist.slnil))))))))))))⟩
  intro m33 f33 H33 hI33
  obtain ⟨k, v1, v2, hm33, hk, a33_1, a33_2, a33_3, a33_5, a33_19, a33_20, a33_21, hS33⟩ := hI33
  clear a30_1 a30_19 a30_2 a30_20 a30_21 a30_3 a30_5
  refine wpF_seq ?_
  refine wpF_cut (fun f H => f 1 = PT g1 0 ∧ f 2 = PT g4 0 ∧ f 3 = PT g7 0 ∧ f 5 = PT g24 0 ∧ f 19 = vn ∧ f 20 = I ((a.Next.length : Int)) ∧ f 21 = I ((k : Int)) ∧ f 22 = B (decide ((k : Int) < (a.Next.length : Int))) ∧ H33 = H) ?_ ?_
  · refine wpF_region ?_
    refine wpL_q (U := NoB) rfl (q_lss rfl a33_21 a33_20) ?_
    exact ⟨a33_1, a33_2, a33_3, a33_5, a33_19, a33_20, a33_21, rfl, rfl⟩
  rintro f34 _ ⟨a34_1, a34_2, a34_3, a34_5, a34_19, a34_20, a34_21, a34_22, rfl⟩
  clear a33_1 a33_19 a33_2 a33_20 a33_21 a33_3 a33_5
  refine wpF_seq ?_
  refine wpF_condP a34_22 (fun hlt => ?t49) (fun hlt => ?e49)
  case e49 =>
    refine wpF_exit ?_
    refine atX_here ?_
    refine wpF_seq ?_
    refine wpF_cut (fun f H => f 2 = PT g4 0 ∧ f 3 = PT g7 0 ∧ St H0 NoB (fun b => S b ∧ b < H0.size) [blkE g7 (.cells #[I (0), I (0)] 24), blkE g4 (.cells #[I (a.Signs), v1, v2] 36), rowE 22 v1 (a.Next.take k : List (List Int)), rowE 4 v2 ((a.Takes.take k).map (!·) : List Bool), blkE g24 (.cells #[I (a.Signs), v1, v2] 36), blkE g14 (.cells #[I ((autoFault a).1), I ((autoFault a).2)] 24), blkE g1 (.cells #[I (a.Signs), vn, vt] 36), rdE vn a.Next, rdE vt a.Takes] H) ?_ ?_
    · refine wpF_region ?_
      refine wpL_q (U := NoB) rfl (q_loadBlkA rfl a34_5 Try.isAgg36 Try.sizeOf36 rfl (hS33.blk 2 rfl) (fun h => h)) ?_
      refine wpL_q (U := NoB) rfl (q_build (v := Value.agg #[I (0), I (0)]) rfl par0 (fun w => by kernel_rfl)) ?_
      refine wpL_o rfl ?_
      refine e_storeBlkA (cs' := #[I (a.Signs), v1, v2]) rfl a34_2 rfl Try.sizeOf36 rfl rfl (List.forall_mem_cons.2 ⟨rfl, List.forall_mem_cons.2 ⟨(oneCell_rdL (hS33.rowl 0 rfl)), List.forall_mem_cons.2 ⟨(oneCell_rdL (hS33.rowl 1 rfl)), List.forall_mem_nil _⟩⟩⟩) (hS33.front 5 rfl) (fun H42 hS43 hxx => ?_)
      replace hS43 : St H0 NoB (fun b => S b ∧ b < H0.size) [blkE g4 (.cells #[I (a.Signs), v1, v2] 36), rowE 22 v1 (a.Next.take k : List (List Int)), rowE 4 v2 ((a.Takes.take k).map (!·) : List Bool), blkE g24 (.cells #[I (a.Signs), v1, v2] 36), blkE g14 (.cells #[I ((autoFault a).1), I ((autoFault a).2)] 24), blkE g7 (.cells #[I (0), I (0)] 24), blkE g1 (.cells #[I (a.Signs), vn, vt] 36), rdE vn a.Next, rdE vt a.Takes] H42 := hS43
      refine wpL_o rfl ?_
      refine e_storeBlkA (cs' := #[I (0), I (0)]) rfl a34_3 rfl Try.sizeOf24 rfl rfl (List.forall_mem_cons.2 ⟨rfl, List.forall_mem_cons.2 ⟨rfl, List.forall_mem_nil _⟩⟩) (hS43.front 5 rfl) (fun H44 hS45 hxx => ?_)
      replace hS45 : St H0 NoB (fun b => S b ∧ b < H0.size) [blkE g7 (.cells #[I (0), I (0)] 24), blkE g4 (.cells #[I (a.Signs), v1, v2] 36), rowE 22 v1 (a.Next.take k : List (List Int)), rowE 4 v2 ((a.Takes.take k).map (!·) : List Bool), blkE g24 (.cells #[I (a.Signs), v1, v2] 36), blkE g14 (.cells #[I ((autoFault a).1), I ((autoFault a).2)] 24), blkE g1 (.cells #[I (a.Signs), vn, vt] 36), rdE vn a.Next, rdE vt a.Takes] H44 := hS45
      exact ⟨a34_2, a34_3, hS45⟩
    rintro f46 H46 ⟨a46_2, a46_3, hS46⟩
    clear a34_1 a34_19 a34_2 a34_20 a34_21 a34_22 a34_3 a34_5
    refine wpF_ret ?_
    refine ⟨_, resC a46_2 (loadV_blkA Try.isAgg36 Try.sizeOf36 rfl (hS46.blk 1 rfl)) (resC a46_3 (loadV_blkA Try.isAgg24 Try.sizeOf24 rfl (hS46.blk 0 rfl)) (resN)), hS46.frame, ?_⟩
    show ∃ w1_ w2_, (Value.tuple #[Value.agg #[I (a.Signs), v1, v2], Value.agg #[I (0), I (0)]]) = Value.tuple #[Value.agg #[I (autoNot a).1.Signs, w1_, w2_], Value.agg #[I (autoNot a).2.1, I (autoNot a).2.2]] ∧ Rd (fun b => S b ∧ b < H0.size) H46 w1_ (autoNot a).1.Next ∧ Rd (fun b => S b ∧ b < H0.size) H46 w2_ (autoNot a).1.Takes
    have hS47 : St H0 NoB (fun b => S b ∧ b < H0.size) [rdE v1 (a.Next.take k), blkE g7 (.cells #[I (0), I (0)] 24), blkE g4 (.cells #[I (a.Signs), v1, v2] 36), rowE 4 v2 ((a.Takes.take k).map (!·) : List Bool), blkE g24 (.cells #[I (a.Signs), v1, v2] 36), blkE g14 (.cells #[I ((autoFault a).1), I ((autoFault a).2)] 24), blkE g1 (.cells #[I (a.Signs), vn, vt] 36), rdE vn a.Next, rdE vt a.Takes] H46 := St.fin (hS46.front 2 rfl)
    have hS48 : St H0 NoB (fun b => S b ∧ b < H0.size) [rdE v2 ((a.Takes.take k).map (!·)), rdE v1 (a.Next.take k), blkE g7 (.cells #[I (0), I (0)] 24), blkE g4 (.cells #[I (a.Signs), v1, v2] 36), blkE g24 (.cells #[I (a.Signs), v1, v2] 36), blkE g14 (.cells #[I ((autoFault a).1), I ((autoFault a).2)] 24), blkE g1 (.cells #[I (a.Signs), vn, vt] 36), rdE vn a.Next, rdE vt a.Takes] H46 := St.fin (hS47.front 3 rfl)
    have hq : autoNot a = (⟨a.Signs, a.Next.take k, (a.Takes.take k).map (!·)⟩, 0, 0) := by rw [autoNot, if_neg h1, List.take_of_length_le (by omega), List.take_of_length_le (by omega)]
    exact ⟨v1, v2, by rw [hq], by rw [hq]; exact (hS47.result (hS47.rdS 0 rfl)), by rw [hq]; exact (hS48.result (hS48.rdS 0 rfl))⟩
  refine wpF_skip ?_
  refine wpF_seq ?_
  refine wpF_block ?_
  refine wpF_seq ?_
  obtain ⟨u36, huu36, hlu36⟩ := (Rd.list.1 (hS33.rdS 7 rfl)).elem k (by omega)
  have hS37 : St H0 NoB (fun b => S b ∧ b < H0.size) [rdE u36 (nth a.Next k), rowE 22 v1 (a.Next.take k : List (List Int)), rowE 4 v2 ((a.Takes.take k).map (!·) : List Bool), blkE g24 (.cells #[I (a.Signs), v1, v2] 36), blkE g14 (.cells #[I ((autoFault a).1), I ((autoFault a).2)] 24), blkE g7 (.cells #[I (0), I (0)] 24), blkE g4 (.cells #[I (0), (Value.slice none 0 0), (Value.slice none 0 0)] 36), blkE g1 (.cells #[I (a.Signs), vn, vt] 36), rdE vn a.Next, rdE vt a.Takes] H33 := hS33.rd huu36
  refine wpF_cut (fun f H => f 1 = PT g1 0 ∧ f 2 = PT g4 0 ∧ f 3 = PT g7 0 ∧ f 5 = PT g24 0 ∧ f 6 = I ((k : Int)) ∧ f 7 = u36 ∧ f 19 = vn ∧ f 20 = I ((a.Next.length : Int)) ∧ f 21 = I ((k : Int)) ∧ St H0 NoB (fun b => S b ∧ b < H0.size) [rdE u36 (nth a.Next k), rowE 22 v1 (a.Next.take k : List (List Int)), rowE 4 v2 ((a.Takes.take k).map (!·) : List Bool), blkE g24 (.cells #[I (a.Signs), v1, v2] 36), blkE g14 (.cells #[I ((autoFault a).1), I ((autoFault a).2)] 24), blkE g7 (.cells #[I (0), I (0)] 24), blkE g4 (.cells #[I (0), (Value.slice none 0 0), (Value.slice none 0 0)] 36), blkE g1 (.cells #[I (a.Signs), vn, vt] 36), rdE vn a.Next, rdE vt a.Takes] H) ?_ ?_
  · refine wpF_region ?_
    refine wpL_q (U := NoB) rfl (q_move (v := I ((k : Int))) rfl a34_21) ?_
    refine wpL_q (U := NoB) rfl (q_indexRd (k := k) rfl Try.underlying27 el_LInt_22_AutoA2 a34_19 a34_21 (hS33.rdl 7 rfl) (by omega) (by omega)) ?_
    refine wpL_q (U := NoB) rfl (q_loadE rfl rfl (hlu36 Try.prog 22 _ el_LInt_22_AutoA2 (fun _ h => False.elim h))) ?_
    refine wpL_q (U := NoB) rfl (q_assign (v := I ((k : Int))) rfl rfl) ?_
    refine wpL_q (U := NoB) rfl (q_assign (v := u36) rfl rfl) ?_
    exact ⟨a34_1, a34_2, a34_3, a34_5, rfl, rfl, a34_19, a34_20, a34_21, hS37⟩
  rintro f38 H38 ⟨a38_1, a38_2, a38_3, a38_5, a38_6, a38_7, a38_19, a38_20, a38_21, hS38⟩
  clear a34_1 a34_19 a34_2 a34_20 a34_21 a34_22 a34_3 a34_5
  refine wpF_cut (fun f H => ∃ (v39o5 : Value), ∃ (v39o15 : Value), f 1 = PT g1 0 ∧ f 2 = PT g4 0 ∧ f 3 = PT g7 0 ∧ f 5 = PT g24 0 ∧ f 19 = vn ∧ f 20 = I ((a.Next.length : Int)) ∧ f 21 = I ((k : Int)) ∧ St H0 NoB (fun b => S b ∧ b < H0.size) [blkE g24 (.cells #[I (a.Signs), v39o5, v39o15] 36), rowE 4 v39o15 ((a.Takes.take (k + 1)).map (!·) : List Bool), rowE 22 v39o5 (a.Next.take (k + 1) : List (List Int)), blkE g14 (.cells #[I ((autoFault a).1), I ((autoFault a).2)] 24), blkE g7 (.cells #[I (0), I (0)] 24), blkE g4 (.cells #[I (0), (Value.slice none 0 0), (Value.slice none 0 0)] 36), blkE g1 (.cells #[I (a.Signs), vn, vt] 36), rdE vn a.Next, rdE vt a.Takes] H) ?_ ?_
  · refine wpF_drawn [none, none, none, none, none, some 0, none, none, none, none, none, none, none, none, none, some 1, none, some 2, none, some 3] [[], [], [], [], [], [], [0], [0], [0], [0], [0], [0], [0], [0], [0], [], [1], [], [], []] (fun l b => match l with | 0 => rowB v1 b | 1 => rowB v2 b | 2 => True | 3 => True | _ => False) (by kernel_rfl) (by kernel_rfl) ?_
    refine wpR_q 0 (by kernel_rfl) rfl (quietAt rfl rfl (q_fieldAddr rfl Try.underlying36 rfl Try.sizeOf27 a38_5)) ?_
    refine wpR_q 1 (by kernel_rfl) rfl (quietAt rfl rfl (q_loadBlk rfl rfl Try.isAgg27 (hS38.blk 3 rfl) rfl (labU_not [] rfl (List.forall_mem_nil _)))) ?_
    refine wpR_q 2 (by kernel_rfl) rfl (quietAt rfl rfl (q_move (v := u36) rfl a38_7)) ?_
    refine wpR_q 6 (by kernel_rfl) rfl (quietAt rfl rfl (q_fieldAddr rfl Try.underlying36 rfl Try.sizeOf32 a38_5)) ?_
    refine wpR_q 7 (by kernel_rfl) rfl (quietAt rfl rfl (q_loadBlk rfl rfl Try.isAgg32 (hS38.blk 3 rfl) rfl (labU_not [0] rfl (List.forall_mem_cons.2 ⟨fun hb => hS38.dis 1 3 (by decide) rfl rfl _ hb rfl, List.forall_mem_nil _⟩)))) ?_
    refine wpR_q 8 (by kernel_rfl) rfl (quietAt rfl rfl (q_fieldAddr rfl Try.underlying36 rfl Try.sizeOf32 a38_1)) ?_
    refine wpR_q 9 (by kernel_rfl) rfl (quietAt rfl rfl (q_loadBlk rfl rfl Try.isAgg32 (hS38.blk 7 rfl) rfl (labU_not [0] rfl (List.forall_mem_cons.2 ⟨fun hb => hS38.dis 1 7 (by decide) rfl rfl _ hb rfl, List.forall_mem_nil _⟩)))) ?_
    refine wpR_q 10 (by kernel_rfl) rfl (quietAt rfl rfl (q_move (v := I ((k : Int))) rfl a38_6)) ?_
    refine wpR_q 11 (by kernel_rfl) rfl (quietAt rfl rfl (q_indexRd (k := k) rfl Try.underlying32 el_Bool_4_AutoA2 rfl rfl (hS38.rdl 9 rfl) (by omega) (by omega))) ?_
    refine wpR_q 12 (by kernel_rfl) rfl (quietAt rfl rfl (q_loadBool (k := k) rfl rfl el_Bool_4_AutoA2 (Rd.list.1 (hS38.rdS 9 rfl)) (by omega) (labU_sub [0] rfl (List.forall_mem_cons.2 ⟨fun b hb => St.inSL 1 rfl hb, List.forall_mem_nil _⟩)))) ?_
    refine wpR_q 13 (by kernel_rfl) rfl (quietAt rfl rfl (q_not rfl rfl)) ?_
    refine wpR_n [3, 14] (by kernel_rfl) ?_
    refine List.forall_mem_cons.2 ⟨?_, List.forall_mem_cons.2 ⟨?_, List.forall_mem_nil _⟩⟩
    · refine exE rfl rfl ?_
      refine e_call rfl Try.call45 (arr1 (v0 := u36) rfl) (Clone u36 _ (hS38.rdS 0 rfl)) ?_
      rintro r39o3 H39o3 ⟨hxx, hrr39o3⟩
      have hS39o3 : St H0 NoB (fun b => S b ∧ b < H0.size) [rdE r39o3 ((nth a.Next k)), rdE u36 (nth a.Next k), rowE 22 v1 (a.Next.take k : List (List Int)), rowE 4 v2 ((a.Takes.take k).map (!·) : List Bool), blkE g24 (.cells #[I (a.Signs), v1, v2] 36), blkE g14 (.cells #[I ((autoFault a).1), I ((autoFault a).2)] 24), blkE g7 (.cells #[I (0), I (0)] 24), blkE g4 (.cells #[I (0), (Value.slice none 0 0), (Value.slice none 0 0)] 36), blkE g1 (.cells #[I (a.Signs), vn, vt] 36), rdE vn a.Next, rdE vt a.Takes] H39o3 := hS38.res hxx hrr39o3
      refine ⟨Ext.mono hxx (fun _ h => h.elim), ?_⟩
      refine wpR_n [4, 14] (by kernel_rfl) ?_
      refine List.forall_mem_cons.2 ⟨?_, List.forall_mem_cons.2 ⟨?_, List.forall_mem_nil _⟩⟩
      · refine exE rfl rfl ?_
        refine e_buildSlice (vs := [r39o3]) (xs := ([(nth a.Next k)] : List (List Int))) rfl Try.underlying27 Try.zeroValue22 rfl Try.sizeOf22 (par1 (v0 := r39o3) rfl) rfl hS39o3 (RdVs.cons (hS39o3.rdS 0 rfl) (RdVs.nil)) (by decide) (by decide) (fun v39o4 H39o4 hS39o4 hxx hvv39o4 => ?_)
        replace hS39o4 : St H0 NoB (fun b => S b ∧ b < H0.size) [rowE 22 v39o4 ([(nth a.Next k)] : List (List Int)), rdE r39o3 ((nth a.Next k)), rdE u36 (nth a.Next k), rowE 22 v1 (a.Next.take k : List (List Int)), rowE 4 v2 ((a.Takes.take k).map (!·) : List Bool), blkE g24 (.cells #[I (a.Signs), v1, v2] 36), blkE g14 (.cells #[I ((autoFault a).1), I ((autoFault a).2)] 24), blkE g7 (.cells #[I (0), I (0)] 24), blkE g4 (.cells #[I (0), (Value.slice none 0 0), (Value.slice none 0 0)] 36), blkE g1 (.cells #[I (a.Signs), vn, vt] 36), rdE vn a.Next, rdE vt a.Takes] H39o4 := hS39o4
        refine ⟨Ext.mono hxx (fun _ h => h.elim), ?_⟩
        refine wpR_n [5, 14] (by kernel_rfl) ?_
        refine List.forall_mem_cons.2 ⟨?_, List.forall_mem_cons.2 ⟨?_, List.forall_mem_nil _⟩⟩
        · have hS39o5 : St H0 NoB (fun b => S b ∧ b < H0.size) [rdE v39o4 ([(nth a.Next k)] : List (List Int)), rdE r39o3 ((nth a.Next k)), rdE u36 (nth a.Next k), rowE 22 v1 (a.Next.take k : List (List Int)), rowE 4 v2 ((a.Takes.take k).map (!·) : List Bool), blkE g24 (.cells #[I (a.Signs), v1, v2] 36), blkE g14 (.cells #[I ((autoFault a).1), I ((autoFault a).2)] 24), blkE g7 (.cells #[I (0), I (0)] 24), blkE g4 (.cells #[I (0), (Value.slice none 0 0), (Value.slice none 0 0)] 36), blkE g1 (.cells #[I (a.Signs), vn, vt] 36), rdE vn a.Next, rdE vt a.Takes] H39o4 := St.fin hS39o4
          have hS39o5x2 : St H0 NoB (fun b => S b ∧ b < H0.size) [rowE 22 v1 (a.Next.take k : List (List Int)), rdE v39o4 ([(nth a.Next k)] : List (List Int)), rdE r39o3 ((nth a.Next k)), rdE u36 (nth a.Next k), rowE 4 v2 ((a.Takes.take k).map (!·) : List Bool), blkE g24 (.cells #[I (a.Signs), v1, v2] 36), blkE g14 (.cells #[I ((autoFault a).1), I ((autoFault a).2)] 24), blkE g7 (.cells #[I (0), I (0)] 24), blkE g4 (.cells #[I (0), (Value.slice none 0 0), (Value.slice none 0 0)] 36), blkE g1 (.cells #[I (a.Signs), vn, vt] 36), rdE vn a.Next, rdE vt a.Takes] H39o4 := (hS39o5.front 3 rfl)
          refine exE rfl rfl ?_
          refine e_append rfl Try.underlying27 em_LInt_22_AutoA2 rfl rfl hS39o5x2 (hS39o5x2.rdS 1 rfl) (fun _ h => h) (by have hb : GoT.bytes (List Int) = 24 := rfl; simp [hb]; omega) (by decide) (fun v39o5 H39o5 hS39o5x3 hxx => ?_)
          replace hS39o5x3 : St H0 NoB (fun b => S b ∧ b < H0.size) [rowE 22 v39o5 ((a.Next.take k) ++ ([(nth a.Next k)]) : List (List Int)), rdE v39o4 ([(nth a.Next k)] : List (List Int)), rdE r39o3 ((nth a.Next k)), rdE u36 (nth a.Next k), rowE 4 v2 ((a.Takes.take k).map (!·) : List Bool), blkE g24 (.cells #[I (a.Signs), v1, v2] 36), blkE g14 (.cells #[I ((autoFault a).1), I ((autoFault a).2)] 24), blkE g7 (.cells #[I (0), I (0)] 24), blkE g4 (.cells #[I (0), (Value.slice none 0 0), (Value.slice none 0 0)] 36), blkE g1 (.cells #[I (a.Signs), vn, vt] 36), rdE vn a.Next, rdE vt a.Takes] H39o5 := hS39o5x3
          have hS39o5x4 : St H0 NoB (fun b => S b ∧ b < H0.size) [rowE 22 v39o5 (a.Next.take (k + 1) : List (List Int)), rdE v39o4 ([(nth a.Next k)] : List (List Int)), rdE r39o3 ((nth a.Next k)), rdE u36 (nth a.Next k), rowE 4 v2 ((a.Takes.take k).map (!·) : List Bool), blkE g24 (.cells #[I (a.Signs), v1, v2] 36), blkE g14 (.cells #[I ((autoFault a).1), I ((autoFault a).2)] 24), blkE g7 (.cells #[I (0), I (0)] 24), blkE g4 (.cells #[I (0), (Value.slice none 0 0), (Value.slice none 0 0)] 36), blkE g1 (.cells #[I (a.Signs), vn, vt] 36), rdE vn a.Next, rdE vt a.Takes] H39o5 := by rw [show (a.Next.take (k + 1)) = ((a.Next.take k) ++ ([(nth a.Next k)])) from (take_succ_nth (by omega))]; exact hS39o5x3
          refine ⟨Ext.mono hxx (labS_of 0 rfl (fun b hb => hb)), ?_⟩
          refine wpR_q 16 (by kernel_rfl) rfl (quietAt rfl rfl (q_fieldAddr rfl Try.underlying36 rfl Try.sizeOf27 a38_5)) ?_
          refine wpR_n [14] (by kernel_rfl) ?_
          refine List.forall_mem_cons.2 ⟨?_, List.forall_mem_nil _⟩
          refine exE rfl rfl ?_
          refine e_buildSlice (vs := [B (!(nth a.Takes k))]) (xs := ([!(nth a.Takes k)] : List Bool)) rfl Try.underlying32 Try.zeroValue4 rfl Try.sizeOf4 (par1 (v0 := B (!(nth a.Takes k))) rfl) rfl hS39o5x4 (RdVs.cons (Rd.bool.2 rfl) (RdVs.nil)) (by decide) (by decide) (fun v39o14 H39o14 hS39o14 hxx hvv39o14 => ?_)
          replace hS39o14 : St H0 NoB (fun b => S b ∧ b < H0.size) [rowE 4 v39o14 ([!(nth a.Takes k)] : List Bool), rowE 22 v39o5 (a.Next.take (k + 1) : List (List Int)), rdE v39o4 ([(nth a.Next k)] : List (List Int)), rdE r39o3 ((nth a.Next k)), rdE u36 (nth a.Next k), rowE 4 v2 ((a.Takes.take k).map (!·) : List Bool), blkE g24 (.cells #[I (a.Signs), v1, v2] 36), blkE g14 (.cells #[I ((autoFault a).1), I ((autoFault a).2)] 24), blkE g7 (.cells #[I (0), I (0)] 24), blkE g4 (.cells #[I (0), (Value.slice none 0 0), (Value.slice none 0 0)] 36), blkE g1 (.cells #[I (a.Signs), vn, vt] 36), rdE vn a.Next, rdE vt a.Takes] H39o14 := hS39o14
          refine ⟨Ext.mono hxx (fun _ h => h.elim), ?_⟩
          refine wpR_n [15] (by kernel_rfl) ?_
          refine List.forall_mem_cons.2 ⟨?_, List.forall_mem_nil _⟩
          have hS39o15 : St H0 NoB (fun b => S b ∧ b < H0.size) [rdE v39o14 ([!(nth a.Takes k)] : List Bool), rowE 22 v39o5 (a.Next.take (k + 1) : List (List Int)), rdE v39o4 ([(nth a.Next k)] : List (List Int)), rdE r39o3 ((nth a.Next k)), rdE u36 (nth a.Next k), rowE 4 v2 ((a.Takes.take k).map (!·) : List Bool), blkE g24 (.cells #[I (a.Signs), v1, v2] 36), blkE g14 (.cells #[I ((autoFault a).1), I ((autoFault a).2)] 24), blkE g7 (.cells #[I (0), I (0)] 24), blkE g4 (.cells #[I (0), (Value.slice none 0 0), (Value.slice none 0 0)] 36), blkE g1 (.cells #[I (a.Signs), vn, vt] 36), rdE vn a.Next, rdE vt a.Takes] H39o14 := St.fin hS39o14
          have hS39o15x2 : St H0 NoB (fun b => S b ∧ b < H0.size) [rowE 4 v2 ((a.Takes.take k).map (!·) : List Bool), rdE v39o14 ([!(nth a.Takes k)] : List Bool), rowE 22 v39o5 (a.Next.take (k + 1) : List (List Int)), rdE v39o4 ([(nth a.Next k)] : List (List Int)), rdE r39o3 ((nth a.Next k)), rdE u36 (nth a.Next k), blkE g24 (.cells #[I (a.Signs), v1, v2] 36), blkE g14 (.cells #[I ((autoFault a).1), I ((autoFault a).2)] 24), blkE g7 (.cells #[I (0), I (0)] 24), blkE g4 (.cells #[I (0), (Value.slice none 0 0), (Value.slice none 0 0)] 36), blkE g1 (.cells #[I (a.Signs), vn, vt] 36), rdE vn a.Next, rdE vt a.Takes] H39o14 := (hS39o15.front 5 rfl)
          refine exE rfl rfl ?_
          refine e_append rfl Try.underlying32 em_Bool_4_AutoA2 rfl rfl hS39o15x2 (hS39o15x2.rdS 1 rfl) (fun _ h => h) (by have hb : GoT.bytes Bool = 1 := rfl; simp [hb]; omega) (by decide) (fun v39o15 H39o15 hS39o15x3 hxx => ?_)
          replace hS39o15x3 : St H0 NoB (fun b => S b ∧ b < H0.size) [rowE 4 v39o15 (((a.Takes.take k).map (!·)) ++ ([!(nth a.Takes k)]) : List Bool), rdE v39o14 ([!(nth a.Takes k)] : List Bool), rowE 22 v39o5 (a.Next.take (k + 1) : List (List Int)), rdE v39o4 ([(nth a.Next k)] : List (List Int)), rdE r39o3 ((nth a.Next k)), rdE u36 (nth a.Next k), blkE g24 (.cells #[I (a.Signs), v1, v2] 36), blkE g14 (.cells #[I ((autoFault a).1), I ((autoFault a).2)] 24), blkE g7 (.cells #[I (0), I (0)] 24), blkE g4 (.cells #[I (0), (Value.slice none 0 0), (Value.slice none 0 0)] 36), blkE g1 (.cells #[I (a.Signs), vn, vt] 36), rdE vn a.Next, rdE vt a.Takes] H39o15 := hS39o15x3
          have hS39o15x4 : St H0 NoB (fun b => S b ∧ b < H0.size) [rowE 4 v39o15 ((a.Takes.take (k + 1)).map (!·) : List Bool), rdE v39o14 ([!(nth a.Takes k)] : List Bool), rowE 22 v39o5 (a.Next.take (k + 1) : List (List Int)), rdE v39o4 ([(nth a.Next k)] : List (List Int)), rdE r39o3 ((nth a.Next k)), rdE u36 (nth a.Next k), blkE g24 (.cells #[I (a.Signs), v1, v2] 36), blkE g14 (.cells #[I ((autoFault a).1), I ((autoFault a).2)] 24), blkE g7 (.cells #[I (0), I (0)] 24), blkE g4 (.cells #[I (0), (Value.slice none 0 0), (Value.slice none 0 0)] 36), blkE g1 (.cells #[I (a.Signs), vn, vt] 36), rdE vn a.Next, rdE vt a.Takes] H39o15 := by rw [show ((a.Takes.take (k + 1)).map (!·)) = (((a.Takes.take k).map (!·)) ++ ([!(nth a.Takes k)])) from (by rw [take_succ_nth (by omega), List.map_append]; rfl)]; exact hS39o15x3
          refine ⟨Ext.mono hxx (labS_of 1 rfl (fun b hb => hb)), ?_⟩
          refine wpR_n [17] (by kernel_rfl) ?_
          refine List.forall_mem_cons.2 ⟨?_, List.forall_mem_nil _⟩
          refine exE rfl rfl ?_
          refine e_storeBlk (v := v39o5) rfl rfl rfl (oneCell_rdL (hS39o15x4.rowl 2 rfl)) Try.sizeOf27 (by show _ < 3; decide) (hS39o15x4.front 6 rfl) (fun H39o17 hS39o17 hxx => ?_)
          replace hS39o17 : St H0 NoB (fun b => S b ∧ b < H0.size) [blkE g24 (.cells #[I (a.Signs), v39o5, v2] 36), rowE 4 v39o15 ((a.Takes.take (k + 1)).map (!·) : List Bool), rdE v39o14 ([!(nth a.Takes k)] : List Bool), rowE 22 v39o5 (a.Next.take (k + 1) : List (List Int)), rdE v39o4 ([(nth a.Next k)] : List (List Int)), rdE r39o3 ((nth a.Next k)), rdE u36 (nth a.Next k), blkE g14 (.cells #[I ((autoFault a).1), I ((autoFault a).2)] 24), blkE g7 (.cells #[I (0), I (0)] 24), blkE g4 (.cells #[I (0), (Value.slice none 0 0), (Value.slice none 0 0)] 36), blkE g1 (.cells #[I (a.Signs), vn, vt] 36), rdE vn a.Next, rdE vt a.Takes] H39o17 := hS39o17
          refine ⟨Ext.mono hxx (labS_of 2 rfl (fun _ _ => trivial)), ?_⟩
          refine wpR_q 18 (by kernel_rfl) rfl (quietAt rfl rfl (q_fieldAddr rfl Try.underlying36 rfl Try.sizeOf32 a38_5)) ?_
          refine wpR_n [19] (by kernel_rfl) ?_
          refine List.forall_mem_cons.2 ⟨?_, List.forall_mem_nil _⟩
          refine exE rfl rfl ?_
          refine e_storeBlk (v := v39o15) rfl rfl rfl (oneCell_rdL (hS39o17.rowl 1 rfl)) Try.sizeOf32 (by show _ < 3; decide) hS39o17 (fun H39o19 hS39o19 hxx => ?_)
          replace hS39o19 : St H0 NoB (fun b => S b ∧ b < H0.size) [blkE g24 (.cells #[I (a.Signs), v39o5, v39o15] 36), rowE 4 v39o15 ((a.Takes.take (k + 1)).map (!·) : List Bool), rdE v39o14 ([!(nth a.Takes k)] : List Bool), rowE 22 v39o5 (a.Next.take (k + 1) : List (List Int)), rdE v39o4 ([(nth a.Next k)] : List (List Int)), rdE r39o3 ((nth a.Next k)), rdE u36 (nth a.Next k), blkE g14 (.cells #[I ((autoFault a).1), I ((autoFault a).2)] 24), blkE g7 (.cells #[I (0), I (0)] 24), blkE g4 (.cells #[I (0), (Value.slice none 0 0), (Value.slice none 0 0)] 36), blkE g1 (.cells #[I (a.Signs), vn, vt] 36), rdE vn a.Next, rdE vt a.Takes] H39o19 := hS39o19
          refine ⟨Ext.mono hxx (labS_of 3 rfl (fun _ _ => trivial)), ?_⟩
          refine wpR_end (by kernel_rfl) ?_
          exact ⟨v39o5, v39o15, a38_1, a38_2, a38_3, a38_5, a38_19, a38_20, a38_21, (hS39o19.drop (sk (sk (sn (sk (sn (sn (sn (sk (sk (sk (sk (sk (sk (List.Sublist.slnil)))))))))))))))⟩
        · refine exE rfl rfl ?_
          refine e_buildSlice (vs := [B (!(nth a.Takes k))]) (xs := ([!(nth a.Takes k)] : List Bool)) rfl Try.underlying32 Try.zeroValue4 rfl Try.sizeOf4 (par1 (v0 := B (!(nth a.Takes k))) rfl) rfl hS39o4 (RdVs.cons (Rd.bool.2 rfl) (RdVs.nil)) (by decide) (by decide) (fun v39o14 H39o14 hS39o14 hxx hvv39o14 => ?_)
          replace hS39o14 : St H0 NoB (fun b => S b ∧ b < H0.size) [rowE 4 v39o14 ([!(nth a.Takes k)] : List Bool), rowE 22 v39o4 ([(nth a.Next k)] : List (List Int)), rdE r39o3 ((nth a.Next k)), rdE u36 (nth a.Next k), rowE 22 v1 (a.Next.take k : List (List Int)), rowE 4 v2 ((a.Takes.take k).map (!·) : List Bool), blkE g24 (.cells #[I (a.Signs), v1, v2] 36), blkE g14 (.cells #[I ((autoFault a).1), I ((autoFault a).2)] 24), blkE g7 (.cells #[I (0), I (0)] 24), blkE g4 (.cells #[I (0), (Value.slice none 0 0), (Value.slice none 0 0)] 36), blkE g1 (.cells #[I (a.Signs), vn, vt] 36), rdE vn a.Next, rdE vt a.Takes] H39o14 := hS39o14
          refine ⟨Ext.mono hxx (fun _ h => h.elim), ?_⟩
          refine wpR_n [5] (by kernel_rfl) ?_
          refine List.forall_mem_cons.2 ⟨?_, List.forall_mem_nil _⟩
          have hS39o5 : St H0 NoB (fun b => S b ∧ b < H0.size) [rdE v39o4 ([(nth a.Next k)] : List (List Int)), rowE 4 v39o14 ([!(nth a.Takes k)] : List Bool), rdE r39o3 ((nth a.Next k)), rdE u36 (nth a.Next k), rowE 22 v1 (a.Next.take k : List (List Int)), rowE 4 v2 ((a.Takes.take k).map (!·) : List Bool), blkE g24 (.cells #[I (a.Signs), v1, v2] 36), blkE g14 (.cells #[I ((autoFault a).1), I ((autoFault a).2)] 24), blkE g7 (.cells #[I (0), I (0)] 24), blkE g4 (.cells #[I (0), (Value.slice none 0 0), (Value.slice none 0 0)] 36), blkE g1 (.cells #[I (a.Signs), vn, vt] 36), rdE vn a.Next, rdE vt a.Takes] H39o14 := St.fin (hS39o14.front 1 rfl)
          have hS39o5x2 : St H0 NoB (fun b => S b ∧ b < H0.size) [rowE 22 v1 (a.Next.take k : List (List Int)), rdE v39o4 ([(nth a.Next k)] : List (List Int)), rowE 4 v39o14 ([!(nth a.Takes k)] : List Bool), rdE r39o3 ((nth a.Next k)), rdE u36 (nth a.Next k), rowE 4 v2 ((a.Takes.take k).map (!·) : List Bool), blkE g24 (.cells #[I (a.Signs), v1, v2] 36), blkE g14 (.cells #[I ((autoFault a).1), I ((autoFault a).2)] 24), blkE g7 (.cells #[I (0), I (0)] 24), blkE g4 (.cells #[I (0), (Value.slice none 0 0), (Value.slice none 0 0)] 36), blkE g1 (.cells #[I (a.Signs), vn, vt] 36), rdE vn a.Next, rdE vt a.Takes] H39o14 := (hS39o5.front 4 rfl)
          refine exE rfl rfl ?_
          refine e_append rfl Try.underlying27 em_LInt_22_AutoA2 rfl rfl hS39o5x2 (hS39o5x2.rdS 1 rfl) (fun _ h => h) (by have hb : GoT.bytes (List Int) = 24 := rfl; simp [hb]; omega) (by decide) (fun v39o5 H39o5 hS39o5x3 hxx => ?_)
          replace hS39o5x3 : St H0 NoB (fun b => S b ∧ b < H0.size) [rowE 22 v39o5 ((a.Next.take k) ++ ([(nth a.Next k)]) : List (List Int)), rdE v39o4 ([(nth a.Next k)] : List (List Int)), rowE 4 v39o14 ([!(nth a.Takes k)] : List Bool), rdE r39o3 ((nth a.Next k)), rdE u36 (nth a.Next k), rowE 4 v2 ((a.Takes.take k).map (!·) : List Bool), blkE g24 (.cells #[I (a.Signs), v1, v2] 36), blkE g14 (.cells #[I ((autoFault a).1), I ((autoFault a).2)] 24), blkE g7 (.cells #[I (0), I (0)] 24), blkE g4 (.cells #[I (0), (Value.slice none 0 0), (Value.slice none 0 0)] 36), blkE g1 (.cells #[I (a.Signs), vn, vt] 36), rdE vn a.Next, rdE vt a.Takes] H39o5 := hS39o5x3
          have hS39o5x4 : St H0 NoB (fun b => S b ∧ b < H0.size) [rowE 22 v39o5 (a.Next.take (k + 1) : List (List Int)), rdE v39o4 ([(nth a.Next k)] : List (List Int)), rowE 4 v39o14 ([!(nth a.Takes k)] : List Bool), rdE r39o3 ((nth a.Next k)), rdE u36 (nth a.Next k), rowE 4 v2 ((a.Takes.take k).map (!·) : List Bool), blkE g24 (.cells #[I (a.Signs), v1, v2] 36), blkE g14 (.cells #[I ((autoFault a).1), I ((autoFault a).2)] 24), blkE g7 (.cells #[I (0), I (0)] 24), blkE g4 (.cells #[I (0), (Value.slice none 0 0), (Value.slice none 0 0)] 36), blkE g1 (.cells #[I (a.Signs), vn, vt] 36), rdE vn a.Next, rdE vt a.Takes] H39o5 := by rw [show (a.Next.take (k + 1)) = ((a.Next.take k) ++ ([(nth a.Next k)])) from (take_succ_nth (by omega))]; exact hS39o5x3
          refine ⟨Ext.mono hxx (labS_of 0 rfl (fun b hb => hb)), ?_⟩
          refine wpR_q 16 (by kernel_rfl) rfl (quietAt rfl rfl (q_fieldAddr rfl Try.underlying36 rfl Try.sizeOf27 a38_5)) ?_
          refine wpR_n [15] (by kernel_rfl) ?_
          refine List.forall_mem_cons.2 ⟨?_, List.forall_mem_nil _⟩
          have hS39o15 : St H0 NoB (fun b => S b ∧ b < H0.size) [rdE v39o14 ([!(nth a.Takes k)] : List Bool), rowE 22 v39o5 (a.Next.take (k + 1) : List (List Int)), rdE v39o4 ([(nth a.Next k)] : List (List Int)), rdE r39o3 ((nth a.Next k)), rdE u36 (nth a.Next k), rowE 4 v2 ((a.Takes.take k).map (!·) : List Bool), blkE g24 (.cells #[I (a.Signs), v1, v2] 36), blkE g14 (.cells #[I ((autoFault a).1), I ((autoFault a).2)] 24), blkE g7 (.cells #[I (0), I (0)] 24), blkE g4 (.cells #[I (0), (Value.slice none 0 0), (Value.slice none 0 0)] 36), blkE g1 (.cells #[I (a.Signs), vn, vt] 36), rdE vn a.Next, rdE vt a.Takes] H39o5 := St.fin (hS39o5x4.front 2 rfl)
          have hS39o15x2 : St H0 NoB (fun b => S b ∧ b < H0.size) [rowE 4 v2 ((a.Takes.take k).map (!·) : List Bool), rdE v39o14 ([!(nth a.Takes k)] : List Bool), rowE 22 v39o5 (a.Next.take (k + 1) : List (List Int)), rdE v39o4 ([(nth a.Next k)] : List (List Int)), rdE r39o3 ((nth a.Next k)), rdE u36 (nth a.Next k), blkE g24 (.cells #[I (a.Signs), v1, v2] 36), blkE g14 (.cells #[I ((autoFault a).1), I ((autoFault a).2)] 24), blkE g7 (.cells #[I (0), I (0)] 24), blkE g4 (.cells #[I (0), (Value.slice none 0 0), (Value.slice none 0 0)] 36), blkE g1 (.cells #[I (a.Signs), vn, vt] 36), rdE vn a.Next, rdE vt a.Takes] H39o5 := (hS39o15.front 5 rfl)
          refine exE rfl rfl ?_
          refine e_append rfl Try.underlying32 em_Bool_4_AutoA2 rfl rfl hS39o15x2 (hS39o15x2.rdS 1 rfl) (fun _ h => h) (by have hb : GoT.bytes Bool = 1 := rfl; simp [hb]; omega) (by decide) (fun v39o15 H39o15 hS39o15x3 hxx => ?_)
          replace hS39o15x3 : St H0 NoB (fun b => S b ∧ b < H0.size) [rowE 4 v39o15 (((a.Takes.take k).map (!·)) ++ ([!(nth a.Takes k)]) : List Bool), rdE v39o14 ([!(nth a.Takes k)] : List Bool), rowE 22 v39o5 (a.Next.take (k + 1) : List (List Int)), rdE v39o4 ([(nth a.Next k)] : List (List Int)), rdE r39o3 ((nth a.Next k)), rdE u36 (nth a.Next k), blkE g24 (.cells #[I (a.Signs), v1, v2] 36), blkE g14 (.cells #[I ((autoFault a).1), I ((autoFault a).2)] 24), blkE g7 (.cells #[I (0), I (0)] 24), blkE g4 (.cells #[I (0), (Value.slice none 0 0), (Value.slice none 0 0)] 36), blkE g1 (.cells #[I (a.Signs), vn, vt] 36), rdE vn a.Next, rdE vt a.Takes] H39o15 := hS39o15x3
          have hS39o15x4 : St H0 NoB (fun b => S b ∧ b < H0.size) [rowE 4 v39o15 ((a.Takes.take (k + 1)).map (!·) : List Bool), rdE v39o14 ([!(nth a.Takes k)] : List Bool), rowE 22 v39o5 (a.Next.take (k + 1) : List (List Int)), rdE v39o4 ([(nth a.Next k)] : List (List Int)), rdE r39o3 ((nth a.Next k)), rdE u36 (nth a.Next k), blkE g24 (.cells #[I (a.Signs), v1, v2] 36), blkE g14 (.cells #[I ((autoFault a).1), I ((autoFault a).2)] 24), blkE g7 (.cells #[I (0), I (0)] 24), blkE g4 (.cells #[I (0), (Value.slice none 0 0), (Value.slice none 0 0)] 36), blkE g1 (.cells #[I (a.Signs), vn, vt] 36), rdE vn a.Next, rdE vt a.Takes] H39o15 := by rw [show ((a.Takes.take (k + 1)).map (!·)) = (((a.Takes.take k).map (!·)) ++ ([!(nth a.Takes k)])) from (by rw [take_succ_nth (by omega), List.map_append]; rfl)]; exact hS39o15x3
          refine ⟨Ext.mono hxx (labS_of 1 rfl (fun b hb => hb)), ?_⟩
          refine wpR_n [17] (by kernel_rfl) ?_
          refine List.forall_mem_cons.2 ⟨?_, List.forall_mem_nil _⟩
          refine exE rfl rfl ?_
          refine e_storeBlk (v := v39o5) rfl rfl rfl (oneCell_rdL (hS39o15x4.rowl 2 rfl)) Try.sizeOf27 (by show _ < 3; decide) (hS39o15x4.front 6 rfl) (fun H39o17 hS39o17 hxx => ?_)
          replace hS39o17 : St H0 NoB (fun b => S b ∧ b < H0.size) [blkE g24 (.cells #[I (a.Signs), v39o5, v2] 36), rowE 4 v39o15 ((a.Takes.take (k + 1)).map (!·) : List Bool), rdE v39o14 ([!(nth a.Takes k)] : List Bool), rowE 22 v39o5 (a.Next.take (k + 1) : List (List Int)), rdE v39o4 ([(nth a.Next k)] : List (List Int)), rdE r39o3 ((nth a.Next k)), rdE u36 (nth a.Next k), blkE g14 (.cells #[I ((autoFault a).1), I ((autoFault a).2)] 24), blkE g7 (.cells #[I (0), I (0)] 24), blkE g4 (.cells #[I (0), (Value.slice none 0 0), (Value.slice none 0 0)] 36), blkE g1 (.cells #[I (a.Signs), vn, vt] 36), rdE vn a.Next, rdE vt a.Takes] H39o17 := hS39o17
          refine ⟨Ext.mono hxx (labS_of 2 rfl (fun _ _ => trivial)), ?_⟩
          refine wpR_q 18 (by kernel_rfl) rfl (quietAt rfl rfl (q_fieldAddr rfl Try.underlying36 rfl Try.sizeOf32 a38_5)) ?_
          refine wpR_n [19] (by kernel_rfl) ?_
          refine List.forall_mem_cons.2 ⟨?_, List.forall_mem_nil _⟩
          refine exE rfl rfl ?_
          refine e_storeBlk (v := v39o15) rfl rfl rfl (oneCell_rdL (hS39o17.rowl 1 rfl)) Try.sizeOf32 (by show _ < 3; decide) hS39o17 (fun H39o19 hS39o19 hxx => ?_)
          replace hS39o19 : St H0 NoB (fun b => S b ∧ b < H0.size) [blkE g24 (.cells #[I (a.Signs), v39o5, v39o15] 36), rowE 4 v39o15 ((a.Takes.take (k + 1)).map (!·) : List Bool), rdE v39o14 ([!(nth a.Takes k)] : List Bool), rowE 22 v39o5 (a.Next.take (k + 1) : List (List Int)), rdE v39o4 ([(nth a.Next k)] : List (List Int)), rdE r39o3 ((nth a.Next k)), rdE u36 (nth a.Next k), blkE g14 (.cells #[I ((autoFault a).1), I ((autoFault a).2)] 24), blkE g7 (.cells #[I (0), I (0)] 24), blkE g4 (.cells #[I (0), (Value.slice none 0 0), (Value.slice none 0 0)] 36), blkE g1 (.cells #[I (a.Signs), vn, vt] 36), rdE vn a.Next, rdE vt a.Takes] H39o19 := hS39o19
          refine ⟨Ext.mono hxx (labS_of 3 rfl (fun _ _ => trivial)), ?_⟩
          refine wpR_end (by kernel_rfl) ?_
          exact ⟨v39o5, v39o15, a38_1, a38_2, a38_3, a38_5, a38_19, a38_20, a38_21, (hS39o19.drop (sk (sk (sn (sk (sn (sn (sn (sk (sk (sk (sk (sk (sk (List.Sublist.slnil)))))))))))))))⟩
      · refine exE rfl rfl ?_
        refine e_buildSlice (vs := [B (!(nth a.Takes k))]) (xs := ([!(nth a.Takes k)] : List Bool)) rfl Try.underlying32 Try.zeroValue4 rfl Try.sizeOf4 (par1 (v0 := B (!(nth a.Takes k))) rfl) rfl hS39o3 (RdVs.cons (Rd.bool.2 rfl) (RdVs.nil)) (by decide) (by decide) (fun v39o14 H39o14 hS39o14 hxx hvv39o14 => ?_)
        replace hS39o14 : St H0 NoB (fun b => S b ∧ b < H0.size) [rowE 4 v39o14 ([!(nth a.Takes k)] : List Bool), rdE r39o3 ((nth a.Next k)), rdE u36 (nth a.Next k), rowE 22 v1 (a.Next.take k : List (List Int)), rowE 4 v2 ((a.Takes.take k).map (!·) : List Bool), blkE g24 (.cells #[I (a.Signs), v1, v2] 36), blkE g14 (.cells #[I ((autoFault a).1), I ((autoFault a).2)] 24), blkE g7 (.cells #[I (0), I (0)] 24), blkE g4 (.cells #[I (0), (Value.slice none 0 0), (Value.slice none 0 0)] 36), blkE g1 (.cells #[I (a.Signs), vn, vt] 36), rdE vn a.Next, rdE vt a.Takes] H39o14 := hS39o14
        refine ⟨Ext.mono hxx (fun _ h => h.elim), ?_⟩
        refine wpR_n [4] (by kernel_rfl) ?_
        refine List.forall_mem_cons.2 ⟨?_, List.forall_mem_nil _⟩
        refine exE rfl rfl ?_
        refine e_buildSlice (vs := [r39o3]) (xs := ([(nth a.Next k)] : List (List Int))) rfl Try.underlying27 Try.zeroValue22 rfl Try.sizeOf22 (par1 (v0 := r39o3) rfl) rfl hS39o14 (RdVs.cons (hS39o14.rdS 1 rfl) (RdVs.nil)) (by decide) (by decide) (fun v39o4 H39o4 hS39o4 hxx hvv39o4 => ?_)
        replace hS39o4 : St H0 NoB (fun b => S b ∧ b < H0.size) [rowE 22 v39o4 ([(nth a.Next k)] : List (List Int)), rowE 4 v39o14 ([!(nth a.Takes k)] : List Bool), rdE r39o3 ((nth a.Next k)), rdE u36 (nth a.Next k), rowE 22 v1 (a.Next.take k : List (List Int)), rowE 4 v2 ((a.Takes.take k).map (!·) : List Bool), blkE g24 (.cells #[I (a.Signs), v1, v2] 36), blkE g14 (.cells #[I ((autoFault a).1), I ((autoFault a).2)] 24), blkE g7 (.cells #[I (0), I (0)] 24), blkE g4 (.cells #[I (0), (Value.slice none 0 0), (Value.slice none 0 0)] 36), blkE g1 (.cells #[I (a.Signs), vn, vt] 36), rdE vn a.Next, rdE vt a.Takes] H39o4 := hS39o4
        refine ⟨Ext.mono hxx (fun _ h => h.elim), ?_⟩
        refine wpR_n [5] (by kernel_rfl) ?_
        refine List.forall_mem_cons.2 ⟨?_, List.forall_mem_nil _⟩
        have hS39o5 : St H0 NoB (fun b => S b ∧ b < H0.size) [rdE v39o4 ([(nth a.Next k)] : List (List Int)), rowE 4 v39o14 ([!(nth a.Takes k)] : List Bool), rdE r39o3 ((nth a.Next k)), rdE u36 (nth a.Next k), rowE 22 v1 (a.Next.take k : List (List Int)), rowE 4 v2 ((a.Takes.take k).map (!·) : List Bool), blkE g24 (.cells #[I (a.Signs), v1, v2] 36), blkE g14 (.cells #[I ((autoFault a).1), I ((autoFault a).2)] 24), blkE g7 (.cells #[I (0), I (0)] 24), blkE g4 (.cells #[I (0), (Value.slice none 0 0), (Value.slice none 0 0)] 36), blkE g1 (.cells #[I (a.Signs), vn, vt] 36), rdE vn a.Next, rdE vt a.Takes] H39o4 := St.fin hS39o4
        have hS39o5x2 : St H0 NoB (fun b => S b ∧ b < H0.size) [rowE 22 v1 (a.Next.take k : List (List Int)), rdE v39o4 ([(nth a.Next k)] : List (List Int)), rowE 4 v39o14 ([!(nth a.Takes k)] : List Bool), rdE r39o3 ((nth a.Next k)), rdE u36 (nth a.Next k), rowE 4 v2 ((a.Takes.take k).map (!·) : List Bool), blkE g24 (.cells #[I (a.Signs), v1, v2] 36), blkE g14 (.cells #[I ((autoFault a).1), I ((autoFault a).2)] 24), blkE g7 (.cells #[I (0), I (0)] 24), blkE g4 (.cells #[I (0), (Value.slice none 0 0), (Value.slice none 0 0)] 36), blkE g1 (.cells #[I (a.Signs), vn, vt] 36), rdE vn a.Next, rdE vt a.Takes] H39o4 := (hS39o5.front 4 rfl)
        refine exE rfl rfl ?_
        refine e_append rfl Try.underlying27 em_LInt_22_AutoA2 rfl rfl hS39o5x2 (hS39o5x2.rdS 1 rfl) (fun _ h => h) (by have hb : GoT.bytes (List Int) = 24 := rfl; simp [hb]; omega) (by decide) (fun v39o5 H39o5 hS39o5x3 hxx => ?_)
        replace hS39o5x3 : St H0 NoB (fun b => S b ∧ b < H0.size) [rowE 22 v39o5 ((a.Next.take k) ++ ([(nth a.Next k)]) : List (List Int)), rdE v39o4 ([(nth a.Next k)] : List (List Int)), rowE 4 v39o14 ([!(nth a.Takes k)] : List Bool), rdE r39o3 ((nth a.Next k)), rdE u36 (nth a.Next k), rowE 4 v2 ((a.Takes.take k).map (!·) : List Bool), blkE g24 (.cells #[I (a.Signs), v1, v2] 36), blkE g14 (.cells #[I ((autoFault a).1), I ((autoFault a).2)] 24), blkE g7 (.cells #[I (0), I (0)] 24), blkE g4 (.cells #[I (0), (Value.slice none 0 0), (Value.slice none 0 0)] 36), blkE g1 (.cells #[I (a.Signs), vn, vt] 36), rdE vn a.Next, rdE vt a.Takes] H39o5 := hS39o5x3
        have hS39o5x4 : St H0 NoB (fun b => S b ∧ b < H0.size) [rowE 22 v39o5 (a.Next.take (k + 1) : List (List Int)), rdE v39o4 ([(nth a.Next k)] : List (List Int)), rowE 4 v39o14 ([!(nth a.Takes k)] : List Bool), rdE r39o3 ((nth a.Next k)), rdE u36 (nth a.Next k), rowE 4 v2 ((a.Takes.take k).map (!·) : List Bool), blkE g24 (.cells #[I (a.Signs), v1, v2] 36), blkE g14 (.cells #[I ((autoFault a).1), I ((autoFault a).2)] 24), blkE g7 (.cells #[I (0), I (0)] 24), blkE g4 (.cells #[I (0), (Value.slice none 0 0), (Value.slice none 0 0)] 36), blkE g1 (.cells #[I (a.Signs), vn, vt] 36), rdE vn a.Next, rdE vt a.Takes] H39o5 := by rw [show (a.Next.take (k + 1)) = ((a.Next.take k) ++ ([(nth a.Next k)])) from (take_succ_nth (by omega))]; exact hS39o5x3
        refine ⟨Ext.mono hxx (labS_of 0 rfl (fun b hb => hb)), ?_⟩
        refine wpR_q 16 (by kernel_rfl) rfl (quietAt rfl rfl (q_fieldAddr rfl Try.underlying36 rfl Try.sizeOf27 a38_5)) ?_
        refine wpR_n [15] (by kernel_rfl) ?_
        refine List.forall_mem_cons.2 ⟨?_, List.forall_mem_nil _⟩
        have hS39o15 : St H0 NoB (fun b => S b ∧ b < H0.size) [rdE v39o14 ([!(nth a.Takes k)] : List Bool), rowE 22 v39o5 (a.Next.take (k + 1) : List (List Int)), rdE v39o4 ([(nth a.Next k)] : List (List Int)), rdE r39o3 ((nth a.Next k)), rdE u36 (nth a.Next k), rowE 4 v2 ((a.Takes.take k).map (!·) : List Bool), blkE g24 (.cells #[I (a.Signs), v1, v2] 36), blkE g14 (.cells #[I ((autoFault a).1), I ((autoFault a).2)] 24), blkE g7 (.cells #[I (0), I (0)] 24), blkE g4 (.cells #[I (0), (Value.slice none 0 0), (Value.slice none 0 0)] 36), blkE g1 (.cells #[I (a.Signs), vn, vt] 36), rdE vn a.Next, rdE vt a.Takes] H39o5 := St.fin (hS39o5x4.front 2 rfl)
        have hS39o15x2 : St H0 NoB (fun b => S b ∧ b < H0.size) [rowE 4 v2 ((a.Takes.take k).map (!·) : List Bool), rdE v39o14 ([!(nth a.Takes k)] : List Bool), rowE 22 v39o5 (a.Next.take (k + 1) : List (List Int)), rdE v39o4 ([(nth a.Next k)] : List (List Int)), rdE r39o3 ((nth a.Next k)), rdE u36 (nth a.Next k), blkE g24 (.cells #[I (a.Signs), v1, v2] 36), blkE g14 (.cells #[I ((autoFault a).1), I ((autoFault a).2)] 24), blkE g7 (.cells #[I (0), I (0)] 24), blkE g4 (.cells #[I (0), (Value.slice none 0 0), (Value.slice none 0 0)] 36), blkE g1 (.cells #[I (a.Signs), vn, vt] 36), rdE vn a.Next, rdE vt a.Takes] H39o5 := (hS39o15.front 5 rfl)
        refine exE rfl rfl ?_
        refine e_append rfl Try.underlying32 em_Bool_4_AutoA2 rfl rfl hS39o15x2 (hS39o15x2.rdS 1 rfl) (fun _ h => h) (by have hb : GoT.bytes Bool = 1 := rfl; simp [hb]; omega) (by decide) (fun v39o15 H39o15 hS39o15x3 hxx => ?_)
        replace hS39o15x3 : St H0 NoB (fun b => S b ∧ b < H0.size) [rowE 4 v39o15 (((a.Takes.take k).map (!·)) ++ ([!(nth a.Takes k)]) : List Bool), rdE v39o14 ([!(nth a.Takes k)] : List Bool), rowE 22 v39o5 (a.Next.take (k + 1) : List (List Int)), rdE v39o4 ([(nth a.Next k)] : List (List Int)), rdE r39o3 ((nth a.Next k)), rdE u36 (nth a.Next k), blkE g24 (.cells #[I (a.Signs), v1, v2] 36), blkE g14 (.cells #[I ((autoFault a).1), I ((autoFault a).2)] 24), blkE g7 (.cells #[I (0), I (0)] 24), blkE g4 (.cells #[I (0), (Value.slice none 0 0), (Value.slice none 0 0)] 36), blkE g1 (.cells #[I (a.Signs), vn, vt] 36), rdE vn a.Next, rdE vt a.Takes] H39o15 := hS39o15x3
        have hS39o15x4 : St H0 NoB (fun b => S b ∧ b < H0.size) [rowE 4 v39o15 ((a.Takes.take (k + 1)).map (!·) : List Bool), rdE v39o14 ([!(nth a.Takes k)] : List Bool), rowE 22 v39o5 (a.Next.take (k + 1) : List (List Int)), rdE v39o4 ([(nth a.Next k)] : List (List Int)), rdE r39o3 ((nth a.Next k)), rdE u36 (nth a.Next k), blkE g24 (.cells #[I (a.Signs), v1, v2] 36), blkE g14 (.cells #[I ((autoFault a).1), I ((autoFault a).2)] 24), blkE g7 (.cells #[I (0), I (0)] 24), blkE g4 (.cells #[I (0), (Value.slice none 0 0), (Value.slice none 0 0)] 36), blkE g1 (.cells #[I (a.Signs), vn, vt] 36), rdE vn a.Next, rdE vt a.Takes] H39o15 := by rw [show ((a.Takes.take (k + 1)).map (!·)) = (((a.Takes.take k).map (!·)) ++ ([!(nth a.Takes k)])) from (by rw [take_succ_nth (by omega), List.map_append]; rfl)]; exact hS39o15x3
        refine ⟨Ext.mono hxx (labS_of 1 rfl (fun b hb => hb)), ?_⟩
        refine wpR_n [17] (by kernel_rfl) ?_
        refine List.forall_mem_cons.2 ⟨?_, List.forall_mem_nil _⟩
        refine exE rfl rfl ?_
        refine e_storeBlk (v := v39o5) rfl rfl rfl (oneCell_rdL (hS39o15x4.rowl 2 rfl)) Try.sizeOf27 (by show _ < 3; decide) (hS39o15x4.front 6 rfl) (fun H39o17 hS39o17 hxx => ?_)
        replace hS39o17 : St H0 NoB (fun b => S b ∧ b < H0.size) [blkE g24 (.cells #[I (a.Signs), v39o5, v2] 36), rowE 4 v39o15 ((a.Takes.take (k + 1)).map (!·) : List Bool), rdE v39o14 ([!(nth a.Takes k)] : List Bool), rowE 22 v39o5 (a.Next.take (k + 1) : List (List Int)), rdE v39o4 ([(nth a.Next k)] : List (List Int)), rdE r39o3 ((nth a.Next k)), rdE u36 (nth a.Next k), blkE g14 (.cells #[I ((autoFault a).1), I ((autoFault a).2)] 24), blkE g7 (.cells #[I (0), I (0)] 24), blkE g4 (.cells #[I (0), (Value.slice none 0 0), (Value.slice none 0 0)] 36), blkE g1 (.cells #[I (a.Signs), vn, vt] 36), rdE vn a.Next, rdE vt a.Takes] H39o17 := hS39o17
        refine ⟨Ext.mono hxx (labS_of 2 rfl (fun _ _ => trivial)), ?_⟩
        refine wpR_q 18 (by kernel_rfl) rfl (quietAt rfl rfl (q_fieldAddr rfl Try.underlying36 rfl Try.sizeOf32 a38_5)) ?_
        refine wpR_n [19] (by kernel_rfl) ?_
        refine List.forall_mem_cons.2 ⟨?_, List.forall_mem_nil _⟩
        refine exE rfl rfl ?_
        refine e_storeBlk (v := v39o15) rfl rfl rfl (oneCell_rdL (hS39o17.rowl 1 rfl)) Try.sizeOf32 (by show _ < 3; decide) hS39o17 (fun H39o19 hS39o19 hxx => ?_)
        replace hS39o19 : St H0 NoB (fun b => S b ∧ b < H0.size) [blkE g24 (.cells #[I (a.Signs), v39o5, v39o15] 36), rowE 4 v39o15 ((a.Takes.take (k + 1)).map (!·) : List Bool), rdE v39o14 ([!(nth a.Takes k)] : List Bool), rowE 22 v39o5 (a.Next.take (k + 1) : List (List Int)), rdE v39o4 ([(nth a.Next k)] : List (List Int)), rdE r39o3 ((nth a.Next k)), rdE u36 (nth a.Next k), blkE g14 (.cells #[I ((autoFault a).1), I ((autoFault a).2)] 24), blkE g7 (.cells #[I (0), I (0)] 24), blkE g4 (.cells #[I (0), (Value.slice none 0 0), (Value.slice none 0 0)] 36), blkE g1 (.cells #[I (a.Signs), vn, vt] 36), rdE vn a.Next, rdE vt a.Takes] H39o19 := hS39o19
        refine ⟨Ext.mono hxx (labS_of 3 rfl (fun _ _ => trivial)), ?_⟩
        refine wpR_end (by kernel_rfl) ?_
        exact ⟨v39o5, v39o15, a38_1, a38_2, a38_3, a38_5, a38_19, a38_20, a38_21, (hS39o19.drop (sk (sk (sn (sk (sn (sn (sn (sk (sk (sk (sk (sk (sk (List.Sublist.slnil)))))))))))))))⟩
    · refine exE rfl rfl ?_
      refine e_buildSlice (vs := [B (!(nth a.Takes k))]) (xs := ([!(nth a.Takes k)] : List Bool)) rfl Try.underlying32 Try.zeroValue4 rfl Try.sizeOf4 (par1 (v0 := B (!(nth a.Takes k))) rfl) rfl hS38 (RdVs.cons (Rd.bool.2 rfl) (RdVs.nil)) (by decide) (by decide) (fun v39o14 H39o14 hS39o14 hxx hvv39o14 => ?_)
      replace hS39o14 : St H0 NoB (fun b => S b ∧ b < H0.size) [rowE 4 v39o14 ([!(nth a.Takes k)] : List Bool), rdE u36 (nth a.Next k), rowE 22 v1 (a.Next.take k : List (List Int)), rowE 4 v2 ((a.Takes.take k).map (!·) : List Bool), blkE g24 (.cells #[I (a.Signs), v1, v2] 36), blkE g14 (.cells #[I ((autoFault a).1), I ((autoFault a).2)] 24), blkE g7 (.cells #[I (0), I (0)] 24), blkE g4 (.cells #[I (0), (Value.slice none 0 0), (Value.slice none 0 0)] 36), blkE g1 (.cells #[I (a.Signs), vn, vt] 36), rdE vn a.Next, rdE vt a.Takes] H39o14 := hS39o14
      refine ⟨Ext.mono hxx (fun _ h => h.elim), ?_⟩
      refine wpR_n [3] (by kernel_rfl) ?_
      refine List.forall_mem_cons.2 ⟨?_, List.forall_mem_nil _⟩
      refine exE rfl rfl ?_
      refine e_call rfl Try.call45 (arr1 (v0 := u36) rfl) (Clone u36 _ (hS39o14.rdS 1 rfl)) ?_
      rintro r39o3 H39o3 ⟨hxx, hrr39o3⟩
      have hS39o3 : St H0 NoB (fun b => S b ∧ b < H0.size) [rdE r39o3 ((nth a.Next k)), rowE 4 v39o14 ([!(nth a.Takes k)] : List Bool), rdE u36 (nth a.Next k), rowE 22 v1 (a.Next.take k : List (List Int)), rowE 4 v2 ((a.Takes.take k).map (!·) : List Bool), blkE g24 (.cells #[I (a.Signs), v1, v2] 36), blkE g14 (.cells #[I ((autoFault a).1), I ((autoFault a).2)] 24), blkE g7 (.cells #[I (0), I (0)] 24), blkE g4 (.cells #[I (0), (Value.slice none 0 0), (Value.slice none 0 0)] 36), blkE g1 (.cells #[I (a.Signs), vn, vt] 36), rdE vn a.Next, rdE vt a.Takes] H39o3 := hS39o14.res hxx hrr39o3
      refine ⟨Ext.mono hxx (fun _ h => h.elim), ?_⟩
      refine wpR_n [4] (by kernel_rfl) ?_
      refine List.forall_mem_cons.2 ⟨?_, List.forall_mem_nil _⟩
      refine exE rfl rfl ?_
      refine e_buildSlice (vs := [r39o3]) (xs := ([(nth a.Next k)] : List (List Int))) rfl Try.underlying27 Try.zeroValue22 rfl Try.sizeOf22 (par1 (v0 := r39o3) rfl) rfl hS39o3 (RdVs.cons (hS39o3.rdS 0 rfl) (RdVs.nil)) (by decide) (by decide) (fun v39o4 H39o4 hS39o4 hxx hvv39o4 => ?_)
      replace hS39o4 : St H0 NoB (fun b => S b ∧ b < H0.size) [rowE 22 v39o4 ([(nth a.Next k)] : List (List Int)), rdE r39o3 ((nth a.Next k)), rowE 4 v39o14 ([!(nth a.Takes k)] : List Bool), rdE u36 (nth a.Next k), rowE 22 v1 (a.Next.take k : List (List Int)), rowE 4 v2 ((a.Takes.take k).map (!·) : List Bool), blkE g24 (.cells #[I (a.Signs), v1, v2] 36), blkE g14 (.cells #[I ((autoFault a).1), I ((autoFault a).2)] 24), blkE g7 (.cells #[I (0), I (0)] 24), blkE g4 (.cells #[I (0), (Value.slice none 0 0), (Value.slice none 0 0)] 36), blkE g1 (.cells #[I (a.Signs), vn, vt] 36), rdE vn a.Next, rdE vt a.Takes] H39o4 := hS39o4
      refine ⟨Ext.mono hxx (fun _ h => h.elim), ?_⟩
      refine wpR_n [5] (by kernel_rfl) ?_
      refine List.forall_mem_cons.2 ⟨?_, List.forall_mem_nil _⟩
      have hS39o5 : St H0 NoB (fun b => S b ∧ b < H0.size) [rdE v39o4 ([(nth a.Next k)] : List (List Int)), rdE r39o3 ((nth a.Next k)), rowE 4 v39o14 ([!(nth a.Takes k)] : List Bool), rdE u36 (nth a.Next k), rowE 22 v1 (a.Next.take k : List (List Int)), rowE 4 v2 ((a.Takes.take k).map (!·) : List Bool), blkE g24 (.cells #[I (a.Signs), v1, v2] 36), blkE g14 (.cells #[I ((autoFault a).1), I ((autoFault a).2)] 24), blkE g7 (.cells #[I (0), I (0)] 24), blkE g4 (.cells #[I (0), (Value.slice none 0 0), (Value.slice none 0 0)] 36), blkE g1 (.cells #[I (a.Signs), vn, vt] 36), rdE vn a.Next, rdE vt a.Takes] H39o4 := St.fin hS39o4
      have hS39o5x2 : St H0 NoB (fun b => S b ∧ b < H0.size) [rowE 22 v1 (a.Next.take k : List (List Int)), rdE v39o4 ([(nth a.Next k)] : List (List Int)), rdE r39o3 ((nth a.Next k)), rowE 4 v39o14 ([!(nth a.Takes k)] : List Bool), rdE u36 (nth a.Next k), rowE 4 v2 ((a.Takes.take k).map (!·) : List Bool), blkE g24 (.cells #[I (a.Signs), v1, v2] 36), blkE g14 (.cells #[I ((autoFault a).1), I ((autoFault a).2)] 24), blkE g7 (.cells #[I (0), I (0)] 24), blkE g4 (.cells #[I (0), (Value.slice none 0 0), (Value.slice none 0 0)] 36), blkE g1 (.cells #[I (a.Signs), vn, vt] 36), rdE vn a.Next, rdE vt a.Takes] H39o4 := (hS39o5.front 4 rfl)
      refine exE rfl rfl ?_
      refine e_append rfl Try.underlying27 em_LInt_22_AutoA2 rfl rfl hS39o5x2 (hS39o5x2.rdS 1 rfl) (fun _ h => h) (by have hb : GoT.bytes (List Int) = 24 := rfl; simp [hb]; omega) (by decide) (fun v39o5 H39o5 hS39o5x3 hxx => ?_)
      replace hS39o5x3 : St H0 NoB (fun b => S b ∧ b < H0.size) [rowE 22 v39o5 ((a.Next.take k) ++ ([(nth a.Next k)]) : List (List Int)), rdE v39o4 ([(nth a.Next k)] : List (List Int)), rdE r39o3 ((nth a.Next k)), rowE 4 v39o14 ([!(nth a.Takes k)] : List Bool), rdE u36 (nth a.Next k), rowE 4 v2 ((a.Takes.take k).map (!·) : List Bool), blkE g24 (.cells #[I (a.Signs), v1, v2] 36), blkE g14 (.cells #[I ((autoFault a).1), I ((autoFault a).2)] 24), blkE g7 (.cells #[I (0), I (0)] 24), blkE g4 (.cells #[I (0), (Value.slice none 0 0), (Value.slice none 0 0)] 36), blkE g1 (.cells #[I (a.Signs), vn, vt] 36), rdE vn a.Next, rdE vt a.Takes] H39o5 := hS39o5x3
      have hS39o5x4 : St H0 NoB (fun b => S b ∧ b < H0.size) [rowE 22 v39o5 (a.Next.take (k + 1) : List (List Int)), rdE v39o4 ([(nth a.Next k)] : List (List Int)), rdE r39o3 ((nth a.Next k)), rowE 4 v39o14 ([!(nth a.Takes k)] : List Bool), rdE u36 (nth a.Next k), rowE 4 v2 ((a.Takes.take k).map (!·) : List Bool), blkE g24 (.cells #[I (a.Signs), v1, v2] 36), blkE g14 (.cells #[I ((autoFault a).1), I ((autoFault a).2)] 24), blkE g7 (.cells #[I (0), I (0)] 24), blkE g4 (.cells #[I (0), (Value.slice none 0 0), (Value.slice none 0 0)] 36), blkE g1 (.cells #[I (a.Signs), vn, vt] 36), rdE vn a.Next, rdE vt a.Takes] H39o5 := by rw [show (a.Next.take (k + 1)) = ((a.Next.take k) ++ ([(nth a.Next k)])) from (take_succ_nth (by omega))]; exact hS39o5x3
      refine ⟨Ext.mono hxx (labS_of 0 rfl (fun b hb => hb)), ?_⟩
      refine wpR_q 16 (by kernel_rfl) rfl (quietAt rfl rfl (q_fieldAddr rfl Try.underlying36 rfl Try.sizeOf27 a38_5)) ?_
      refine wpR_n [15] (by kernel_rfl) ?_
      refine List.forall_mem_cons.2 ⟨?_, List.forall_mem_nil _⟩
      have hS39o15 : St H0 NoB (fun b => S b ∧ b < H0.size) [rdE v39o14 ([!(nth a.Takes k)] : List Bool), rowE 22 v39o5 (a.Next.take (k + 1) : List (List Int)), rdE v39o4 ([(nth a.Next k)] : List (List Int)), rdE r39o3 ((nth a.Next k)), rdE u36 (nth a.Next k), rowE 4 v2 ((a.Takes.take k).map (!·) : List Bool), blkE g24 (.cells #[I (a.Signs), v1, v2] 36), blkE g14 (.cells #[I ((autoFault a).1), I ((autoFault a).2)] 24), blkE g7 (.cells #[I (0), I (0)] 24), blkE g4 (.cells #[I (0), (Value.slice none 0 0), (Value.slice none 0 0)] 36), blkE g1 (.cells #[I (a.Signs), vn, vt] 36), rdE vn a.Next, rdE vt a.Takes] H39o5 := St.fin (hS39o5x4.front 3 rfl)
      have hS39o15x2 : St H0 NoB (fun b => S b ∧ b < H0.size) [rowE 4 v2 ((a.Takes.take k).map (!·) : List Bool), rdE v39o14 ([!(nth a.Takes k)] : List Bool), rowE 22 v39o5 (a.Next.take (k + 1) : List (List Int)), rdE v39o4 ([(nth a.Next k)] : List (List Int)), rdE r39o3 ((nth a.Next k)), rdE u36 (nth a.Next k), blkE g24 (.cells #[I (a.Signs), v1, v2] 36), blkE g14 (.cells #[I ((autoFault a).1), I ((autoFault a).2)] 24), blkE g7 (.cells #[I (0), I (0)] 24), blkE g4 (.cells #[I (0), (Value.slice none 0 0), (Value.slice none 0 0)] 36), blkE g1 (.cells #[I (a.Signs), vn, vt] 36), rdE vn a.Next, rdE vt a.Takes] H39o5 := (hS39o15.front 5 rfl)
      refine exE rfl rfl ?_
      refine e_append rfl Try.underlying32 em_Bool_4_AutoA2 rfl rfl hS39o15x2 (hS39o15x2.rdS 1 rfl) (fun _ h => h) (by have hb : GoT.bytes Bool = 1 := rfl; simp [hb]; omega) (by decide) (fun v39o15 H39o15 hS39o15x3 hxx => ?_)
      replace hS39o15x3 : St H0 NoB (fun b => S b ∧ b < H0.size) [rowE 4 v39o15 (((a.Takes.take k).map (!·)) ++ ([!(nth a.Takes k)]) : List Bool), rdE v39o14 ([!(nth a.Takes k)] : List Bool), rowE 22 v39o5 (a.Next.take (k + 1) : List (List Int)), rdE v39o4 ([(nth a.Next k)] : List (List Int)), rdE r39o3 ((nth a.Next k)), rdE u36 (nth a.Next k), blkE g24 (.cells #[I (a.Signs), v1, v2] 36), blkE g14 (.cells #[I ((autoFault a).1), I ((autoFault a).2)] 24), blkE g7 (.cells #[I (0), I (0)] 24), blkE g4 (.cells #[I (0), (Value.slice none 0 0), (Value.slice none 0 0)] 36), blkE g1 (.cells #[I (a.Signs), vn, vt] 36), rdE vn a.Next, rdE vt a.Takes] H39o15 := hS39o15x3
      have hS39o15x4 : St H0 NoB (fun b => S b ∧ b < H0.size) [rowE 4 v39o15 ((a.Takes.take (k + 1)).map (!·) : List Bool), rdE v39o14 ([!(nth a.Takes k)] : List Bool), rowE 22 v39o5 (a.Next.take (k + 1) : List (List Int)), rdE v39o4 ([(nth a.Next k)] : List (List Int)), rdE r39o3 ((nth a.Next k)), rdE u36 (nth a.Next k), blkE g24 (.cells #[I (a.Signs), v1, v2] 36), blkE g14 (.cells #[I ((autoFault a).1), I ((autoFault a).2)] 24), blkE g7 (.cells #[I (0), I (0)] 24), blkE g4 (.cells #[I (0), (Value.slice none 0 0), (Value.slice none 0 0)] 36), blkE g1 (.cells #[I (a.Signs), vn, vt] 36), rdE vn a.Next, rdE vt a.Takes] H39o15 := by rw [show ((a.Takes.take (k + 1)).map (!·)) = (((a.Takes.take k).map (!·)) ++ ([!(nth a.Takes k)])) from (by rw [take_succ_nth (by omega), List.map_append]; rfl)]; exact hS39o15x3
      refine ⟨Ext.mono hxx (labS_of 1 rfl (fun b hb => hb)), ?_⟩
      refine wpR_n [17] (by kernel_rfl) ?_
      refine List.forall_mem_cons.2 ⟨?_, List.forall_mem_nil _⟩
      refine exE rfl rfl ?_
      refine e_storeBlk (v := v39o5) rfl rfl rfl (oneCell_rdL (hS39o15x4.rowl 2 rfl)) Try.sizeOf27 (by show _ < 3; decide) (hS39o15x4.front 6 rfl) (fun H39o17 hS39o17 hxx => ?_)
      replace hS39o17 : St H0 NoB (fun b => S b ∧ b < H0.size) [blkE g24 (.cells #[I (a.Signs), v39o5, v2] 36), rowE 4 v39o15 ((a.Takes.take (k + 1)).map (!·) : List Bool), rdE v39o14 ([!(nth a.Takes k)] : List Bool), rowE 22 v39o5 (a.Next.take (k + 1) : List (List Int)), rdE v39o4 ([(nth a.Next k)] : List (List Int)), rdE r39o3 ((nth a.Next k)), rdE u36 (nth a.Next k), blkE g14 (.cells #[I ((autoFault a).1), I ((autoFault a).2)] 24), blkE g7 (.cells #[I (0), I (0)] 24), blkE g4 (.cells #[I (0), (Value.slice none 0 0), (Value.slice none 0 0)] 36), blkE g1 (.cells #[I (a.Signs), vn, vt] 36), rdE vn a.Next, rdE vt a.Takes] H39o17 := hS39o17
      refine ⟨Ext.mono hxx (labS_of 2 rfl (fun _ _ => trivial)), ?_⟩
      refine wpR_q 18 (by kernel_rfl) rfl (quietAt rfl rfl (q_fieldAddr rfl Try.underlying36 rfl Try.sizeOf32 a38_5)) ?_
      refine wpR_n [19] (by kernel_rfl) ?_
      refine List.forall_mem_cons.2 ⟨?_, List.forall_mem_nil _⟩
      refine exE rfl rfl ?_
      refine e_storeBlk (v := v39o15) rfl rfl rfl (oneCell_rdL (hS39o17.rowl 1 rfl)) Try.sizeOf32 (by show _ < 3; decide) hS39o17 (fun H39o19 hS39o19 hxx => ?_)
      replace hS39o19 : St H0 NoB (fun b => S b ∧ b < H0.size) [blkE g24 (.cells #[I (a.Signs), v39o5, v39o15] 36), rowE 4 v39o15 ((a.Takes.take (k + 1)).map (!·) : List Bool), rdE v39o14 ([!(nth a.Takes k)] : List Bool), rowE 22 v39o5 (a.Next.take (k + 1) : List (List Int)), rdE v39o4 ([(nth a.Next k)] : List (List Int)), rdE r39o3 ((nth a.Next k)), rdE u36 (nth a.Next k), blkE g14 (.cells #[I ((autoFault a).1), I ((autoFault a).2)] 24), blkE g7 (.cells #[I (0), I (0)] 24), blkE g4 (.cells #[I (0), (Value.slice none 0 0), (Value.slice none 0 0)] 36), blkE g1 (.cells #[I (a.Signs), vn, vt] 36), rdE vn a.Next, rdE vt a.Takes] H39o19 := hS39o19
      refine ⟨Ext.mono hxx (labS_of 3 rfl (fun _ _ => trivial)), ?_⟩
      refine wpR_end (by kernel_rfl) ?_
      exact ⟨v39o5, v39o15, a38_1, a38_2, a38_3, a38_5, a38_19, a38_20, a38_21, (hS39o19.drop (sk (sk (sn (sk (sn (sn (sn (sk (sk (sk (sk (sk (sk (List.Sublist.slnil)))))))))))))))⟩
  rintro f40 H40 ⟨v39o5, v39o15, a40_1, a40_2, a40_3, a40_5, a40_19, a40_20, a40_21, hS40⟩
  clear a38_1 a38_19 a38_2 a38_20 a38_21 a38_3 a38_5 a38_6 a38_7
  refine wpF_cut (fun f H => f 1 = PT g1 0 ∧ f 2 = PT g4 0 ∧ f 3 = PT g7 0 ∧ f 5 = PT g24 0 ∧ f 19 = vn ∧ f 20 = I ((a.Next.length : Int)) ∧ f 21 = I ((k : Int) + 1) ∧ H40 = H) ?_ ?_
  · refine wpF_region ?_
    refine wpL_q (U := NoB) rfl (q_add rfl a40_21 rfl (by constructor <;> omega)) ?_
    refine wpL_q (U := NoB) rfl (q_move (v := I ((k : Int) + 1)) rfl rfl) ?_
    exact ⟨a40_1, a40_2, a40_3, a40_5, a40_19, a40_20, rfl, rfl⟩
  rintro f41 _ ⟨a41_1, a41_2, a41_3, a41_5, a41_19, a41_20, a41_21, rfl⟩
  clear a40_1 a40_19 a40_2 a40_20 a40_21 a40_3 a40_5
  refine ⟨_, ?_, k + 1, v39o5, v39o15, rfl, (by omega), a41_1, a41_2, a41_3, a41_5, a41_19, a41_20, (Eq.trans a41_21 (congrArg I (by omega))), (St.drop (show St H0 NoB (fun b => S b ∧ b < H0.size) [rowE 22 v39o5 (a.Next.take (k + 1) : List (List Int)), rowE 4 v39o15 ((a.Takes.take (k + 1)).map (!·) : List Bool), blkE g24 (.cells #[I (a.Signs), v39o5, v39o15] 36), blkE g14 (.cells #[I ((autoFault a).1), I ((autoFault a).2)] 24), blkE g7 (.cells #[I (0), I (0)] 24), blkE g4 (.cells #[I (0), (Value.slice none 0 0), (Value.slice none 0 0)] 36), blkE g1 (.cells #[I (a.Signs), vn, vt] 36), rdE vn a.Next, rdE vt a.Takes] H40 from ((hS40.front 1 rfl).front 2 rfl)) (sk (sk (sk (sk (sk (sk (sk (sk (sk (List.Sublist.slnil)))))))))))⟩
  omega

end Go.Um
