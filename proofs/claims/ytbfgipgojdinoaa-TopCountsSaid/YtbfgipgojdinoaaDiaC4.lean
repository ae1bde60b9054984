import Derived.Test.YtbfgipgojdinoaaProg
import Derived.Test.YtbfgipgojdinoaaDiaC3
import Derived.Test.YtbfgipgojdinoaaUmTopCountsC
namespace Go.Um
open Go.Proofs
open GoT (sz ag rdc)
open KeyT (kv)
theorem el_Bool_4_DiaC4 : ElT Try.prog Bool 4 := ⟨Try.isAgg4, Try.sizeOf4⟩
theorem el_Bt_5_DiaC4 : ElT Try.prog Bt 5 := ⟨Try.isAgg5, Try.sizeOf5⟩
theorem el_Chc_125_DiaC4 : ElT Try.prog Chc 125 := ⟨Try.isAgg125, Try.sizeOf125⟩
theorem em_Bt_5_DiaC4 : ElemOk Try.prog Bt 5 := ⟨Try.t5, (.int .u8 0), by kernel_rfl, by kernel_rfl, by kernel_rfl, by kernel_rfl, by kernel_rfl⟩
set_option maxHeartbeats 1000000 in
set_option maxRecDepth 100000 in
theorem Made_D {H0 : Heap} {S : Nat → Prop} (vf : Value) (n : Nat) (gp : List Bool → Bool) (hn : n ≤ 16) (hf : ∀ k, k < 2 ^ n → ∀ u H, Ext NoB H0 H → Rd NoB H u (asgL n k) → FnH Try.prog vf #[u] H (fun rv H' => Ext NoB H H' ∧ rv = B (gp (asgL n k)))) : CallsH Try.prog 39 #[I ((n : Int)), vf] H0 (fun rv_ H' => Ext NoB H0 H' ∧ Rd (SZ S H0) H' rv_ (madeL n gp)) := by
 have h2V : 2 ^ n ≤ 65536 := Nat.le_trans (Nat.pow_le_pow_right (by decide) hn) (by decide)
 have hml0 := madeTo_len (n := n) (gp := gp) (k := 0)
 have hS0 : St H0 NoB (SZ S H0) [] H0 := St.start (fun _ h => h.2)
 refine callsH_of_wpF (args := [I ((n : Int)), vf]) (rs := [.tmp 4]) Try.func39 rfl Try.ntmps39 Try.results39 (by kernel_rfl) (Nat.le_of_ble_eq_true rfl) ?_
 have y0 : argF [I ((n : Int)), vf] 0 = I ((n : Int)) := rfl
 have y1 : argF [I ((n : Int)), vf] 1 = vf := rfl
 generalize argF [I ((n : Int)), vf] = f0 at *
 refine wpF_seq ?_
 refine wpF_region ?_
 refine la (v := nS) rfl rfl rfl ?_
 refine wpL_nil ?_
 refine wpF_seq ?_
 refine wpF_region ?_
 refine lm (v := I ((n : Int))) rfl rfl y0 ?_
 refine lq rfl (q_shl1 rfl rfl rfl (by omega) (by omega)) ?_
 refine lo rfl ?_
 refine e_makeSlice (n := (2 ^ n : Nat)) (x0 := ((Bt.mk false) : Bt)) rfl Try.underlying90 Try.zeroValue5 em_Bt_5_DiaC4 Try.sizeOf5 rfl rfl (by first | omega | rfl) (fun _ _ => Rd.bt.2 rfl) hS0 (by have hb : GoT.bytes Bt = 1 := rfl; rw [hb]; omega) (by first | omega | rfl) (fun v1 H2 hS3 hxx => ?_)
 refine la (v := v1) rfl rfl rfl ?_
 refine wpL_nil ?_
 have hS4 : St H0 NoB (SZ S H0) [rowE 5 v1 (madeTo n gp 0 : List Bt)] H2 := by have h__ := hS3; rw [← madeTo_zero (gp := gp)] at h__; exact h__
 refine wpF_seq ?_
 refine wpF_seq ?_
 refine wpF_region ?_
 refine lm (v := v1) rfl rfl rfl ?_
 refine lq rfl (q_lenRd rfl Try.underlying90 rfl (hS4.rowl 0 rfl)) ?_
 refine lm (v := I (0)) rfl rfl rfl ?_
 refine wpL_nil ?_
 refine wpF_block ?_
 refine wpF_loop (fun mz f H => ∃ (k : Nat), mz = 2 ^ n - k ∧ (k ≤ 2 ^ n) ∧ f 0 = I ((n : Int)) ∧ f 1 = vf ∧ f 5 = v1 ∧ f 11 = I (((madeTo n gp 0).length : Int)) ∧ f 12 = I ((k : Int)) ∧ St H0 NoB (SZ S H0) [rowE 5 v1 (madeTo n gp k : List Bt)] H) (2 ^ n - 0) ?_ ?_
 ·exact ⟨0, rfl, Nat.zero_le _, y0, y1, rfl, rfl, (Eq.trans rfl (congrArg I (by omega))), hS4⟩
 intro m5 f5 H5 hI5
 clear y0 y1
 obtain ⟨k, hm5, hk, y0, y1, y5, y11, y12, hS5⟩ := hI5
 refine wpF_seq ?_
 refine wpF_region ?_
 refine lq rfl (q_lss rfl y12 y11) ?_
 refine wpL_nil ?_
 refine wpF_seq ?_
 refine wpF_condP rfl (fun hlt => ?t23) (fun hlt => ?e23)
 case e23 =>
  have hS7 : St H0 NoB (SZ S H0) [rowE 5 v1 (madeL n gp : List Bt)] H5 := by have h__ := hS5; rw [show k = 2 ^ n by omega, madeTo_end] at h__; exact h__
  refine wpF_exit ?_
  refine atX_here ?_
  refine wpF_seq ?_
  refine wpF_region ?_
  refine lm (v := v1) rfl rfl y5 ?_
  refine la (v := v1) rfl rfl rfl ?_
  refine wpL_nil ?_
  refine wpF_ret ?_
  refine ⟨_, resT rfl resN, hS7.frame, ?_⟩
  show Rd (SZ S H0) H5 v1 (madeL n gp)
  have hS22 : St H0 NoB (SZ S H0) [rdE v1 (madeL n gp)] H5 := St.fin hS7
  exact (hS22.result (hS22.rdS 0 rfl))
 have hmlk := madeTo_len (n := n) (gp := gp) (k := k)
 refine wpF_skip ?_
 refine wpF_seq ?_
 refine wpF_block ?_
 refine wpF_seq ?_
 refine wpF_region ?_
 refine lm (v := I ((k : Int))) rfl rfl y12 ?_
 refine la (v := I ((k : Int))) rfl rfl rfl ?_
 refine wpL_nil ?_
 refine wpF_seq ?_
 refine wpF_region ?_
 refine lm (v := vf) rfl rfl y1 ?_
 refine lm (v := I ((n : Int))) rfl rfl y0 ?_
 refine lm (v := I ((k : Int))) rfl rfl rfl ?_
 refine lo rfl ?_
 refine e_call rfl Try.call44 (arr2 (v0 := I ((n : Int))) (v1 := I ((k : Int))) rfl rfl) (Assignment_A (S := SL (SZ S H0) [rowE 5 v1 (madeTo n gp k : List Bt)]) n k (by omega) (by omega)) ?_
 rintro r8 H9 ⟨hxx, hrr8⟩
 have hS10 := hS5.res hxx hrr8
 refine lo rfl ?_
 refine e_callF rfl rfl (arr1 (v0 := r8) rfl) (hf k (by omega) _ _ hS10.frame (hS10.rdN 0 rfl)) ?_
 rintro _ H12 ⟨hxx, rfl⟩
 have hS13 := hS10.ext hxx
 refine wpL_nil ?_
 refine wpF_cond rfl (fun h19 => ?t21) (fun h19 => ?e21)
 case e21 =>
  have hS16 : St H0 NoB (SZ S H0) [rdE r8 (asgL n k), rowE 5 v1 (madeTo n gp (k + 1) : List Bt)] H12 := by have h__ := hS13; rw [made_no h19] at h__; exact h__
  refine wpF_skip ?_
  refine wpF_region ?_
  refine lq rfl (q_add rfl y12 rfl (by constructor <;> omega)) ?_
  refine lm (v := I ((k : Int) + 1)) rfl rfl rfl ?_
  refine wpL_nil ?_
  refine ⟨_, ?_, k + 1, rfl, (by omega), y0, y1, y5, y11, (Eq.trans rfl (congrArg I (by omega))), (hS16.drop (sn (sk (List.Sublist.slnil))))⟩
  omega
 refine wpF_region ?_
 refine lm (v := v1) rfl rfl y5 ?_
 refine lm (v := I ((k : Int))) rfl rfl rfl ?_
 refine lq rfl (q_indexRd (k := k) rfl Try.underlying90 el_Bt_5_DiaC4 rfl rfl (hS13.rowl 1 rfl) (by omega) (by omega)) ?_
 have hS17 := (hS13.front 1 rfl)
 refine lo rfl ?_
 refine e_rowSet (k := k) (u := U8 (1)) rfl rfl rfl rfl Try.sizeOf5 (by first | (simp; omega) | omega) hS17 ((Rd.bt (x := (Bt.mk true))).2 rfl) (fun H18 hS19 hxx => ?_)
 refine wpL_nil ?_
 have hS20 : St H0 NoB (SZ S H0) [rowE 5 v1 (madeTo n gp (k + 1) : List Bt), rdE r8 (asgL n k)] H18 := by have h__ := hS19; rw [made_yes (by omega) h19] at h__; exact h__
 refine wpF_region ?_
 refine lq rfl (q_add rfl y12 rfl (by constructor <;> omega)) ?_
 refine lm (v := I ((k : Int) + 1)) rfl rfl rfl ?_
 refine wpL_nil ?_
 refine ⟨_, ?_, k + 1, rfl, (by omega), y0, y1, y5, y11, (Eq.trans rfl (congrArg I (by omega))), (hS20.drop (sk (sn (List.Sublist.slnil))))⟩
 omega
set_option maxRecDepth 100000 in
theorem Of_1 {H0 : Heap} (va vC : Value) (gc : Nat) (vars : Int) (a : List Bool) (C : List (List Int)) (ra : Rd NoB H0 va a) (hb : H0[gc]? = some (.cells #[I vars, vC] 26)) (rC : Rd NoB H0 vC C) (hf : ∀ c ∈ C, fitA a c) : CallsH Try.prog 40 #[va, PT gc 0] H0 (fun rv_ H' => Ext NoB H0 H' ∧ rv_ = B (allH C a)) := by
 have hS0 : St H0 NoB NoB [rdE va a, fixE gc (.cells #[I (vars), vC] 26), rdE vC C] H0 := St.arg (St.argFix (St.arg (St.start (fun _ h => h.elim)) (Bl0.nil) rC (fun _ h => h)) (Bl0.cons (Bl0.nil)) hb (fun h => h)) (Bl0.consF (Bl0.cons (Bl0.nil))) ra (fun _ h => h)
 refine callsH_of_wpF (args := [va, PT gc 0]) (rs := [.tmp 3]) Try.func40 rfl Try.ntmps40 Try.results40 (by kernel_rfl) (Nat.le_of_ble_eq_true rfl) ?_
 have y0 : argF [va, PT gc 0] 0 = va := rfl
 have y1 : argF [va, PT gc 0] 1 = PT gc 0 := rfl
 generalize argF [va, PT gc 0] = f0 at *
 refine wpF_seq ?_
 refine wpF_region ?_
 refine la (v := B (false)) rfl rfl rfl ?_
 refine wpL_nil ?_
 refine wpF_seq ?_
 refine wpF_region ?_
 refine lq rfl (q_fieldAddr rfl Try.underlying26 rfl Try.sizeOf24 y1) ?_
 refine lq rfl (q_loadBlk rfl rfl Try.isAgg24 (hS0.fixd 1 rfl) rfl (fun h => h)) ?_
 refine lm (v := va) rfl rfl y0 ?_
 refine lo rfl ?_
 refine e_call rfl Try.call41 (arr2 (v0 := vC) (v1 := va) rfl rfl) (All_C vC va C a (hS0.rdN 2 rfl) (hS0.rdN 0 rfl) hf) ?_
 rintro _ H1 ⟨hxx, rfl⟩
 have hS2 := hS0.ext hxx
 refine la (v := B (allH C a)) rfl rfl rfl ?_
 refine wpL_nil ?_
 refine wpF_ret ?_
 refine ⟨_, resT rfl resN, hS2.frame, ?_⟩
 show (B (allH C a)) = B (allH C a)
 rfl
set_option maxHeartbeats 1000000 in
set_option maxRecDepth 100000 in
theorem value_D {H0 : Heap} (vx va : Value) (ch : List Cho) (rt : Nat) (a : List Bool) (rx : Rd NoB H0 vx (chI ch)) (ra : Rd NoB H0 va a) (hW : WFc a.length ch) (hrt : rt < ch.length + 2) : CallsH Try.prog 73 #[Vg #[vx, I ((rt : Int))], va] H0 (fun rv_ H' => Ext NoB H0 H' ∧ rv_ = B (decide (valF ch rt rt a = 1))) := by
 have hsm := (Rd.list.1 rx).bound
 have hb24 : GoT.bytes Chc = 24 := rfl
 have hcl := chI_len (ch := ch)
 rw [hb24] at hsm
 have hS0 : St H0 NoB NoB [rdE vx (chI ch), rdE va a] H0 := St.arg (St.arg (St.start (fun _ h => h.elim)) (Bl0.nil) ra (fun _ h => h)) (Bl0.cons (Bl0.nil)) rx (fun _ h => h)
 refine callsH_of_wpF (args := [Vg #[vx, I ((rt : Int))], va]) (rs := [.tmp 4]) Try.func73 rfl Try.ntmps73 Try.results73 (by kernel_rfl) (Nat.le_of_ble_eq_true rfl) ?_
 have y0 : argF [Vg #[vx, I ((rt : Int))], va] 0 = Vg #[vx, I ((rt : Int))] := rfl
 have y1 : argF [Vg #[vx, I ((rt : Int))], va] 1 = va := rfl
 generalize argF [Vg #[vx, I ((rt : Int))], va] = f0 at *
 refine wpF_seq ?_
 refine wpF_region ?_
 refine lo rfl ?_
 refine e_box (v := Vg #[vx, I ((rt : Int))]) rfl y0 hS0 (fun g1 H2 hS3 hxx => ?_)
 refine la (v := B (false)) rfl rfl rfl ?_
 refine wpL_nil ?_
 refine wpF_seq ?_
 refine wpF_region ?_
 refine lq rfl (q_fieldAddr rfl Try.underlying51 rfl Try.sizeOf3 rfl) ?_
 refine lq rfl (q_loadBlk rfl rfl Try.isAgg3 (hS3.blk 0 rfl) rfl (fun h => h)) ?_
 refine la (v := I ((rt : Int))) rfl rfl rfl ?_
 refine wpL_nil ?_
 refine wpF_seq ?_
 refine wpF_block ?_
 refine wpF_loop (fun mz f H => ∃ (i : Nat), ∃ (m : Nat), mz = i ∧ (i < ch.length + 2) ∧ (i ≤ m) ∧ (valF ch m i a = valF ch rt rt a) ∧ f 1 = va ∧ f 2 = PT g1 0 ∧ f 5 = I ((i : Int)) ∧ St H0 NoB NoB [bE g1 #[vx, I ((rt : Int))] 51, rdE vx (chI ch), rdE va a] H) (rt) ?_ ?_
 ·exact ⟨rt, rt, rfl, hrt, (Nat.le_refl _), rfl, y1, rfl, rfl, hS3⟩
 intro m4 f4 H4 hI4
 clear y1
 obtain ⟨i, m, hm4, hil, hmi, hv, y1, y2, y5, hS4⟩ := hI4
 refine wpF_seq ?_
 refine wpF_seq ?_
 refine wpF_region ?_
 refine lm (v := I ((i : Int))) rfl rfl y5 ?_
 refine lq rfl (q_geq rfl rfl rfl) ?_
 refine wpL_nil ?_
 refine wpF_condP rfl (fun h10 => ?t14) (fun h10 => ?e14)
 case e14 =>
  rw [val_low (by omega)] at hv
  refine wpF_exit ?_
  refine atX_here ?_
  refine wpF_seq ?_
  refine wpF_region ?_
  refine lm (v := I ((i : Int))) rfl rfl y5 ?_
  refine lq rfl (q_eql rfl rfl rfl) ?_
  refine la (v := B (decide ((i : Int) = 1))) rfl rfl rfl ?_
  refine wpL_nil ?_
  refine wpF_ret ?_
  refine ⟨_, resT rfl resN, hS4.frame, ?_⟩
  show (B (decide ((i : Int) = 1))) = B (decide (valF ch rt rt a = 1))
  exact congrArg B (by rw [← hv]; exact decide_eq_decide.2 (by omega))
 have hi2 : ¬ i < 2 := by omega
 have hck := hW.each (i - 2) (by omega)
 obtain ⟨hk1, hk2, hk3, hk4, _, _, _⟩ := hck
 have hti : ((i : Int) - 2).toNat = i - 2 := by omega
 obtain ⟨he1, he2, he3⟩ : (nth (chI ch) ((i : Int) - 2).toNat).Var = ((nth ch (i - 2)).1 : Int) ∧ (nth (chI ch) ((i : Int) - 2).toNat).Low = ((nth ch (i - 2)).2.1 : Int) ∧ (nth (chI ch) ((i : Int) - 2).toNat).High = ((nth ch (i - 2)).2.2 : Int) := by rw [hti]; exact chI_at (by omega)
 have hvn := val_next (ch := ch) (a := a) (m := m) hi2 hmi
 have htv : ((nth (chI ch) ((i : Int) - 2).toNat).Var - 1).toNat = (nth ch (i - 2)).1 - 1 := by omega
 refine wpF_skip ?_
 refine wpF_block ?_
 refine wpF_seq ?_
 refine wpF_region ?_
 refine lq rfl (q_fieldAddr rfl Try.underlying51 rfl Try.sizeOf49 y2) ?_
 refine lq rfl (q_loadBlk rfl rfl Try.isAgg49 (hS4.blk 0 rfl) rfl (fun h => h)) ?_
 refine lm (v := I ((i : Int))) rfl rfl y5 ?_
 refine lq rfl (q_sub rfl rfl rfl (by constructor <;> omega)) ?_
 refine lq rfl (q_indexRd (k := ((i : Int) - 2).toNat) rfl Try.underlying49 el_Chc_125_DiaC4 rfl rfl (hS4.rdl 1 rfl) (by omega) (by omega)) ?_
 obtain ⟨u6, huu6, hlu6⟩ := (Rd.list.1 (hS4.rdS 1 rfl)).elem (((i : Int) - 2).toNat) (by omega)
 obtain ⟨rfl, hu60, hu61, hu62⟩ := Rd.chc.1 huu6
 refine lq rfl (q_loadE rfl rfl (hlu6 Try.prog 125 _ el_Chc_125_DiaC4 (fun _ h => False.elim h))) ?_
 refine lo rfl ?_
 refine e_alloc rfl Try.zeroValue125 hS4 (fun g7 H8 hS9 hxx => ?_)
 refine lo rfl ?_
 refine e_storeBlkA (cs' := #[I ((nth (chI ch) (((i : Int) - 2).toNat)).Var), I ((nth (chI ch) (((i : Int) - 2).toNat)).Low), I ((nth (chI ch) (((i : Int) - 2).toNat)).High)]) rfl rfl rfl Try.sizeOf125 rfl rfl (fa rfl (fa rfl (fa rfl fe))) hS9 (fun H10 hS11 hxx => ?_)
 refine wpL_nil ?_
 refine wpF_seq ?_
 refine wpF_region ?_
 refine lq rfl (q_fieldAddr rfl Try.underlying125 rfl Try.sizeOf3 rfl) ?_
 refine lq rfl (q_loadBlk rfl rfl Try.isAgg3 (hS11.blk 0 rfl) rfl (fun h => h)) ?_
 refine la (v := I ((nth (chI ch) (((i : Int) - 2).toNat)).Low)) rfl rfl rfl ?_
 refine wpL_nil ?_
 refine wpF_seq ?_
 refine wpF_region ?_
 refine lm (v := va) rfl rfl y1 ?_
 refine lq rfl (q_fieldAddr rfl Try.underlying125 rfl Try.sizeOf3 rfl) ?_
 refine lq rfl (q_loadBlk rfl rfl Try.isAgg3 (hS11.blk 0 rfl) rfl (fun h => h)) ?_
 refine lq rfl (q_sub rfl rfl rfl (by constructor <;> omega)) ?_
 refine lq rfl (q_indexRd (k := (((nth (chI ch) (((i : Int) - 2).toNat)).Var) - 1).toNat) rfl Try.underlying31 el_Bool_4_DiaC4 rfl rfl (hS11.rdl 3 rfl) (by omega) (by omega)) ?_
 refine lq rfl (q_loadBool (k := (((nth (chI ch) (((i : Int) - 2).toNat)).Var) - 1).toNat) rfl rfl el_Bool_4_DiaC4 (hS11.rdl 3 rfl) (by omega) (fun _ h => h)) ?_
 refine wpL_nil ?_
 refine wpF_cond rfl (fun h24 => ?t13) (fun h24 => ?e13)
 case e13 =>
  have hv2 : valF ch (m - 1) (nth ch (i - 2)).2.1 a = valF ch rt rt a := by rw [hvn, if_neg (by rw [← htv, h24]; exact Bool.false_ne_true)] at hv; exact hv
  refine wpF_skip ?_
  refine ⟨_, ?_, (nth ch (i - 2)).2.1, m - 1, rfl, (by omega), (by omega), hv2, y1, y2, (Eq.trans rfl (congrArg I (by first | exact he2 | exact he3))), (hS11.drop (sn (sk (sk (sk (List.Sublist.slnil))))))⟩
  omega
 have hv2 : valF ch (m - 1) (nth ch (i - 2)).2.2 a = valF ch rt rt a := by rw [hvn, if_pos (by rw [← htv]; exact h24)] at hv; exact hv
 refine wpF_region ?_
 refine lq rfl (q_fieldAddr rfl Try.underlying125 rfl Try.sizeOf3 rfl) ?_
 refine lq rfl (q_loadBlk rfl rfl Try.isAgg3 (hS11.blk 0 rfl) rfl (fun h => h)) ?_
 refine la (v := I ((nth (chI ch) (((i : Int) - 2).toNat)).High)) rfl rfl rfl ?_
 refine wpL_nil ?_
 refine ⟨_, ?_, (nth ch (i - 2)).2.2, m - 1, rfl, (by omega), (by omega), hv2, y1, y2, (Eq.trans rfl (congrArg I (by first | exact he2 | exact he3))), (hS11.drop (sn (sk (sk (sk (List.Sublist.slnil))))))⟩
 omega
end Go.Um
