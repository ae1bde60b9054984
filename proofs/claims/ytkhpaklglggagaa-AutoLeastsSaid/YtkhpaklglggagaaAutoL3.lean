import Derived.Test.YtkhpaklglggagaaProg
import Derived.Test.YtkhpaklglggagaaAutoL1
import Derived.Test.YtkhpaklglggagaaAutoL2
import Derived.Test.YtkhpaklglggagaaUmSub
namespace Go.Um
open Go.Proofs
open GoT (sz ag rdc)
open KeyT (kv)

theorem el_Bool_4_AutoL3 : ElT Try.prog Bool 4 := ⟨Try.isAgg4, Try.sizeOf4⟩
theorem el_Int_3_AutoL3 : ElT Try.prog Int 3 := ⟨Try.isAgg3, Try.sizeOf3⟩
theorem el_LInt_22_AutoL3 : ElT Try.prog (List Int) 22 := ⟨Try.isAgg22, Try.sizeOf22⟩

set_option maxRecDepth 100000 in
theorem Index {H0 : Heap} (vs : Value) (l : List Int) (n : Int) (rs : Rd NoB H0 vs l) : CallsH Try.prog 68 #[vs, I (n)] H0 (fun rv_ H' => Ext NoB H0 H' ∧ rv_ = I (idxOf (fun x => decide (x = n)) l)) := by
  have hsm := (Rd.list.1 rs).small
  have hS0 : St H0 NoB NoB [rdE vs l] H0 := St.arg (St.start (fun _ h => h.elim)) (Bl0.nil) rs (fun _ h => h)
  refine callsH_of_wpF (args := [vs, I (n)]) (rs := [.tmp 4]) Try.func68 rfl Try.ntmps68 Try.results68 (by kernel_rfl) (Nat.le_of_ble_eq_true rfl) ?_
  have a0_0 : argF [vs, I (n)] 0 = vs := rfl
  have a0_1 : argF [vs, I (n)] 1 = I (n) := rfl
  generalize argF [vs, I (n)] = f0 at *
  refine wpF_seq ?_
  refine wpF_cut (fun f H => f 0 = vs ∧ f 1 = I (n) ∧ H0 = H) ?_ ?_
  · refine wpF_region ?_
    refine wpL_q (U := NoB) rfl (q_assign (v := I (0)) rfl rfl) ?_
    exact ⟨a0_0, a0_1, rfl⟩
  rintro f1 _ ⟨a1_0, a1_1, rfl⟩
  clear a0_0 a0_1
  refine wpF_seq ?_
  refine wpF_seq ?_
  refine wpF_cut (fun f H => f 0 = vs ∧ f 1 = I (n) ∧ f 7 = I ((l.length : Int)) ∧ f 8 = I (0) ∧ H0 = H) ?_ ?_
  · refine wpF_region ?_
    refine wpL_q (U := NoB) rfl (q_move (v := vs) rfl a1_0) ?_
    refine wpL_q (U := NoB) rfl (q_lenRd rfl Try.underlying22 rfl (hS0.rdl 0 rfl)) ?_
    refine wpL_q (U := NoB) rfl (q_move (v := I (0)) rfl rfl) ?_
    exact ⟨a1_0, a1_1, rfl, rfl, rfl⟩
  rintro f2 _ ⟨a2_0, a2_1, a2_7, a2_8, rfl⟩
  clear a1_0 a1_1
  refine wpF_block ?_
  refine wpF_loop (fun mz f H => ∃ (k : Nat), mz = l.length - k ∧ (k ≤ l.length) ∧ (∀ j, j < k → decide (nth l j = n) = false) ∧ f 0 = vs ∧ f 1 = I (n) ∧ f 7 = I ((l.length : Int)) ∧ f 8 = I ((k : Int)) ∧ H0 = H) (l.length - 0) ?_ ?_
  · exact ⟨0, rfl, Nat.zero_le _, (fun j hj => absurd hj (Nat.not_lt_zero j)), a2_0, a2_1, a2_7, (Eq.trans a2_8 (congrArg I (by omega))), rfl⟩
  intro m3 f3 H3 hI3
  obtain ⟨k, hm3, hk, hno, a3_0, a3_1, a3_7, a3_8, rfl⟩ := hI3
  clear a2_0 a2_1 a2_7 a2_8
  refine wpF_seq ?_
  refine wpF_cut (fun f H => f 0 = vs ∧ f 1 = I (n) ∧ f 7 = I ((l.length : Int)) ∧ f 8 = I ((k : Int)) ∧ f 9 = B (decide ((k : Int) < (l.length : Int))) ∧ H0 = H) ?_ ?_
  · refine wpF_region ?_
    refine wpL_q (U := NoB) rfl (q_lss rfl a3_8 a3_7) ?_
    exact ⟨a3_0, a3_1, a3_7, a3_8, rfl, rfl⟩
  rintro f4 _ ⟨a4_0, a4_1, a4_7, a4_8, a4_9, rfl⟩
  clear a3_0 a3_1 a3_7 a3_8
  refine wpF_seq ?_
  refine wpF_condP a4_9 (fun hlt => ?t13) (fun hlt => ?e13)
  case e13 =>
    refine wpF_exit ?_
    refine atX_here ?_
    refine wpF_seq ?_
    refine wpF_cut (fun f H => f 4 = I (-1) ∧ H0 = H) ?_ ?_
    · refine wpF_region ?_
      refine wpL_q (U := NoB) rfl (q_assign (v := I (-1)) rfl rfl) ?_
      exact ⟨rfl, rfl⟩
    rintro f12 _ ⟨a12_4, rfl⟩
    clear a4_0 a4_1 a4_7 a4_8 a4_9
    refine wpF_ret ?_
    refine ⟨_, resT a12_4 resN, hS0.frame, ?_⟩
    show (I (-1)) = I (idxOf (fun x => decide (x = n)) l)
    exact congrArg I (idxOf_no fun j hj => hno j (by omega)).symm
  refine wpF_skip ?_
  refine wpF_seq ?_
  refine wpF_block ?_
  refine wpF_seq ?_
  refine wpF_cut (fun f H => f 0 = vs ∧ f 1 = I (n) ∧ f 5 = I ((k : Int)) ∧ f 7 = I ((l.length : Int)) ∧ f 8 = I ((k : Int)) ∧ H0 = H) ?_ ?_
  · refine wpF_region ?_
    refine wpL_q (U := NoB) rfl (q_move (v := I ((k : Int))) rfl a4_8) ?_
    refine wpL_q (U := NoB) rfl (q_assign (v := I ((k : Int))) rfl rfl) ?_
    exact ⟨a4_0, a4_1, rfl, a4_7, a4_8, rfl⟩
  rintro f6 _ ⟨a6_0, a6_1, a6_5, a6_7, a6_8, rfl⟩
  clear a4_0 a4_1 a4_7 a4_8 a4_9
  refine wpF_seq ?_
  refine wpF_cut (fun f H => f 0 = vs ∧ f 1 = I (n) ∧ f 5 = I ((k : Int)) ∧ f 7 = I ((l.length : Int)) ∧ f 8 = I ((k : Int)) ∧ f 16 = B (decide (n = (nth l k))) ∧ H0 = H) ?_ ?_
  · refine wpF_region ?_
    refine wpL_q (U := NoB) rfl (q_move (v := I (n)) rfl a6_1) ?_
    refine wpL_q (U := NoB) rfl (q_move (v := vs) rfl a6_0) ?_
    refine wpL_q (U := NoB) rfl (q_move (v := I ((k : Int))) rfl a6_5) ?_
    refine wpL_q (U := NoB) rfl (q_indexRd (k := k) rfl Try.underlying22 el_Int_3_AutoL3 rfl rfl (hS0.rdl 0 rfl) (by omega) (by omega)) ?_
    refine wpL_q (U := NoB) rfl (q_loadInt (k := k) rfl rfl el_Int_3_AutoL3 (hS0.rdl 0 rfl) (by omega) (fun _ h => h)) ?_
    refine wpL_q (U := NoB) rfl (q_eql rfl rfl rfl) ?_
    exact ⟨a6_0, a6_1, a6_5, a6_7, a6_8, rfl, rfl⟩
  rintro f7 _ ⟨a7_0, a7_1, a7_5, a7_7, a7_8, a7_16, rfl⟩
  clear a6_0 a6_1 a6_5 a6_7 a6_8
  refine wpF_condP a7_16 (fun hg => ?t11) (fun hg => ?e11)
  case e11 =>
    refine wpF_skip ?_
    refine wpF_cut (fun f H => f 0 = vs ∧ f 1 = I (n) ∧ f 7 = I ((l.length : Int)) ∧ f 8 = I ((k : Int) + 1) ∧ H0 = H) ?_ ?_
    · refine wpF_region ?_
      refine wpL_q (U := NoB) rfl (q_add rfl a7_8 rfl (by constructor <;> omega)) ?_
      refine wpL_q (U := NoB) rfl (q_move (v := I ((k : Int) + 1)) rfl rfl) ?_
      exact ⟨a7_0, a7_1, a7_7, rfl, rfl⟩
    rintro f10 _ ⟨a10_0, a10_1, a10_7, a10_8, rfl⟩
    clear a7_0 a7_1 a7_16 a7_5 a7_7 a7_8
    refine ⟨_, ?_, k + 1, rfl, (by omega), (all_succ hno (decide_eq_false (fun h => hg h.symm))), a10_0, a10_1, a10_7, (Eq.trans a10_8 (congrArg I (by omega))), rfl⟩
    omega
  refine wpF_seq ?_
  refine wpF_cut (fun f H => f 4 = I ((k : Int)) ∧ H0 = H) ?_ ?_
  · refine wpF_region ?_
    refine wpL_q (U := NoB) rfl (q_move (v := I ((k : Int))) rfl a7_5) ?_
    refine wpL_q (U := NoB) rfl (q_assign (v := I ((k : Int))) rfl rfl) ?_
    exact ⟨rfl, rfl⟩
  rintro f9 _ ⟨a9_4, rfl⟩
  clear a7_0 a7_1 a7_16 a7_5 a7_7 a7_8
  refine wpF_ret ?_
  refine ⟨_, resT a9_4 resN, hS0.frame, ?_⟩
  show (I ((k : Int))) = I (idxOf (fun x => decide (x = n)) l)
  exact congrArg I (idxOf_at (g := fun x => decide (x = n)) (l := l) (k := k) (by omega) hno (decide_eq_true hg.symm)).symm

set_option maxRecDepth 100000 in
theorem Least_1 {H0 : Heap} (c : Int) (gc : Nat) (vC : Value) (C : List Int) (hb : H0[gc]? = some (.cells #[vC] 22)) (rC : Rd NoB H0 vC C) : CallsH Try.prog 67 #[I (c), PT gc 0] H0 (fun rv_ H' => Ext NoB H0 H' ∧ rv_ = I (repF C c)) := by
  have hS0 : St H0 NoB NoB [fixE gc (.cells #[vC] 22), rdE vC C] H0 := St.argFix (St.arg (St.start (fun _ h => h.elim)) (Bl0.nil) rC (fun _ h => h)) (Bl0.cons (Bl0.nil)) hb (fun h => h)
  refine callsH_of_wpF (args := [I (c), PT gc 0]) (rs := [.tmp 3]) Try.func67 rfl Try.ntmps67 Try.results67 (by kernel_rfl) (Nat.le_of_ble_eq_true rfl) ?_
  have a0_0 : argF [I (c), PT gc 0] 0 = I (c) := rfl
  have a0_1 : argF [I (c), PT gc 0] 1 = PT gc 0 := rfl
  generalize argF [I (c), PT gc 0] = f0 at *
  refine wpF_seq ?_
  refine wpF_cut (fun f H => f 0 = I (c) ∧ f 1 = PT gc 0 ∧ H0 = H) ?_ ?_
  · refine wpF_region ?_
    refine wpL_q (U := NoB) rfl (q_assign (v := I (0)) rfl rfl) ?_
    exact ⟨a0_0, a0_1, rfl⟩
  rintro f1 _ ⟨a1_0, a1_1, rfl⟩
  clear a0_0 a0_1
  refine wpF_seq ?_
  refine wpF_cut (fun f H => f 3 = I ((idxOf (fun x => decide (x = c)) C)) ∧ St H0 NoB NoB [fixE gc (.cells #[vC] 22), rdE vC C] H) ?_ ?_
  · refine wpF_region ?_
    refine wpL_q (U := NoB) rfl (q_loadBlk rfl a1_1 Try.isAgg22 (hS0.fixd 0 rfl) rfl (fun h => h)) ?_
    refine wpL_q (U := NoB) rfl (q_move (v := I (c)) rfl a1_0) ?_
    refine wpL_o rfl ?_
    refine e_call rfl Try.call68 (arr2 (v0 := vC) (v1 := I (c)) rfl rfl) (Index vC C c (hS0.rdN 1 rfl) ) ?_
    rintro _ H2 ⟨hxx, rfl⟩
    have hS3 : St H0 NoB NoB [fixE gc (.cells #[vC] 22), rdE vC C] H2 := hS0.ext hxx
    refine wpL_q (U := NoB) rfl (q_assign (v := I ((idxOf (fun x => decide (x = c)) C))) rfl rfl) ?_
    exact ⟨rfl, hS3⟩
  rintro f5 H5 ⟨a5_3, hS5⟩
  clear a1_0 a1_1
  refine wpF_ret ?_
  refine ⟨_, resT a5_3 resN, hS5.frame, ?_⟩
  show (I ((idxOf (fun x => decide (x = c)) C))) = I (repF C c)
  rfl

set_option maxRecDepth 100000 in
theorem Least_2 {H0 : Heap} (x c : Int) (gc ga gf : Nat) (vC c0 vn vt vf : Value) (C : List Int) (a : Auto) (hbc : H0[gc]? = some (.cells #[vC] 22)) (hba : H0[ga]? = some (.cells #[c0, vn, vt] 36)) (hbf : H0[gf]? = some (.cells #[vf] 95)) (rC : Rd NoB H0 vC C) (rn : Rd NoB H0 vn a.Next) (rt : Rd NoB H0 vt a.Takes) (hW : WF a) (hK : ClsL a C) (hx : LInv a C x) (hk : ∀ (x : Int) (H : Heap), Ext NoB H0 H → FnH Try.prog vf #[I x] H (fun rv H' => Ext NoB H H' ∧ rv = I (repF C x))) (hc : 0 ≤ c ∧ c < a.Signs) : CallsH Try.prog 70 #[I (x), I (c), PT gc 0, PT ga 0, PT gf 0] H0 (fun rv_ H' => Ext NoB H0 H' ∧ rv_ = I (clNx a (clF C) (repF C) x c)) := by
  have hrp := hx.rep hK
  have hCl := hK.len
  have hrw := hW.rows (repF C x).toNat (by omega)
  have htk := hW.takes
  have hsgw := hW.signs
  have hst := InA.step (a := a) (s := repF C x) hW hrp hc
  have hst0 := hst.1
  have hst1 := hst.2
  unfold stepA at hst0 hst1
  have hS0 : St H0 NoB NoB [fixE gc (.cells #[vC] 22), fixE ga (.cells #[c0, vn, vt] 36), fixE gf (.cells #[vf] 95), rdE vC C, rdE vn a.Next, rdE vt a.Takes] H0 := St.argFix (St.argFix (St.argFix (St.arg (St.arg (St.arg (St.start (fun _ h => h.elim)) (Bl0.nil) rt (fun _ h => h)) (Bl0.cons (Bl0.nil)) rn (fun _ h => h)) (Bl0.cons (Bl0.cons (Bl0.nil))) rC (fun _ h => h)) (Bl0.cons (Bl0.cons (Bl0.cons (Bl0.nil)))) hbf (fun h => h)) (Bl0.consF (Bl0.cons (Bl0.cons (Bl0.cons (Bl0.nil))))) hba (fun h => h)) (Bl0.consF (Bl0.consF (Bl0.cons (Bl0.cons (Bl0.cons (Bl0.nil)))))) hbc (fun h => h)
  refine callsH_of_wpF (args := [I (x), I (c), PT gc 0, PT ga 0, PT gf 0]) (rs := [.tmp 7]) Try.func70 rfl Try.ntmps70 Try.results70 (by kernel_rfl) (Nat.le_of_ble_eq_true rfl) ?_
  have a0_0 : argF [I (x), I (c), PT gc 0, PT ga 0, PT gf 0] 0 = I (x) := rfl
  have a0_1 : argF [I (x), I (c), PT gc 0, PT ga 0, PT gf 0] 1 = I (c) := rfl
  have a0_2 : argF [I (x), I (c), PT gc 0, PT ga 0, PT gf 0] 2 = PT gc 0 := rfl
  have a0_3 : argF [I (x), I (c), PT gc 0, PT ga 0, PT gf 0] 3 = PT ga 0 := rfl
  have a0_4 : argF [I (x), I (c), PT gc 0, PT ga 0, PT gf 0] 4 = PT gf 0 := rfl
  generalize argF [I (x), I (c), PT gc 0, PT ga 0, PT gf 0] = f0 at *
  refine wpF_seq ?_
  refine wpF_cut (fun f H => f 0 = I (x) ∧ f 1 = I (c) ∧ f 2 = PT gc 0 ∧ f 3 = PT ga 0 ∧ f 4 = PT gf 0 ∧ H0 = H) ?_ ?_
  · refine wpF_region ?_
    refine wpL_q (U := NoB) rfl (q_assign (v := I (0)) rfl rfl) ?_
    exact ⟨a0_0, a0_1, a0_2, a0_3, a0_4, rfl⟩
  rintro f1 _ ⟨a1_0, a1_1, a1_2, a1_3, a1_4, rfl⟩
  clear a0_0 a0_1 a0_2 a0_3 a0_4
  refine wpF_seq ?_
  refine wpF_cut (fun f H => f 7 = I (nth C ((nth (nth a.Next ((repF C x).toNat)) ((c).toNat)).toNat)) ∧ St H0 NoB NoB [fixE gc (.cells #[vC] 22), fixE ga (.cells #[c0, vn, vt] 36), fixE gf (.cells #[vf] 95), rdE vC C, rdE vn a.Next, rdE vt a.Takes] H) ?_ ?_
  · refine wpF_drawn [] [] (fun _ _ => False) (by kernel_rfl) (by kernel_rfl) ?_
    refine wpR_q 0 (by kernel_rfl) rfl (quietAt rfl rfl (q_loadBlk rfl a1_2 Try.isAgg22 (hS0.fixd 0 rfl) rfl (labU_not [] rfl (List.forall_mem_nil _)))) ?_
    refine wpR_q 1 (by kernel_rfl) rfl (quietAt rfl rfl (q_fieldAddr rfl Try.underlying36 rfl Try.sizeOf27 a1_3)) ?_
    refine wpR_q 2 (by kernel_rfl) rfl (quietAt rfl rfl (q_loadBlk rfl rfl Try.isAgg27 (hS0.fixd 1 rfl) rfl (labU_not [] rfl (List.forall_mem_nil _)))) ?_
    refine wpR_q 3 (by kernel_rfl) rfl (quietAt rfl rfl (q_loadBlk rfl a1_4 Try.isAgg95 (hS0.fixd 2 rfl) rfl (labU_not [] rfl (List.forall_mem_nil _)))) ?_
    refine wpR_q 4 (by kernel_rfl) rfl (quietAt rfl rfl (q_move (v := I (x)) rfl a1_0)) ?_
    refine wpR_q 8 (by kernel_rfl) rfl (quietAt rfl rfl (q_move (v := I (c)) rfl a1_1)) ?_
    refine wpR_n [5] (by kernel_rfl) ?_
    refine List.forall_mem_cons.2 ⟨?_, List.forall_mem_nil _⟩
    refine exE rfl rfl ?_
    refine e_callF rfl rfl (arr1 (v0 := I (x)) rfl) (hk _ _ hS0.frame) ?_
    rintro _ H2o5 ⟨hxx, rfl⟩
    have hS2o5 : St H0 NoB NoB [fixE gc (.cells #[vC] 22), fixE ga (.cells #[c0, vn, vt] 36), fixE gf (.cells #[vf] 95), rdE vC C, rdE vn a.Next, rdE vt a.Takes] H2o5 := hS0.ext hxx
    refine ⟨Ext.mono hxx (fun _ h => h.elim), ?_⟩
    refine wpR_q 6 (by kernel_rfl) rfl (quietAt rfl rfl (q_indexRd (k := (repF C x).toNat) rfl Try.underlying27 el_LInt_22_AutoL3 rfl rfl (hS2o5.rdl 4 rfl) (by omega) (by omega))) ?_
    obtain ⟨u2o7, huu2o7, hlu2o7⟩ := (Rd.list.1 (hS2o5.rdS 4 rfl)).elem ((repF C x).toNat) (by omega)
    have hS2o7 : St H0 NoB NoB [rdE u2o7 (nth a.Next ((repF C x).toNat)), fixE gc (.cells #[vC] 22), fixE ga (.cells #[c0, vn, vt] 36), fixE gf (.cells #[vf] 95), rdE vC C, rdE vn a.Next, rdE vt a.Takes] H2o5 := hS2o5.rd huu2o7
    refine wpR_q 7 (by kernel_rfl) rfl (quietAt rfl rfl (q_loadE rfl rfl (hlu2o7 Try.prog 22 _ el_LInt_22_AutoL3 (labU_sub [] rfl (List.forall_mem_nil _))))) ?_
    refine wpR_q 9 (by kernel_rfl) rfl (quietAt rfl rfl (q_indexRd (k := (c).toNat) rfl Try.underlying22 el_Int_3_AutoL3 rfl rfl (hS2o7.rdl 0 rfl) (by omega) (by omega))) ?_
    refine wpR_q 10 (by kernel_rfl) rfl (quietAt rfl rfl (q_loadInt (k := (c).toNat) rfl rfl el_Int_3_AutoL3 (hS2o7.rdl 0 rfl) (by omega) (labU_sub [] rfl (List.forall_mem_nil _)))) ?_
    refine wpR_q 11 (by kernel_rfl) rfl (quietAt rfl rfl (q_indexRd (k := (nth (nth a.Next ((repF C x).toNat)) ((c).toNat)).toNat) rfl Try.underlying22 el_Int_3_AutoL3 rfl rfl (hS2o7.rdl 4 rfl) (by omega) (by omega))) ?_
    refine wpR_q 12 (by kernel_rfl) rfl (quietAt rfl rfl (q_loadInt (k := (nth (nth a.Next ((repF C x).toNat)) ((c).toNat)).toNat) rfl rfl el_Int_3_AutoL3 (hS2o7.rdl 4 rfl) (by omega) (labU_sub [] rfl (List.forall_mem_nil _)))) ?_
    refine wpR_q 13 (by kernel_rfl) rfl (quietAt rfl rfl (q_assign (v := I (nth C ((nth (nth a.Next ((repF C x).toNat)) ((c).toNat)).toNat))) rfl rfl)) ?_
    refine wpR_end (by kernel_rfl) ?_
    exact ⟨rfl, (hS2o7.drop (sn (sk (sk (sk (sk (sk (sk (List.Sublist.slnil)))))))))⟩
  rintro f3 H3 ⟨a3_7, hS3⟩
  clear a1_0 a1_1 a1_2 a1_3 a1_4
  refine wpF_ret ?_
  refine ⟨_, resT a3_7 resN, hS3.frame, ?_⟩
  show (I (nth C ((nth (nth a.Next ((repF C x).toNat)) ((c).toNat)).toNat))) = I (clNx a (clF C) (repF C) x c)
  rfl

set_option maxRecDepth 100000 in
theorem Least_3 {H0 : Heap} (x : Int) (ga gf : Nat) (vC c0 vn vt vf : Value) (C : List Int) (a : Auto) (hba : H0[ga]? = some (.cells #[c0, vn, vt] 36)) (hbf : H0[gf]? = some (.cells #[vf] 95)) (rC : Rd NoB H0 vC C) (rn : Rd NoB H0 vn a.Next) (rt : Rd NoB H0 vt a.Takes) (hW : WF a) (hK : ClsL a C) (hx : LInv a C x) (hk : ∀ (x : Int) (H : Heap), Ext NoB H0 H → FnH Try.prog vf #[I x] H (fun rv H' => Ext NoB H H' ∧ rv = I (repF C x))) : CallsH Try.prog 71 #[I (x), PT ga 0, PT gf 0] H0 (fun rv_ H' => Ext NoB H0 H' ∧ rv_ = B (nth a.Takes (repF C x).toNat)) := by
  have hrp := hx.rep hK
  have hCl := hK.len
  have hrw := hW.rows (repF C x).toNat (by omega)
  have htk := hW.takes
  have hsgw := hW.signs
  have hS0 : St H0 NoB NoB [fixE ga (.cells #[c0, vn, vt] 36), fixE gf (.cells #[vf] 95), rdE vC C, rdE vn a.Next, rdE vt a.Takes] H0 := St.argFix (St.argFix (St.arg (St.arg (St.arg (St.start (fun _ h => h.elim)) (Bl0.nil) rt (fun _ h => h)) (Bl0.cons (Bl0.nil)) rn (fun _ h => h)) (Bl0.cons (Bl0.cons (Bl0.nil))) rC (fun _ h => h)) (Bl0.cons (Bl0.cons (Bl0.cons (Bl0.nil)))) hbf (fun h => h)) (Bl0.consF (Bl0.cons (Bl0.cons (Bl0.cons (Bl0.nil))))) hba (fun h => h)
  refine callsH_of_wpF (args := [I (x), PT ga 0, PT gf 0]) (rs := [.tmp 4]) Try.func71 rfl Try.ntmps71 Try.results71 (by kernel_rfl) (Nat.le_of_ble_eq_true rfl) ?_
  have a0_0 : argF [I (x), PT ga 0, PT gf 0] 0 = I (x) := rfl
  have a0_1 : argF [I (x), PT ga 0, PT gf 0] 1 = PT ga 0 := rfl
  have a0_2 : argF [I (x), PT ga 0, PT gf 0] 2 = PT gf 0 := rfl
  generalize argF [I (x), PT ga 0, PT gf 0] = f0 at *
  refine wpF_seq ?_
  refine wpF_cut (fun f H => f 0 = I (x) ∧ f 1 = PT ga 0 ∧ f 2 = PT gf 0 ∧ H0 = H) ?_ ?_
  · refine wpF_region ?_
    refine wpL_q (U := NoB) rfl (q_assign (v := B (false)) rfl rfl) ?_
    exact ⟨a0_0, a0_1, a0_2, rfl⟩
  rintro f1 _ ⟨a1_0, a1_1, a1_2, rfl⟩
  clear a0_0 a0_1 a0_2
  refine wpF_seq ?_
  refine wpF_cut (fun f H => f 4 = B (nth a.Takes ((repF C x).toNat)) ∧ St H0 NoB NoB [fixE ga (.cells #[c0, vn, vt] 36), fixE gf (.cells #[vf] 95), rdE vn a.Next, rdE vt a.Takes] H) ?_ ?_
  · refine wpF_drawn [] [] (fun _ _ => False) (by kernel_rfl) (by kernel_rfl) ?_
    refine wpR_q 0 (by kernel_rfl) rfl (quietAt rfl rfl (q_fieldAddr rfl Try.underlying36 rfl Try.sizeOf32 a1_1)) ?_
    refine wpR_q 1 (by kernel_rfl) rfl (quietAt rfl rfl (q_loadBlk rfl rfl Try.isAgg32 (hS0.fixd 0 rfl) rfl (labU_not [] rfl (List.forall_mem_nil _)))) ?_
    refine wpR_q 2 (by kernel_rfl) rfl (quietAt rfl rfl (q_loadBlk rfl a1_2 Try.isAgg95 (hS0.fixd 1 rfl) rfl (labU_not [] rfl (List.forall_mem_nil _)))) ?_
    refine wpR_q 3 (by kernel_rfl) rfl (quietAt rfl rfl (q_move (v := I (x)) rfl a1_0)) ?_
    refine wpR_n [4] (by kernel_rfl) ?_
    refine List.forall_mem_cons.2 ⟨?_, List.forall_mem_nil _⟩
    refine exE rfl rfl ?_
    refine e_callF rfl rfl (arr1 (v0 := I (x)) rfl) (hk _ _ hS0.frame) ?_
    rintro _ H2o4 ⟨hxx, rfl⟩
    have hS2o4 : St H0 NoB NoB [fixE ga (.cells #[c0, vn, vt] 36), fixE gf (.cells #[vf] 95), rdE vC C, rdE vn a.Next, rdE vt a.Takes] H2o4 := hS0.ext hxx
    refine ⟨Ext.mono hxx (fun _ h => h.elim), ?_⟩
    refine wpR_q 5 (by kernel_rfl) rfl (quietAt rfl rfl (q_indexRd (k := (repF C x).toNat) rfl Try.underlying32 el_Bool_4_AutoL3 rfl rfl (hS2o4.rdl 4 rfl) (by omega) (by omega))) ?_
    refine wpR_q 6 (by kernel_rfl) rfl (quietAt rfl rfl (q_loadBool (k := (repF C x).toNat) rfl rfl el_Bool_4_AutoL3 (hS2o4.rdl 4 rfl) (by omega) (labU_sub [] rfl (List.forall_mem_nil _)))) ?_
    refine wpR_q 7 (by kernel_rfl) rfl (quietAt rfl rfl (q_assign (v := B (nth a.Takes ((repF C x).toNat))) rfl rfl)) ?_
    refine wpR_end (by kernel_rfl) ?_
    exact ⟨rfl, (hS2o4.drop (sk (sk (sn (sk (sk (List.Sublist.slnil)))))))⟩
  rintro f3 H3 ⟨a3_4, hS3⟩
  clear a1_0 a1_1 a1_2
  refine wpF_ret ?_
  refine ⟨_, resT a3_4 resN, hS3.frame, ?_⟩
  show (B (nth a.Takes ((repF C x).toNat))) = B (nth a.Takes (repF C x).toNat)
  rfl

set_option maxHeartbeats 2000000 in
set_option maxRecDepth 100000 in
theorem Least_L {H0 : Heap} {S : Nat → Prop} (vn vt : Value) (a : Auto) (rn : Rd S H0 vn a.Next) (rt : Rd S H0 vt a.Takes) (hsg : In64 a.Signs) : CallsH Try.prog 40 #[Value.agg #[I (a.Signs), vn, vt]] H0 (fun rv_ H' => Ext NoB H0 H' ∧ ∃ w1_ w2_, rv_ = Value.tuple #[Value.agg #[I (leastR a).1.Signs, w1_, w2_], Value.agg #[I (leastR a).2.1, I (leastR a).2.2]] ∧ Rd (fun b => S b ∧ b < H0.size) H' w1_ (leastR a).1.Next ∧ Rd (fun b => S b ∧ b < H0.size) H' w2_ (leastR a).1.Takes) := by
  have hsn := (Rd.list.1 rn).small
  have hst := (Rd.list.1 rt).small
  have hS0 : St H0 NoB (fun b => S b ∧ b < H0.size) [rdE vn a.Next, rdE vt a.Takes] H0 := St.arg (St.arg (St.start (fun _ h => h.2)) (Bl0.nil) rt (fun _ h => h.1)) (Bl0.cons (Bl0.nil)) rn (fun _ h => h.1)
  refine callsH_of_wpF (args := [Value.agg #[I (a.Signs), vn, vt]]) (rs := [.cell 2 36, .cell 3 24]) Try.func40 rfl Try.ntmps40 Try.results40 (by kernel_rfl) (Nat.le_of_ble_eq_true rfl) ?_
  have a0_0 : argF [Value.agg #[I (a.Signs), vn, vt]] 0 = Value.agg #[I (a.Signs), vn, vt] := rfl
  generalize argF [Value.agg #[I (a.Signs), vn, vt]] = f0 at *
  refine wpF_seq ?_
  refine wpF_cut (fun f H => ∃ (g1 : Nat), ∃ (g4 : Nat), ∃ (g7 : Nat), f 1 = PT g1 0 ∧ f 2 = PT g4 0 ∧ f 3 = PT g7 0 ∧ St H0 NoB (fun b => S b ∧ b < H0.size) [blkE g7 (.cells #[I (0), I (0)] 24), blkE g4 (.cells #[I (0), (Value.slice none 0 0), (Value.slice none 0 0)] 36), blkE g1 (.cells #[I (a.Signs), vn, vt] 36), rdE vn a.Next, rdE vt a.Takes] H) ?_ ?_
  · refine wpF_region ?_
    refine wpL_o rfl ?_
    refine e_box (v := Value.agg #[I (a.Signs), vn, vt]) rfl a0_0 hS0 (fun g1 H2 hS3 hxx => ?_)
    replace hS3 : St H0 NoB (fun b => S b ∧ b < H0.size) [blkE g1 (.cells #[I (a.Signs), vn, vt] 36), rdE vn a.Next, rdE vt a.Takes] H2 := hS3
    refine wpL_o rfl ?_
    refine e_alloc rfl Try.zeroValue36 hS3 (fun g4 H5 hS6 hxx => ?_)
    replace hS6 : St H0 NoB (fun b => S b ∧ b < H0.size) [blkE g4 (.cells #[I (0), (Value.slice none 0 0), (Value.slice none 0 0)] 36), blkE g1 (.cells #[I (a.Signs), vn, vt] 36), rdE vn a.Next, rdE vt a.Takes] H5 := hS6
    refine wpL_o rfl ?_
    refine e_alloc rfl Try.zeroValue24 hS6 (fun g7 H8 hS9 hxx => ?_)
    replace hS9 : St H0 NoB (fun b => S b ∧ b < H0.size) [blkE g7 (.cells #[I (0), I (0)] 24), blkE g4 (.cells #[I (0), (Value.slice none 0 0), (Value.slice none 0 0)] 36), blkE g1 (.cells #[I (a.Signs), vn, vt] 36), rdE vn a.Next, rdE vt a.Takes] H8 := hS9
    exact ⟨g1, g4, g7, rfl, rfl, rfl, hS9⟩
  rintro f10 H10 ⟨g1, g4, g7, a10_1, a10_2, a10_3, hS10⟩
  clear a0_0
  refine wpF_seq ?_
  refine wpF_seq ?_
  refine wpF_cut (fun f H => ∃ (g14 : Nat), f 1 = PT g1 0 ∧ f 2 = PT g4 0 ∧ f 3 = PT g7 0 ∧ f 4 = PT g14 0 ∧ St H0 NoB (fun b => S b ∧ b < H0.size) [blkE g14 (.cells #[I ((autoFault a).1), I ((autoFault a).2)] 24), blkE g7 (.cells #[I (0), I (0)] 24), blkE g4 (.cells #[I (0), (Value.slice none 0 0), (Value.slice none 0 0)] 36), blkE g1 (.cells #[I (a.Signs), vn, vt] 36), rdE vn a.Next, rdE vt a.Takes] H) ?_ ?_
  · refine wpF_region ?_
    refine wpL_q (U := NoB) rfl (q_loadBlkA rfl a10_1 Try.isAgg36 Try.sizeOf36 rfl (hS10.blk 2 rfl) (fun h => h)) ?_
    refine wpL_o rfl ?_
    refine e_call rfl Try.call21 (arr1 (v0 := Value.agg #[I (a.Signs), vn, vt]) rfl) (Check vn vt a (hS10.rdN 3 rfl) (hS10.rdN 4 rfl) hsg) ?_
    rintro _ H11 ⟨hxx, rfl⟩
    have hS12 : St H0 NoB (fun b => S b ∧ b < H0.size) [blkE g7 (.cells #[I (0), I (0)] 24), blkE g4 (.cells #[I (0), (Value.slice none 0 0), (Value.slice none 0 0)] 36), blkE g1 (.cells #[I (a.Signs), vn, vt] 36), rdE vn a.Next, rdE vt a.Takes] H11 := hS10.ext hxx
    refine wpL_o rfl ?_
    refine e_alloc rfl Try.zeroValue24 hS12 (fun g14 H15 hS16 hxx => ?_)
    replace hS16 : St H0 NoB (fun b => S b ∧ b < H0.size) [blkE g14 (.cells #[I (0), I (0)] 24), blkE g7 (.cells #[I (0), I (0)] 24), blkE g4 (.cells #[I (0), (Value.slice none 0 0), (Value.slice none 0 0)] 36), blkE g1 (.cells #[I (a.Signs), vn, vt] 36), rdE vn a.Next, rdE vt a.Takes] H15 := hS16
    refine wpL_o rfl ?_
    refine e_storeBlkA (cs' := #[I ((autoFault a).1), I ((autoFault a).2)]) rfl rfl rfl Try.sizeOf24 rfl rfl (List.forall_mem_cons.2 ⟨rfl, List.forall_mem_cons.2 ⟨rfl, List.forall_mem_nil _⟩⟩) hS16 (fun H17 hS18 hxx => ?_)
    replace hS18 : St H0 NoB (fun b => S b ∧ b < H0.size) [blkE g14 (.cells #[I ((autoFault a).1), I ((autoFault a).2)] 24), blkE g7 (.cells #[I (0), I (0)] 24), blkE g4 (.cells #[I (0), (Value.slice none 0 0), (Value.slice none 0 0)] 36), blkE g1 (.cells #[I (a.Signs), vn, vt] 36), rdE vn a.Next, rdE vt a.Takes] H17 := hS18
    exact ⟨g14, a10_1, a10_2, a10_3, rfl, hS18⟩
  rintro f19 H19 ⟨g14, a19_1, a19_2, a19_3, a19_4, hS19⟩
  clear a10_1 a10_2 a10_3
  refine wpF_seq ?_
  refine wpF_cut (fun f H => f 1 = PT g1 0 ∧ f 2 = PT g4 0 ∧ f 3 = PT g7 0 ∧ f 4 = PT g14 0 ∧ f 11 = B (decide (((autoFault a).1) ≠ 0)) ∧ H19 = H) ?_ ?_
  · refine wpF_region ?_
    refine wpL_q (U := NoB) rfl (q_fieldAddr rfl Try.underlying24 rfl Try.sizeOf3 a19_4) ?_
    refine wpL_q (U := NoB) rfl (q_loadBlk rfl rfl Try.isAgg3 (hS19.blk 0 rfl) rfl (fun h => h)) ?_
    refine wpL_q (U := NoB) rfl (q_neq rfl rfl rfl) ?_
    exact ⟨a19_1, a19_2, a19_3, a19_4, rfl, rfl⟩
  rintro f20 _ ⟨a20_1, a20_2, a20_3, a20_4, a20_11, rfl⟩
  clear a19_1 a19_2 a19_3 a19_4
  refine wpF_condP a20_11 (fun h1 => ?t42) (fun h1 => ?e42)
  case t42 =>
    refine wpF_seq ?_
    refine wpF_cut (fun f H => f 2 = PT g4 0 ∧ f 3 = PT g7 0 ∧ St H0 NoB (fun b => S b ∧ b < H0.size) [blkE g7 (.cells #[I ((autoFault a).1), I ((autoFault a).2)] 24), blkE g4 (.cells #[I (0), (Value.slice none 0 0), (Value.slice none 0 0)] 36), blkE g14 (.cells #[I ((autoFault a).1), I ((autoFault a).2)] 24), blkE g1 (.cells #[I (a.Signs), vn, vt] 36), rdE vn a.Next, rdE vt a.Takes] H) ?_ ?_
    · refine wpF_drawn [none, none, some 0, some 1] [[], [0], [], []] (fun l b => match l with | 0 => b = g4 | 1 => True | _ => False) (by kernel_rfl) (by kernel_rfl) ?_
      refine wpR_q 0 (by kernel_rfl) rfl (quietAt rfl rfl (q_build (v := Value.agg #[I (0), (Value.slice none 0 0), (Value.slice none 0 0)]) rfl par0 (fun w => by kernel_rfl))) ?_
      refine wpR_q 1 (by kernel_rfl) rfl (quietAt rfl rfl (q_loadBlkA rfl a20_4 Try.isAgg24 Try.sizeOf24 rfl (hS19.blk 0 rfl) (labU_not [0] rfl (List.forall_mem_cons.2 ⟨fun hb => hS19.dis 0 2 (by decide) rfl rfl _ rfl hb, List.forall_mem_nil _⟩)))) ?_
      refine wpR_n [2] (by kernel_rfl) ?_
      refine List.forall_mem_cons.2 ⟨?_, List.forall_mem_nil _⟩
      refine exE rfl rfl ?_
      refine e_storeBlkA (cs' := #[I (0), (Value.slice none 0 0), (Value.slice none 0 0)]) rfl a20_2 rfl Try.sizeOf36 rfl rfl (List.forall_mem_cons.2 ⟨rfl, List.forall_mem_cons.2 ⟨rfl, List.forall_mem_cons.2 ⟨rfl, List.forall_mem_nil _⟩⟩⟩) (hS19.front 2 rfl) (fun H22o2 hS22o2 hxx => ?_)
      replace hS22o2 : St H0 NoB (fun b => S b ∧ b < H0.size) [blkE g4 (.cells #[I (0), (Value.slice none 0 0), (Value.slice none 0 0)] 36), blkE g14 (.cells #[I ((autoFault a).1), I ((autoFault a).2)] 24), blkE g7 (.cells #[I (0), I (0)] 24), blkE g1 (.cells #[I (a.Signs), vn, vt] 36), rdE vn a.Next, rdE vt a.Takes] H22o2 := hS22o2
      refine ⟨Ext.mono hxx (labS_of 0 rfl (fun b hb => hb)), ?_⟩
      refine wpR_n [3] (by kernel_rfl) ?_
      refine List.forall_mem_cons.2 ⟨?_, List.forall_mem_nil _⟩
      refine exE rfl rfl ?_
      refine e_storeBlkA (cs' := #[I ((autoFault a).1), I ((autoFault a).2)]) rfl a20_3 rfl Try.sizeOf24 rfl rfl (List.forall_mem_cons.2 ⟨rfl, List.forall_mem_cons.2 ⟨rfl, List.forall_mem_nil _⟩⟩) (hS22o2.front 2 rfl) (fun H22o3 hS22o3 hxx => ?_)
      replace hS22o3 : St H0 NoB (fun b => S b ∧ b < H0.size) [blkE g7 (.cells #[I ((autoFault a).1), I ((autoFault a).2)] 24), blkE g4 (.cells #[I (0), (Value.slice none 0 0), (Value.slice none 0 0)] 36), blkE g14 (.cells #[I ((autoFault a).1), I ((autoFault a).2)] 24), blkE g1 (.cells #[I (a.Signs), vn, vt] 36), rdE vn a.Next, rdE vt a.Takes] H22o3 := hS22o3
      refine ⟨Ext.mono hxx (labS_of 1 rfl (fun _ _ => trivial)), ?_⟩
      refine wpR_end (by kernel_rfl) ?_
      exact ⟨a20_2, a20_3, hS22o3⟩
    rintro f23 H23 ⟨a23_2, a23_3, hS23⟩
    clear a20_1 a20_11 a20_2 a20_3 a20_4
    refine wpF_ret ?_
    refine ⟨_, resC a23_2 (loadV_blkA Try.isAgg36 Try.sizeOf36 rfl (hS23.blk 1 rfl)) (resC a23_3 (loadV_blkA Try.isAgg24 Try.sizeOf24 rfl (hS23.blk 0 rfl)) (resN)), hS23.frame, ?_⟩
    show ∃ w1_ w2_, (Value.tuple #[Value.agg #[I (0), (Value.slice none 0 0), (Value.slice none 0 0)], Value.agg #[I ((autoFault a).1), I ((autoFault a).2)]]) = Value.tuple #[Value.agg #[I (leastR a).1.Signs, w1_, w2_], Value.agg #[I (leastR a).2.1, I (leastR a).2.2]] ∧ Rd (fun b => S b ∧ b < H0.size) H23 w1_ (leastR a).1.Next ∧ Rd (fun b => S b ∧ b < H0.size) H23 w2_ (leastR a).1.Takes
    have hq := leastR_bad h1
    exact ⟨(Value.slice none 0 0), (Value.slice none 0 0), by rw [hq], by rw [hq]; exact rdNil, by rw [hq]; exact rdNil⟩
  have hW := WF.of (Decidable.of_not_not h1)
  have hm := hW.takes
  have hm2 := hW.many
  refine wpF_skip ?_
  refine wpF_seq ?_
  refine wpF_cut (fun f H => ∃ (r24 : Value), ∃ (r24c : List Int), ∃ (g28 : Nat), (ClsL a r24c) ∧ f 1 = PT g1 0 ∧ f 2 = PT g4 0 ∧ f 3 = PT g7 0 ∧ f 5 = PT g28 0 ∧ St H0 NoB (fun b => S b ∧ b < H0.size) [blkE g28 (.cells #[r24] 22), rdE r24 r24c, blkE g14 (.cells #[I ((autoFault a).1), I ((autoFault a).2)] 24), blkE g7 (.cells #[I (0), I (0)] 24), blkE g4 (.cells #[I (0), (Value.slice none 0 0), (Value.slice none 0 0)] 36), blkE g1 (.cells #[I (a.Signs), vn, vt] 36), rdE vn a.Next, rdE vt a.Takes] H) ?_ ?_
  · refine wpF_region ?_
    refine wpL_q (U := NoB) rfl (q_loadBlkA rfl a20_1 Try.isAgg36 Try.sizeOf36 rfl (hS19.blk 3 rfl) (fun h => h)) ?_
    refine wpL_o rfl ?_
    refine e_call rfl Try.call66 (arr1 (v0 := Value.agg #[I (a.Signs), vn, vt]) rfl) (classes_L vn vt a (hS19.rdS 4 rfl) (hS19.rdS 5 rfl) hsg hW) ?_
    rintro r24 H25 ⟨hxx, r24c, hrr24, hKr24⟩
    have hS26 : St H0 NoB (fun b => S b ∧ b < H0.size) [rdE r24 r24c, blkE g14 (.cells #[I ((autoFault a).1), I ((autoFault a).2)] 24), blkE g7 (.cells #[I (0), I (0)] 24), blkE g4 (.cells #[I (0), (Value.slice none 0 0), (Value.slice none 0 0)] 36), blkE g1 (.cells #[I (a.Signs), vn, vt] 36), rdE vn a.Next, rdE vt a.Takes] H25 := (hS19.res hxx hrr24)
    refine wpL_o rfl ?_
    refine e_alloc rfl Try.zeroValue22 hS26 (fun g28 H29 hS30 hxx => ?_)
    replace hS30 : St H0 NoB (fun b => S b ∧ b < H0.size) [blkE g28 (.cells #[(Value.slice none 0 0)] 22), rdE r24 r24c, blkE g14 (.cells #[I ((autoFault a).1), I ((autoFault a).2)] 24), blkE g7 (.cells #[I (0), I (0)] 24), blkE g4 (.cells #[I (0), (Value.slice none 0 0), (Value.slice none 0 0)] 36), blkE g1 (.cells #[I (a.Signs), vn, vt] 36), rdE vn a.Next, rdE vt a.Takes] H29 := hS30
    refine wpL_o rfl ?_
    refine e_storeBlk (v := r24) rfl rfl rfl (oneCell_rdL (hS30.rdl 1 rfl)) Try.sizeOf22 (by show _ < 1; decide) hS30 (fun H31 hS32 hxx => ?_)
    replace hS32 : St H0 NoB (fun b => S b ∧ b < H0.size) [blkE g28 (.cells #[r24] 22), rdE r24 r24c, blkE g14 (.cells #[I ((autoFault a).1), I ((autoFault a).2)] 24), blkE g7 (.cells #[I (0), I (0)] 24), blkE g4 (.cells #[I (0), (Value.slice none 0 0), (Value.slice none 0 0)] 36), blkE g1 (.cells #[I (a.Signs), vn, vt] 36), rdE vn a.Next, rdE vt a.Takes] H31 := hS32
    exact ⟨r24, r24c, g28, hKr24, a20_1, a20_2, a20_3, rfl, hS32⟩
  rintro f33 H33 ⟨r24, r24c, g28, hKr24, a33_1, a33_2, a33_3, a33_5, hS33⟩
  clear a20_1 a20_11 a20_2 a20_3 a20_4
  have hK := hKr24
  have hCl := hK.len
  refine wpF_seq ?_
  refine wpF_cut (fun f H => ∃ (g34 : Nat), f 1 = PT g1 0 ∧ f 2 = PT g4 0 ∧ f 3 = PT g7 0 ∧ f 5 = PT g28 0 ∧ f 6 = PT g34 0 ∧ St H0 NoB (fun b => S b ∧ b < H0.size) [blkE g34 (.cells #[Value.func (.func 67) #[] #[PT g28 0]] 95), blkE g28 (.cells #[r24] 22), rdE r24 r24c, blkE g14 (.cells #[I ((autoFault a).1), I ((autoFault a).2)] 24), blkE g7 (.cells #[I (0), I (0)] 24), blkE g4 (.cells #[I (0), (Value.slice none 0 0), (Value.slice none 0 0)] 36), blkE g1 (.cells #[I (a.Signs), vn, vt] 36), rdE vn a.Next, rdE vt a.Takes] H) ?_ ?_
  · refine wpF_region ?_
    refine wpL_q (U := NoB) rfl (q_makeFunc (fi' := #[]) rfl (by simp) (arr1 (v0 := PT g28 0) a33_5)) ?_
    refine wpL_o rfl ?_
    refine e_alloc rfl Try.zeroValue95 hS33 (fun g34 H35 hS36 hxx => ?_)
    replace hS36 : St H0 NoB (fun b => S b ∧ b < H0.size) [blkE g34 (.cells #[Value.nilFunc] 95), blkE g28 (.cells #[r24] 22), rdE r24 r24c, blkE g14 (.cells #[I ((autoFault a).1), I ((autoFault a).2)] 24), blkE g7 (.cells #[I (0), I (0)] 24), blkE g4 (.cells #[I (0), (Value.slice none 0 0), (Value.slice none 0 0)] 36), blkE g1 (.cells #[I (a.Signs), vn, vt] 36), rdE vn a.Next, rdE vt a.Takes] H35 := hS36
    refine wpL_o rfl ?_
    refine e_storeBlk (v := Value.func (.func 67) #[] #[PT g28 0]) rfl rfl rfl rfl Try.sizeOf95 (by show _ < 1; decide) hS36 (fun H37 hS38 hxx => ?_)
    replace hS38 : St H0 NoB (fun b => S b ∧ b < H0.size) [blkE g34 (.cells #[Value.func (.func 67) #[] #[PT g28 0]] 95), blkE g28 (.cells #[r24] 22), rdE r24 r24c, blkE g14 (.cells #[I ((autoFault a).1), I ((autoFault a).2)] 24), blkE g7 (.cells #[I (0), I (0)] 24), blkE g4 (.cells #[I (0), (Value.slice none 0 0), (Value.slice none 0 0)] 36), blkE g1 (.cells #[I (a.Signs), vn, vt] 36), rdE vn a.Next, rdE vt a.Takes] H37 := hS38
    exact ⟨g34, a33_1, a33_2, a33_3, a33_5, rfl, hS38⟩
  rintro f39 H39 ⟨g34, a39_1, a39_2, a39_3, a39_5, a39_6, hS39⟩
  clear a33_1 a33_2 a33_3 a33_5
  refine wpF_seq ?_
  refine wpF_cut (fun f H => ∃ (r40o7 : Value), ∃ (r40o7x2 : Value), f 2 = PT g4 0 ∧ f 3 = PT g7 0 ∧ St H0 NoB (fun b => S b ∧ b < H0.size) [blkE g7 (.cells #[I (0), I (0)] 24), blkE g4 (.cells #[I (((a.Signs.toNat : Nat) : Int)), r40o7, r40o7x2] 36), rdE r40o7 ((builtA (clNx a (clF r24c) (repF r24c)) a.Signs.toNat (endL (clNx a (clF r24c) (repF r24c)) a.Signs.toNat (clF r24c 0)) (fun x => nth a.Takes (repF r24c x).toNat)).Next), rdE r40o7x2 ((builtA (clNx a (clF r24c) (repF r24c)) a.Signs.toNat (endL (clNx a (clF r24c) (repF r24c)) a.Signs.toNat (clF r24c 0)) (fun x => nth a.Takes (repF r24c x).toNat)).Takes), blkE g34 (.cells #[Value.func (.func 67) #[] #[PT g28 0]] 95), blkE g28 (.cells #[r24] 22), rdE r24 r24c, blkE g14 (.cells #[I ((autoFault a).1), I ((autoFault a).2)] 24), blkE g1 (.cells #[I (a.Signs), vn, vt] 36), rdE vn a.Next, rdE vt a.Takes] H) ?_ ?_
  · refine wpF_drawn [none, none, none, none, none, none, none, none, none, some 0, some 1] [[], [], [], [], [], [], [], [], [0], [], []] (fun l b => match l with | 0 => b = g4 | 1 => True | _ => False) (by kernel_rfl) (by kernel_rfl) ?_
    refine wpR_q 0 (by kernel_rfl) rfl (quietAt rfl rfl (q_loadBlk rfl a39_5 Try.isAgg22 (hS39.blk 1 rfl) rfl (labU_not [] rfl (List.forall_mem_nil _)))) ?_
    refine wpR_q 1 (by kernel_rfl) rfl (quietAt rfl rfl (q_indexRd (k := 0) rfl Try.underlying22 el_Int_3_AutoL3 rfl rfl (hS39.rdl 2 rfl) (by omega) (by omega))) ?_
    refine wpR_q 2 (by kernel_rfl) rfl (quietAt rfl rfl (q_loadInt (k := 0) rfl rfl el_Int_3_AutoL3 (hS39.rdl 2 rfl) (by omega) (labU_sub [] rfl (List.forall_mem_nil _)))) ?_
    refine wpR_q 3 (by kernel_rfl) rfl (quietAt rfl rfl (q_fieldAddr rfl Try.underlying36 rfl Try.sizeOf3 a39_1)) ?_
    refine wpR_q 4 (by kernel_rfl) rfl (quietAt rfl rfl (q_loadBlk rfl rfl Try.isAgg3 (hS39.blk 6 rfl) rfl (labU_not [] rfl (List.forall_mem_nil _)))) ?_
    refine wpR_q 5 (by kernel_rfl) rfl (quietAt rfl rfl (q_makeFunc (fi' := #[]) rfl (by simp) (arr3 (v0 := PT g28 0) (v1 := PT g1 0) (v2 := PT g34 0) a39_5 a39_1 a39_6))) ?_
    refine wpR_q 6 (by kernel_rfl) rfl (quietAt rfl rfl (q_makeFunc (fi' := #[]) rfl (by simp) (arr2 (v0 := PT g1 0) (v1 := PT g34 0) a39_1 a39_6))) ?_
    refine wpR_q 8 (by kernel_rfl) rfl (quietAt rfl rfl (q_build (v := Value.agg #[I (0), I (0)]) rfl par0 (fun w => by kernel_rfl))) ?_
    refine wpR_n [7] (by kernel_rfl) ?_
    refine List.forall_mem_cons.2 ⟨?_, List.forall_mem_nil _⟩
    refine exE rfl rfl ?_
    refine e_call rfl Try.call69 (arr4 (v0 := I (nth r24c 0)) (v1 := I (a.Signs)) (v2 := Value.func (.func 70) #[] #[PT g28 0, PT g1 0, PT g34 0]) (v3 := Value.func (.func 71) #[] #[PT g1 0, PT g34 0]) rfl rfl rfl rfl) (built_Iw (S := SL (fun b => S b ∧ b < H0.size) [blkE g34 (.cells #[Value.func (.func 67) #[] #[PT g28 0]] 95), blkE g28 (.cells #[r24] 22), rdE r24 r24c, blkE g14 (.cells #[I ((autoFault a).1), I ((autoFault a).2)] 24), blkE g7 (.cells #[I (0), I (0)] 24), blkE g4 (.cells #[I (0), (Value.slice none 0 0), (Value.slice none 0 0)] 36), blkE g1 (.cells #[I (a.Signs), vn, vt] 36), rdE vn a.Next, rdE vt a.Takes]) (Value.func (.func 70) #[] #[PT g28 0, PT g1 0, PT g34 0]) (Value.func (.func 71) #[] #[PT g1 0, PT g34 0]) (clF r24c 0) a.Signs.toNat (clNx a (clF r24c) (repF r24c)) (fun x => nth a.Takes (repF r24c x).toNat) (LInv a r24c) a.Signs (by have := hW.signs; omega) (LInv.start hW) (fun x c hx h0 h1 => LInv.step hW hK hx h0 h1) (fun x hx => LInv.in64 hK hx) (LInv.few hW hK) (by have := hW.signs; omega) (fun x c hx hc0 hc1 H hE => ⟨_, _, rfl, Try.call70, Least_2 x c g28 g1 g34 r24 _ vn vt _ r24c a (hE.blk (hS39.blk 1 rfl)) (hE.blk (hS39.blk 6 rfl)) (hE.blk (hS39.blk 0 rfl)) ((hS39.rdN 2 rfl).extN hE) ((hS39.rdN 7 rfl).extN hE) ((hS39.rdN 8 rfl).extN hE) hW hK hx (fun u H2 hE2 => ⟨_, _, rfl, Try.call67, Least_1 u g28 r24 r24c ((hE.trans hE2).blk (hS39.blk 1 rfl)) ((hS39.rdN 2 rfl).extN (hE.trans hE2))⟩) ⟨hc0, by have := hW.signs; omega⟩⟩) (fun x hx H hE => ⟨_, _, rfl, Try.call71, Least_3 x g1 g34 r24 _ vn vt _ r24c a (hE.blk (hS39.blk 6 rfl)) (hE.blk (hS39.blk 0 rfl)) ((hS39.rdN 2 rfl).extN hE) ((hS39.rdN 7 rfl).extN hE) ((hS39.rdN 8 rfl).extN hE) hW hK hx (fun u H2 hE2 => ⟨_, _, rfl, Try.call67, Least_1 u g28 r24 r24c ((hE.trans hE2).blk (hS39.blk 1 rfl)) ((hS39.rdN 2 rfl).extN (hE.trans hE2))⟩)⟩)) ?_
    rintro _ H40o7 ⟨hxx, r40o7, r40o7x2, rfl, hrr40o7, hrr40o7x2⟩
    have hS40o7 : St H0 NoB (fun b => S b ∧ b < H0.size) [rdE r40o7 ((builtA (clNx a (clF r24c) (repF r24c)) a.Signs.toNat (endL (clNx a (clF r24c) (repF r24c)) a.Signs.toNat (clF r24c 0)) (fun x => nth a.Takes (repF r24c x).toNat)).Next), rdE r40o7x2 ((builtA (clNx a (clF r24c) (repF r24c)) a.Signs.toNat (endL (clNx a (clF r24c) (repF r24c)) a.Signs.toNat (clF r24c 0)) (fun x => nth a.Takes (repF r24c x).toNat)).Takes), blkE g34 (.cells #[Value.func (.func 67) #[] #[PT g28 0]] 95), blkE g28 (.cells #[r24] 22), rdE r24 r24c, blkE g14 (.cells #[I ((autoFault a).1), I ((autoFault a).2)] 24), blkE g7 (.cells #[I (0), I (0)] 24), blkE g4 (.cells #[I (0), (Value.slice none 0 0), (Value.slice none 0 0)] 36), blkE g1 (.cells #[I (a.Signs), vn, vt] 36), rdE vn a.Next, rdE vt a.Takes] H40o7 := (hS39.res2 hxx hrr40o7 hrr40o7x2)
    refine ⟨Ext.mono hxx (fun _ h => h.elim), ?_⟩
    refine wpR_n [9] (by kernel_rfl) ?_
    refine List.forall_mem_cons.2 ⟨?_, List.forall_mem_nil _⟩
    refine exE rfl rfl ?_
    refine e_storeBlkA (cs' := #[I (((a.Signs.toNat : Nat) : Int)), r40o7, r40o7x2]) rfl a39_2 rfl Try.sizeOf36 rfl rfl (List.forall_mem_cons.2 ⟨rfl, List.forall_mem_cons.2 ⟨(oneCell_rdL (hS40o7.rdl 0 rfl)), List.forall_mem_cons.2 ⟨(oneCell_rdL (hS40o7.rdl 1 rfl)), List.forall_mem_nil _⟩⟩⟩) (hS40o7.front 7 rfl) (fun H40o9 hS40o9 hxx => ?_)
    replace hS40o9 : St H0 NoB (fun b => S b ∧ b < H0.size) [blkE g4 (.cells #[I (((a.Signs.toNat : Nat) : Int)), r40o7, r40o7x2] 36), rdE r40o7 ((builtA (clNx a (clF r24c) (repF r24c)) a.Signs.toNat (endL (clNx a (clF r24c) (repF r24c)) a.Signs.toNat (clF r24c 0)) (fun x => nth a.Takes (repF r24c x).toNat)).Next), rdE r40o7x2 ((builtA (clNx a (clF r24c) (repF r24c)) a.Signs.toNat (endL (clNx a (clF r24c) (repF r24c)) a.Signs.toNat (clF r24c 0)) (fun x => nth a.Takes (repF r24c x).toNat)).Takes), blkE g34 (.cells #[Value.func (.func 67) #[] #[PT g28 0]] 95), blkE g28 (.cells #[r24] 22), rdE r24 r24c, blkE g14 (.cells #[I ((autoFault a).1), I ((autoFault a).2)] 24), blkE g7 (.cells #[I (0), I (0)] 24), blkE g1 (.cells #[I (a.Signs), vn, vt] 36), rdE vn a.Next, rdE vt a.Takes] H40o9 := hS40o9
    refine ⟨Ext.mono hxx (labS_of 0 rfl (fun b hb => hb)), ?_⟩
    refine wpR_n [10] (by kernel_rfl) ?_
    refine List.forall_mem_cons.2 ⟨?_, List.forall_mem_nil _⟩
    refine exE rfl rfl ?_
    refine e_storeBlkA (cs' := #[I (0), I (0)]) rfl a39_3 rfl Try.sizeOf24 rfl rfl (List.forall_mem_cons.2 ⟨rfl, List.forall_mem_cons.2 ⟨rfl, List.forall_mem_nil _⟩⟩) (hS40o9.front 7 rfl) (fun H40o10 hS40o10 hxx => ?_)
    replace hS40o10 : St H0 NoB (fun b => S b ∧ b < H0.size) [blkE g7 (.cells #[I (0), I (0)] 24), blkE g4 (.cells #[I (((a.Signs.toNat : Nat) : Int)), r40o7, r40o7x2] 36), rdE r40o7 ((builtA (clNx a (clF r24c) (repF r24c)) a.Signs.toNat (endL (clNx a (clF r24c) (repF r24c)) a.Signs.toNat (clF r24c 0)) (fun x => nth a.Takes (repF r24c x).toNat)).Next), rdE r40o7x2 ((builtA (clNx a (clF r24c) (repF r24c)) a.Signs.toNat (endL (clNx a (clF r24c) (repF r24c)) a.Signs.toNat (clF r24c 0)) (fun x => nth a.Takes (repF r24c x).toNat)).Takes), blkE g34 (.cells #[Value.func (.func 67) #[] #[PT g28 0]] 95), blkE g28 (.cells #[r24] 22), rdE r24 r24c, blkE g14 (.cells #[I ((autoFault a).1), I ((autoFault a).2)] 24), blkE g1 (.cells #[I (a.Signs), vn, vt] 36), rdE vn a.Next, rdE vt a.Takes] H40o10 := hS40o10
    refine ⟨Ext.mono hxx (labS_of 1 rfl (fun _ _ => trivial)), ?_⟩
    refine wpR_end (by kernel_rfl) ?_
    exact ⟨r40o7, r40o7x2, a39_2, a39_3, hS40o10⟩
  rintro f41 H41 ⟨r40o7, r40o7x2, a41_2, a41_3, hS41⟩
  clear a39_1 a39_2 a39_3 a39_5 a39_6
  refine wpF_ret ?_
  refine ⟨_, resC a41_2 (loadV_blkA Try.isAgg36 Try.sizeOf36 rfl (hS41.blk 1 rfl)) (resC a41_3 (loadV_blkA Try.isAgg24 Try.sizeOf24 rfl (hS41.blk 0 rfl)) (resN)), hS41.frame, ?_⟩
  show ∃ w1_ w2_, (Value.tuple #[Value.agg #[I (((a.Signs.toNat : Nat) : Int)), r40o7, r40o7x2], Value.agg #[I (0), I (0)]]) = Value.tuple #[Value.agg #[I (leastR a).1.Signs, w1_, w2_], Value.agg #[I (leastR a).2.1, I (leastR a).2.2]] ∧ Rd (fun b => S b ∧ b < H0.size) H41 w1_ (leastR a).1.Next ∧ Rd (fun b => S b ∧ b < H0.size) H41 w2_ (leastR a).1.Takes
  have hq := leastR_ok hW
  have hmd := LInv.made hW hK
  have hsw := hW.signs
  exact ⟨r40o7, r40o7x2, by rw [hq, ← hmd]; rfl, by rw [hq, ← hmd]; exact (hS41.result (hS41.rdS 2 rfl)), by rw [hq, ← hmd]; exact (hS41.result (hS41.rdS 3 rfl))⟩

end Go.Um
