import Derived.Test.YtkhpaklglggagaaProg
import Derived.Test.YtkhpaklglggagaaAutoP4
import Derived.Test.YtkhpaklglggagaaUmSub
namespace Go.Um
open Go.Proofs
open GoT (sz ag rdc)
open KeyT (kv)

theorem el_Int_3_AutoL1 : ElT Try.prog Int 3 := ⟨Try.isAgg3, Try.sizeOf3⟩
theorem em_Bool_4_AutoL1 : ElemOk Try.prog Bool 4 := ⟨Try.t4, (.bool false), by kernel_rfl, by kernel_rfl, by kernel_rfl, by kernel_rfl, by kernel_rfl⟩
theorem em_Int_3_AutoL1 : ElemOk Try.prog Int 3 := ⟨Try.t3, (.int .i64 0), by kernel_rfl, by kernel_rfl, by kernel_rfl, by kernel_rfl, by kernel_rfl⟩
theorem em_LInt_22_AutoL1 : ElemOk Try.prog (List Int) 22 := ⟨Try.t22, (.slice none 0 0), by kernel_rfl, by kernel_rfl, by kernel_rfl, by kernel_rfl, by kernel_rfl⟩

set_option maxRecDepth 100000 in
theorem found_I {H0 : Heap} {S : Nat → Prop} (vf : Value) (s : Int) (sg : Nat) (nx : Int → Int → Int) (inv : Int → Prop) (h0 : inv s) (hin : ∀ (x : Int) (c : Int), inv x → 0 ≤ c → c < (sg : Int) → inv (nx x c)) (h64 : ∀ x, inv x → In64 x) (hfew : ∀ L : List (Int), L.Nodup → (∀ x ∈ L, inv x) → L.length ≤ 2000) (hsg : sg ≤ 1000) (hf : ∀ (x : Int) (c : Int), inv x → 0 ≤ c → c < (sg : Int) → ∀ H, Ext NoB H0 H → FnH Try.prog vf #[I x, I c] H (fun rv H' => Ext NoB H H' ∧ rv = I (nx x c))) : CallsH Try.prog 81 #[I (s), I ((sg : Int)), vf] H0 (fun rv_ H' => Ext NoB H0 H' ∧ ∃ vl_ r_ m_ i_, rv_ = Value.tuple #[vl_, Value.map (some r_)] ∧ Ended nx sg s i_ ∧ Nums (bfs nx sg s i_) (mget m_) ∧ (∀ e ∈ [rdE vl_ (bfs nx sg s i_), mapE r_ (m_ : List (Int × Int))], e.ok (SL (fun b => S b ∧ b < H0.size) [rdE vl_ (bfs nx sg s i_), mapE r_ m_]) H') ∧ ∀ b, own [rdE vl_ (bfs nx sg s i_), mapE r_ m_] b → H0.size ≤ b) := by
  have h6s := h64 _ h0
  have hS0 : St H0 NoB (fun b => S b ∧ b < H0.size) [] H0 := St.start (fun _ h => h.2)
  refine callsH_of_wpF (args := [I (s), I ((sg : Int)), vf]) (rs := [.tmp 6, .tmp 7]) Try.func81 rfl Try.ntmps81 Try.results81 (by kernel_rfl) (Nat.le_of_ble_eq_true rfl) ?_
  have a0_0 : argF [I (s), I ((sg : Int)), vf] 0 = I (s) := rfl
  have a0_1 : argF [I (s), I ((sg : Int)), vf] 1 = I ((sg : Int)) := rfl
  have a0_2 : argF [I (s), I ((sg : Int)), vf] 2 = vf := rfl
  generalize argF [I (s), I ((sg : Int)), vf] = f0 at *
  refine wpF_seq ?_
  refine wpF_cut (fun f H => f 0 = I (s) ∧ f 1 = I ((sg : Int)) ∧ f 2 = vf ∧ H0 = H) ?_ ?_
  · refine wpF_region ?_
    refine wpL_q (U := NoB) rfl (q_assign (v := (Value.slice none 0 0)) rfl rfl) ?_
    refine wpL_q (U := NoB) rfl (q_assign (v := (Value.map none)) rfl rfl) ?_
    exact ⟨a0_0, a0_1, a0_2, rfl⟩
  rintro f1 _ ⟨a1_0, a1_1, a1_2, rfl⟩
  clear a0_0 a0_1 a0_2
  refine wpF_seq ?_
  refine wpF_cut (fun f H => ∃ (v2 : Value), ∃ (r5 : Nat), f 1 = I ((sg : Int)) ∧ f 2 = vf ∧ f 8 = v2 ∧ f 9 = (Value.map (some r5)) ∧ St H0 NoB (fun b => S b ∧ b < H0.size) [mapE r5 (mset ([]) s 0 : List (Int × Int)), rowE 3 v2 ([s] : List Int)] H) ?_ ?_
  · refine wpF_region ?_
    refine wpL_q (U := NoB) rfl (q_move (v := I (s)) rfl a1_0) ?_
    refine wpL_o rfl ?_
    refine e_buildSlice (vs := [I (s)]) (xs := ([s] : List Int)) rfl Try.underlying22 Try.zeroValue3 rfl Try.sizeOf3 (par1 (v0 := I (s)) rfl) rfl hS0 (RdVs.cons (Rd.int.2 ⟨rfl, by constructor <;> omega⟩) (RdVs.nil)) (by decide) (by decide) (fun v2 H3 hS4 hxx hvv2 => ?_)
    replace hS4 : St H0 NoB (fun b => S b ∧ b < H0.size) [rowE 3 v2 ([s] : List Int)] H3 := hS4
    refine wpL_o rfl ?_
    refine e_makeMap (κ := Int) (β := Int) rfl hS4 (fun r5 H6 hS7 hxx => ?_)
    replace hS7 : St H0 NoB (fun b => S b ∧ b < H0.size) [mapE r5 ([] : List (Int × Int)), rowE 3 v2 ([s] : List Int)] H6 := hS7
    refine wpL_q (U := NoB) rfl (q_move (v := I (s)) rfl a1_0) ?_
    have hS8 : St H0 NoB (fun b => S b ∧ b < H0.size) [mapE r5 ([] : List (Int × Int)), rowE 3 v2 ([s] : List Int)] H6 := hS7
    refine wpL_o rfl ?_
    refine e_mapUpdate (k := s) (.inr rfl) Try.underlying104 (keyLaw_int Try.underlying3) rfl rfl rfl hS8 (Rd.int.2 ⟨rfl, by constructor <;> omega⟩) (fun H9 hS10 hxx => ?_)
    replace hS10 : St H0 NoB (fun b => S b ∧ b < H0.size) [mapE r5 (mset ([]) s 0 : List (Int × Int)), rowE 3 v2 ([s] : List Int)] H9 := hS10
    refine wpL_q (U := NoB) rfl (q_move (v := (Value.map (some r5))) rfl rfl) ?_
    refine wpL_q (U := NoB) rfl (q_assign (v := v2) rfl rfl) ?_
    refine wpL_q (U := NoB) rfl (q_assign (v := (Value.map (some r5))) rfl rfl) ?_
    exact ⟨v2, r5, a1_1, a1_2, rfl, rfl, hS10⟩
  rintro f11 H11 ⟨v2, r5, a11_1, a11_2, a11_8, a11_9, hS11⟩
  clear a1_0 a1_1 a1_2
  refine wpF_seq ?_
  refine wpF_seq ?_
  refine wpF_cut (fun f H => f 1 = I ((sg : Int)) ∧ f 2 = vf ∧ f 8 = v2 ∧ f 9 = (Value.map (some r5)) ∧ f 10 = I (0) ∧ H11 = H) ?_ ?_
  · refine wpF_region ?_
    refine wpL_q (U := NoB) rfl (q_assign (v := I (0)) rfl rfl) ?_
    exact ⟨a11_1, a11_2, a11_8, a11_9, rfl, rfl⟩
  rintro f12 _ ⟨a12_1, a12_2, a12_8, a12_9, a12_10, rfl⟩
  clear a11_1 a11_2 a11_8 a11_9
  refine wpF_block ?_
  refine wpF_loop (fun mz f H => ∃ (i : Nat), ∃ (vl : Value), ∃ (m : List (Int × Int)), mz = 2001 - i ∧ (i ≤ (bfs nx sg s i).length) ∧ (∀ j, j < i → j < (bfs nx sg s j).length) ∧ (Nums (bfs nx sg s i) (mget m)) ∧ f 1 = I ((sg : Int)) ∧ f 2 = vf ∧ f 8 = vl ∧ f 9 = (Value.map (some r5)) ∧ f 10 = I ((i : Int)) ∧ St H0 NoB (fun b => S b ∧ b < H0.size) [rowE 3 vl (bfs nx sg s i : List Int), mapE r5 (m : List (Int × Int))] H) (2001 - 0) ?_ ?_
  · exact ⟨0, v2, mset ([]) s 0, rfl, Nat.zero_le _, (fun j hj => absurd hj (Nat.not_lt_zero j)), (by rw [show mget (mset ([] : List (Int × Int)) s 0) = _ from funext fun q => (mget_mset [] _ q _).trans (by rw [mget_nil])]; exact Nums.start), a12_1, a12_2, a12_8, a12_9, (Eq.trans a12_10 (congrArg I (by omega))), (show St H0 NoB (fun b => S b ∧ b < H0.size) [rowE 3 v2 (bfs nx sg s 0 : List Int), mapE r5 ((mset ([]) s 0) : List (Int × Int))] H11 from (St.drop (show St H0 NoB (fun b => S b ∧ b < H0.size) [rowE 3 v2 ([s] : List Int), mapE r5 (mset ([]) s 0 : List (Int × Int))] H11 from (hS11.front 1 rfl)) (sk (sk (List.Sublist.slnil)))))⟩
  intro m13 f13 H13 hI13
  obtain ⟨i, vl, m, hm13, hi, hdone, hnum, a13_1, a13_2, a13_8, a13_9, a13_10, hS13⟩ := hI13
  clear a12_1 a12_10 a12_2 a12_8 a12_9
  refine wpF_seq ?_
  refine wpF_seq ?_
  refine wpF_cut (fun f H => f 1 = I ((sg : Int)) ∧ f 2 = vf ∧ f 8 = vl ∧ f 9 = (Value.map (some r5)) ∧ f 10 = I ((i : Int)) ∧ f 23 = B (decide ((i : Int) < ((bfs nx sg s i).length : Int))) ∧ H13 = H) ?_ ?_
  · refine wpF_region ?_
    refine wpL_q (U := NoB) rfl (q_move (v := I ((i : Int))) rfl a13_10) ?_
    refine wpL_q (U := NoB) rfl (q_move (v := vl) rfl a13_8) ?_
    refine wpL_q (U := NoB) rfl (q_lenRd rfl Try.underlying22 rfl (hS13.rowl 0 rfl)) ?_
    refine wpL_q (U := NoB) rfl (q_lss rfl rfl rfl) ?_
    exact ⟨a13_1, a13_2, a13_8, a13_9, a13_10, rfl, rfl⟩
  rintro f14 _ ⟨a14_1, a14_2, a14_8, a14_9, a14_10, a14_23, rfl⟩
  clear a13_1 a13_10 a13_2 a13_8 a13_9
  refine wpF_condP a14_23 (fun hlt => ?t51) (fun hlt => ?e51)
  case e51 =>
    refine wpF_exit ?_
    refine atX_here ?_
    refine wpF_seq ?_
    refine wpF_cut (fun f H => f 6 = vl ∧ f 7 = (Value.map (some r5)) ∧ H13 = H) ?_ ?_
    · refine wpF_region ?_
      refine wpL_q (U := NoB) rfl (q_move (v := vl) rfl a14_8) ?_
      refine wpL_q (U := NoB) rfl (q_move (v := (Value.map (some r5))) rfl a14_9) ?_
      refine wpL_q (U := NoB) rfl (q_assign (v := vl) rfl rfl) ?_
      refine wpL_q (U := NoB) rfl (q_assign (v := (Value.map (some r5))) rfl rfl) ?_
      exact ⟨rfl, rfl, rfl⟩
    rintro f48 _ ⟨a48_6, a48_7, rfl⟩
    clear a14_1 a14_10 a14_2 a14_23 a14_8 a14_9
    refine wpF_ret ?_
    refine ⟨_, resT a48_6 (resT a48_7 resN), hS13.frame, ?_⟩
    show ∃ vl_ r_ m_ i_, (Value.tuple #[vl, (Value.map (some r5))]) = Value.tuple #[vl_, Value.map (some r_)] ∧ Ended nx sg s i_ ∧ Nums (bfs nx sg s i_) (mget m_) ∧ (∀ e ∈ [rdE vl_ (bfs nx sg s i_), mapE r_ (m_ : List (Int × Int))], e.ok (SL (fun b => S b ∧ b < H0.size) [rdE vl_ (bfs nx sg s i_), mapE r_ m_]) H13) ∧ ∀ b, own [rdE vl_ (bfs nx sg s i_), mapE r_ m_] b → H0.size ≤ b
    have hS49 : St H0 NoB (fun b => S b ∧ b < H0.size) [rdE vl (bfs nx sg s i), mapE r5 (m : List (Int × Int))] H13 := St.fin hS13
    have hS50 : St H0 NoB (fun b => S b ∧ b < H0.size) [rdE vl (bfs nx sg s i), mapE r5 (m : List (Int × Int))] H13 := hS49
    exact ⟨vl, r5, m, i, rfl, Ended.mk' hi hlt hdone, hnum, hS50.ok, St.freshA hS50⟩
  have hil : i < (bfs nx sg s i).length := by omega
  have hallB := bfs_all h0 hin i hdone
  have hiX := hallB _ (nth_mem hil)
  have hlenB := hfew _ (bfs_nodup i) hallB
  refine wpF_skip ?_
  refine wpF_seq ?_
  refine wpF_block ?_
  refine wpF_seq ?_
  refine wpF_cut (fun f H => f 1 = I ((sg : Int)) ∧ f 2 = vf ∧ f 8 = vl ∧ f 9 = (Value.map (some r5)) ∧ f 10 = I ((i : Int)) ∧ f 26 = I ((sg : Int)) ∧ f 27 = I (0) ∧ H13 = H) ?_ ?_
  · refine wpF_region ?_
    refine wpL_q (U := NoB) rfl (q_move (v := I ((sg : Int))) rfl a14_1) ?_
    refine wpL_q (U := NoB) rfl (q_move (v := I (0)) rfl rfl) ?_
    exact ⟨a14_1, a14_2, a14_8, a14_9, a14_10, rfl, rfl, rfl⟩
  rintro f16 _ ⟨a16_1, a16_2, a16_8, a16_9, a16_10, a16_26, a16_27, rfl⟩
  clear a14_1 a14_10 a14_2 a14_23 a14_8 a14_9
  refine wpF_block ?_
  refine wpF_loop (fun mz f H => ∃ (c : Nat), ∃ (v2 : Value), ∃ (m2 : List (Int × Int)), mz = sg - c ∧ (c ≤ sg) ∧ (Nums (growTo nx (bfs nx sg s i) (nth (bfs nx sg s i) i) c) (mget m2)) ∧ f 1 = I ((sg : Int)) ∧ f 2 = vf ∧ f 8 = v2 ∧ f 9 = (Value.map (some r5)) ∧ f 10 = I ((i : Int)) ∧ f 26 = I ((sg : Int)) ∧ f 27 = I ((c : Int)) ∧ St H0 NoB (fun b => S b ∧ b < H0.size) [rowE 3 v2 (growTo nx (bfs nx sg s i) (nth (bfs nx sg s i) i) c : List Int), mapE r5 (m2 : List (Int × Int))] H) (sg - 0) ?_ ?_
  · exact ⟨0, vl, m, rfl, Nat.zero_le _, hnum, a16_1, a16_2, a16_8, a16_9, a16_10, a16_26, (Eq.trans a16_27 (congrArg I (by omega))), (show St H0 NoB (fun b => S b ∧ b < H0.size) [rowE 3 vl (growTo nx (bfs nx sg s i) (nth (bfs nx sg s i) i) 0 : List Int), mapE r5 (m : List (Int × Int))] H13 from hS13)⟩
  intro m17 f17 H17 hI17
  obtain ⟨c, v2, m2, hm17, hc0, hnum2, a17_1, a17_2, a17_8, a17_9, a17_10, a17_26, a17_27, hS17⟩ := hI17
  clear a16_1 a16_10 a16_2 a16_26 a16_27 a16_8 a16_9
  refine wpF_seq ?_
  refine wpF_cut (fun f H => f 1 = I ((sg : Int)) ∧ f 2 = vf ∧ f 8 = v2 ∧ f 9 = (Value.map (some r5)) ∧ f 10 = I ((i : Int)) ∧ f 26 = I ((sg : Int)) ∧ f 27 = I ((c : Int)) ∧ f 28 = B (decide ((c : Int) < (sg : Int))) ∧ H17 = H) ?_ ?_
  · refine wpF_region ?_
    refine wpL_q (U := NoB) rfl (q_lss rfl a17_27 a17_26) ?_
    exact ⟨a17_1, a17_2, a17_8, a17_9, a17_10, a17_26, a17_27, rfl, rfl⟩
  rintro f18 _ ⟨a18_1, a18_2, a18_8, a18_9, a18_10, a18_26, a18_27, a18_28, rfl⟩
  clear a17_1 a17_10 a17_2 a17_26 a17_27 a17_8 a17_9
  refine wpF_seq ?_
  refine wpF_condP a18_28 (fun hc => ?t47) (fun hc => ?e47)
  case e47 =>
    have hce : c = sg := by omega
    refine wpF_exit ?_
    refine atX_here ?_
    refine wpF_cut (fun f H => f 1 = I ((sg : Int)) ∧ f 2 = vf ∧ f 8 = v2 ∧ f 9 = (Value.map (some r5)) ∧ f 10 = I ((i : Int) + 1) ∧ H17 = H) ?_ ?_
    · refine wpF_region ?_
      refine wpL_q (U := NoB) rfl (q_move (v := I ((i : Int))) rfl a18_10) ?_
      refine wpL_q (U := NoB) rfl (q_add rfl rfl rfl (by constructor <;> omega)) ?_
      refine wpL_q (U := NoB) rfl (q_assign (v := I ((i : Int) + 1)) rfl rfl) ?_
      exact ⟨a18_1, a18_2, a18_8, a18_9, rfl, rfl⟩
    rintro f46 _ ⟨a46_1, a46_2, a46_8, a46_9, a46_10, rfl⟩
    clear a18_1 a18_10 a18_2 a18_26 a18_27 a18_28 a18_8 a18_9
    refine ⟨_, ?_, i + 1, v2, m2, rfl, (by have := growTo_len (nx := nx) (bfs nx sg s i) (nth (bfs nx sg s i) i) sg; show i + 1 ≤ (growTo _ _ _ _).length; omega), (fun j hj => by by_cases hji : j = i; exact hji ▸ hil; exact hdone j (by omega)), (hce ▸ hnum2), a46_1, a46_2, a46_8, a46_9, (Eq.trans a46_10 (congrArg I (by omega))), (show St H0 NoB (fun b => S b ∧ b < H0.size) [rowE 3 v2 (bfs nx sg s (i + 1) : List Int), mapE r5 (m2 : List (Int × Int))] H17 from (by have h__ := hS17; rw [hce] at h__; exact h__))⟩
    omega
  have hgl := growTo_len (nx := nx) (bfs nx sg s i) (nth (bfs nx sg s i) i) c
  have hlenG := hfew _ (growTo_nodup (nx := nx) (x := (nth (bfs nx sg s i) i)) (bfs_nodup (nx := nx) (signs := sg) (start := s) i) c) (growTo_all (signs := sg) hallB (fun c hc => hin _ _ hiX (by omega) (by omega)) c (by omega))
  have h6Y := h64 _ (hin _ (c : Int) hiX (by omega) (by omega))
  refine wpF_skip ?_
  refine wpF_seq ?_
  refine wpF_block ?_
  refine wpF_seq ?_
  refine wpF_cut (fun f H => f 1 = I ((sg : Int)) ∧ f 2 = vf ∧ f 8 = v2 ∧ f 9 = (Value.map (some r5)) ∧ f 10 = I ((i : Int)) ∧ f 11 = I ((c : Int)) ∧ f 26 = I ((sg : Int)) ∧ f 27 = I ((c : Int)) ∧ H17 = H) ?_ ?_
  · refine wpF_region ?_
    refine wpL_q (U := NoB) rfl (q_move (v := I ((c : Int))) rfl a18_27) ?_
    refine wpL_q (U := NoB) rfl (q_assign (v := I ((c : Int))) rfl rfl) ?_
    exact ⟨a18_1, a18_2, a18_8, a18_9, a18_10, rfl, a18_26, a18_27, rfl⟩
  rintro f20 _ ⟨a20_1, a20_2, a20_8, a20_9, a20_10, a20_11, a20_26, a20_27, rfl⟩
  clear a18_1 a18_10 a18_2 a18_26 a18_27 a18_28 a18_8 a18_9
  refine wpF_seq ?_
  refine wpF_cut (fun f H => f 1 = I ((sg : Int)) ∧ f 2 = vf ∧ f 8 = v2 ∧ f 9 = (Value.map (some r5)) ∧ f 10 = I ((i : Int)) ∧ f 12 = I (nx (nth (bfs nx sg s i) i) (c : Int)) ∧ f 26 = I ((sg : Int)) ∧ f 27 = I ((c : Int)) ∧ St H0 NoB (fun b => S b ∧ b < H0.size) [rowE 3 v2 (growTo nx (bfs nx sg s i) (nth (bfs nx sg s i) i) c : List Int), mapE r5 (m2 : List (Int × Int))] H) ?_ ?_
  · refine wpF_region ?_
    refine wpL_q (U := NoB) rfl (q_move (v := vf) rfl a20_2) ?_
    refine wpL_q (U := NoB) rfl (q_move (v := v2) rfl a20_8) ?_
    refine wpL_q (U := NoB) rfl (q_move (v := I ((i : Int))) rfl a20_10) ?_
    refine wpL_q (U := NoB) rfl (q_indexRd (k := i) rfl Try.underlying22 el_Int_3_AutoL1 rfl rfl (hS17.rowl 0 rfl) (by omega) (by omega)) ?_
    refine wpL_q (U := NoB) rfl (q_loadInt (k := i) rfl rfl el_Int_3_AutoL1 (hS17.rowl 0 rfl) (by omega) (fun _ h => h)) ?_
    refine wpL_q (U := NoB) rfl (q_move (v := I ((c : Int))) rfl a20_11) ?_
    have hnx : nth (growTo nx (bfs nx sg s i) (nth (bfs nx sg s i) i) c) i = (nth (bfs nx sg s i) i) := growTo_nth hil _
    refine wpL_o rfl ?_
    refine e_callF rfl rfl (arr2 (v0 := I (nth (growTo nx (bfs nx sg s i) (nth (bfs nx sg s i) i) c) i)) (v1 := I ((c : Int))) rfl rfl) (by rw [show I (nth (growTo nx (bfs nx sg s i) (nth (bfs nx sg s i) i) c) i) = I (nth (bfs nx sg s i) i) from congrArg (fun z => I z) hnx]; exact hf _ _ hiX (by omega) (by omega) _ hS17.frame) ?_
    rintro _ H21 ⟨hxx, rfl⟩
    have hS22 : St H0 NoB (fun b => S b ∧ b < H0.size) [rowE 3 v2 (growTo nx (bfs nx sg s i) (nth (bfs nx sg s i) i) c : List Int), mapE r5 (m2 : List (Int × Int))] H21 := hS17.ext hxx
    refine wpL_q (U := NoB) rfl (q_assign (v := I (nx (nth (bfs nx sg s i) i) (c : Int))) rfl rfl) ?_
    exact ⟨a20_1, a20_2, a20_8, a20_9, a20_10, rfl, a20_26, a20_27, hS22⟩
  rintro f24 H24 ⟨a24_1, a24_2, a24_8, a24_9, a24_10, a24_12, a24_26, a24_27, hS24⟩
  clear a20_1 a20_10 a20_11 a20_2 a20_26 a20_27 a20_8 a20_9
  refine wpF_seq ?_
  refine wpF_cut (fun f H => f 1 = I ((sg : Int)) ∧ f 2 = vf ∧ f 8 = v2 ∧ f 9 = (Value.map (some r5)) ∧ f 10 = I ((i : Int)) ∧ f 12 = I (nx (nth (bfs nx sg s i) i) (c : Int)) ∧ f 14 = B ((mget m2 (nx (nth (bfs nx sg s i) i) (c : Int))).isSome) ∧ f 26 = I ((sg : Int)) ∧ f 27 = I ((c : Int)) ∧ H24 = H) ?_ ?_
  · refine wpF_region ?_
    refine wpL_q (U := NoB) rfl (q_move (v := (Value.map (some r5))) rfl a24_9) ?_
    refine wpL_q (U := NoB) rfl (q_move (v := I (nx (nth (bfs nx sg s i) i) (c : Int))) rfl a24_12) ?_
    obtain ⟨u25, hlu25, hru25⟩ := lookD (t := 104) (d := (0 : Int)) Try.underlying104 (keyLaw_int Try.underlying3) Try.zeroValue3 (fun _ _ => Rd.int.2 ⟨rfl, by decide⟩) (nx (nth (bfs nx sg s i) i) (c : Int)) (hS24.get 1 rfl)
    obtain ⟨rfl, hiu25⟩ := Rd.int.1 hru25
    refine wpL_q (U := NoB) rfl (q_lookup1 rfl rfl rfl (hlu25 _ (fun h => h))) ?_
    refine wpL_q (U := NoB) rfl (q_move (v := Value.tuple #[I ((mget m2 (nx (nth (bfs nx sg s i) i) (c : Int))).getD 0), B ((mget m2 (nx (nth (bfs nx sg s i) i) (c : Int))).isSome)]) rfl rfl) ?_
    refine wpL_q (U := NoB) rfl (q_extract (vs := #[I ((mget m2 (nx (nth (bfs nx sg s i) i) (c : Int))).getD 0), B ((mget m2 (nx (nth (bfs nx sg s i) i) (c : Int))).isSome)]) (v := I ((mget m2 (nx (nth (bfs nx sg s i) i) (c : Int))).getD 0)) rfl rfl rfl) ?_
    refine wpL_q (U := NoB) rfl (q_extract (vs := #[I ((mget m2 (nx (nth (bfs nx sg s i) i) (c : Int))).getD 0), B ((mget m2 (nx (nth (bfs nx sg s i) i) (c : Int))).isSome)]) (v := B ((mget m2 (nx (nth (bfs nx sg s i) i) (c : Int))).isSome)) rfl rfl rfl) ?_
    refine wpL_q (U := NoB) rfl (q_assign (v := I ((mget m2 (nx (nth (bfs nx sg s i) i) (c : Int))).getD 0)) rfl rfl) ?_
    refine wpL_q (U := NoB) rfl (q_assign (v := B ((mget m2 (nx (nth (bfs nx sg s i) i) (c : Int))).isSome)) rfl rfl) ?_
    exact ⟨a24_1, a24_2, a24_8, a24_9, a24_10, a24_12, rfl, a24_26, a24_27, rfl⟩
  rintro f26 _ ⟨a26_1, a26_2, a26_8, a26_9, a26_10, a26_12, a26_14, a26_26, a26_27, rfl⟩
  clear a24_1 a24_10 a24_12 a24_2 a24_26 a24_27 a24_8 a24_9
  refine wpF_seq ?_
  refine wpF_cut (fun f H => f 1 = I ((sg : Int)) ∧ f 2 = vf ∧ f 8 = v2 ∧ f 9 = (Value.map (some r5)) ∧ f 10 = I ((i : Int)) ∧ f 12 = I (nx (nth (bfs nx sg s i) i) (c : Int)) ∧ f 26 = I ((sg : Int)) ∧ f 27 = I ((c : Int)) ∧ f 44 = B (!((mget m2 (nx (nth (bfs nx sg s i) i) (c : Int))).isSome)) ∧ H24 = H) ?_ ?_
  · refine wpF_region ?_
    refine wpL_q (U := NoB) rfl (q_move (v := B ((mget m2 (nx (nth (bfs nx sg s i) i) (c : Int))).isSome)) rfl a26_14) ?_
    refine wpL_q (U := NoB) rfl (q_not rfl rfl) ?_
    exact ⟨a26_1, a26_2, a26_8, a26_9, a26_10, a26_12, a26_26, a26_27, rfl, rfl⟩
  rintro f27 _ ⟨a27_1, a27_2, a27_8, a27_9, a27_10, a27_12, a27_26, a27_27, a27_44, rfl⟩
  clear a26_1 a26_10 a26_12 a26_14 a26_2 a26_26 a26_27 a26_8 a26_9
  refine wpF_cut (fun f H => ∃ (vN : Value), ∃ (mN : List (Int × Int)), (Nums (growTo nx (bfs nx sg s i) (nth (bfs nx sg s i) i) (c + 1)) (mget mN)) ∧ f 1 = I ((sg : Int)) ∧ f 2 = vf ∧ f 8 = vN ∧ f 9 = (Value.map (some r5)) ∧ f 10 = I ((i : Int)) ∧ f 26 = I ((sg : Int)) ∧ f 27 = I ((c : Int)) ∧ St H0 NoB (fun b => S b ∧ b < H0.size) [rowE 3 vN (growTo nx (bfs nx sg s i) (nth (bfs nx sg s i) i) (c + 1) : List Int), mapE r5 (mN : List (Int × Int))] H) ?_ ?_
  · refine wpF_cond a27_44 (fun hnew => ?t44) (fun hnew => ?e44)
    case e44 =>
      refine wpF_skip ?_
      exact ⟨v2, m2, (by rw [growTo_old hnum2 hnew]; exact hnum2), a27_1, a27_2, a27_8, a27_9, a27_10, a27_26, a27_27, (show St H0 NoB (fun b => S b ∧ b < H0.size) [rowE 3 v2 (growTo nx (bfs nx sg s i) (nth (bfs nx sg s i) i) (c + 1) : List Int), mapE r5 (m2 : List (Int × Int))] H24 from (by have h__ := hS24; rw [← growTo_old hnum2 hnew] at h__; exact h__))⟩
    refine wpF_seq ?_
    refine wpF_cut (fun f H => f 1 = I ((sg : Int)) ∧ f 2 = vf ∧ f 8 = v2 ∧ f 9 = (Value.map (some r5)) ∧ f 10 = I ((i : Int)) ∧ f 12 = I (nx (nth (bfs nx sg s i) i) (c : Int)) ∧ f 26 = I ((sg : Int)) ∧ f 27 = I ((c : Int)) ∧ St H0 NoB (fun b => S b ∧ b < H0.size) [mapE r5 (mset m2 (nx (nth (bfs nx sg s i) i) (c : Int)) ((growTo nx (bfs nx sg s i) (nth (bfs nx sg s i) i) c).length : Int) : List (Int × Int)), rowE 3 v2 (growTo nx (bfs nx sg s i) (nth (bfs nx sg s i) i) c : List Int)] H) ?_ ?_
    · refine wpF_region ?_
      refine wpL_q (U := NoB) rfl (q_move (v := (Value.map (some r5))) rfl a27_9) ?_
      refine wpL_q (U := NoB) rfl (q_move (v := I (nx (nth (bfs nx sg s i) i) (c : Int))) rfl a27_12) ?_
      refine wpL_q (U := NoB) rfl (q_move (v := v2) rfl a27_8) ?_
      refine wpL_q (U := NoB) rfl (q_lenRd rfl Try.underlying22 rfl (hS24.rowl 0 rfl)) ?_
      have hS30 : St H0 NoB (fun b => S b ∧ b < H0.size) [mapE r5 (m2 : List (Int × Int)), rowE 3 v2 (growTo nx (bfs nx sg s i) (nth (bfs nx sg s i) i) c : List Int)] H24 := (hS24.front 1 rfl)
      refine wpL_o rfl ?_
      refine e_mapUpdate (k := (nx (nth (bfs nx sg s i) i) (c : Int))) (.inl rfl) Try.underlying104 (keyLaw_int Try.underlying3) rfl rfl rfl hS30 (Rd.int.2 ⟨rfl, by constructor <;> omega⟩) (fun H31 hS32 hxx => ?_)
      replace hS32 : St H0 NoB (fun b => S b ∧ b < H0.size) [mapE r5 (mset m2 (nx (nth (bfs nx sg s i) i) (c : Int)) ((growTo nx (bfs nx sg s i) (nth (bfs nx sg s i) i) c).length : Int) : List (Int × Int)), rowE 3 v2 (growTo nx (bfs nx sg s i) (nth (bfs nx sg s i) i) c : List Int)] H31 := hS32
      exact ⟨a27_1, a27_2, a27_8, a27_9, a27_10, a27_12, a27_26, a27_27, hS32⟩
    rintro f33 H33 ⟨a33_1, a33_2, a33_8, a33_9, a33_10, a33_12, a33_26, a33_27, hS33⟩
    clear a27_1 a27_10 a27_12 a27_2 a27_26 a27_27 a27_44 a27_8 a27_9
    refine wpF_cut (fun f H => ∃ (v39 : Value), f 1 = I ((sg : Int)) ∧ f 2 = vf ∧ f 8 = v39 ∧ f 9 = (Value.map (some r5)) ∧ f 10 = I ((i : Int)) ∧ f 26 = I ((sg : Int)) ∧ f 27 = I ((c : Int)) ∧ St H0 NoB (fun b => S b ∧ b < H0.size) [rowE 3 v39 (growTo nx (bfs nx sg s i) (nth (bfs nx sg s i) i) (c + 1) : List Int), mapE r5 (mset m2 (nx (nth (bfs nx sg s i) i) (c : Int)) ((growTo nx (bfs nx sg s i) (nth (bfs nx sg s i) i) c).length : Int) : List (Int × Int))] H) ?_ ?_
    · refine wpF_region ?_
      refine wpL_q (U := NoB) rfl (q_move (v := v2) rfl a33_8) ?_
      refine wpL_q (U := NoB) rfl (q_move (v := I (nx (nth (bfs nx sg s i) i) (c : Int))) rfl a33_12) ?_
      refine wpL_o rfl ?_
      refine e_buildSlice (vs := [I (nx (nth (bfs nx sg s i) i) (c : Int))]) (xs := ([nx (nth (bfs nx sg s i) i) (c : Int)] : List Int)) rfl Try.underlying22 Try.zeroValue3 rfl Try.sizeOf3 (par1 (v0 := I (nx (nth (bfs nx sg s i) i) (c : Int))) rfl) rfl hS33 (RdVs.cons (Rd.int.2 ⟨rfl, by constructor <;> omega⟩) (RdVs.nil)) (by decide) (by decide) (fun v34 H35 hS36 hxx hvv34 => ?_)
      replace hS36 : St H0 NoB (fun b => S b ∧ b < H0.size) [rowE 3 v34 ([nx (nth (bfs nx sg s i) i) (c : Int)] : List Int), mapE r5 (mset m2 (nx (nth (bfs nx sg s i) i) (c : Int)) ((growTo nx (bfs nx sg s i) (nth (bfs nx sg s i) i) c).length : Int) : List (Int × Int)), rowE 3 v2 (growTo nx (bfs nx sg s i) (nth (bfs nx sg s i) i) c : List Int)] H35 := hS36
      have hS37 : St H0 NoB (fun b => S b ∧ b < H0.size) [rdE v34 ([nx (nth (bfs nx sg s i) i) (c : Int)] : List Int), mapE r5 (mset m2 (nx (nth (bfs nx sg s i) i) (c : Int)) ((growTo nx (bfs nx sg s i) (nth (bfs nx sg s i) i) c).length : Int) : List (Int × Int)), rowE 3 v2 (growTo nx (bfs nx sg s i) (nth (bfs nx sg s i) i) c : List Int)] H35 := St.fin hS36
      have hS38 : St H0 NoB (fun b => S b ∧ b < H0.size) [rowE 3 v2 (growTo nx (bfs nx sg s i) (nth (bfs nx sg s i) i) c : List Int), rdE v34 ([nx (nth (bfs nx sg s i) i) (c : Int)] : List Int), mapE r5 (mset m2 (nx (nth (bfs nx sg s i) i) (c : Int)) ((growTo nx (bfs nx sg s i) (nth (bfs nx sg s i) i) c).length : Int) : List (Int × Int))] H35 := (hS37.front 2 rfl)
      refine wpL_o rfl ?_
      refine e_append rfl Try.underlying22 em_Int_3_AutoL1 rfl rfl hS38 (hS38.rdS 1 rfl) (fun _ h => h) (by have hb : GoT.bytes Int = 8 := rfl; simp [hb]; omega) (by decide) (fun v39 H40 hS41 hxx => ?_)
      replace hS41 : St H0 NoB (fun b => S b ∧ b < H0.size) [rowE 3 v39 ((growTo nx (bfs nx sg s i) (nth (bfs nx sg s i) i) c) ++ ([nx (nth (bfs nx sg s i) i) (c : Int)]) : List Int), rdE v34 ([nx (nth (bfs nx sg s i) i) (c : Int)] : List Int), mapE r5 (mset m2 (nx (nth (bfs nx sg s i) i) (c : Int)) ((growTo nx (bfs nx sg s i) (nth (bfs nx sg s i) i) c).length : Int) : List (Int × Int))] H40 := hS41
      have hS42 : St H0 NoB (fun b => S b ∧ b < H0.size) [rowE 3 v39 (growTo nx (bfs nx sg s i) (nth (bfs nx sg s i) i) (c + 1) : List Int), rdE v34 ([nx (nth (bfs nx sg s i) i) (c : Int)] : List Int), mapE r5 (mset m2 (nx (nth (bfs nx sg s i) i) (c : Int)) ((growTo nx (bfs nx sg s i) (nth (bfs nx sg s i) i) c).length : Int) : List (Int × Int))] H40 := by rw [show (growTo nx (bfs nx sg s i) (nth (bfs nx sg s i) i) (c + 1)) = ((growTo nx (bfs nx sg s i) (nth (bfs nx sg s i) i) c) ++ ([nx (nth (bfs nx sg s i) i) (c : Int)])) from (growTo_new hnum2 hnew).symm]; exact hS41
      refine wpL_q (U := NoB) rfl (q_assign (v := v39) rfl rfl) ?_
      exact ⟨v39, a33_1, a33_2, rfl, a33_9, a33_10, a33_26, a33_27, (hS42.drop (sk (sn (sk (List.Sublist.slnil)))))⟩
    rintro f43 H43 ⟨v39, a43_1, a43_2, a43_8, a43_9, a43_10, a43_26, a43_27, hS43⟩
    clear a33_1 a33_10 a33_12 a33_2 a33_26 a33_27 a33_8 a33_9
    exact ⟨v39, mset m2 (nx (nth (bfs nx sg s i) i) (c : Int)) ((growTo nx (bfs nx sg s i) (nth (bfs nx sg s i) i) c).length : Int), (by rw [show mget (mset m2 (nx (nth (bfs nx sg s i) i) (c : Int)) ((growTo nx (bfs nx sg s i) (nth (bfs nx sg s i) i) c).length : Int)) = _ from funext fun q => mget_mset m2 _ q _]; exact growTo_push hnum2 hnew), a43_1, a43_2, a43_8, a43_9, a43_10, a43_26, a43_27, hS43⟩
  rintro f28 H28 ⟨vN, mN, hnum3, a28_1, a28_2, a28_8, a28_9, a28_10, a28_26, a28_27, hS28⟩
  clear a27_1 a27_10 a27_12 a27_2 a27_26 a27_27 a27_44 a27_8 a27_9
  refine wpF_cut (fun f H => f 1 = I ((sg : Int)) ∧ f 2 = vf ∧ f 8 = vN ∧ f 9 = (Value.map (some r5)) ∧ f 10 = I ((i : Int)) ∧ f 26 = I ((sg : Int)) ∧ f 27 = I ((c : Int) + 1) ∧ H28 = H) ?_ ?_
  · refine wpF_region ?_
    refine wpL_q (U := NoB) rfl (q_add rfl a28_27 rfl (by constructor <;> omega)) ?_
    refine wpL_q (U := NoB) rfl (q_move (v := I ((c : Int) + 1)) rfl rfl) ?_
    exact ⟨a28_1, a28_2, a28_8, a28_9, a28_10, a28_26, rfl, rfl⟩
  rintro f45 _ ⟨a45_1, a45_2, a45_8, a45_9, a45_10, a45_26, a45_27, rfl⟩
  clear a28_1 a28_10 a28_2 a28_26 a28_27 a28_8 a28_9
  refine ⟨_, ?_, c + 1, vN, mN, rfl, (by omega), hnum3, a45_1, a45_2, a45_8, a45_9, a45_10, a45_26, (Eq.trans a45_27 (congrArg I (by omega))), hS28⟩
  omega

theorem found_Iw {H0 : Heap} {S : Nat → Prop} (vf : Value) (s : Int) (sg : Nat) (nx : Int → Int → Int) (inv : Int → Prop) (sgI : Int) (hI : sgI = (sg : Int)) (h0 : inv s) (hin : ∀ (x : Int) (c : Int), inv x → 0 ≤ c → c < (sg : Int) → inv (nx x c)) (h64 : ∀ x, inv x → In64 x) (hfew : ∀ L : List (Int), L.Nodup → (∀ x ∈ L, inv x) → L.length ≤ 2000) (hsg : sg ≤ 1000) (hf : ∀ (x : Int) (c : Int), inv x → 0 ≤ c → c < (sg : Int) → ∀ H, Ext NoB H0 H → FnH Try.prog vf #[I x, I c] H (fun rv H' => Ext NoB H H' ∧ rv = I (nx x c))) : CallsH Try.prog 81 #[I (s), I sgI, vf] H0 (fun rv_ H' => Ext NoB H0 H' ∧ ∃ vl_ r_ m_ i_, rv_ = Value.tuple #[vl_, Value.map (some r_)] ∧ Ended nx sg s i_ ∧ Nums (bfs nx sg s i_) (mget m_) ∧ (∀ e ∈ [rdE vl_ (bfs nx sg s i_), mapE r_ (m_ : List (Int × Int))], e.ok (SL (fun b => S b ∧ b < H0.size) [rdE vl_ (bfs nx sg s i_), mapE r_ m_]) H') ∧ ∀ b, own [rdE vl_ (bfs nx sg s i_), mapE r_ m_] b → H0.size ≤ b) := by
  subst hI; exact found_I vf s sg nx inv h0 hin h64 hfew hsg hf

set_option maxHeartbeats 1000000 in
set_option maxRecDepth 100000 in
theorem built_I {H0 : Heap} {S : Nat → Prop} (vf vk : Value) (s : Int) (sg : Nat) (nx : Int → Int → Int) (tk : Int → Bool) (inv : Int → Prop) (h0 : inv s) (hin : ∀ (x : Int) (c : Int), inv x → 0 ≤ c → c < (sg : Int) → inv (nx x c)) (h64 : ∀ x, inv x → In64 x) (hfew : ∀ L : List (Int), L.Nodup → (∀ x ∈ L, inv x) → L.length ≤ 2000) (hsg : sg ≤ 1000) (hf : ∀ (x : Int) (c : Int), inv x → 0 ≤ c → c < (sg : Int) → ∀ H, Ext NoB H0 H → FnH Try.prog vf #[I x, I c] H (fun rv H' => Ext NoB H H' ∧ rv = I (nx x c))) (hk : ∀ x, inv x → ∀ H, Ext NoB H0 H → FnH Try.prog vk #[I x] H (fun rv H' => Ext NoB H H' ∧ rv = B (tk x))) : CallsH Try.prog 69 #[I (s), I ((sg : Int)), vf, vk] H0 (fun rv_ H' => Ext NoB H0 H' ∧ ∃ w1_ w2_, rv_ = Value.agg #[I (sg : Int), w1_, w2_] ∧ Rd (fun b => S b ∧ b < H0.size) H' w1_ (builtA nx sg (endL nx sg s) tk).Next ∧ Rd (fun b => S b ∧ b < H0.size) H' w2_ (builtA nx sg (endL nx sg s) tk).Takes) := by
  have h6s := h64 _ h0
  have hS0 : St H0 NoB (fun b => S b ∧ b < H0.size) [] H0 := St.start (fun _ h => h.2)
  refine callsH_of_wpF (args := [I (s), I ((sg : Int)), vf, vk]) (rs := [.cell 8 36]) Try.func69 rfl Try.ntmps69 Try.results69 (by kernel_rfl) (Nat.le_of_ble_eq_true rfl) ?_
  have a0_0 : argF [I (s), I ((sg : Int)), vf, vk] 0 = I (s) := rfl
  have a0_1 : argF [I (s), I ((sg : Int)), vf, vk] 1 = I ((sg : Int)) := rfl
  have a0_2 : argF [I (s), I ((sg : Int)), vf, vk] 2 = vf := rfl
  have a0_3 : argF [I (s), I ((sg : Int)), vf, vk] 3 = vk := rfl
  generalize argF [I (s), I ((sg : Int)), vf, vk] = f0 at *
  refine wpF_seq ?_
  refine wpF_cut (fun f H => ∃ (g1 : Nat), f 0 = I (s) ∧ f 1 = I ((sg : Int)) ∧ f 2 = vf ∧ f 3 = vk ∧ f 8 = PT g1 0 ∧ St H0 NoB (fun b => S b ∧ b < H0.size) [blkE g1 (.cells #[I (0), (Value.slice none 0 0), (Value.slice none 0 0)] 36)] H) ?_ ?_
  · refine wpF_region ?_
    refine wpL_o rfl ?_
    refine e_alloc rfl Try.zeroValue36 hS0 (fun g1 H2 hS3 hxx => ?_)
    replace hS3 : St H0 NoB (fun b => S b ∧ b < H0.size) [blkE g1 (.cells #[I (0), (Value.slice none 0 0), (Value.slice none 0 0)] 36)] H2 := hS3
    exact ⟨g1, a0_0, a0_1, a0_2, a0_3, rfl, hS3⟩
  rintro f4 H4 ⟨g1, a4_0, a4_1, a4_2, a4_3, a4_8, hS4⟩
  clear a0_0 a0_1 a0_2 a0_3
  refine wpF_seq ?_
  refine wpF_cut (fun f H => ∃ (v5 : Value), ∃ (r6 : Nat), ∃ (m7 : List (Int × Int)), ∃ (i8 : Nat), (Ended nx sg s i8) ∧ (Nums (bfs nx sg s i8) (mget m7)) ∧ f 1 = I ((sg : Int)) ∧ f 2 = vf ∧ f 3 = vk ∧ f 8 = PT g1 0 ∧ f 9 = v5 ∧ f 10 = (Value.map (some r6)) ∧ St H0 NoB (fun b => S b ∧ b < H0.size) [rdE v5 (bfs nx sg s i8), mapE r6 (m7 : List (Int × Int)), blkE g1 (.cells #[I (0), (Value.slice none 0 0), (Value.slice none 0 0)] 36)] H) ?_ ?_
  · refine wpF_region ?_
    refine wpL_q (U := NoB) rfl (q_move (v := I (s)) rfl a4_0) ?_
    refine wpL_q (U := NoB) rfl (q_move (v := I ((sg : Int))) rfl a4_1) ?_
    refine wpL_q (U := NoB) rfl (q_move (v := vf) rfl a4_2) ?_
    refine wpL_o rfl ?_
    refine e_call rfl Try.call81 (arr3 (v0 := I (s)) (v1 := I ((sg : Int))) (v2 := vf) rfl rfl rfl) (found_Iw (S := SL (fun b => S b ∧ b < H0.size) [blkE g1 (.cells #[I (0), (Value.slice none 0 0), (Value.slice none 0 0)] 36)]) vf s sg nx inv (sg : Int) rfl h0 hin h64 hfew hsg (fun x c h1 h2 h3 H hE => hf x c h1 h2 h3 H (hS4.frame.trans hE))) ?_
    rintro _ H9 ⟨hxx, v5, r6, m7, i8, rfl, hEm7, hNm7, hok, hge⟩
    have hS10 : St H0 NoB (fun b => S b ∧ b < H0.size) [rdE v5 (bfs nx sg s i8), mapE r6 (m7 : List (Int × Int)), blkE g1 (.cells #[I (0), (Value.slice none 0 0), (Value.slice none 0 0)] 36)] H9 := St.got (A' := [rdE v5 (bfs nx sg s i8), mapE r6 (m7 : List (Int × Int))]) hS4 hxx hok hge (pw2 (fun b h1 h2 => h1.elim))
    refine wpL_q (U := NoB) rfl (q_move (v := Value.tuple #[v5, (Value.map (some r6))]) rfl rfl) ?_
    refine wpL_q (U := NoB) rfl (q_extract (vs := #[v5, (Value.map (some r6))]) (v := v5) rfl rfl rfl) ?_
    refine wpL_q (U := NoB) rfl (q_extract (vs := #[v5, (Value.map (some r6))]) (v := (Value.map (some r6))) rfl rfl rfl) ?_
    refine wpL_q (U := NoB) rfl (q_assign (v := v5) rfl rfl) ?_
    refine wpL_q (U := NoB) rfl (q_assign (v := (Value.map (some r6))) rfl rfl) ?_
    exact ⟨v5, r6, m7, i8, hEm7, hNm7, a4_1, a4_2, a4_3, a4_8, rfl, rfl, hS10⟩
  rintro f12 H12 ⟨v5, r6, m7, i8, hEm7, hNm7, a12_1, a12_2, a12_3, a12_8, a12_9, a12_10, hS12⟩
  clear a4_0 a4_1 a4_2 a4_3 a4_8
  have hLe : endL nx sg s = bfs nx sg s i8 := hEm7.endL
  have hnod : (bfs nx sg s i8).Nodup := bfs_nodup i8
  have hallL := hEm7.all h0 hin
  have hclo := fun x (hx : x ∈ bfs nx sg s i8) (c : Nat) (hc : c < sg) => hEm7.closed hx hc
  have hlenL := hfew _ hnod hallL
  have hnm := hNm7
  generalize bfs nx sg s i8 = L at *
  generalize m7 = mm at *
  refine wpF_seq ?_
  refine wpF_cut (fun f H => ∃ (g14 : Nat), f 1 = I ((sg : Int)) ∧ f 2 = vf ∧ f 3 = vk ∧ f 8 = PT g1 0 ∧ f 9 = v5 ∧ f 10 = (Value.map (some r6)) ∧ f 11 = PT g14 0 ∧ St H0 NoB (fun b => S b ∧ b < H0.size) [blkE g14 (.cells #[I ((sg : Int)), (Value.slice none 0 0), (Value.slice none 0 0)] 36), rdE v5 L, mapE r6 (mm : List (Int × Int)), blkE g1 (.cells #[I (0), (Value.slice none 0 0), (Value.slice none 0 0)] 36)] H) ?_ ?_
  · refine wpF_region ?_
    refine wpL_q (U := NoB) rfl (q_move (v := I ((sg : Int))) rfl a12_1) ?_
    refine wpL_q (U := NoB) rfl (q_build (v := Value.agg #[I ((sg : Int)), (Value.slice none 0 0), (Value.slice none 0 0)]) rfl (par1 (v0 := I ((sg : Int))) rfl) (fun w => by kernel_rfl)) ?_
    refine wpL_o rfl ?_
    refine e_alloc rfl Try.zeroValue36 hS12 (fun g14 H15 hS16 hxx => ?_)
    replace hS16 : St H0 NoB (fun b => S b ∧ b < H0.size) [blkE g14 (.cells #[I (0), (Value.slice none 0 0), (Value.slice none 0 0)] 36), rdE v5 L, mapE r6 (mm : List (Int × Int)), blkE g1 (.cells #[I (0), (Value.slice none 0 0), (Value.slice none 0 0)] 36)] H15 := hS16
    refine wpL_o rfl ?_
    refine e_storeBlkA (cs' := #[I ((sg : Int)), (Value.slice none 0 0), (Value.slice none 0 0)]) rfl rfl rfl Try.sizeOf36 rfl rfl (List.forall_mem_cons.2 ⟨rfl, List.forall_mem_cons.2 ⟨rfl, List.forall_mem_cons.2 ⟨rfl, List.forall_mem_nil _⟩⟩⟩) hS16 (fun H17 hS18 hxx => ?_)
    replace hS18 : St H0 NoB (fun b => S b ∧ b < H0.size) [blkE g14 (.cells #[I ((sg : Int)), (Value.slice none 0 0), (Value.slice none 0 0)] 36), rdE v5 L, mapE r6 (mm : List (Int × Int)), blkE g1 (.cells #[I (0), (Value.slice none 0 0), (Value.slice none 0 0)] 36)] H17 := hS18
    exact ⟨g14, a12_1, a12_2, a12_3, a12_8, a12_9, a12_10, rfl, hS18⟩
  rintro f19 H19 ⟨g14, a19_1, a19_2, a19_3, a19_8, a19_9, a19_10, a19_11, hS19⟩
  clear a12_1 a12_10 a12_2 a12_3 a12_8 a12_9
  have hS20 : St H0 NoB (fun b => S b ∧ b < H0.size) [rowE 22 (Value.slice none 0 0) ([] : List (List Int)), blkE g14 (.cells #[I ((sg : Int)), (Value.slice none 0 0), (Value.slice none 0 0)] 36), rdE v5 L, mapE r6 (mm : List (Int × Int)), blkE g1 (.cells #[I (0), (Value.slice none 0 0), (Value.slice none 0 0)] 36)] H19 := hS19.row0 22
  have hS21 : St H0 NoB (fun b => S b ∧ b < H0.size) [rowE 4 (Value.slice none 0 0) ([] : List Bool), rowE 22 (Value.slice none 0 0) ([] : List (List Int)), blkE g14 (.cells #[I ((sg : Int)), (Value.slice none 0 0), (Value.slice none 0 0)] 36), rdE v5 L, mapE r6 (mm : List (Int × Int)), blkE g1 (.cells #[I (0), (Value.slice none 0 0), (Value.slice none 0 0)] 36)] H19 := hS20.row0 4
  refine wpF_seq ?_
  refine wpF_seq ?_
  refine wpF_cut (fun f H => f 1 = I ((sg : Int)) ∧ f 2 = vf ∧ f 3 = vk ∧ f 8 = PT g1 0 ∧ f 10 = (Value.map (some r6)) ∧ f 11 = PT g14 0 ∧ f 25 = v5 ∧ f 26 = I ((L.length : Int)) ∧ f 27 = I (0) ∧ H19 = H) ?_ ?_
  · refine wpF_region ?_
    refine wpL_q (U := NoB) rfl (q_move (v := v5) rfl a19_9) ?_
    refine wpL_q (U := NoB) rfl (q_lenRd rfl Try.underlying22 rfl (hS21.rdl 3 rfl)) ?_
    refine wpL_q (U := NoB) rfl (q_move (v := I (0)) rfl rfl) ?_
    exact ⟨a19_1, a19_2, a19_3, a19_8, a19_10, a19_11, rfl, rfl, rfl, rfl⟩
  rintro f22 _ ⟨a22_1, a22_2, a22_3, a22_8, a22_10, a22_11, a22_25, a22_26, a22_27, rfl⟩
  clear a19_1 a19_10 a19_11 a19_2 a19_3 a19_8 a19_9
  refine wpF_block ?_
  refine wpF_loop (fun mz f H => ∃ (i : Nat), ∃ (v1 : Value), ∃ (v2 : Value), mz = L.length - i ∧ (i ≤ L.length) ∧ f 1 = I ((sg : Int)) ∧ f 2 = vf ∧ f 3 = vk ∧ f 8 = PT g1 0 ∧ f 10 = (Value.map (some r6)) ∧ f 11 = PT g14 0 ∧ f 25 = v5 ∧ f 26 = I ((L.length : Int)) ∧ f 27 = I ((i : Int)) ∧ St H0 NoB (fun b => S b ∧ b < H0.size) [rowE 22 v1 ((L.take i).map fun x => rowM (mget mm) nx x sg : List (List Int)), rowE 4 v2 ((L.take i).map tk : List Bool), blkE g14 (.cells #[I ((sg : Int)), v1, v2] 36), rdE v5 L, mapE r6 (mm : List (Int × Int)), blkE g1 (.cells #[I (0), (Value.slice none 0 0), (Value.slice none 0 0)] 36)] H) (L.length - 0) ?_ ?_
  · exact ⟨0, (Value.slice none 0 0), (Value.slice none 0 0), rfl, Nat.zero_le _, a22_1, a22_2, a22_3, a22_8, a22_10, a22_11, a22_25, a22_26, (Eq.trans a22_27 (congrArg I (by omega))), (show St H0 NoB (fun b => S b ∧ b < H0.size) [rowE 22 (Value.slice none 0 0) ((L.take 0).map fun x => rowM (mget mm) nx x sg : List (List Int)), rowE 4 (Value.slice none 0 0) ((L.take 0).map tk : List Bool), blkE g14 (.cells #[I ((sg : Int)), (Value.slice none 0 0), (Value.slice none 0 0)] 36), rdE v5 L, mapE r6 (mm : List (Int × Int)), blkE g1 (.cells #[I (0), (Value.slice none 0 0), (Value.slice none 0 0)] 36)] H19 from (St.drop (show St H0 NoB (fun b => S b ∧ b < H0.size) [rowE 22 (Value.slice none 0 0) ([] : List (List Int)), rowE 4 (Value.slice none 0 0) ([] : List Bool), blkE g14 (.cells #[I ((sg : Int)), (Value.slice none 0 0), (Value.slice none 0 0)] 36), rdE v5 L, mapE r6 (mm : List (Int × Int)), blkE g1 (.cells #[I (0), (Value.slice none 0 0), (Value.slice none 0 0)] 36)] H19 from (hS21.front 1 rfl)) (sk (sk (sk (sk (sk (sk (List.Sublist.slnil)))))))))⟩
  intro m23 f23 H23 hI23
  obtain ⟨i, v1, v2, hm23, hi, a23_1, a23_2, a23_3, a23_8, a23_10, a23_11, a23_25, a23_26, a23_27, hS23⟩ := hI23
  clear a22_1 a22_10 a22_11 a22_2 a22_25 a22_26 a22_27 a22_3 a22_8
  refine wpF_seq ?_
  refine wpF_cut (fun f H => f 1 = I ((sg : Int)) ∧ f 2 = vf ∧ f 3 = vk ∧ f 8 = PT g1 0 ∧ f 10 = (Value.map (some r6)) ∧ f 11 = PT g14 0 ∧ f 25 = v5 ∧ f 26 = I ((L.length : Int)) ∧ f 27 = I ((i : Int)) ∧ f 28 = B (decide ((i : Int) < (L.length : Int))) ∧ H23 = H) ?_ ?_
  · refine wpF_region ?_
    refine wpL_q (U := NoB) rfl (q_lss rfl a23_27 a23_26) ?_
    exact ⟨a23_1, a23_2, a23_3, a23_8, a23_10, a23_11, a23_25, a23_26, a23_27, rfl, rfl⟩
  rintro f24 _ ⟨a24_1, a24_2, a24_3, a24_8, a24_10, a24_11, a24_25, a24_26, a24_27, a24_28, rfl⟩
  clear a23_1 a23_10 a23_11 a23_2 a23_25 a23_26 a23_27 a23_3 a23_8
  refine wpF_seq ?_
  refine wpF_condP a24_28 (fun hlt => ?t58) (fun hlt => ?e58)
  case e58 =>
    refine wpF_exit ?_
    refine atX_here ?_
    refine wpF_seq ?_
    refine wpF_cut (fun f H => f 8 = PT g1 0 ∧ St H0 NoB (fun b => S b ∧ b < H0.size) [blkE g1 (.cells #[I ((sg : Int)), v1, v2] 36), rowE 22 v1 ((L.take i).map fun x => rowM (mget mm) nx x sg : List (List Int)), rowE 4 v2 ((L.take i).map tk : List Bool), blkE g14 (.cells #[I ((sg : Int)), v1, v2] 36), mapE r6 (mm : List (Int × Int))] H) ?_ ?_
    · refine wpF_region ?_
      refine wpL_q (U := NoB) rfl (q_loadBlkA rfl a24_11 Try.isAgg36 Try.sizeOf36 rfl (hS23.blk 2 rfl) (fun h => h)) ?_
      refine wpL_o rfl ?_
      refine e_storeBlkA (cs' := #[I ((sg : Int)), v1, v2]) rfl a24_8 rfl Try.sizeOf36 rfl rfl (List.forall_mem_cons.2 ⟨rfl, List.forall_mem_cons.2 ⟨(oneCell_rdL (hS23.rowl 0 rfl)), List.forall_mem_cons.2 ⟨(oneCell_rdL (hS23.rowl 1 rfl)), List.forall_mem_nil _⟩⟩⟩) (hS23.front 5 rfl) (fun H53 hS54 hxx => ?_)
      replace hS54 : St H0 NoB (fun b => S b ∧ b < H0.size) [blkE g1 (.cells #[I ((sg : Int)), v1, v2] 36), rowE 22 v1 ((L.take i).map fun x => rowM (mget mm) nx x sg : List (List Int)), rowE 4 v2 ((L.take i).map tk : List Bool), blkE g14 (.cells #[I ((sg : Int)), v1, v2] 36), rdE v5 L, mapE r6 (mm : List (Int × Int))] H53 := hS54
      exact ⟨a24_8, (hS54.drop (sk (sk (sk (sk (sn (sk (List.Sublist.slnil))))))))⟩
    rintro f55 H55 ⟨a55_8, hS55⟩
    clear a24_1 a24_10 a24_11 a24_2 a24_25 a24_26 a24_27 a24_28 a24_3 a24_8
    refine wpF_ret ?_
    refine ⟨_, resC a55_8 (loadV_blkA Try.isAgg36 Try.sizeOf36 rfl (hS55.blk 0 rfl)) (resN), hS55.frame, ?_⟩
    show ∃ w1_ w2_, (Value.agg #[I ((sg : Int)), v1, v2]) = Value.agg #[I (sg : Int), w1_, w2_] ∧ Rd (fun b => S b ∧ b < H0.size) H55 w1_ (builtA nx sg (endL nx sg s) tk).Next ∧ Rd (fun b => S b ∧ b < H0.size) H55 w2_ (builtA nx sg (endL nx sg s) tk).Takes
    have hS56 : St H0 NoB (fun b => S b ∧ b < H0.size) [rdE v1 ((L.take i).map fun x => rowM (mget mm) nx x sg), blkE g1 (.cells #[I ((sg : Int)), v1, v2] 36), rowE 4 v2 ((L.take i).map tk : List Bool), blkE g14 (.cells #[I ((sg : Int)), v1, v2] 36), mapE r6 (mm : List (Int × Int))] H55 := St.fin (hS55.front 1 rfl)
    have hS57 : St H0 NoB (fun b => S b ∧ b < H0.size) [rdE v2 ((L.take i).map tk), rdE v1 ((L.take i).map fun x => rowM (mget mm) nx x sg), blkE g1 (.cells #[I ((sg : Int)), v1, v2] 36), blkE g14 (.cells #[I ((sg : Int)), v1, v2] 36), mapE r6 (mm : List (Int × Int))] H55 := St.fin (hS56.front 2 rfl)
    have hiL : i = L.length := by omega
    have hq1 : ((L.take i).map fun x => rowM (mget mm) nx x sg) = (builtA nx sg L tk).Next := by rw [List.take_of_length_le (by omega)]; exact List.map_congr_left fun x hx => rowM_eq hnm hnod (hclo x hx)
    have hq2 : ((L.take i).map tk) = (builtA nx sg L tk).Takes := by rw [List.take_of_length_le (by omega)]; rfl
    rw [hLe]
    exact ⟨v1, v2, rfl, by rw [← hq1]; exact (hS57.result (hS57.rdS 1 rfl)), by rw [← hq2]; exact (hS57.result (hS57.rdS 0 rfl))⟩
  have hil : i < L.length := by omega
  have hiX := hallL _ (nth_mem hil)
  have h6X := h64 _ hiX
  refine wpF_skip ?_
  refine wpF_seq ?_
  refine wpF_block ?_
  refine wpF_seq ?_
  refine wpF_cut (fun f H => f 1 = I ((sg : Int)) ∧ f 2 = vf ∧ f 3 = vk ∧ f 8 = PT g1 0 ∧ f 10 = (Value.map (some r6)) ∧ f 11 = PT g14 0 ∧ f 13 = I (nth L i) ∧ f 25 = v5 ∧ f 26 = I ((L.length : Int)) ∧ f 27 = I ((i : Int)) ∧ H23 = H) ?_ ?_
  · refine wpF_region ?_
    refine wpL_q (U := NoB) rfl (q_indexRd (k := i) rfl Try.underlying22 el_Int_3_AutoL1 a24_25 a24_27 (hS23.rdl 3 rfl) (by omega) (by omega)) ?_
    refine wpL_q (U := NoB) rfl (q_loadInt (k := i) rfl rfl el_Int_3_AutoL1 (hS23.rdl 3 rfl) (by omega) (fun _ h => h)) ?_
    refine wpL_q (U := NoB) rfl (q_assign (v := I (nth L i)) rfl rfl) ?_
    exact ⟨a24_1, a24_2, a24_3, a24_8, a24_10, a24_11, rfl, a24_25, a24_26, a24_27, rfl⟩
  rintro f26 _ ⟨a26_1, a26_2, a26_3, a26_8, a26_10, a26_11, a26_13, a26_25, a26_26, a26_27, rfl⟩
  clear a24_1 a24_10 a24_11 a24_2 a24_25 a24_26 a24_27 a24_28 a24_3 a24_8
  refine wpF_seq ?_
  refine wpF_cut (fun f H => f 1 = I ((sg : Int)) ∧ f 2 = vf ∧ f 3 = vk ∧ f 8 = PT g1 0 ∧ f 10 = (Value.map (some r6)) ∧ f 11 = PT g14 0 ∧ f 13 = I (nth L i) ∧ f 14 = (Value.slice none 0 0) ∧ f 25 = v5 ∧ f 26 = I ((L.length : Int)) ∧ f 27 = I ((i : Int)) ∧ H23 = H) ?_ ?_
  · refine wpF_region ?_
    refine wpL_q (U := NoB) rfl (q_assign (v := (Value.slice none 0 0)) rfl rfl) ?_
    exact ⟨a26_1, a26_2, a26_3, a26_8, a26_10, a26_11, a26_13, rfl, a26_25, a26_26, a26_27, rfl⟩
  rintro f27 _ ⟨a27_1, a27_2, a27_3, a27_8, a27_10, a27_11, a27_13, a27_14, a27_25, a27_26, a27_27, rfl⟩
  clear a26_1 a26_10 a26_11 a26_13 a26_2 a26_25 a26_26 a26_27 a26_3 a26_8
  have hS28 : St H0 NoB (fun b => S b ∧ b < H0.size) [rowE 3 (Value.slice none 0 0) ([] : List Int), rowE 22 v1 ((L.take i).map fun x => rowM (mget mm) nx x sg : List (List Int)), rowE 4 v2 ((L.take i).map tk : List Bool), blkE g14 (.cells #[I ((sg : Int)), v1, v2] 36), rdE v5 L, mapE r6 (mm : List (Int × Int)), blkE g1 (.cells #[I (0), (Value.slice none 0 0), (Value.slice none 0 0)] 36)] H23 := hS23.row0 3
  refine wpF_seq ?_
  refine wpF_seq ?_
  refine wpF_cut (fun f H => f 1 = I ((sg : Int)) ∧ f 2 = vf ∧ f 3 = vk ∧ f 8 = PT g1 0 ∧ f 10 = (Value.map (some r6)) ∧ f 11 = PT g14 0 ∧ f 13 = I (nth L i) ∧ f 14 = (Value.slice none 0 0) ∧ f 25 = v5 ∧ f 26 = I ((L.length : Int)) ∧ f 27 = I ((i : Int)) ∧ f 31 = I ((sg : Int)) ∧ f 32 = I (0) ∧ H23 = H) ?_ ?_
  · refine wpF_region ?_
    refine wpL_q (U := NoB) rfl (q_move (v := I ((sg : Int))) rfl a27_1) ?_
    refine wpL_q (U := NoB) rfl (q_move (v := I (0)) rfl rfl) ?_
    exact ⟨a27_1, a27_2, a27_3, a27_8, a27_10, a27_11, a27_13, a27_14, a27_25, a27_26, a27_27, rfl, rfl, rfl⟩
  rintro f29 _ ⟨a29_1, a29_2, a29_3, a29_8, a29_10, a29_11, a29_13, a29_14, a29_25, a29_26, a29_27, a29_31, a29_32, rfl⟩
  clear a27_1 a27_10 a27_11 a27_13 a27_14 a27_2 a27_25 a27_26 a27_27 a27_3 a27_8
  refine wpF_block ?_
  refine wpF_loop (fun mz f H => ∃ (c : Nat), ∃ (vr : Value), mz = sg - c ∧ (c ≤ sg) ∧ f 1 = I ((sg : Int)) ∧ f 2 = vf ∧ f 3 = vk ∧ f 8 = PT g1 0 ∧ f 10 = (Value.map (some r6)) ∧ f 11 = PT g14 0 ∧ f 13 = I (nth L i) ∧ f 14 = vr ∧ f 25 = v5 ∧ f 26 = I ((L.length : Int)) ∧ f 27 = I ((i : Int)) ∧ f 31 = I ((sg : Int)) ∧ f 32 = I ((c : Int)) ∧ St H0 NoB (fun b => S b ∧ b < H0.size) [rowE 3 vr (rowM (mget mm) nx (nth L i) c : List Int), rowE 22 v1 ((L.take i).map fun x => rowM (mget mm) nx x sg : List (List Int)), rowE 4 v2 ((L.take i).map tk : List Bool), blkE g14 (.cells #[I ((sg : Int)), v1, v2] 36), rdE v5 L, mapE r6 (mm : List (Int × Int)), blkE g1 (.cells #[I (0), (Value.slice none 0 0), (Value.slice none 0 0)] 36)] H) (sg - 0) ?_ ?_
  · exact ⟨0, (Value.slice none 0 0), rfl, Nat.zero_le _, a29_1, a29_2, a29_3, a29_8, a29_10, a29_11, a29_13, a29_14, a29_25, a29_26, a29_27, a29_31, (Eq.trans a29_32 (congrArg I (by omega))), (show St H0 NoB (fun b => S b ∧ b < H0.size) [rowE 3 (Value.slice none 0 0) (rowM (mget mm) nx (nth L i) 0 : List Int), rowE 22 v1 ((L.take i).map fun x => rowM (mget mm) nx x sg : List (List Int)), rowE 4 v2 ((L.take i).map tk : List Bool), blkE g14 (.cells #[I ((sg : Int)), v1, v2] 36), rdE v5 L, mapE r6 (mm : List (Int × Int)), blkE g1 (.cells #[I (0), (Value.slice none 0 0), (Value.slice none 0 0)] 36)] H23 from hS28)⟩
  intro m30 f30 H30 hI30
  obtain ⟨c, vr, hm30, hc0, a30_1, a30_2, a30_3, a30_8, a30_10, a30_11, a30_13, a30_14, a30_25, a30_26, a30_27, a30_31, a30_32, hS30⟩ := hI30
  clear a29_1 a29_10 a29_11 a29_13 a29_14 a29_2 a29_25 a29_26 a29_27 a29_3 a29_31 a29_32 a29_8
  refine wpF_seq ?_
  refine wpF_cut (fun f H => f 1 = I ((sg : Int)) ∧ f 2 = vf ∧ f 3 = vk ∧ f 8 = PT g1 0 ∧ f 10 = (Value.map (some r6)) ∧ f 11 = PT g14 0 ∧ f 13 = I (nth L i) ∧ f 14 = vr ∧ f 25 = v5 ∧ f 26 = I ((L.length : Int)) ∧ f 27 = I ((i : Int)) ∧ f 31 = I ((sg : Int)) ∧ f 32 = I ((c : Int)) ∧ f 33 = B (decide ((c : Int) < (sg : Int))) ∧ H30 = H) ?_ ?_
  · refine wpF_region ?_
    refine wpL_q (U := NoB) rfl (q_lss rfl a30_32 a30_31) ?_
    exact ⟨a30_1, a30_2, a30_3, a30_8, a30_10, a30_11, a30_13, a30_14, a30_25, a30_26, a30_27, a30_31, a30_32, rfl, rfl⟩
  rintro f31 _ ⟨a31_1, a31_2, a31_3, a31_8, a31_10, a31_11, a31_13, a31_14, a31_25, a31_26, a31_27, a31_31, a31_32, a31_33, rfl⟩
  clear a30_1 a30_10 a30_11 a30_13 a30_14 a30_2 a30_25 a30_26 a30_27 a30_3 a30_31 a30_32 a30_8
  refine wpF_seq ?_
  refine wpF_condP a31_33 (fun hc => ?t52) (fun hc => ?e52)
  case t52 =>
    refine wpF_skip ?_
    refine wpF_seq ?_
    refine wpF_block ?_
    refine wpF_seq ?_
    refine wpF_cut (fun f H => f 1 = I ((sg : Int)) ∧ f 2 = vf ∧ f 3 = vk ∧ f 8 = PT g1 0 ∧ f 10 = (Value.map (some r6)) ∧ f 11 = PT g14 0 ∧ f 13 = I (nth L i) ∧ f 14 = vr ∧ f 15 = I ((c : Int)) ∧ f 25 = v5 ∧ f 26 = I ((L.length : Int)) ∧ f 27 = I ((i : Int)) ∧ f 31 = I ((sg : Int)) ∧ f 32 = I ((c : Int)) ∧ H30 = H) ?_ ?_
    · refine wpF_region ?_
      refine wpL_q (U := NoB) rfl (q_move (v := I ((c : Int))) rfl a31_32) ?_
      refine wpL_q (U := NoB) rfl (q_assign (v := I ((c : Int))) rfl rfl) ?_
      exact ⟨a31_1, a31_2, a31_3, a31_8, a31_10, a31_11, a31_13, a31_14, rfl, a31_25, a31_26, a31_27, a31_31, a31_32, rfl⟩
    rintro f33 _ ⟨a33_1, a33_2, a33_3, a33_8, a33_10, a33_11, a33_13, a33_14, a33_15, a33_25, a33_26, a33_27, a33_31, a33_32, rfl⟩
    clear a31_1 a31_10 a31_11 a31_13 a31_14 a31_2 a31_25 a31_26 a31_27 a31_3 a31_31 a31_32 a31_33 a31_8
    refine wpF_cut (fun f H => ∃ (v43 : Value), f 1 = I ((sg : Int)) ∧ f 2 = vf ∧ f 3 = vk ∧ f 8 = PT g1 0 ∧ f 10 = (Value.map (some r6)) ∧ f 11 = PT g14 0 ∧ f 13 = I (nth L i) ∧ f 14 = v43 ∧ f 25 = v5 ∧ f 26 = I ((L.length : Int)) ∧ f 27 = I ((i : Int)) ∧ f 31 = I ((sg : Int)) ∧ f 32 = I ((c : Int)) ∧ St H0 NoB (fun b => S b ∧ b < H0.size) [rowE 3 v43 (rowM (mget mm) nx (nth L i) (c + 1) : List Int), rowE 22 v1 ((L.take i).map fun x => rowM (mget mm) nx x sg : List (List Int)), rowE 4 v2 ((L.take i).map tk : List Bool), blkE g14 (.cells #[I ((sg : Int)), v1, v2] 36), rdE v5 L, mapE r6 (mm : List (Int × Int)), blkE g1 (.cells #[I (0), (Value.slice none 0 0), (Value.slice none 0 0)] 36)] H) ?_ ?_
    · refine wpF_region ?_
      refine wpL_q (U := NoB) rfl (q_move (v := vr) rfl a33_14) ?_
      refine wpL_q (U := NoB) rfl (q_move (v := (Value.map (some r6))) rfl a33_10) ?_
      refine wpL_q (U := NoB) rfl (q_move (v := vf) rfl a33_2) ?_
      refine wpL_q (U := NoB) rfl (q_move (v := I (nth L i)) rfl a33_13) ?_
      refine wpL_q (U := NoB) rfl (q_move (v := I ((c : Int))) rfl a33_15) ?_
      refine wpL_o rfl ?_
      refine e_callF rfl rfl (arr2 (v0 := I (nth L i)) (v1 := I ((c : Int))) rfl rfl) (hf _ _ hiX (by omega) (by omega) _ hS30.frame) ?_
      rintro _ H34 ⟨hxx, rfl⟩
      have hS35 : St H0 NoB (fun b => S b ∧ b < H0.size) [rowE 3 vr (rowM (mget mm) nx (nth L i) c : List Int), rowE 22 v1 ((L.take i).map fun x => rowM (mget mm) nx x sg : List (List Int)), rowE 4 v2 ((L.take i).map tk : List Bool), blkE g14 (.cells #[I ((sg : Int)), v1, v2] 36), rdE v5 L, mapE r6 (mm : List (Int × Int)), blkE g1 (.cells #[I (0), (Value.slice none 0 0), (Value.slice none 0 0)] 36)] H34 := hS30.ext hxx
      obtain ⟨u37, hlu37, hru37⟩ := lookD (t := 104) (d := (0 : Int)) Try.underlying104 (keyLaw_int Try.underlying3) Try.zeroValue3 (fun _ _ => Rd.int.2 ⟨rfl, by decide⟩) (nx (nth L i) (c : Int)) (hS35.get 5 rfl)
      obtain ⟨rfl, hiu37⟩ := Rd.int.1 hru37
      refine wpL_q (U := NoB) rfl (q_lookup0 rfl rfl rfl (hlu37 _ (fun h => h))) ?_
      refine wpL_o rfl ?_
      refine e_buildSlice (vs := [I ((mget mm (nx (nth L i) (c : Int))).getD 0)]) (xs := ([(mget mm (nx (nth L i) (c : Int))).getD 0] : List Int)) rfl Try.underlying22 Try.zeroValue3 rfl Try.sizeOf3 (par1 (v0 := I ((mget mm (nx (nth L i) (c : Int))).getD 0)) rfl) rfl hS35 (RdVs.cons (Rd.int.2 ⟨rfl, by constructor <;> omega⟩) (RdVs.nil)) (by decide) (by decide) (fun v38 H39 hS40 hxx hvv38 => ?_)
      replace hS40 : St H0 NoB (fun b => S b ∧ b < H0.size) [rowE 3 v38 ([(mget mm (nx (nth L i) (c : Int))).getD 0] : List Int), rowE 3 vr (rowM (mget mm) nx (nth L i) c : List Int), rowE 22 v1 ((L.take i).map fun x => rowM (mget mm) nx x sg : List (List Int)), rowE 4 v2 ((L.take i).map tk : List Bool), blkE g14 (.cells #[I ((sg : Int)), v1, v2] 36), rdE v5 L, mapE r6 (mm : List (Int × Int)), blkE g1 (.cells #[I (0), (Value.slice none 0 0), (Value.slice none 0 0)] 36)] H39 := hS40
      have hS41 : St H0 NoB (fun b => S b ∧ b < H0.size) [rdE v38 ([(mget mm (nx (nth L i) (c : Int))).getD 0] : List Int), rowE 3 vr (rowM (mget mm) nx (nth L i) c : List Int), rowE 22 v1 ((L.take i).map fun x => rowM (mget mm) nx x sg : List (List Int)), rowE 4 v2 ((L.take i).map tk : List Bool), blkE g14 (.cells #[I ((sg : Int)), v1, v2] 36), rdE v5 L, mapE r6 (mm : List (Int × Int)), blkE g1 (.cells #[I (0), (Value.slice none 0 0), (Value.slice none 0 0)] 36)] H39 := St.fin hS40
      have hS42 : St H0 NoB (fun b => S b ∧ b < H0.size) [rowE 3 vr (rowM (mget mm) nx (nth L i) c : List Int), rdE v38 ([(mget mm (nx (nth L i) (c : Int))).getD 0] : List Int), rowE 22 v1 ((L.take i).map fun x => rowM (mget mm) nx x sg : List (List Int)), rowE 4 v2 ((L.take i).map tk : List Bool), blkE g14 (.cells #[I ((sg : Int)), v1, v2] 36), rdE v5 L, mapE r6 (mm : List (Int × Int)), blkE g1 (.cells #[I (0), (Value.slice none 0 0), (Value.slice none 0 0)] 36)] H39 := (hS41.front 1 rfl)
      refine wpL_o rfl ?_
      refine e_append rfl Try.underlying22 em_Int_3_AutoL1 rfl rfl hS42 (hS42.rdS 1 rfl) (fun _ h => h) (by have hb : GoT.bytes Int = 8 := rfl; simp [rowM_len, hb]; omega) (by decide) (fun v43 H44 hS45 hxx => ?_)
      replace hS45 : St H0 NoB (fun b => S b ∧ b < H0.size) [rowE 3 v43 ((rowM (mget mm) nx (nth L i) c) ++ ([(mget mm (nx (nth L i) (c : Int))).getD 0]) : List Int), rdE v38 ([(mget mm (nx (nth L i) (c : Int))).getD 0] : List Int), rowE 22 v1 ((L.take i).map fun x => rowM (mget mm) nx x sg : List (List Int)), rowE 4 v2 ((L.take i).map tk : List Bool), blkE g14 (.cells #[I ((sg : Int)), v1, v2] 36), rdE v5 L, mapE r6 (mm : List (Int × Int)), blkE g1 (.cells #[I (0), (Value.slice none 0 0), (Value.slice none 0 0)] 36)] H44 := hS45
      have hS46 : St H0 NoB (fun b => S b ∧ b < H0.size) [rowE 3 v43 (rowM (mget mm) nx (nth L i) (c + 1) : List Int), rdE v38 ([(mget mm (nx (nth L i) (c : Int))).getD 0] : List Int), rowE 22 v1 ((L.take i).map fun x => rowM (mget mm) nx x sg : List (List Int)), rowE 4 v2 ((L.take i).map tk : List Bool), blkE g14 (.cells #[I ((sg : Int)), v1, v2] 36), rdE v5 L, mapE r6 (mm : List (Int × Int)), blkE g1 (.cells #[I (0), (Value.slice none 0 0), (Value.slice none 0 0)] 36)] H44 := by rw [show (rowM (mget mm) nx (nth L i) (c + 1)) = ((rowM (mget mm) nx (nth L i) c) ++ ([(mget mm (nx (nth L i) (c : Int))).getD 0])) from rowM_next]; exact hS45
      refine wpL_q (U := NoB) rfl (q_assign (v := v43) rfl rfl) ?_
      exact ⟨v43, a33_1, a33_2, a33_3, a33_8, a33_10, a33_11, a33_13, rfl, a33_25, a33_26, a33_27, a33_31, a33_32, (hS46.drop (sk (sn (sk (sk (sk (sk (sk (sk (List.Sublist.slnil))))))))))⟩
    rintro f47 H47 ⟨v43, a47_1, a47_2, a47_3, a47_8, a47_10, a47_11, a47_13, a47_14, a47_25, a47_26, a47_27, a47_31, a47_32, hS47⟩
    clear a33_1 a33_10 a33_11 a33_13 a33_14 a33_15 a33_2 a33_25 a33_26 a33_27 a33_3 a33_31 a33_32 a33_8
    refine wpF_cut (fun f H => f 1 = I ((sg : Int)) ∧ f 2 = vf ∧ f 3 = vk ∧ f 8 = PT g1 0 ∧ f 10 = (Value.map (some r6)) ∧ f 11 = PT g14 0 ∧ f 13 = I (nth L i) ∧ f 14 = v43 ∧ f 25 = v5 ∧ f 26 = I ((L.length : Int)) ∧ f 27 = I ((i : Int)) ∧ f 31 = I ((sg : Int)) ∧ f 32 = I ((c : Int) + 1) ∧ H47 = H) ?_ ?_
    · refine wpF_region ?_
      refine wpL_q (U := NoB) rfl (q_add rfl a47_32 rfl (by constructor <;> omega)) ?_
      refine wpL_q (U := NoB) rfl (q_move (v := I ((c : Int) + 1)) rfl rfl) ?_
      exact ⟨a47_1, a47_2, a47_3, a47_8, a47_10, a47_11, a47_13, a47_14, a47_25, a47_26, a47_27, a47_31, rfl, rfl⟩
    rintro f48 _ ⟨a48_1, a48_2, a48_3, a48_8, a48_10, a48_11, a48_13, a48_14, a48_25, a48_26, a48_27, a48_31, a48_32, rfl⟩
    clear a47_1 a47_10 a47_11 a47_13 a47_14 a47_2 a47_25 a47_26 a47_27 a47_3 a47_31 a47_32 a47_8
    refine ⟨_, ?_, c + 1, v43, rfl, (by omega), a48_1, a48_2, a48_3, a48_8, a48_10, a48_11, a48_13, a48_14, a48_25, a48_26, a48_27, a48_31, (Eq.trans a48_32 (congrArg I (by omega))), hS47⟩
    omega
  have hce : c = sg := by omega
  refine wpF_exit ?_
  refine atX_here ?_
  refine wpF_cut (fun f H => ∃ (v49o4 : Value), ∃ (v49o11 : Value), f 1 = I ((sg : Int)) ∧ f 2 = vf ∧ f 3 = vk ∧ f 8 = PT g1 0 ∧ f 10 = (Value.map (some r6)) ∧ f 11 = PT g14 0 ∧ f 25 = v5 ∧ f 26 = I ((L.length : Int)) ∧ f 27 = I ((i : Int)) ∧ St H0 NoB (fun b => S b ∧ b < H0.size) [blkE g14 (.cells #[I ((sg : Int)), v49o4, v49o11] 36), rowE 4 v49o11 ((L.take (i + 1)).map tk : List Bool), rowE 22 v49o4 ((L.take (i + 1)).map fun x => rowM (mget mm) nx x sg : List (List Int)), rdE v5 L, mapE r6 (mm : List (Int × Int)), blkE g1 (.cells #[I (0), (Value.slice none 0 0), (Value.slice none 0 0)] 36)] H) ?_ ?_
  · refine wpF_drawn [none, none, none, none, some 0, none, none, none, none, none, none, some 1, none, some 2, none, some 3] [[], [], [], [], [], [0], [0], [0], [0], [], [], [], [1], [], [], []] (fun l b => match l with | 0 => rowB v1 b | 1 => rowB v2 b | 2 => True | 3 => True | _ => False) (by kernel_rfl) (by kernel_rfl) ?_
    refine wpR_q 0 (by kernel_rfl) rfl (quietAt rfl rfl (q_fieldAddr rfl Try.underlying36 rfl Try.sizeOf27 a31_11)) ?_
    refine wpR_q 1 (by kernel_rfl) rfl (quietAt rfl rfl (q_loadBlk rfl rfl Try.isAgg27 (hS30.blk 3 rfl) rfl (labU_not [] rfl (List.forall_mem_nil _)))) ?_
    refine wpR_q 2 (by kernel_rfl) rfl (quietAt rfl rfl (q_move (v := vr) rfl a31_14)) ?_
    refine wpR_q 5 (by kernel_rfl) rfl (quietAt rfl rfl (q_fieldAddr rfl Try.underlying36 rfl Try.sizeOf32 a31_11)) ?_
    refine wpR_q 6 (by kernel_rfl) rfl (quietAt rfl rfl (q_loadBlk rfl rfl Try.isAgg32 (hS30.blk 3 rfl) rfl (labU_not [0] rfl (List.forall_mem_cons.2 ⟨fun hb => hS30.dis 1 3 (by decide) rfl rfl _ hb rfl, List.forall_mem_nil _⟩)))) ?_
    refine wpR_q 7 (by kernel_rfl) rfl (quietAt rfl rfl (q_move (v := vk) rfl a31_3)) ?_
    refine wpR_q 8 (by kernel_rfl) rfl (quietAt rfl rfl (q_move (v := I (nth L i)) rfl a31_13)) ?_
    refine wpR_n [3] (by kernel_rfl) ?_
    refine List.forall_mem_cons.2 ⟨?_, List.forall_mem_nil _⟩
    have hS49o3 : St H0 NoB (fun b => S b ∧ b < H0.size) [rdE vr (rowM (mget mm) nx (nth L i) c), rowE 22 v1 ((L.take i).map fun x => rowM (mget mm) nx x sg : List (List Int)), rowE 4 v2 ((L.take i).map tk : List Bool), blkE g14 (.cells #[I ((sg : Int)), v1, v2] 36), rdE v5 L, mapE r6 (mm : List (Int × Int)), blkE g1 (.cells #[I (0), (Value.slice none 0 0), (Value.slice none 0 0)] 36)] H30 := St.fin hS30
    refine exE rfl rfl ?_
    refine e_buildSlice (vs := [vr]) (xs := ([rowM (mget mm) nx (nth L i) c] : List (List Int))) rfl Try.underlying27 Try.zeroValue22 rfl Try.sizeOf22 (par1 (v0 := vr) rfl) rfl hS49o3 (RdVs.cons (hS49o3.rdS 0 rfl) (RdVs.nil)) (by decide) (by decide) (fun v49o3 H49o3 hS49o3x2 hxx hvv49o3 => ?_)
    replace hS49o3x2 : St H0 NoB (fun b => S b ∧ b < H0.size) [rowE 22 v49o3 ([rowM (mget mm) nx (nth L i) c] : List (List Int)), rdE vr (rowM (mget mm) nx (nth L i) c), rowE 22 v1 ((L.take i).map fun x => rowM (mget mm) nx x sg : List (List Int)), rowE 4 v2 ((L.take i).map tk : List Bool), blkE g14 (.cells #[I ((sg : Int)), v1, v2] 36), rdE v5 L, mapE r6 (mm : List (Int × Int)), blkE g1 (.cells #[I (0), (Value.slice none 0 0), (Value.slice none 0 0)] 36)] H49o3 := hS49o3x2
    refine ⟨Ext.mono hxx (fun _ h => h.elim), ?_⟩
    refine wpR_n [4] (by kernel_rfl) ?_
    refine List.forall_mem_cons.2 ⟨?_, List.forall_mem_nil _⟩
    have hS49o4 : St H0 NoB (fun b => S b ∧ b < H0.size) [rdE v49o3 ([rowM (mget mm) nx (nth L i) c] : List (List Int)), rdE vr (rowM (mget mm) nx (nth L i) c), rowE 22 v1 ((L.take i).map fun x => rowM (mget mm) nx x sg : List (List Int)), rowE 4 v2 ((L.take i).map tk : List Bool), blkE g14 (.cells #[I ((sg : Int)), v1, v2] 36), rdE v5 L, mapE r6 (mm : List (Int × Int)), blkE g1 (.cells #[I (0), (Value.slice none 0 0), (Value.slice none 0 0)] 36)] H49o3 := St.fin hS49o3x2
    have hS49o4x2 : St H0 NoB (fun b => S b ∧ b < H0.size) [rowE 22 v1 ((L.take i).map fun x => rowM (mget mm) nx x sg : List (List Int)), rdE v49o3 ([rowM (mget mm) nx (nth L i) c] : List (List Int)), rdE vr (rowM (mget mm) nx (nth L i) c), rowE 4 v2 ((L.take i).map tk : List Bool), blkE g14 (.cells #[I ((sg : Int)), v1, v2] 36), rdE v5 L, mapE r6 (mm : List (Int × Int)), blkE g1 (.cells #[I (0), (Value.slice none 0 0), (Value.slice none 0 0)] 36)] H49o3 := (hS49o4.front 2 rfl)
    refine exE rfl rfl ?_
    refine e_append rfl Try.underlying27 em_LInt_22_AutoL1 rfl rfl hS49o4x2 (hS49o4x2.rdS 1 rfl) (fun _ h => h) (by have hb : GoT.bytes (List Int) = 24 := rfl; simp [hb]; omega) (by decide) (fun v49o4 H49o4 hS49o4x3 hxx => ?_)
    replace hS49o4x3 : St H0 NoB (fun b => S b ∧ b < H0.size) [rowE 22 v49o4 (((L.take i).map fun x => rowM (mget mm) nx x sg) ++ ([rowM (mget mm) nx (nth L i) c]) : List (List Int)), rdE v49o3 ([rowM (mget mm) nx (nth L i) c] : List (List Int)), rdE vr (rowM (mget mm) nx (nth L i) c), rowE 4 v2 ((L.take i).map tk : List Bool), blkE g14 (.cells #[I ((sg : Int)), v1, v2] 36), rdE v5 L, mapE r6 (mm : List (Int × Int)), blkE g1 (.cells #[I (0), (Value.slice none 0 0), (Value.slice none 0 0)] 36)] H49o4 := hS49o4x3
    have hS49o4x4 : St H0 NoB (fun b => S b ∧ b < H0.size) [rowE 22 v49o4 ((L.take (i + 1)).map fun x => rowM (mget mm) nx x sg : List (List Int)), rdE v49o3 ([rowM (mget mm) nx (nth L i) c] : List (List Int)), rdE vr (rowM (mget mm) nx (nth L i) c), rowE 4 v2 ((L.take i).map tk : List Bool), blkE g14 (.cells #[I ((sg : Int)), v1, v2] 36), rdE v5 L, mapE r6 (mm : List (Int × Int)), blkE g1 (.cells #[I (0), (Value.slice none 0 0), (Value.slice none 0 0)] 36)] H49o4 := by rw [show ((L.take (i + 1)).map fun x => rowM (mget mm) nx x sg) = (((L.take i).map fun x => rowM (mget mm) nx x sg) ++ ([rowM (mget mm) nx (nth L i) c])) from (by rw [hce, take_succ_nth (by omega), List.map_append]; rfl)]; exact hS49o4x3
    refine ⟨Ext.mono hxx (labS_of 0 rfl (fun b hb => hb)), ?_⟩
    refine wpR_q 12 (by kernel_rfl) rfl (quietAt rfl rfl (q_fieldAddr rfl Try.underlying36 rfl Try.sizeOf27 a31_11)) ?_
    refine wpR_n [9] (by kernel_rfl) ?_
    refine List.forall_mem_cons.2 ⟨?_, List.forall_mem_nil _⟩
    refine exE rfl rfl ?_
    refine e_callF rfl rfl (arr1 (v0 := I (nth L i)) rfl) (hk _ hiX _ hS49o4x4.frame) ?_
    rintro _ H49o9 ⟨hxx, rfl⟩
    have hS49o9 : St H0 NoB (fun b => S b ∧ b < H0.size) [rowE 22 v49o4 ((L.take (i + 1)).map fun x => rowM (mget mm) nx x sg : List (List Int)), rdE v49o3 ([rowM (mget mm) nx (nth L i) c] : List (List Int)), rdE vr (rowM (mget mm) nx (nth L i) c), rowE 4 v2 ((L.take i).map tk : List Bool), blkE g14 (.cells #[I ((sg : Int)), v1, v2] 36), rdE v5 L, mapE r6 (mm : List (Int × Int)), blkE g1 (.cells #[I (0), (Value.slice none 0 0), (Value.slice none 0 0)] 36)] H49o9 := hS49o4x4.ext hxx
    refine ⟨Ext.mono hxx (fun _ h => h.elim), ?_⟩
    refine wpR_n [10] (by kernel_rfl) ?_
    refine List.forall_mem_cons.2 ⟨?_, List.forall_mem_nil _⟩
    refine exE rfl rfl ?_
    refine e_buildSlice (vs := [B (tk (nth L i))]) (xs := ([tk (nth L i)] : List Bool)) rfl Try.underlying32 Try.zeroValue4 rfl Try.sizeOf4 (par1 (v0 := B (tk (nth L i))) rfl) rfl hS49o9 (RdVs.cons (Rd.bool.2 rfl) (RdVs.nil)) (by decide) (by decide) (fun v49o10 H49o10 hS49o10 hxx hvv49o10 => ?_)
    replace hS49o10 : St H0 NoB (fun b => S b ∧ b < H0.size) [rowE 4 v49o10 ([tk (nth L i)] : List Bool), rowE 22 v49o4 ((L.take (i + 1)).map fun x => rowM (mget mm) nx x sg : List (List Int)), rdE v49o3 ([rowM (mget mm) nx (nth L i) c] : List (List Int)), rdE vr (rowM (mget mm) nx (nth L i) c), rowE 4 v2 ((L.take i).map tk : List Bool), blkE g14 (.cells #[I ((sg : Int)), v1, v2] 36), rdE v5 L, mapE r6 (mm : List (Int × Int)), blkE g1 (.cells #[I (0), (Value.slice none 0 0), (Value.slice none 0 0)] 36)] H49o10 := hS49o10
    refine ⟨Ext.mono hxx (fun _ h => h.elim), ?_⟩
    refine wpR_n [11] (by kernel_rfl) ?_
    refine List.forall_mem_cons.2 ⟨?_, List.forall_mem_nil _⟩
    have hS49o11 : St H0 NoB (fun b => S b ∧ b < H0.size) [rdE v49o10 ([tk (nth L i)] : List Bool), rowE 22 v49o4 ((L.take (i + 1)).map fun x => rowM (mget mm) nx x sg : List (List Int)), rdE v49o3 ([rowM (mget mm) nx (nth L i) c] : List (List Int)), rdE vr (rowM (mget mm) nx (nth L i) c), rowE 4 v2 ((L.take i).map tk : List Bool), blkE g14 (.cells #[I ((sg : Int)), v1, v2] 36), rdE v5 L, mapE r6 (mm : List (Int × Int)), blkE g1 (.cells #[I (0), (Value.slice none 0 0), (Value.slice none 0 0)] 36)] H49o10 := St.fin hS49o10
    have hS49o11x2 : St H0 NoB (fun b => S b ∧ b < H0.size) [rowE 4 v2 ((L.take i).map tk : List Bool), rdE v49o10 ([tk (nth L i)] : List Bool), rowE 22 v49o4 ((L.take (i + 1)).map fun x => rowM (mget mm) nx x sg : List (List Int)), rdE v49o3 ([rowM (mget mm) nx (nth L i) c] : List (List Int)), rdE vr (rowM (mget mm) nx (nth L i) c), blkE g14 (.cells #[I ((sg : Int)), v1, v2] 36), rdE v5 L, mapE r6 (mm : List (Int × Int)), blkE g1 (.cells #[I (0), (Value.slice none 0 0), (Value.slice none 0 0)] 36)] H49o10 := (hS49o11.front 4 rfl)
    refine exE rfl rfl ?_
    refine e_append rfl Try.underlying32 em_Bool_4_AutoL1 rfl rfl hS49o11x2 (hS49o11x2.rdS 1 rfl) (fun _ h => h) (by have hb : GoT.bytes Bool = 1 := rfl; simp [hb]; omega) (by decide) (fun v49o11 H49o11 hS49o11x3 hxx => ?_)
    replace hS49o11x3 : St H0 NoB (fun b => S b ∧ b < H0.size) [rowE 4 v49o11 (((L.take i).map tk) ++ ([tk (nth L i)]) : List Bool), rdE v49o10 ([tk (nth L i)] : List Bool), rowE 22 v49o4 ((L.take (i + 1)).map fun x => rowM (mget mm) nx x sg : List (List Int)), rdE v49o3 ([rowM (mget mm) nx (nth L i) c] : List (List Int)), rdE vr (rowM (mget mm) nx (nth L i) c), blkE g14 (.cells #[I ((sg : Int)), v1, v2] 36), rdE v5 L, mapE r6 (mm : List (Int × Int)), blkE g1 (.cells #[I (0), (Value.slice none 0 0), (Value.slice none 0 0)] 36)] H49o11 := hS49o11x3
    have hS49o11x4 : St H0 NoB (fun b => S b ∧ b < H0.size) [rowE 4 v49o11 ((L.take (i + 1)).map tk : List Bool), rdE v49o10 ([tk (nth L i)] : List Bool), rowE 22 v49o4 ((L.take (i + 1)).map fun x => rowM (mget mm) nx x sg : List (List Int)), rdE v49o3 ([rowM (mget mm) nx (nth L i) c] : List (List Int)), rdE vr (rowM (mget mm) nx (nth L i) c), blkE g14 (.cells #[I ((sg : Int)), v1, v2] 36), rdE v5 L, mapE r6 (mm : List (Int × Int)), blkE g1 (.cells #[I (0), (Value.slice none 0 0), (Value.slice none 0 0)] 36)] H49o11 := by rw [show ((L.take (i + 1)).map tk) = (((L.take i).map tk) ++ ([tk (nth L i)])) from (by rw [take_succ_nth (by omega), List.map_append]; rfl)]; exact hS49o11x3
    refine ⟨Ext.mono hxx (labS_of 1 rfl (fun b hb => hb)), ?_⟩
    refine wpR_n [13] (by kernel_rfl) ?_
    refine List.forall_mem_cons.2 ⟨?_, List.forall_mem_nil _⟩
    refine exE rfl rfl ?_
    refine e_storeBlk (v := v49o4) rfl rfl rfl (oneCell_rdL (hS49o11x4.rowl 2 rfl)) Try.sizeOf27 (by show _ < 3; decide) (hS49o11x4.front 5 rfl) (fun H49o13 hS49o13 hxx => ?_)
    replace hS49o13 : St H0 NoB (fun b => S b ∧ b < H0.size) [blkE g14 (.cells #[I ((sg : Int)), v49o4, v2] 36), rowE 4 v49o11 ((L.take (i + 1)).map tk : List Bool), rdE v49o10 ([tk (nth L i)] : List Bool), rowE 22 v49o4 ((L.take (i + 1)).map fun x => rowM (mget mm) nx x sg : List (List Int)), rdE v49o3 ([rowM (mget mm) nx (nth L i) c] : List (List Int)), rdE vr (rowM (mget mm) nx (nth L i) c), rdE v5 L, mapE r6 (mm : List (Int × Int)), blkE g1 (.cells #[I (0), (Value.slice none 0 0), (Value.slice none 0 0)] 36)] H49o13 := hS49o13
    refine ⟨Ext.mono hxx (labS_of 2 rfl (fun _ _ => trivial)), ?_⟩
    refine wpR_q 14 (by kernel_rfl) rfl (quietAt rfl rfl (q_fieldAddr rfl Try.underlying36 rfl Try.sizeOf32 a31_11)) ?_
    refine wpR_n [15] (by kernel_rfl) ?_
    refine List.forall_mem_cons.2 ⟨?_, List.forall_mem_nil _⟩
    refine exE rfl rfl ?_
    refine e_storeBlk (v := v49o11) rfl rfl rfl (oneCell_rdL (hS49o13.rowl 1 rfl)) Try.sizeOf32 (by show _ < 3; decide) hS49o13 (fun H49o15 hS49o15 hxx => ?_)
    replace hS49o15 : St H0 NoB (fun b => S b ∧ b < H0.size) [blkE g14 (.cells #[I ((sg : Int)), v49o4, v49o11] 36), rowE 4 v49o11 ((L.take (i + 1)).map tk : List Bool), rdE v49o10 ([tk (nth L i)] : List Bool), rowE 22 v49o4 ((L.take (i + 1)).map fun x => rowM (mget mm) nx x sg : List (List Int)), rdE v49o3 ([rowM (mget mm) nx (nth L i) c] : List (List Int)), rdE vr (rowM (mget mm) nx (nth L i) c), rdE v5 L, mapE r6 (mm : List (Int × Int)), blkE g1 (.cells #[I (0), (Value.slice none 0 0), (Value.slice none 0 0)] 36)] H49o15 := hS49o15
    refine ⟨Ext.mono hxx (labS_of 3 rfl (fun _ _ => trivial)), ?_⟩
    refine wpR_end (by kernel_rfl) ?_
    exact ⟨v49o4, v49o11, a31_1, a31_2, a31_3, a31_8, a31_10, a31_11, a31_25, a31_26, a31_27, (hS49o15.drop (sk (sk (sn (sk (sn (sn (sk (sk (sk (List.Sublist.slnil)))))))))))⟩
  rintro f50 H50 ⟨v49o4, v49o11, a50_1, a50_2, a50_3, a50_8, a50_10, a50_11, a50_25, a50_26, a50_27, hS50⟩
  clear a31_1 a31_10 a31_11 a31_13 a31_14 a31_2 a31_25 a31_26 a31_27 a31_3 a31_31 a31_32 a31_33 a31_8
  refine wpF_cut (fun f H => f 1 = I ((sg : Int)) ∧ f 2 = vf ∧ f 3 = vk ∧ f 8 = PT g1 0 ∧ f 10 = (Value.map (some r6)) ∧ f 11 = PT g14 0 ∧ f 25 = v5 ∧ f 26 = I ((L.length : Int)) ∧ f 27 = I ((i : Int) + 1) ∧ H50 = H) ?_ ?_
  · refine wpF_region ?_
    refine wpL_q (U := NoB) rfl (q_add rfl a50_27 rfl (by constructor <;> omega)) ?_
    refine wpL_q (U := NoB) rfl (q_move (v := I ((i : Int) + 1)) rfl rfl) ?_
    exact ⟨a50_1, a50_2, a50_3, a50_8, a50_10, a50_11, a50_25, a50_26, rfl, rfl⟩
  rintro f51 _ ⟨a51_1, a51_2, a51_3, a51_8, a51_10, a51_11, a51_25, a51_26, a51_27, rfl⟩
  clear a50_1 a50_10 a50_11 a50_2 a50_25 a50_26 a50_27 a50_3 a50_8
  refine ⟨_, ?_, i + 1, v49o4, v49o11, rfl, (by omega), a51_1, a51_2, a51_3, a51_8, a51_10, a51_11, a51_25, a51_26, (Eq.trans a51_27 (congrArg I (by omega))), (St.drop (show St H0 NoB (fun b => S b ∧ b < H0.size) [rowE 22 v49o4 ((L.take (i + 1)).map fun x => rowM (mget mm) nx x sg : List (List Int)), rowE 4 v49o11 ((L.take (i + 1)).map tk : List Bool), blkE g14 (.cells #[I ((sg : Int)), v49o4, v49o11] 36), rdE v5 L, mapE r6 (mm : List (Int × Int)), blkE g1 (.cells #[I (0), (Value.slice none 0 0), (Value.slice none 0 0)] 36)] H50 from ((hS50.front 1 rfl).front 2 rfl)) (sk (sk (sk (sk (sk (sk (List.Sublist.slnil))))))))⟩
  omega

theorem built_Iw {H0 : Heap} {S : Nat → Prop} (vf vk : Value) (s : Int) (sg : Nat) (nx : Int → Int → Int) (tk : Int → Bool) (inv : Int → Prop) (sgI : Int) (hI : sgI = (sg : Int)) (h0 : inv s) (hin : ∀ (x : Int) (c : Int), inv x → 0 ≤ c → c < (sg : Int) → inv (nx x c)) (h64 : ∀ x, inv x → In64 x) (hfew : ∀ L : List (Int), L.Nodup → (∀ x ∈ L, inv x) → L.length ≤ 2000) (hsg : sg ≤ 1000) (hf : ∀ (x : Int) (c : Int), inv x → 0 ≤ c → c < (sg : Int) → ∀ H, Ext NoB H0 H → FnH Try.prog vf #[I x, I c] H (fun rv H' => Ext NoB H H' ∧ rv = I (nx x c))) (hk : ∀ x, inv x → ∀ H, Ext NoB H0 H → FnH Try.prog vk #[I x] H (fun rv H' => Ext NoB H H' ∧ rv = B (tk x))) : CallsH Try.prog 69 #[I (s), I sgI, vf, vk] H0 (fun rv_ H' => Ext NoB H0 H' ∧ ∃ w1_ w2_, rv_ = Value.agg #[I (sg : Int), w1_, w2_] ∧ Rd (fun b => S b ∧ b < H0.size) H' w1_ (builtA nx sg (endL nx sg s) tk).Next ∧ Rd (fun b => S b ∧ b < H0.size) H' w2_ (builtA nx sg (endL nx sg s) tk).Takes) := by
  subst hI; exact built_I vf vk s sg nx tk inv h0 hin h64 hfew hsg hf hk

end Go.Um
