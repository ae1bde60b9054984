import Derived.Test.YtkhpaklglggagaaProg
import Derived.Test.YtkhpaklglggagaaAutoP1
import Derived.Test.YtkhpaklglggagaaUmSub
namespace Go.Um
open Go.Proofs
open GoT (sz ag rdc)
open KeyT (kv)

theorem el_IntInt_87_AutoP2 : ElT Try.prog (Int × Int) 87 := ⟨Try.isAgg87, Try.sizeOf87⟩
theorem em_IntInt_87_AutoP2 : ElemOk Try.prog (Int × Int) 87 := ⟨Try.t87, (.agg #[(.int .i64 0), (.int .i64 0)]), by kernel_rfl, by kernel_rfl, by kernel_rfl, by kernel_rfl, by kernel_rfl⟩
theorem keyLaw_pair_87_AutoP2 : KeyLaw Try.prog 87 (Int × Int) := keyLaw_pair (i := Try.t3) Try.underlying87 Try.underlying3 Try.isAgg3 Try.sizeOf3 (by kernel_rfl) (by kernel_rfl)

set_option maxRecDepth 100000 in
theorem found_P {H0 : Heap} {S : Nat → Prop} (vf : Value) (s : Int × Int) (sg : Nat) (nx : Int × Int → Int → Int × Int) (inv : Int × Int → Prop) (h0 : inv s) (hin : ∀ (x : Int × Int) (c : Int), inv x → 0 ≤ c → c < (sg : Int) → inv (nx x c)) (h64 : ∀ x, inv x → In64 x.1 ∧ In64 x.2) (hfew : ∀ L : List (Int × Int), L.Nodup → (∀ x ∈ L, inv x) → L.length ≤ 2000) (hsg : sg ≤ 1000) (hf : ∀ (x : Int × Int) (c : Int), inv x → 0 ≤ c → c < (sg : Int) → ∀ H, Ext NoB H0 H → FnH Try.prog vf #[Value.agg #[I x.1, I x.2], I c] H (fun rv H' => Ext NoB H H' ∧ rv = Value.agg #[I (nx x c).1, I (nx x c).2])) : CallsH Try.prog 60 #[Value.agg #[I (s.1), I (s.2)], I ((sg : Int)), vf] H0 (fun rv_ H' => Ext NoB H0 H' ∧ ∃ vl_ r_ m_ i_, rv_ = Value.tuple #[vl_, Value.map (some r_)] ∧ Ended nx sg s i_ ∧ Nums (bfs nx sg s i_) (mget m_) ∧ (∀ e ∈ [rdE vl_ (bfs nx sg s i_), mapE r_ (m_ : List ((Int × Int) × Int))], e.ok (SL (fun b => S b ∧ b < H0.size) [rdE vl_ (bfs nx sg s i_), mapE r_ m_]) H') ∧ ∀ b, own [rdE vl_ (bfs nx sg s i_), mapE r_ m_] b → H0.size ≤ b) := by
  have h6s := h64 _ h0
  have hS0 : St H0 NoB (fun b => S b ∧ b < H0.size) [] H0 := St.start (fun _ h => h.2)
  refine callsH_of_wpF (args := [Value.agg #[I (s.1), I (s.2)], I ((sg : Int)), vf]) (rs := [.tmp 6, .tmp 7]) Try.func60 rfl Try.ntmps60 Try.results60 (by kernel_rfl) (Nat.le_of_ble_eq_true rfl) ?_
  have a0_0 : argF [Value.agg #[I (s.1), I (s.2)], I ((sg : Int)), vf] 0 = Value.agg #[I (s.1), I (s.2)] := rfl
  have a0_1 : argF [Value.agg #[I (s.1), I (s.2)], I ((sg : Int)), vf] 1 = I ((sg : Int)) := rfl
  have a0_2 : argF [Value.agg #[I (s.1), I (s.2)], I ((sg : Int)), vf] 2 = vf := rfl
  generalize argF [Value.agg #[I (s.1), I (s.2)], I ((sg : Int)), vf] = f0 at *
  refine wpF_seq ?_
  refine wpF_cut (fun f H => ∃ (g1 : Nat), f 1 = I ((sg : Int)) ∧ f 2 = vf ∧ f 3 = PT g1 0 ∧ St H0 NoB (fun b => S b ∧ b < H0.size) [blkE g1 (.cells #[I (s.1), I (s.2)] 87)] H) ?_ ?_
  · refine wpF_region ?_
    refine wpL_o rfl ?_
    refine e_box (v := Value.agg #[I (s.1), I (s.2)]) rfl a0_0 hS0 (fun g1 H2 hS3 hxx => ?_)
    replace hS3 : St H0 NoB (fun b => S b ∧ b < H0.size) [blkE g1 (.cells #[I (s.1), I (s.2)] 87)] H2 := hS3
    refine wpL_q (U := NoB) rfl (q_assign (v := (Value.slice none 0 0)) rfl rfl) ?_
    refine wpL_q (U := NoB) rfl (q_assign (v := (Value.map none)) rfl rfl) ?_
    exact ⟨g1, a0_1, a0_2, rfl, hS3⟩
  rintro f4 H4 ⟨g1, a4_1, a4_2, a4_3, hS4⟩
  clear a0_0 a0_1 a0_2
  refine wpF_seq ?_
  refine wpF_cut (fun f H => ∃ (v5o1 : Value), ∃ (r5o2 : Nat), f 1 = I ((sg : Int)) ∧ f 2 = vf ∧ f 8 = v5o1 ∧ f 9 = (Value.map (some r5o2)) ∧ St H0 NoB (fun b => S b ∧ b < H0.size) [mapE r5o2 (mset ([]) (s.1, s.2) 0 : List ((Int × Int) × Int)), rowE 87 v5o1 ([(s.1, s.2)] : List (Int × Int)), blkE g1 (.cells #[I (s.1), I (s.2)] 87)] H) ?_ ?_
  · refine wpF_drawn [none, none, none, none, some 0, none, none, none] [[0], [0], [], [], [], [], [0], []] (fun l b => match l with | 0 => b ≠ g1 | _ => False) (by kernel_rfl) (by kernel_rfl) ?_
    refine wpR_q 0 (by kernel_rfl) rfl (quietAt rfl rfl (q_loadBlkA rfl a4_3 Try.isAgg87 Try.sizeOf87 rfl (hS4.blk 0 rfl) (labU_not [0] rfl (List.forall_mem_cons.2 ⟨fun hb => hb rfl, List.forall_mem_nil _⟩)))) ?_
    refine wpR_q 3 (by kernel_rfl) rfl (quietAt rfl rfl (q_loadBlkA rfl a4_3 Try.isAgg87 Try.sizeOf87 rfl (hS4.blk 0 rfl) (labU_not [] rfl (List.forall_mem_nil _)))) ?_
    refine wpR_n [1, 2] (by kernel_rfl) ?_
    refine List.forall_mem_cons.2 ⟨?_, List.forall_mem_cons.2 ⟨?_, List.forall_mem_nil _⟩⟩
    · refine exE rfl rfl ?_
      refine e_buildSlice (vs := [Value.agg #[I (s.1), I (s.2)]]) (xs := ([(s.1, s.2)] : List (Int × Int))) rfl Try.underlying83 Try.zeroValue87 rfl Try.sizeOf87 (par1 (v0 := Value.agg #[I (s.1), I (s.2)]) rfl) rfl hS4 (RdVs.cons (Rd.pair.2 ⟨rfl, by constructor <;> omega, by constructor <;> omega⟩) (RdVs.nil)) (by decide) (by decide) (fun v5o1 H5o1 hS5o1 hxx hvv5o1 => ?_)
      replace hS5o1 : St H0 NoB (fun b => S b ∧ b < H0.size) [rowE 87 v5o1 ([(s.1, s.2)] : List (Int × Int)), blkE g1 (.cells #[I (s.1), I (s.2)] 87)] H5o1 := hS5o1
      refine ⟨Ext.mono hxx (fun _ h => h.elim), ?_⟩
      refine wpR_q 6 (by kernel_rfl) rfl (quietAt rfl rfl (q_assign (v := v5o1) rfl rfl)) ?_
      refine wpR_n [2] (by kernel_rfl) ?_
      refine List.forall_mem_cons.2 ⟨?_, List.forall_mem_nil _⟩
      refine exE rfl rfl ?_
      refine e_makeMap (κ := Int × Int) (β := Int) rfl hS5o1 (fun r5o2 H5o2 hS5o2 hxx => ?_)
      replace hS5o2 : St H0 NoB (fun b => S b ∧ b < H0.size) [mapE r5o2 ([] : List ((Int × Int) × Int)), rowE 87 v5o1 ([(s.1, s.2)] : List (Int × Int)), blkE g1 (.cells #[I (s.1), I (s.2)] 87)] H5o2 := hS5o2
      refine ⟨Ext.mono hxx (fun _ h => h.elim), ?_⟩
      refine wpR_n [4] (by kernel_rfl) ?_
      refine List.forall_mem_cons.2 ⟨?_, List.forall_mem_nil _⟩
      have hS5o4 : St H0 NoB (fun b => S b ∧ b < H0.size) [mapE r5o2 ([] : List ((Int × Int) × Int)), rowE 87 v5o1 ([(s.1, s.2)] : List (Int × Int)), blkE g1 (.cells #[I (s.1), I (s.2)] 87)] H5o2 := hS5o2
      refine exE rfl rfl ?_
      refine e_mapUpdate (k := (s.1, s.2)) (.inr rfl) Try.underlying84 (keyLaw_pair_87_AutoP2) rfl rfl rfl hS5o4 (Rd.int.2 ⟨rfl, by constructor <;> omega⟩) (fun H5o4 hS5o4x2 hxx => ?_)
      replace hS5o4x2 : St H0 NoB (fun b => S b ∧ b < H0.size) [mapE r5o2 (mset ([]) (s.1, s.2) 0 : List ((Int × Int) × Int)), rowE 87 v5o1 ([(s.1, s.2)] : List (Int × Int)), blkE g1 (.cells #[I (s.1), I (s.2)] 87)] H5o4 := hS5o4x2
      refine ⟨Ext.mono hxx (labS_of 0 rfl (fun b hb => fun e => hS5o4x2.dis 0 2 (by decide) rfl rfl _ hb e)), ?_⟩
      refine wpR_q 5 (by kernel_rfl) rfl (quietAt rfl rfl (q_move (v := (Value.map (some r5o2))) rfl rfl)) ?_
      refine wpR_q 7 (by kernel_rfl) rfl (quietAt rfl rfl (q_assign (v := (Value.map (some r5o2))) rfl rfl)) ?_
      refine wpR_end (by kernel_rfl) ?_
      exact ⟨v5o1, r5o2, a4_1, a4_2, rfl, rfl, hS5o4x2⟩
    · refine exE rfl rfl ?_
      refine e_makeMap (κ := Int × Int) (β := Int) rfl hS4 (fun r5o2 H5o2 hS5o2 hxx => ?_)
      replace hS5o2 : St H0 NoB (fun b => S b ∧ b < H0.size) [mapE r5o2 ([] : List ((Int × Int) × Int)), blkE g1 (.cells #[I (s.1), I (s.2)] 87)] H5o2 := hS5o2
      refine ⟨Ext.mono hxx (fun _ h => h.elim), ?_⟩
      refine wpR_n [1, 4] (by kernel_rfl) ?_
      refine List.forall_mem_cons.2 ⟨?_, List.forall_mem_cons.2 ⟨?_, List.forall_mem_nil _⟩⟩
      · refine exE rfl rfl ?_
        refine e_buildSlice (vs := [Value.agg #[I (s.1), I (s.2)]]) (xs := ([(s.1, s.2)] : List (Int × Int))) rfl Try.underlying83 Try.zeroValue87 rfl Try.sizeOf87 (par1 (v0 := Value.agg #[I (s.1), I (s.2)]) rfl) rfl hS5o2 (RdVs.cons (Rd.pair.2 ⟨rfl, by constructor <;> omega, by constructor <;> omega⟩) (RdVs.nil)) (by decide) (by decide) (fun v5o1 H5o1 hS5o1 hxx hvv5o1 => ?_)
        replace hS5o1 : St H0 NoB (fun b => S b ∧ b < H0.size) [rowE 87 v5o1 ([(s.1, s.2)] : List (Int × Int)), mapE r5o2 ([] : List ((Int × Int) × Int)), blkE g1 (.cells #[I (s.1), I (s.2)] 87)] H5o1 := hS5o1
        refine ⟨Ext.mono hxx (fun _ h => h.elim), ?_⟩
        refine wpR_q 6 (by kernel_rfl) rfl (quietAt rfl rfl (q_assign (v := v5o1) rfl rfl)) ?_
        refine wpR_n [4] (by kernel_rfl) ?_
        refine List.forall_mem_cons.2 ⟨?_, List.forall_mem_nil _⟩
        have hS5o4 : St H0 NoB (fun b => S b ∧ b < H0.size) [mapE r5o2 ([] : List ((Int × Int) × Int)), rowE 87 v5o1 ([(s.1, s.2)] : List (Int × Int)), blkE g1 (.cells #[I (s.1), I (s.2)] 87)] H5o1 := (hS5o1.front 1 rfl)
        refine exE rfl rfl ?_
        refine e_mapUpdate (k := (s.1, s.2)) (.inr rfl) Try.underlying84 (keyLaw_pair_87_AutoP2) rfl rfl rfl hS5o4 (Rd.int.2 ⟨rfl, by constructor <;> omega⟩) (fun H5o4 hS5o4x2 hxx => ?_)
        replace hS5o4x2 : St H0 NoB (fun b => S b ∧ b < H0.size) [mapE r5o2 (mset ([]) (s.1, s.2) 0 : List ((Int × Int) × Int)), rowE 87 v5o1 ([(s.1, s.2)] : List (Int × Int)), blkE g1 (.cells #[I (s.1), I (s.2)] 87)] H5o4 := hS5o4x2
        refine ⟨Ext.mono hxx (labS_of 0 rfl (fun b hb => fun e => hS5o4x2.dis 0 2 (by decide) rfl rfl _ hb e)), ?_⟩
        refine wpR_q 5 (by kernel_rfl) rfl (quietAt rfl rfl (q_move (v := (Value.map (some r5o2))) rfl rfl)) ?_
        refine wpR_q 7 (by kernel_rfl) rfl (quietAt rfl rfl (q_assign (v := (Value.map (some r5o2))) rfl rfl)) ?_
        refine wpR_end (by kernel_rfl) ?_
        exact ⟨v5o1, r5o2, a4_1, a4_2, rfl, rfl, hS5o4x2⟩
      · have hS5o4 : St H0 NoB (fun b => S b ∧ b < H0.size) [mapE r5o2 ([] : List ((Int × Int) × Int)), blkE g1 (.cells #[I (s.1), I (s.2)] 87)] H5o2 := hS5o2
        refine exE rfl rfl ?_
        refine e_mapUpdate (k := (s.1, s.2)) (.inr rfl) Try.underlying84 (keyLaw_pair_87_AutoP2) rfl rfl rfl hS5o4 (Rd.int.2 ⟨rfl, by constructor <;> omega⟩) (fun H5o4 hS5o4x2 hxx => ?_)
        replace hS5o4x2 : St H0 NoB (fun b => S b ∧ b < H0.size) [mapE r5o2 (mset ([]) (s.1, s.2) 0 : List ((Int × Int) × Int)), blkE g1 (.cells #[I (s.1), I (s.2)] 87)] H5o4 := hS5o4x2
        refine ⟨Ext.mono hxx (labS_of 0 rfl (fun b hb => fun e => hS5o4x2.dis 0 1 (by decide) rfl rfl _ hb e)), ?_⟩
        refine wpR_q 5 (by kernel_rfl) rfl (quietAt rfl rfl (q_move (v := (Value.map (some r5o2))) rfl rfl)) ?_
        refine wpR_n [1] (by kernel_rfl) ?_
        refine List.forall_mem_cons.2 ⟨?_, List.forall_mem_nil _⟩
        refine exE rfl rfl ?_
        refine e_buildSlice (vs := [Value.agg #[I (s.1), I (s.2)]]) (xs := ([(s.1, s.2)] : List (Int × Int))) rfl Try.underlying83 Try.zeroValue87 rfl Try.sizeOf87 (par1 (v0 := Value.agg #[I (s.1), I (s.2)]) rfl) rfl hS5o4x2 (RdVs.cons (Rd.pair.2 ⟨rfl, by constructor <;> omega, by constructor <;> omega⟩) (RdVs.nil)) (by decide) (by decide) (fun v5o1 H5o1 hS5o1 hxx hvv5o1 => ?_)
        replace hS5o1 : St H0 NoB (fun b => S b ∧ b < H0.size) [rowE 87 v5o1 ([(s.1, s.2)] : List (Int × Int)), mapE r5o2 (mset ([]) (s.1, s.2) 0 : List ((Int × Int) × Int)), blkE g1 (.cells #[I (s.1), I (s.2)] 87)] H5o1 := hS5o1
        refine ⟨Ext.mono hxx (fun _ h => h.elim), ?_⟩
        refine wpR_q 6 (by kernel_rfl) rfl (quietAt rfl rfl (q_assign (v := v5o1) rfl rfl)) ?_
        refine wpR_q 7 (by kernel_rfl) rfl (quietAt rfl rfl (q_assign (v := (Value.map (some r5o2))) rfl rfl)) ?_
        refine wpR_end (by kernel_rfl) ?_
        exact ⟨v5o1, r5o2, a4_1, a4_2, rfl, rfl, (St.drop (show St H0 NoB (fun b => S b ∧ b < H0.size) [mapE r5o2 (mset ([]) (s.1, s.2) 0 : List ((Int × Int) × Int)), rowE 87 v5o1 ([(s.1, s.2)] : List (Int × Int)), blkE g1 (.cells #[I (s.1), I (s.2)] 87)] H5o1 from (hS5o1.front 1 rfl)) (sk (sk (sk (List.Sublist.slnil)))))⟩
  rintro f6 H6 ⟨v5o1, r5o2, a6_1, a6_2, a6_8, a6_9, hS6⟩
  clear a4_1 a4_2 a4_3
  refine wpF_seq ?_
  refine wpF_seq ?_
  refine wpF_cut (fun f H => f 1 = I ((sg : Int)) ∧ f 2 = vf ∧ f 8 = v5o1 ∧ f 9 = (Value.map (some r5o2)) ∧ f 10 = I (0) ∧ H6 = H) ?_ ?_
  · refine wpF_region ?_
    refine wpL_q (U := NoB) rfl (q_assign (v := I (0)) rfl rfl) ?_
    exact ⟨a6_1, a6_2, a6_8, a6_9, rfl, rfl⟩
  rintro f7 _ ⟨a7_1, a7_2, a7_8, a7_9, a7_10, rfl⟩
  clear a6_1 a6_2 a6_8 a6_9
  refine wpF_block ?_
  refine wpF_loop (fun mz f H => ∃ (i : Nat), ∃ (vl : Value), ∃ (m : List ((Int × Int) × Int)), mz = 2001 - i ∧ (i ≤ (bfs nx sg s i).length) ∧ (∀ j, j < i → j < (bfs nx sg s j).length) ∧ (Nums (bfs nx sg s i) (mget m)) ∧ f 1 = I ((sg : Int)) ∧ f 2 = vf ∧ f 8 = vl ∧ f 9 = (Value.map (some r5o2)) ∧ f 10 = I ((i : Int)) ∧ St H0 NoB (fun b => S b ∧ b < H0.size) [rowE 87 vl (bfs nx sg s i : List (Int × Int)), mapE r5o2 (m : List ((Int × Int) × Int)), blkE g1 (.cells #[I (s.1), I (s.2)] 87)] H) (2001 - 0) ?_ ?_
  · exact ⟨0, v5o1, mset ([]) (s.1, s.2) 0, rfl, Nat.zero_le _, (fun j hj => absurd hj (Nat.not_lt_zero j)), (by rw [show mget (mset ([] : List ((Int × Int) × Int)) (s.1, s.2) 0) = _ from funext fun q => (mget_mset [] _ q _).trans (by rw [mget_nil])]; exact Nums.start), a7_1, a7_2, a7_8, a7_9, (Eq.trans a7_10 (congrArg I (by omega))), (show St H0 NoB (fun b => S b ∧ b < H0.size) [rowE 87 v5o1 (bfs nx sg s 0 : List (Int × Int)), mapE r5o2 ((mset ([]) (s.1, s.2) 0) : List ((Int × Int) × Int)), blkE g1 (.cells #[I (s.1), I (s.2)] 87)] H6 from (St.drop (show St H0 NoB (fun b => S b ∧ b < H0.size) [rowE 87 v5o1 ([(s.1, s.2)] : List (Int × Int)), mapE r5o2 (mset ([]) (s.1, s.2) 0 : List ((Int × Int) × Int)), blkE g1 (.cells #[I (s.1), I (s.2)] 87)] H6 from (hS6.front 1 rfl)) (sk (sk (sk (List.Sublist.slnil))))))⟩
  intro m8 f8 H8 hI8
  obtain ⟨i, vl, m, hm8, hi, hdone, hnum, a8_1, a8_2, a8_8, a8_9, a8_10, hS8⟩ := hI8
  clear a7_1 a7_10 a7_2 a7_8 a7_9
  refine wpF_seq ?_
  refine wpF_seq ?_
  refine wpF_cut (fun f H => f 1 = I ((sg : Int)) ∧ f 2 = vf ∧ f 8 = vl ∧ f 9 = (Value.map (some r5o2)) ∧ f 10 = I ((i : Int)) ∧ f 23 = B (decide ((i : Int) < ((bfs nx sg s i).length : Int))) ∧ H8 = H) ?_ ?_
  · refine wpF_region ?_
    refine wpL_q (U := NoB) rfl (q_move (v := I ((i : Int))) rfl a8_10) ?_
    refine wpL_q (U := NoB) rfl (q_move (v := vl) rfl a8_8) ?_
    refine wpL_q (U := NoB) rfl (q_lenRd rfl Try.underlying83 rfl (hS8.rowl 0 rfl)) ?_
    refine wpL_q (U := NoB) rfl (q_lss rfl rfl rfl) ?_
    exact ⟨a8_1, a8_2, a8_8, a8_9, a8_10, rfl, rfl⟩
  rintro f9 _ ⟨a9_1, a9_2, a9_8, a9_9, a9_10, a9_23, rfl⟩
  clear a8_1 a8_10 a8_2 a8_8 a8_9
  refine wpF_condP a9_23 (fun hlt => ?t52) (fun hlt => ?e52)
  case e52 =>
    refine wpF_exit ?_
    refine atX_here ?_
    refine wpF_seq ?_
    refine wpF_cut (fun f H => f 6 = vl ∧ f 7 = (Value.map (some r5o2)) ∧ H8 = H) ?_ ?_
    · refine wpF_region ?_
      refine wpL_q (U := NoB) rfl (q_move (v := vl) rfl a9_8) ?_
      refine wpL_q (U := NoB) rfl (q_move (v := (Value.map (some r5o2))) rfl a9_9) ?_
      refine wpL_q (U := NoB) rfl (q_assign (v := vl) rfl rfl) ?_
      refine wpL_q (U := NoB) rfl (q_assign (v := (Value.map (some r5o2))) rfl rfl) ?_
      exact ⟨rfl, rfl, rfl⟩
    rintro f49 _ ⟨a49_6, a49_7, rfl⟩
    clear a9_1 a9_10 a9_2 a9_23 a9_8 a9_9
    refine wpF_ret ?_
    refine ⟨_, resT a49_6 (resT a49_7 resN), hS8.frame, ?_⟩
    show ∃ vl_ r_ m_ i_, (Value.tuple #[vl, (Value.map (some r5o2))]) = Value.tuple #[vl_, Value.map (some r_)] ∧ Ended nx sg s i_ ∧ Nums (bfs nx sg s i_) (mget m_) ∧ (∀ e ∈ [rdE vl_ (bfs nx sg s i_), mapE r_ (m_ : List ((Int × Int) × Int))], e.ok (SL (fun b => S b ∧ b < H0.size) [rdE vl_ (bfs nx sg s i_), mapE r_ m_]) H8) ∧ ∀ b, own [rdE vl_ (bfs nx sg s i_), mapE r_ m_] b → H0.size ≤ b
    have hS50 : St H0 NoB (fun b => S b ∧ b < H0.size) [rdE vl (bfs nx sg s i), mapE r5o2 (m : List ((Int × Int) × Int)), blkE g1 (.cells #[I (s.1), I (s.2)] 87)] H8 := St.fin hS8
    have hS51 : St H0 NoB (fun b => S b ∧ b < H0.size) [rdE vl (bfs nx sg s i), mapE r5o2 (m : List ((Int × Int) × Int))] H8 := (hS50.drop (sk (sk (sn (List.Sublist.slnil)))))
    exact ⟨vl, r5o2, m, i, rfl, Ended.mk' hi hlt hdone, hnum, hS51.ok, St.freshA hS51⟩
  have hil : i < (bfs nx sg s i).length := by omega
  have hallB := bfs_all h0 hin i hdone
  have hiX := hallB _ (nth_mem hil)
  have hlenB := hfew _ (bfs_nodup i) hallB
  refine wpF_skip ?_
  refine wpF_seq ?_
  refine wpF_block ?_
  refine wpF_seq ?_
  refine wpF_cut (fun f H => f 1 = I ((sg : Int)) ∧ f 2 = vf ∧ f 8 = vl ∧ f 9 = (Value.map (some r5o2)) ∧ f 10 = I ((i : Int)) ∧ f 26 = I ((sg : Int)) ∧ f 27 = I (0) ∧ H8 = H) ?_ ?_
  · refine wpF_region ?_
    refine wpL_q (U := NoB) rfl (q_move (v := I ((sg : Int))) rfl a9_1) ?_
    refine wpL_q (U := NoB) rfl (q_move (v := I (0)) rfl rfl) ?_
    exact ⟨a9_1, a9_2, a9_8, a9_9, a9_10, rfl, rfl, rfl⟩
  rintro f11 _ ⟨a11_1, a11_2, a11_8, a11_9, a11_10, a11_26, a11_27, rfl⟩
  clear a9_1 a9_10 a9_2 a9_23 a9_8 a9_9
  refine wpF_block ?_
  refine wpF_loop (fun mz f H => ∃ (c : Nat), ∃ (v2 : Value), ∃ (m2 : List ((Int × Int) × Int)), mz = sg - c ∧ (c ≤ sg) ∧ (Nums (growTo nx (bfs nx sg s i) (nth (bfs nx sg s i) i) c) (mget m2)) ∧ f 1 = I ((sg : Int)) ∧ f 2 = vf ∧ f 8 = v2 ∧ f 9 = (Value.map (some r5o2)) ∧ f 10 = I ((i : Int)) ∧ f 26 = I ((sg : Int)) ∧ f 27 = I ((c : Int)) ∧ St H0 NoB (fun b => S b ∧ b < H0.size) [rowE 87 v2 (growTo nx (bfs nx sg s i) (nth (bfs nx sg s i) i) c : List (Int × Int)), mapE r5o2 (m2 : List ((Int × Int) × Int)), blkE g1 (.cells #[I (s.1), I (s.2)] 87)] H) (sg - 0) ?_ ?_
  · exact ⟨0, vl, m, rfl, Nat.zero_le _, hnum, a11_1, a11_2, a11_8, a11_9, a11_10, a11_26, (Eq.trans a11_27 (congrArg I (by omega))), (show St H0 NoB (fun b => S b ∧ b < H0.size) [rowE 87 vl (growTo nx (bfs nx sg s i) (nth (bfs nx sg s i) i) 0 : List (Int × Int)), mapE r5o2 (m : List ((Int × Int) × Int)), blkE g1 (.cells #[I (s.1), I (s.2)] 87)] H8 from hS8)⟩
  intro m12 f12 H12 hI12
  obtain ⟨c, v2, m2, hm12, hc0, hnum2, a12_1, a12_2, a12_8, a12_9, a12_10, a12_26, a12_27, hS12⟩ := hI12
  clear a11_1 a11_10 a11_2 a11_26 a11_27 a11_8 a11_9
  refine wpF_seq ?_
  refine wpF_cut (fun f H => f 1 = I ((sg : Int)) ∧ f 2 = vf ∧ f 8 = v2 ∧ f 9 = (Value.map (some r5o2)) ∧ f 10 = I ((i : Int)) ∧ f 26 = I ((sg : Int)) ∧ f 27 = I ((c : Int)) ∧ f 28 = B (decide ((c : Int) < (sg : Int))) ∧ H12 = H) ?_ ?_
  · refine wpF_region ?_
    refine wpL_q (U := NoB) rfl (q_lss rfl a12_27 a12_26) ?_
    exact ⟨a12_1, a12_2, a12_8, a12_9, a12_10, a12_26, a12_27, rfl, rfl⟩
  rintro f13 _ ⟨a13_1, a13_2, a13_8, a13_9, a13_10, a13_26, a13_27, a13_28, rfl⟩
  clear a12_1 a12_10 a12_2 a12_26 a12_27 a12_8 a12_9
  refine wpF_seq ?_
  refine wpF_condP a13_28 (fun hc => ?t48) (fun hc => ?e48)
  case e48 =>
    have hce : c = sg := by omega
    refine wpF_exit ?_
    refine atX_here ?_
    refine wpF_cut (fun f H => f 1 = I ((sg : Int)) ∧ f 2 = vf ∧ f 8 = v2 ∧ f 9 = (Value.map (some r5o2)) ∧ f 10 = I ((i : Int) + 1) ∧ H12 = H) ?_ ?_
    · refine wpF_region ?_
      refine wpL_q (U := NoB) rfl (q_move (v := I ((i : Int))) rfl a13_10) ?_
      refine wpL_q (U := NoB) rfl (q_add rfl rfl rfl (by constructor <;> omega)) ?_
      refine wpL_q (U := NoB) rfl (q_assign (v := I ((i : Int) + 1)) rfl rfl) ?_
      exact ⟨a13_1, a13_2, a13_8, a13_9, rfl, rfl⟩
    rintro f47 _ ⟨a47_1, a47_2, a47_8, a47_9, a47_10, rfl⟩
    clear a13_1 a13_10 a13_2 a13_26 a13_27 a13_28 a13_8 a13_9
    refine ⟨_, ?_, i + 1, v2, m2, rfl, (by have := growTo_len (nx := nx) (bfs nx sg s i) (nth (bfs nx sg s i) i) sg; show i + 1 ≤ (growTo _ _ _ _).length; omega), (fun j hj => by by_cases hji : j = i; exact hji ▸ hil; exact hdone j (by omega)), (hce ▸ hnum2), a47_1, a47_2, a47_8, a47_9, (Eq.trans a47_10 (congrArg I (by omega))), (show St H0 NoB (fun b => S b ∧ b < H0.size) [rowE 87 v2 (bfs nx sg s (i + 1) : List (Int × Int)), mapE r5o2 (m2 : List ((Int × Int) × Int)), blkE g1 (.cells #[I (s.1), I (s.2)] 87)] H12 from (by have h__ := hS12; rw [hce] at h__; exact h__))⟩
    omega
  have hgl := growTo_len (nx := nx) (bfs nx sg s i) (nth (bfs nx sg s i) i) c
  have hlenG := hfew _ (growTo_nodup (nx := nx) (x := (nth (bfs nx sg s i) i)) (bfs_nodup (nx := nx) (signs := sg) (start := s) i) c) (growTo_all (signs := sg) hallB (fun c hc => hin _ _ hiX (by omega) (by omega)) c (by omega))
  have h6Y := h64 _ (hin _ (c : Int) hiX (by omega) (by omega))
  refine wpF_skip ?_
  refine wpF_seq ?_
  refine wpF_block ?_
  refine wpF_seq ?_
  refine wpF_cut (fun f H => f 1 = I ((sg : Int)) ∧ f 2 = vf ∧ f 8 = v2 ∧ f 9 = (Value.map (some r5o2)) ∧ f 10 = I ((i : Int)) ∧ f 11 = I ((c : Int)) ∧ f 26 = I ((sg : Int)) ∧ f 27 = I ((c : Int)) ∧ H12 = H) ?_ ?_
  · refine wpF_region ?_
    refine wpL_q (U := NoB) rfl (q_move (v := I ((c : Int))) rfl a13_27) ?_
    refine wpL_q (U := NoB) rfl (q_assign (v := I ((c : Int))) rfl rfl) ?_
    exact ⟨a13_1, a13_2, a13_8, a13_9, a13_10, rfl, a13_26, a13_27, rfl⟩
  rintro f15 _ ⟨a15_1, a15_2, a15_8, a15_9, a15_10, a15_11, a15_26, a15_27, rfl⟩
  clear a13_1 a13_10 a13_2 a13_26 a13_27 a13_28 a13_8 a13_9
  refine wpF_seq ?_
  refine wpF_cut (fun f H => ∃ (g20 : Nat), (In64 (nth (growTo nx (bfs nx sg s i) (nth (bfs nx sg s i) i) c) i).1) ∧ (In64 (nth (growTo nx (bfs nx sg s i) (nth (bfs nx sg s i) i) c) i).2) ∧ f 1 = I ((sg : Int)) ∧ f 2 = vf ∧ f 8 = v2 ∧ f 9 = (Value.map (some r5o2)) ∧ f 10 = I ((i : Int)) ∧ f 12 = PT g20 0 ∧ f 26 = I ((sg : Int)) ∧ f 27 = I ((c : Int)) ∧ St H0 NoB (fun b => S b ∧ b < H0.size) [blkE g20 (.cells #[I ((nx (nth (bfs nx sg s i) i) (c : Int)).1), I ((nx (nth (bfs nx sg s i) i) (c : Int)).2)] 87), rowE 87 v2 (growTo nx (bfs nx sg s i) (nth (bfs nx sg s i) i) c : List (Int × Int)), mapE r5o2 (m2 : List ((Int × Int) × Int)), blkE g1 (.cells #[I (s.1), I (s.2)] 87)] H) ?_ ?_
  · refine wpF_region ?_
    refine wpL_q (U := NoB) rfl (q_move (v := vf) rfl a15_2) ?_
    refine wpL_q (U := NoB) rfl (q_move (v := v2) rfl a15_8) ?_
    refine wpL_q (U := NoB) rfl (q_move (v := I ((i : Int))) rfl a15_10) ?_
    refine wpL_q (U := NoB) rfl (q_indexRd (k := i) rfl Try.underlying83 el_IntInt_87_AutoP2 rfl rfl (hS12.rowl 0 rfl) (by omega) (by omega)) ?_
    obtain ⟨u16, huu16, hlu16⟩ := (hS12.rowl 0 rfl).elem i (by omega)
    obtain ⟨rfl, hu160, hu161⟩ := Rd.pair.1 huu16
    refine wpL_q (U := NoB) rfl (q_loadE rfl rfl (hlu16 Try.prog 87 _ el_IntInt_87_AutoP2 (fun _ h => False.elim h))) ?_
    refine wpL_q (U := NoB) rfl (q_move (v := I ((c : Int))) rfl a15_11) ?_
    have hnx : (nth (growTo nx (bfs nx sg s i) (nth (bfs nx sg s i) i) c) i) = (nth (bfs nx sg s i) i) := growTo_nth hil _
    refine wpL_o rfl ?_
    refine e_callF rfl rfl (arr2 (v0 := Value.agg #[I ((nth (growTo nx (bfs nx sg s i) (nth (bfs nx sg s i) i) c) i).1), I ((nth (growTo nx (bfs nx sg s i) (nth (bfs nx sg s i) i) c) i).2)]) (v1 := I ((c : Int))) rfl rfl) (by rw [show Value.agg #[I (nth (growTo nx (bfs nx sg s i) (nth (bfs nx sg s i) i) c) i).1, I (nth (growTo nx (bfs nx sg s i) (nth (bfs nx sg s i) i) c) i).2] = Value.agg #[I (nth (bfs nx sg s i) i).1, I (nth (bfs nx sg s i) i).2] from congrArg (fun z => Value.agg #[I z.1, I z.2]) hnx]; exact hf _ _ hiX (by omega) (by omega) _ hS12.frame) ?_
    rintro _ H17 ⟨hxx, rfl⟩
    have hS18 : St H0 NoB (fun b => S b ∧ b < H0.size) [rowE 87 v2 (growTo nx (bfs nx sg s i) (nth (bfs nx sg s i) i) c : List (Int × Int)), mapE r5o2 (m2 : List ((Int × Int) × Int)), blkE g1 (.cells #[I (s.1), I (s.2)] 87)] H17 := hS12.ext hxx
    refine wpL_o rfl ?_
    refine e_alloc rfl Try.zeroValue87 hS18 (fun g20 H21 hS22 hxx => ?_)
    replace hS22 : St H0 NoB (fun b => S b ∧ b < H0.size) [blkE g20 (.cells #[I (0), I (0)] 87), rowE 87 v2 (growTo nx (bfs nx sg s i) (nth (bfs nx sg s i) i) c : List (Int × Int)), mapE r5o2 (m2 : List ((Int × Int) × Int)), blkE g1 (.cells #[I (s.1), I (s.2)] 87)] H21 := hS22
    refine wpL_o rfl ?_
    refine e_storeBlkA (cs' := #[I ((nx (nth (bfs nx sg s i) i) (c : Int)).1), I ((nx (nth (bfs nx sg s i) i) (c : Int)).2)]) rfl rfl rfl Try.sizeOf87 rfl rfl (List.forall_mem_cons.2 ⟨rfl, List.forall_mem_cons.2 ⟨rfl, List.forall_mem_nil _⟩⟩) hS22 (fun H23 hS24 hxx => ?_)
    replace hS24 : St H0 NoB (fun b => S b ∧ b < H0.size) [blkE g20 (.cells #[I ((nx (nth (bfs nx sg s i) i) (c : Int)).1), I ((nx (nth (bfs nx sg s i) i) (c : Int)).2)] 87), rowE 87 v2 (growTo nx (bfs nx sg s i) (nth (bfs nx sg s i) i) c : List (Int × Int)), mapE r5o2 (m2 : List ((Int × Int) × Int)), blkE g1 (.cells #[I (s.1), I (s.2)] 87)] H23 := hS24
    exact ⟨g20, hu160, hu161, a15_1, a15_2, a15_8, a15_9, a15_10, rfl, a15_26, a15_27, hS24⟩
  rintro f25 H25 ⟨g20, hu160, hu161, a25_1, a25_2, a25_8, a25_9, a25_10, a25_12, a25_26, a25_27, hS25⟩
  clear a15_1 a15_10 a15_11 a15_2 a15_26 a15_27 a15_8 a15_9
  refine wpF_seq ?_
  refine wpF_cut (fun f H => f 1 = I ((sg : Int)) ∧ f 2 = vf ∧ f 8 = v2 ∧ f 9 = (Value.map (some r5o2)) ∧ f 10 = I ((i : Int)) ∧ f 12 = PT g20 0 ∧ f 14 = B ((mget m2 ((nx (nth (bfs nx sg s i) i) (c : Int)).1, (nx (nth (bfs nx sg s i) i) (c : Int)).2)).isSome) ∧ f 26 = I ((sg : Int)) ∧ f 27 = I ((c : Int)) ∧ H25 = H) ?_ ?_
  · refine wpF_region ?_
    refine wpL_q (U := NoB) rfl (q_move (v := (Value.map (some r5o2))) rfl a25_9) ?_
    refine wpL_q (U := NoB) rfl (q_loadBlkA rfl a25_12 Try.isAgg87 Try.sizeOf87 rfl (hS25.blk 0 rfl) (fun h => h)) ?_
    obtain ⟨u26, hlu26, hru26⟩ := lookD (t := 84) (d := (0 : Int)) Try.underlying84 (keyLaw_pair_87_AutoP2) Try.zeroValue3 (fun _ _ => Rd.int.2 ⟨rfl, by decide⟩) ((nx (nth (bfs nx sg s i) i) (c : Int)).1, (nx (nth (bfs nx sg s i) i) (c : Int)).2) (hS25.get 2 rfl)
    obtain ⟨rfl, hiu26⟩ := Rd.int.1 hru26
    refine wpL_q (U := NoB) rfl (q_lookup1 rfl rfl rfl (hlu26 _ (fun h => h))) ?_
    refine wpL_q (U := NoB) rfl (q_move (v := Value.tuple #[I ((mget m2 ((nx (nth (bfs nx sg s i) i) (c : Int)).1, (nx (nth (bfs nx sg s i) i) (c : Int)).2)).getD 0), B ((mget m2 ((nx (nth (bfs nx sg s i) i) (c : Int)).1, (nx (nth (bfs nx sg s i) i) (c : Int)).2)).isSome)]) rfl rfl) ?_
    refine wpL_q (U := NoB) rfl (q_extract (vs := #[I ((mget m2 ((nx (nth (bfs nx sg s i) i) (c : Int)).1, (nx (nth (bfs nx sg s i) i) (c : Int)).2)).getD 0), B ((mget m2 ((nx (nth (bfs nx sg s i) i) (c : Int)).1, (nx (nth (bfs nx sg s i) i) (c : Int)).2)).isSome)]) (v := I ((mget m2 ((nx (nth (bfs nx sg s i) i) (c : Int)).1, (nx (nth (bfs nx sg s i) i) (c : Int)).2)).getD 0)) rfl rfl rfl) ?_
    refine wpL_q (U := NoB) rfl (q_extract (vs := #[I ((mget m2 ((nx (nth (bfs nx sg s i) i) (c : Int)).1, (nx (nth (bfs nx sg s i) i) (c : Int)).2)).getD 0), B ((mget m2 ((nx (nth (bfs nx sg s i) i) (c : Int)).1, (nx (nth (bfs nx sg s i) i) (c : Int)).2)).isSome)]) (v := B ((mget m2 ((nx (nth (bfs nx sg s i) i) (c : Int)).1, (nx (nth (bfs nx sg s i) i) (c : Int)).2)).isSome)) rfl rfl rfl) ?_
    refine wpL_q (U := NoB) rfl (q_assign (v := I ((mget m2 ((nx (nth (bfs nx sg s i) i) (c : Int)).1, (nx (nth (bfs nx sg s i) i) (c : Int)).2)).getD 0)) rfl rfl) ?_
    refine wpL_q (U := NoB) rfl (q_assign (v := B ((mget m2 ((nx (nth (bfs nx sg s i) i) (c : Int)).1, (nx (nth (bfs nx sg s i) i) (c : Int)).2)).isSome)) rfl rfl) ?_
    exact ⟨a25_1, a25_2, a25_8, a25_9, a25_10, a25_12, rfl, a25_26, a25_27, rfl⟩
  rintro f27 _ ⟨a27_1, a27_2, a27_8, a27_9, a27_10, a27_12, a27_14, a27_26, a27_27, rfl⟩
  clear a25_1 a25_10 a25_12 a25_2 a25_26 a25_27 a25_8 a25_9
  refine wpF_seq ?_
  refine wpF_cut (fun f H => f 1 = I ((sg : Int)) ∧ f 2 = vf ∧ f 8 = v2 ∧ f 9 = (Value.map (some r5o2)) ∧ f 10 = I ((i : Int)) ∧ f 12 = PT g20 0 ∧ f 26 = I ((sg : Int)) ∧ f 27 = I ((c : Int)) ∧ f 44 = B (!((mget m2 ((nx (nth (bfs nx sg s i) i) (c : Int)).1, (nx (nth (bfs nx sg s i) i) (c : Int)).2)).isSome)) ∧ H25 = H) ?_ ?_
  · refine wpF_region ?_
    refine wpL_q (U := NoB) rfl (q_move (v := B ((mget m2 ((nx (nth (bfs nx sg s i) i) (c : Int)).1, (nx (nth (bfs nx sg s i) i) (c : Int)).2)).isSome)) rfl a27_14) ?_
    refine wpL_q (U := NoB) rfl (q_not rfl rfl) ?_
    exact ⟨a27_1, a27_2, a27_8, a27_9, a27_10, a27_12, a27_26, a27_27, rfl, rfl⟩
  rintro f28 _ ⟨a28_1, a28_2, a28_8, a28_9, a28_10, a28_12, a28_26, a28_27, a28_44, rfl⟩
  clear a27_1 a27_10 a27_12 a27_14 a27_2 a27_26 a27_27 a27_8 a27_9
  refine wpF_cut (fun f H => ∃ (vN : Value), ∃ (mN : List ((Int × Int) × Int)), (Nums (growTo nx (bfs nx sg s i) (nth (bfs nx sg s i) i) (c + 1)) (mget mN)) ∧ f 1 = I ((sg : Int)) ∧ f 2 = vf ∧ f 8 = vN ∧ f 9 = (Value.map (some r5o2)) ∧ f 10 = I ((i : Int)) ∧ f 26 = I ((sg : Int)) ∧ f 27 = I ((c : Int)) ∧ St H0 NoB (fun b => S b ∧ b < H0.size) [rowE 87 vN (growTo nx (bfs nx sg s i) (nth (bfs nx sg s i) i) (c + 1) : List (Int × Int)), mapE r5o2 (mN : List ((Int × Int) × Int)), blkE g20 (.cells #[I ((nx (nth (bfs nx sg s i) i) (c : Int)).1), I ((nx (nth (bfs nx sg s i) i) (c : Int)).2)] 87), blkE g1 (.cells #[I (s.1), I (s.2)] 87)] H) ?_ ?_
  · refine wpF_cond a28_44 (fun hnew => ?t45) (fun hnew => ?e45)
    case e45 =>
      refine wpF_skip ?_
      exact ⟨v2, m2, (by rw [growTo_old hnum2 hnew]; exact hnum2), a28_1, a28_2, a28_8, a28_9, a28_10, a28_26, a28_27, (show St H0 NoB (fun b => S b ∧ b < H0.size) [rowE 87 v2 (growTo nx (bfs nx sg s i) (nth (bfs nx sg s i) i) (c + 1) : List (Int × Int)), mapE r5o2 (m2 : List ((Int × Int) × Int)), blkE g20 (.cells #[I ((nx (nth (bfs nx sg s i) i) (c : Int)).1), I ((nx (nth (bfs nx sg s i) i) (c : Int)).2)] 87), blkE g1 (.cells #[I (s.1), I (s.2)] 87)] H25 from (by have h__ := (St.drop (show St H0 NoB (fun b => S b ∧ b < H0.size) [rowE 87 v2 (growTo nx (bfs nx sg s i) (nth (bfs nx sg s i) i) c : List (Int × Int)), mapE r5o2 (m2 : List ((Int × Int) × Int)), blkE g20 (.cells #[I ((nx (nth (bfs nx sg s i) i) (c : Int)).1), I ((nx (nth (bfs nx sg s i) i) (c : Int)).2)] 87), blkE g1 (.cells #[I (s.1), I (s.2)] 87)] H25 from ((hS25.front 2 rfl).front 2 rfl)) (sk (sk (sk (sk (List.Sublist.slnil)))))); rw [← growTo_old hnum2 hnew] at h__; exact h__))⟩
    refine wpF_seq ?_
    refine wpF_cut (fun f H => f 1 = I ((sg : Int)) ∧ f 2 = vf ∧ f 8 = v2 ∧ f 9 = (Value.map (some r5o2)) ∧ f 10 = I ((i : Int)) ∧ f 12 = PT g20 0 ∧ f 26 = I ((sg : Int)) ∧ f 27 = I ((c : Int)) ∧ St H0 NoB (fun b => S b ∧ b < H0.size) [mapE r5o2 (mset m2 ((nx (nth (bfs nx sg s i) i) (c : Int)).1, (nx (nth (bfs nx sg s i) i) (c : Int)).2) ((growTo nx (bfs nx sg s i) (nth (bfs nx sg s i) i) c).length : Int) : List ((Int × Int) × Int)), blkE g20 (.cells #[I ((nx (nth (bfs nx sg s i) i) (c : Int)).1), I ((nx (nth (bfs nx sg s i) i) (c : Int)).2)] 87), rowE 87 v2 (growTo nx (bfs nx sg s i) (nth (bfs nx sg s i) i) c : List (Int × Int)), blkE g1 (.cells #[I (s.1), I (s.2)] 87)] H) ?_ ?_
    · refine wpF_region ?_
      refine wpL_q (U := NoB) rfl (q_move (v := (Value.map (some r5o2))) rfl a28_9) ?_
      refine wpL_q (U := NoB) rfl (q_loadBlkA rfl a28_12 Try.isAgg87 Try.sizeOf87 rfl (hS25.blk 0 rfl) (fun h => h)) ?_
      refine wpL_q (U := NoB) rfl (q_move (v := v2) rfl a28_8) ?_
      refine wpL_q (U := NoB) rfl (q_lenRd rfl Try.underlying83 rfl (hS25.rowl 1 rfl)) ?_
      have hS31 : St H0 NoB (fun b => S b ∧ b < H0.size) [mapE r5o2 (m2 : List ((Int × Int) × Int)), blkE g20 (.cells #[I ((nx (nth (bfs nx sg s i) i) (c : Int)).1), I ((nx (nth (bfs nx sg s i) i) (c : Int)).2)] 87), rowE 87 v2 (growTo nx (bfs nx sg s i) (nth (bfs nx sg s i) i) c : List (Int × Int)), blkE g1 (.cells #[I (s.1), I (s.2)] 87)] H25 := (hS25.front 2 rfl)
      refine wpL_o rfl ?_
      refine e_mapUpdate (k := ((nx (nth (bfs nx sg s i) i) (c : Int)).1, (nx (nth (bfs nx sg s i) i) (c : Int)).2)) (.inl rfl) Try.underlying84 (keyLaw_pair_87_AutoP2) rfl rfl rfl hS31 (Rd.int.2 ⟨rfl, by constructor <;> omega⟩) (fun H32 hS33 hxx => ?_)
      replace hS33 : St H0 NoB (fun b => S b ∧ b < H0.size) [mapE r5o2 (mset m2 ((nx (nth (bfs nx sg s i) i) (c : Int)).1, (nx (nth (bfs nx sg s i) i) (c : Int)).2) ((growTo nx (bfs nx sg s i) (nth (bfs nx sg s i) i) c).length : Int) : List ((Int × Int) × Int)), blkE g20 (.cells #[I ((nx (nth (bfs nx sg s i) i) (c : Int)).1), I ((nx (nth (bfs nx sg s i) i) (c : Int)).2)] 87), rowE 87 v2 (growTo nx (bfs nx sg s i) (nth (bfs nx sg s i) i) c : List (Int × Int)), blkE g1 (.cells #[I (s.1), I (s.2)] 87)] H32 := hS33
      exact ⟨a28_1, a28_2, a28_8, a28_9, a28_10, a28_12, a28_26, a28_27, hS33⟩
    rintro f34 H34 ⟨a34_1, a34_2, a34_8, a34_9, a34_10, a34_12, a34_26, a34_27, hS34⟩
    clear a28_1 a28_10 a28_12 a28_2 a28_26 a28_27 a28_44 a28_8 a28_9
    refine wpF_cut (fun f H => ∃ (v40 : Value), f 1 = I ((sg : Int)) ∧ f 2 = vf ∧ f 8 = v40 ∧ f 9 = (Value.map (some r5o2)) ∧ f 10 = I ((i : Int)) ∧ f 26 = I ((sg : Int)) ∧ f 27 = I ((c : Int)) ∧ St H0 NoB (fun b => S b ∧ b < H0.size) [rowE 87 v40 (growTo nx (bfs nx sg s i) (nth (bfs nx sg s i) i) (c + 1) : List (Int × Int)), mapE r5o2 (mset m2 ((nx (nth (bfs nx sg s i) i) (c : Int)).1, (nx (nth (bfs nx sg s i) i) (c : Int)).2) ((growTo nx (bfs nx sg s i) (nth (bfs nx sg s i) i) c).length : Int) : List ((Int × Int) × Int)), blkE g20 (.cells #[I ((nx (nth (bfs nx sg s i) i) (c : Int)).1), I ((nx (nth (bfs nx sg s i) i) (c : Int)).2)] 87), blkE g1 (.cells #[I (s.1), I (s.2)] 87)] H) ?_ ?_
    · refine wpF_region ?_
      refine wpL_q (U := NoB) rfl (q_move (v := v2) rfl a34_8) ?_
      refine wpL_q (U := NoB) rfl (q_loadBlkA rfl a34_12 Try.isAgg87 Try.sizeOf87 rfl (hS34.blk 1 rfl) (fun h => h)) ?_
      refine wpL_o rfl ?_
      refine e_buildSlice (vs := [Value.agg #[I ((nx (nth (bfs nx sg s i) i) (c : Int)).1), I ((nx (nth (bfs nx sg s i) i) (c : Int)).2)]]) (xs := ([((nx (nth (bfs nx sg s i) i) (c : Int)).1, (nx (nth (bfs nx sg s i) i) (c : Int)).2)] : List (Int × Int))) rfl Try.underlying83 Try.zeroValue87 rfl Try.sizeOf87 (par1 (v0 := Value.agg #[I ((nx (nth (bfs nx sg s i) i) (c : Int)).1), I ((nx (nth (bfs nx sg s i) i) (c : Int)).2)]) rfl) rfl hS34 (RdVs.cons (Rd.pair.2 ⟨rfl, by constructor <;> omega, by constructor <;> omega⟩) (RdVs.nil)) (by decide) (by decide) (fun v35 H36 hS37 hxx hvv35 => ?_)
      replace hS37 : St H0 NoB (fun b => S b ∧ b < H0.size) [rowE 87 v35 ([((nx (nth (bfs nx sg s i) i) (c : Int)).1, (nx (nth (bfs nx sg s i) i) (c : Int)).2)] : List (Int × Int)), mapE r5o2 (mset m2 ((nx (nth (bfs nx sg s i) i) (c : Int)).1, (nx (nth (bfs nx sg s i) i) (c : Int)).2) ((growTo nx (bfs nx sg s i) (nth (bfs nx sg s i) i) c).length : Int) : List ((Int × Int) × Int)), blkE g20 (.cells #[I ((nx (nth (bfs nx sg s i) i) (c : Int)).1), I ((nx (nth (bfs nx sg s i) i) (c : Int)).2)] 87), rowE 87 v2 (growTo nx (bfs nx sg s i) (nth (bfs nx sg s i) i) c : List (Int × Int)), blkE g1 (.cells #[I (s.1), I (s.2)] 87)] H36 := hS37
      have hS38 : St H0 NoB (fun b => S b ∧ b < H0.size) [rdE v35 ([((nx (nth (bfs nx sg s i) i) (c : Int)).1, (nx (nth (bfs nx sg s i) i) (c : Int)).2)] : List (Int × Int)), mapE r5o2 (mset m2 ((nx (nth (bfs nx sg s i) i) (c : Int)).1, (nx (nth (bfs nx sg s i) i) (c : Int)).2) ((growTo nx (bfs nx sg s i) (nth (bfs nx sg s i) i) c).length : Int) : List ((Int × Int) × Int)), blkE g20 (.cells #[I ((nx (nth (bfs nx sg s i) i) (c : Int)).1), I ((nx (nth (bfs nx sg s i) i) (c : Int)).2)] 87), rowE 87 v2 (growTo nx (bfs nx sg s i) (nth (bfs nx sg s i) i) c : List (Int × Int)), blkE g1 (.cells #[I (s.1), I (s.2)] 87)] H36 := St.fin hS37
      have hS39 : St H0 NoB (fun b => S b ∧ b < H0.size) [rowE 87 v2 (growTo nx (bfs nx sg s i) (nth (bfs nx sg s i) i) c : List (Int × Int)), rdE v35 ([((nx (nth (bfs nx sg s i) i) (c : Int)).1, (nx (nth (bfs nx sg s i) i) (c : Int)).2)] : List (Int × Int)), mapE r5o2 (mset m2 ((nx (nth (bfs nx sg s i) i) (c : Int)).1, (nx (nth (bfs nx sg s i) i) (c : Int)).2) ((growTo nx (bfs nx sg s i) (nth (bfs nx sg s i) i) c).length : Int) : List ((Int × Int) × Int)), blkE g20 (.cells #[I ((nx (nth (bfs nx sg s i) i) (c : Int)).1), I ((nx (nth (bfs nx sg s i) i) (c : Int)).2)] 87), blkE g1 (.cells #[I (s.1), I (s.2)] 87)] H36 := (hS38.front 3 rfl)
      refine wpL_o rfl ?_
      refine e_append rfl Try.underlying83 em_IntInt_87_AutoP2 rfl rfl hS39 (hS39.rdS 1 rfl) (fun _ h => h) (by have hb : GoT.bytes (Int × Int) = 16 := rfl; simp [hb]; omega) (by decide) (fun v40 H41 hS42 hxx => ?_)
      replace hS42 : St H0 NoB (fun b => S b ∧ b < H0.size) [rowE 87 v40 ((growTo nx (bfs nx sg s i) (nth (bfs nx sg s i) i) c) ++ ([((nx (nth (bfs nx sg s i) i) (c : Int)).1, (nx (nth (bfs nx sg s i) i) (c : Int)).2)]) : List (Int × Int)), rdE v35 ([((nx (nth (bfs nx sg s i) i) (c : Int)).1, (nx (nth (bfs nx sg s i) i) (c : Int)).2)] : List (Int × Int)), mapE r5o2 (mset m2 ((nx (nth (bfs nx sg s i) i) (c : Int)).1, (nx (nth (bfs nx sg s i) i) (c : Int)).2) ((growTo nx (bfs nx sg s i) (nth (bfs nx sg s i) i) c).length : Int) : List ((Int × Int) × Int)), blkE g20 (.cells #[I ((nx (nth (bfs nx sg s i) i) (c : Int)).1), I ((nx (nth (bfs nx sg s i) i) (c : Int)).2)] 87), blkE g1 (.cells #[I (s.1), I (s.2)] 87)] H41 := hS42
      have hS43 : St H0 NoB (fun b => S b ∧ b < H0.size) [rowE 87 v40 (growTo nx (bfs nx sg s i) (nth (bfs nx sg s i) i) (c + 1) : List (Int × Int)), rdE v35 ([((nx (nth (bfs nx sg s i) i) (c : Int)).1, (nx (nth (bfs nx sg s i) i) (c : Int)).2)] : List (Int × Int)), mapE r5o2 (mset m2 ((nx (nth (bfs nx sg s i) i) (c : Int)).1, (nx (nth (bfs nx sg s i) i) (c : Int)).2) ((growTo nx (bfs nx sg s i) (nth (bfs nx sg s i) i) c).length : Int) : List ((Int × Int) × Int)), blkE g20 (.cells #[I ((nx (nth (bfs nx sg s i) i) (c : Int)).1), I ((nx (nth (bfs nx sg s i) i) (c : Int)).2)] 87), blkE g1 (.cells #[I (s.1), I (s.2)] 87)] H41 := by rw [show (growTo nx (bfs nx sg s i) (nth (bfs nx sg s i) i) (c + 1)) = ((growTo nx (bfs nx sg s i) (nth (bfs nx sg s i) i) c) ++ ([((nx (nth (bfs nx sg s i) i) (c : Int)).1, (nx (nth (bfs nx sg s i) i) (c : Int)).2)])) from (growTo_new hnum2 hnew).symm]; exact hS42
      refine wpL_q (U := NoB) rfl (q_assign (v := v40) rfl rfl) ?_
      exact ⟨v40, a34_1, a34_2, rfl, a34_9, a34_10, a34_26, a34_27, (hS43.drop (sk (sn (sk (sk (sk (List.Sublist.slnil)))))))⟩
    rintro f44 H44 ⟨v40, a44_1, a44_2, a44_8, a44_9, a44_10, a44_26, a44_27, hS44⟩
    clear a34_1 a34_10 a34_12 a34_2 a34_26 a34_27 a34_8 a34_9
    exact ⟨v40, mset m2 ((nx (nth (bfs nx sg s i) i) (c : Int)).1, (nx (nth (bfs nx sg s i) i) (c : Int)).2) ((growTo nx (bfs nx sg s i) (nth (bfs nx sg s i) i) c).length : Int), (by rw [show mget (mset m2 ((nx (nth (bfs nx sg s i) i) (c : Int)).1, (nx (nth (bfs nx sg s i) i) (c : Int)).2) ((growTo nx (bfs nx sg s i) (nth (bfs nx sg s i) i) c).length : Int)) = _ from funext fun q => mget_mset m2 _ q _]; exact growTo_push hnum2 hnew), a44_1, a44_2, a44_8, a44_9, a44_10, a44_26, a44_27, hS44⟩
  rintro f29 H29 ⟨vN, mN, hnum3, a29_1, a29_2, a29_8, a29_9, a29_10, a29_26, a29_27, hS29⟩
  clear a28_1 a28_10 a28_12 a28_2 a28_26 a28_27 a28_44 a28_8 a28_9
  refine wpF_cut (fun f H => f 1 = I ((sg : Int)) ∧ f 2 = vf ∧ f 8 = vN ∧ f 9 = (Value.map (some r5o2)) ∧ f 10 = I ((i : Int)) ∧ f 26 = I ((sg : Int)) ∧ f 27 = I ((c : Int) + 1) ∧ H29 = H) ?_ ?_
  · refine wpF_region ?_
    refine wpL_q (U := NoB) rfl (q_add rfl a29_27 rfl (by constructor <;> omega)) ?_
    refine wpL_q (U := NoB) rfl (q_move (v := I ((c : Int) + 1)) rfl rfl) ?_
    exact ⟨a29_1, a29_2, a29_8, a29_9, a29_10, a29_26, rfl, rfl⟩
  rintro f46 _ ⟨a46_1, a46_2, a46_8, a46_9, a46_10, a46_26, a46_27, rfl⟩
  clear a29_1 a29_10 a29_2 a29_26 a29_27 a29_8 a29_9
  refine ⟨_, ?_, c + 1, vN, mN, rfl, (by omega), hnum3, a46_1, a46_2, a46_8, a46_9, a46_10, a46_26, (Eq.trans a46_27 (congrArg I (by omega))), (hS29.drop (sk (sk (sn (sk (List.Sublist.slnil))))))⟩
  omega

theorem found_Pw {H0 : Heap} {S : Nat → Prop} (vf : Value) (s : Int × Int) (sg : Nat) (nx : Int × Int → Int → Int × Int) (inv : Int × Int → Prop) (sgI : Int) (hI : sgI = (sg : Int)) (h0 : inv s) (hin : ∀ (x : Int × Int) (c : Int), inv x → 0 ≤ c → c < (sg : Int) → inv (nx x c)) (h64 : ∀ x, inv x → In64 x.1 ∧ In64 x.2) (hfew : ∀ L : List (Int × Int), L.Nodup → (∀ x ∈ L, inv x) → L.length ≤ 2000) (hsg : sg ≤ 1000) (hf : ∀ (x : Int × Int) (c : Int), inv x → 0 ≤ c → c < (sg : Int) → ∀ H, Ext NoB H0 H → FnH Try.prog vf #[Value.agg #[I x.1, I x.2], I c] H (fun rv H' => Ext NoB H H' ∧ rv = Value.agg #[I (nx x c).1, I (nx x c).2])) : CallsH Try.prog 60 #[Value.agg #[I (s.1), I (s.2)], I sgI, vf] H0 (fun rv_ H' => Ext NoB H0 H' ∧ ∃ vl_ r_ m_ i_, rv_ = Value.tuple #[vl_, Value.map (some r_)] ∧ Ended nx sg s i_ ∧ Nums (bfs nx sg s i_) (mget m_) ∧ (∀ e ∈ [rdE vl_ (bfs nx sg s i_), mapE r_ (m_ : List ((Int × Int) × Int))], e.ok (SL (fun b => S b ∧ b < H0.size) [rdE vl_ (bfs nx sg s i_), mapE r_ m_]) H') ∧ ∀ b, own [rdE vl_ (bfs nx sg s i_), mapE r_ m_] b → H0.size ≤ b) := by
  subst hI; exact found_P vf s sg nx inv h0 hin h64 hfew hsg hf

end Go.Um
