import Derived.Test.YtkhpaklglggagaaProg
import Derived.Test.YtkhpaklglggagaaAutoL3
import Derived.Test.YtkhpaklglggagaaAutoP5
import Derived.Test.YtkhpaklglggagaaAutoTop
import Derived.Test.YtkhpaklglggagaaUmSub
namespace Go.Um
open Go.Proofs
open GoT (sz ag rdc)
open KeyT (kv)

theorem el_Int_3_TopT1 : ElT Try.prog Int 3 := ⟨Try.isAgg3, Try.sizeOf3⟩
theorem em_Bool_4_TopT1 : ElemOk Try.prog Bool 4 := ⟨Try.t4, (.bool false), by kernel_rfl, by kernel_rfl, by kernel_rfl, by kernel_rfl, by kernel_rfl⟩
theorem em_LInt_22_TopT1 : ElemOk Try.prog (List Int) 22 := ⟨Try.t22, (.slice none 0 0), by kernel_rfl, by kernel_rfl, by kernel_rfl, by kernel_rfl, by kernel_rfl⟩

set_option maxRecDepth 100000 in
theorem Picked {H0 : Heap} (a n : Int) (hn : 1 ≤ n ∧ n ≤ 9223372036854775807) : CallsH Try.prog 41 #[I (a), I (n)] H0 (fun rv_ H' => Ext NoB H0 H' ∧ rv_ = I (pickI a n) ∧ (0 ≤ pickI a n ∧ pickI a n < n)) := by
  have htm := tmod_rng (a := a) hn.1
  have hS0 : St H0 NoB NoB [] H0 := St.start (fun _ h => h.elim)
  refine callsH_of_wpF (args := [I (a), I (n)]) (rs := [.tmp 4]) Try.func41 rfl Try.ntmps41 Try.results41 (by kernel_rfl) (Nat.le_of_ble_eq_true rfl) ?_
  have a0_0 : argF [I (a), I (n)] 0 = I (a) := rfl
  have a0_1 : argF [I (a), I (n)] 1 = I (n) := rfl
  generalize argF [I (a), I (n)] = f0 at *
  refine wpF_seq ?_
  refine wpF_cut (fun f H => f 0 = I (a) ∧ f 1 = I (n) ∧ H0 = H) ?_ ?_
  · refine wpF_region ?_
    refine wpL_q (U := NoB) rfl (q_assign (v := I (0)) rfl rfl) ?_
    exact ⟨a0_0, a0_1, rfl⟩
  rintro f1 _ ⟨a1_0, a1_1, rfl⟩
  clear a0_0 a0_1
  refine wpF_seq ?_
  refine wpF_cut (fun f H => f 0 = I (a.tmod n) ∧ f 1 = I (n) ∧ H0 = H) ?_ ?_
  · refine wpF_region ?_
    refine wpL_q (U := NoB) rfl (q_move (v := I (a)) rfl a1_0) ?_
    refine wpL_q (U := NoB) rfl (q_move (v := I (n)) rfl a1_1) ?_
    refine wpL_q (U := NoB) rfl (q_rem rfl rfl rfl (by omega)) ?_
    refine wpL_q (U := NoB) rfl (q_assign (v := I (a.tmod n)) rfl rfl) ?_
    exact ⟨rfl, a1_1, rfl⟩
  rintro f2 _ ⟨a2_0, a2_1, rfl⟩
  clear a1_0 a1_1
  refine wpF_seq ?_
  refine wpF_seq ?_
  refine wpF_cut (fun f H => f 0 = I (a.tmod n) ∧ f 1 = I (n) ∧ f 9 = B (decide ((a.tmod n) < 0)) ∧ H0 = H) ?_ ?_
  · refine wpF_region ?_
    refine wpL_q (U := NoB) rfl (q_move (v := I (a.tmod n)) rfl a2_0) ?_
    refine wpL_q (U := NoB) rfl (q_lss rfl rfl rfl) ?_
    exact ⟨a2_0, a2_1, rfl, rfl⟩
  rintro f3 _ ⟨a3_0, a3_1, a3_9, rfl⟩
  clear a2_0 a2_1
  refine wpF_condP a3_9 (fun h9 => ?t7) (fun h9 => ?e7)
  case e7 =>
    refine wpF_skip ?_
    refine wpF_seq ?_
    refine wpF_cut (fun f H => f 4 = I (a.tmod n) ∧ H0 = H) ?_ ?_
    · refine wpF_region ?_
      refine wpL_q (U := NoB) rfl (q_move (v := I (a.tmod n)) rfl a3_0) ?_
      refine wpL_q (U := NoB) rfl (q_assign (v := I (a.tmod n)) rfl rfl) ?_
      exact ⟨rfl, rfl⟩
    rintro f6 _ ⟨a6_4, rfl⟩
    clear a3_0 a3_1 a3_9
    refine wpF_ret ?_
    refine ⟨_, resT a6_4 resN, hS0.frame, ?_⟩
    show (I (a.tmod n)) = I (pickI a n) ∧ (0 ≤ pickI a n ∧ pickI a n < n)
    exact ⟨congrArg I (pickI_pos h9).symm, pickI_rng hn.1⟩
  refine wpF_seq ?_
  refine wpF_cut (fun f H => f 4 = I ((a.tmod n) + n) ∧ H0 = H) ?_ ?_
  · refine wpF_region ?_
    refine wpL_q (U := NoB) rfl (q_move (v := I (a.tmod n)) rfl a3_0) ?_
    refine wpL_q (U := NoB) rfl (q_move (v := I (n)) rfl a3_1) ?_
    refine wpL_q (U := NoB) rfl (q_add rfl rfl rfl (by constructor <;> omega)) ?_
    refine wpL_q (U := NoB) rfl (q_assign (v := I ((a.tmod n) + n)) rfl rfl) ?_
    exact ⟨rfl, rfl⟩
  rintro f5 _ ⟨a5_4, rfl⟩
  clear a3_0 a3_1 a3_9
  refine wpF_ret ?_
  refine ⟨_, resT a5_4 resN, hS0.frame, ?_⟩
  show (I ((a.tmod n) + n)) = I (pickI a n) ∧ (0 ≤ pickI a n ∧ pickI a n < n)
  exact ⟨congrArg I (pickI_neg h9).symm, pickI_rng hn.1⟩

set_option maxRecDepth 100000 in
theorem At_K {H0 : Heap} (vl : Value) (l : List Int) (i : Int) (rl : Rd NoB H0 vl l) : CallsH Try.prog 65 #[vl, I (i)] H0 (fun rv_ H' => Ext NoB H0 H' ∧ rv_ = I (atI l i) ∧ In64 (atI l i)) := by
  have hS0 : St H0 NoB NoB [rdE vl l] H0 := St.arg (St.start (fun _ h => h.elim)) (Bl0.nil) rl (fun _ h => h)
  refine callsH_of_wpF (args := [vl, I (i)]) (rs := [.tmp 4]) Try.func65 rfl Try.ntmps65 Try.results65 (by kernel_rfl) (Nat.le_of_ble_eq_true rfl) ?_
  have a0_0 : argF [vl, I (i)] 0 = vl := rfl
  have a0_1 : argF [vl, I (i)] 1 = I (i) := rfl
  generalize argF [vl, I (i)] = f0 at *
  refine wpF_seq ?_
  refine wpF_cut (fun f H => f 0 = vl ∧ f 1 = I (i) ∧ H0 = H) ?_ ?_
  · refine wpF_region ?_
    refine wpL_q (U := NoB) rfl (q_assign (v := I (0)) rfl rfl) ?_
    exact ⟨a0_0, a0_1, rfl⟩
  rintro f1 _ ⟨a1_0, a1_1, rfl⟩
  clear a0_0 a0_1
  refine wpF_seq ?_
  refine wpF_seq ?_
  refine wpF_cut (fun f H => f 0 = vl ∧ f 1 = I (i) ∧ f 12 = B (decide ((0 ≤ i) ∧ (i < (l.length : Int)))) ∧ H0 = H) ?_ ?_
  · refine wpF_region ?_
    refine wpL_q (U := NoB) rfl (q_move (v := I (i)) rfl a1_1) ?_
    refine wpL_q (U := NoB) rfl (q_geq rfl rfl rfl) ?_
    refine wpL_q (U := NoB) rfl (q_move (v := B (decide (0 ≤ i))) rfl rfl) ?_
    by_cases hg2 : 0 ≤ i
    · have hb3 := Eq.trans rfl (congrArg B (decide_eq_true hg2))
      refine wpL_gq (U := NoB) rfl rfl rfl hb3 (q_move (v := I (i)) rfl a1_1) ?_
      refine wpL_gq (U := NoB) rfl rfl rfl hb3 (q_move (v := vl) rfl a1_0) ?_
      refine wpL_gq (U := NoB) rfl rfl rfl hb3 (q_lenRd rfl Try.underlying22 rfl (hS0.rdl 0 rfl)) ?_
      refine wpL_gq (U := NoB) rfl rfl rfl hb3 (q_lss rfl rfl rfl) ?_
      refine wpL_q (U := NoB) rfl (q_pickT (v := B (decide (i < (l.length : Int)))) rfl hb3 rfl) ?_
      exact ⟨a1_0, a1_1, (Eq.trans rfl (congrArg B (decide_congr_of ((Iff.rfl).trans (((and_iff_right hg2).trans Iff.rfl)).symm)))), rfl⟩
    · have hb4 := Eq.trans rfl (congrArg B (decide_eq_false hg2))
      refine wpL_gs rfl rfl rfl hb4 rfl ?_
      refine wpL_gs rfl rfl rfl hb4 rfl ?_
      refine wpL_gs rfl rfl rfl hb4 rfl ?_
      refine wpL_gs rfl rfl rfl hb4 rfl ?_
      refine wpL_q (U := NoB) rfl (q_pickF (v := B (false)) rfl hb4 rfl) ?_
      exact ⟨a1_0, a1_1, (Eq.trans rfl (congrArg B ((decide_eq_false (fun h => hg2 h.1)).symm))), rfl⟩
  rintro f5 _ ⟨a5_0, a5_1, a5_12, rfl⟩
  clear a1_0 a1_1
  refine wpF_condP a5_12 (fun h12 => ?t9) (fun h12 => ?e9)
  case e9 =>
    refine wpF_skip ?_
    refine wpF_seq ?_
    refine wpF_cut (fun f H => f 4 = I (0) ∧ H0 = H) ?_ ?_
    · refine wpF_region ?_
      refine wpL_q (U := NoB) rfl (q_assign (v := I (0)) rfl rfl) ?_
      exact ⟨rfl, rfl⟩
    rintro f8 _ ⟨a8_4, rfl⟩
    clear a5_0 a5_1 a5_12
    refine wpF_ret ?_
    refine ⟨_, resT a8_4 resN, hS0.frame, ?_⟩
    show (I (0)) = I (atI l i) ∧ In64 (atI l i)
    have hq : atI l i = 0 := atI_out h12
    rw [hq]
    exact ⟨rfl, by decide⟩
  refine wpF_seq ?_
  refine wpF_cut (fun f H => f 4 = I (nth l ((i).toNat)) ∧ H0 = H) ?_ ?_
  · refine wpF_region ?_
    refine wpL_q (U := NoB) rfl (q_move (v := vl) rfl a5_0) ?_
    refine wpL_q (U := NoB) rfl (q_move (v := I (i)) rfl a5_1) ?_
    refine wpL_q (U := NoB) rfl (q_indexRd (k := (i).toNat) rfl Try.underlying22 el_Int_3_TopT1 rfl rfl (hS0.rdl 0 rfl) (by omega) (by omega)) ?_
    refine wpL_q (U := NoB) rfl (q_loadInt (k := (i).toNat) rfl rfl el_Int_3_TopT1 (hS0.rdl 0 rfl) (by omega) (fun _ h => h)) ?_
    refine wpL_q (U := NoB) rfl (q_assign (v := I (nth l ((i).toNat))) rfl rfl) ?_
    exact ⟨rfl, rfl⟩
  rintro f7 _ ⟨a7_4, rfl⟩
  clear a5_0 a5_1 a5_12
  refine wpF_ret ?_
  refine ⟨_, resT a7_4 resN, hS0.frame, ?_⟩
  show (I (nth l ((i).toNat))) = I (atI l i) ∧ In64 (atI l i)
  have hq : atI l i = nth l i.toNat := atI_in h12
  rw [hq]
  exact ⟨rfl, (Rd.list.1 rl).in64 (by omega)⟩

set_option maxHeartbeats 1000000 in
set_option maxRecDepth 100000 in
theorem autoOf_T {H0 : Heap} {S : Nat → Prop} (vl : Value) (l : List Int) (rl : Rd S H0 vl l) : CallsH Try.prog 39 #[vl] H0 (fun rv_ H' => Ext NoB H0 H' ∧ ∃ w1_ w2_, rv_ = Value.agg #[I (topA l).Signs, w1_, w2_] ∧ Rd (fun b => S b ∧ b < H0.size) H' w1_ (topA l).Next ∧ Rd (fun b => S b ∧ b < H0.size) H' w2_ (topA l).Takes) := by
  have hS0 : St H0 NoB (fun b => S b ∧ b < H0.size) [rdE vl l] H0 := St.arg (St.start (fun _ h => h.2)) (Bl0.nil) rl (fun _ h => h.1)
  refine callsH_of_wpF (args := [vl]) (rs := [.cell 2 36]) Try.func39 rfl Try.ntmps39 Try.results39 (by kernel_rfl) (Nat.le_of_ble_eq_true rfl) ?_
  have a0_0 : argF [vl] 0 = vl := rfl
  generalize argF [vl] = f0 at *
  refine wpF_seq ?_
  refine wpF_cut (fun f H => ∃ (g1 : Nat), f 0 = vl ∧ f 2 = PT g1 0 ∧ St H0 NoB (fun b => S b ∧ b < H0.size) [blkE g1 (.cells #[I (0), (Value.slice none 0 0), (Value.slice none 0 0)] 36), rdE vl l] H) ?_ ?_
  · refine wpF_region ?_
    refine wpL_o rfl ?_
    refine e_alloc rfl Try.zeroValue36 hS0 (fun g1 H2 hS3 hxx => ?_)
    replace hS3 : St H0 NoB (fun b => S b ∧ b < H0.size) [blkE g1 (.cells #[I (0), (Value.slice none 0 0), (Value.slice none 0 0)] 36), rdE vl l] H2 := hS3
    exact ⟨g1, a0_0, rfl, hS3⟩
  rintro f4 H4 ⟨g1, a4_0, a4_2, hS4⟩
  clear a0_0
  refine wpF_seq ?_
  refine wpF_cut (fun f H => ∃ (g5 : Nat), f 0 = vl ∧ f 2 = PT g1 0 ∧ f 3 = PT g5 0 ∧ St H0 NoB (fun b => S b ∧ b < H0.size) [blkE g5 (.cells #[I (2), (Value.slice none 0 0), (Value.slice none 0 0)] 36), blkE g1 (.cells #[I (0), (Value.slice none 0 0), (Value.slice none 0 0)] 36), rdE vl l] H) ?_ ?_
  · refine wpF_region ?_
    refine wpL_q (U := NoB) rfl (q_build (v := Value.agg #[I (2), (Value.slice none 0 0), (Value.slice none 0 0)]) rfl (par1 (v0 := I (2)) rfl) (fun w => by kernel_rfl)) ?_
    refine wpL_o rfl ?_
    refine e_alloc rfl Try.zeroValue36 hS4 (fun g5 H6 hS7 hxx => ?_)
    replace hS7 : St H0 NoB (fun b => S b ∧ b < H0.size) [blkE g5 (.cells #[I (0), (Value.slice none 0 0), (Value.slice none 0 0)] 36), blkE g1 (.cells #[I (0), (Value.slice none 0 0), (Value.slice none 0 0)] 36), rdE vl l] H6 := hS7
    refine wpL_o rfl ?_
    refine e_storeBlkA (cs' := #[I (2), (Value.slice none 0 0), (Value.slice none 0 0)]) rfl rfl rfl Try.sizeOf36 rfl rfl (List.forall_mem_cons.2 ⟨rfl, List.forall_mem_cons.2 ⟨rfl, List.forall_mem_cons.2 ⟨rfl, List.forall_mem_nil _⟩⟩⟩) hS7 (fun H8 hS9 hxx => ?_)
    replace hS9 : St H0 NoB (fun b => S b ∧ b < H0.size) [blkE g5 (.cells #[I (2), (Value.slice none 0 0), (Value.slice none 0 0)] 36), blkE g1 (.cells #[I (0), (Value.slice none 0 0), (Value.slice none 0 0)] 36), rdE vl l] H8 := hS9
    exact ⟨g5, a4_0, a4_2, rfl, hS9⟩
  rintro f10 H10 ⟨g5, a10_0, a10_2, a10_3, hS10⟩
  clear a4_0 a4_2
  have hS11 : St H0 NoB (fun b => S b ∧ b < H0.size) [rowE 22 (Value.slice none 0 0) ([] : List (List Int)), blkE g5 (.cells #[I (2), (Value.slice none 0 0), (Value.slice none 0 0)] 36), blkE g1 (.cells #[I (0), (Value.slice none 0 0), (Value.slice none 0 0)] 36), rdE vl l] H10 := hS10.row0 22
  have hS12 : St H0 NoB (fun b => S b ∧ b < H0.size) [rowE 4 (Value.slice none 0 0) ([] : List Bool), rowE 22 (Value.slice none 0 0) ([] : List (List Int)), blkE g5 (.cells #[I (2), (Value.slice none 0 0), (Value.slice none 0 0)] 36), blkE g1 (.cells #[I (0), (Value.slice none 0 0), (Value.slice none 0 0)] 36), rdE vl l] H10 := hS11.row0 4
  refine wpF_seq ?_
  refine wpF_seq ?_
  refine wpF_cut (fun f H => f 0 = vl ∧ f 2 = PT g1 0 ∧ f 3 = PT g5 0 ∧ f 4 = I (0) ∧ H10 = H) ?_ ?_
  · refine wpF_region ?_
    refine wpL_q (U := NoB) rfl (q_assign (v := I (0)) rfl rfl) ?_
    exact ⟨a10_0, a10_2, a10_3, rfl, rfl⟩
  rintro f13 _ ⟨a13_0, a13_2, a13_3, a13_4, rfl⟩
  clear a10_0 a10_2 a10_3
  refine wpF_block ?_
  refine wpF_loop (fun mz f H => ∃ (k : Nat), ∃ (v1 : Value), ∃ (v2 : Value), mz = 3 - k ∧ (k ≤ 3) ∧ f 0 = vl ∧ f 2 = PT g1 0 ∧ f 3 = PT g5 0 ∧ f 4 = I ((k : Int)) ∧ St H0 NoB (fun b => S b ∧ b < H0.size) [rowE 22 v1 (topN l k : List (List Int)), rowE 4 v2 (topT l k : List Bool), blkE g5 (.cells #[I (2), v1, v2] 36), blkE g1 (.cells #[I (0), (Value.slice none 0 0), (Value.slice none 0 0)] 36), rdE vl l] H) (3 - 0) ?_ ?_
  · exact ⟨0, (Value.slice none 0 0), (Value.slice none 0 0), rfl, (by omega), a13_0, a13_2, a13_3, (Eq.trans a13_4 (congrArg I (by omega))), (show St H0 NoB (fun b => S b ∧ b < H0.size) [rowE 22 (Value.slice none 0 0) (topN l 0 : List (List Int)), rowE 4 (Value.slice none 0 0) (topT l 0 : List Bool), blkE g5 (.cells #[I (2), (Value.slice none 0 0), (Value.slice none 0 0)] 36), blkE g1 (.cells #[I (0), (Value.slice none 0 0), (Value.slice none 0 0)] 36), rdE vl l] H10 from (St.drop (show St H0 NoB (fun b => S b ∧ b < H0.size) [rowE 22 (Value.slice none 0 0) ([] : List (List Int)), rowE 4 (Value.slice none 0 0) ([] : List Bool), blkE g5 (.cells #[I (2), (Value.slice none 0 0), (Value.slice none 0 0)] 36), blkE g1 (.cells #[I (0), (Value.slice none 0 0), (Value.slice none 0 0)] 36), rdE vl l] H10 from (hS12.front 1 rfl)) (sk (sk (sk (sk (sk (List.Sublist.slnil))))))))⟩
  intro m14 f14 H14 hI14
  obtain ⟨k, v1, v2, hm14, hk, a14_0, a14_2, a14_3, a14_4, hS14⟩ := hI14
  clear a13_0 a13_2 a13_3 a13_4
  refine wpF_seq ?_
  refine wpF_seq ?_
  refine wpF_cut (fun f H => f 0 = vl ∧ f 2 = PT g1 0 ∧ f 3 = PT g5 0 ∧ f 4 = I ((k : Int)) ∧ f 7 = B (decide ((k : Int) < 3)) ∧ H14 = H) ?_ ?_
  · refine wpF_region ?_
    refine wpL_q (U := NoB) rfl (q_move (v := I ((k : Int))) rfl a14_4) ?_
    refine wpL_q (U := NoB) rfl (q_lss rfl rfl rfl) ?_
    exact ⟨a14_0, a14_2, a14_3, a14_4, rfl, rfl⟩
  rintro f15 _ ⟨a15_0, a15_2, a15_3, a15_4, a15_7, rfl⟩
  clear a14_0 a14_2 a14_3 a14_4
  refine wpF_condP a15_7 (fun hlt => ?t27) (fun hlt => ?e27)
  case e27 =>
    refine wpF_exit ?_
    refine atX_here ?_
    refine wpF_seq ?_
    refine wpF_cut (fun f H => f 2 = PT g1 0 ∧ St H0 NoB (fun b => S b ∧ b < H0.size) [blkE g1 (.cells #[I (2), v1, v2] 36), rowE 22 v1 (topN l k : List (List Int)), rowE 4 v2 (topT l k : List Bool), blkE g5 (.cells #[I (2), v1, v2] 36), rdE vl l] H) ?_ ?_
    · refine wpF_region ?_
      refine wpL_q (U := NoB) rfl (q_loadBlkA rfl a15_3 Try.isAgg36 Try.sizeOf36 rfl (hS14.blk 2 rfl) (fun h => h)) ?_
      refine wpL_o rfl ?_
      refine e_storeBlkA (cs' := #[I (2), v1, v2]) rfl a15_2 rfl Try.sizeOf36 rfl rfl (List.forall_mem_cons.2 ⟨rfl, List.forall_mem_cons.2 ⟨(oneCell_rdL (hS14.rowl 0 rfl)), List.forall_mem_cons.2 ⟨(oneCell_rdL (hS14.rowl 1 rfl)), List.forall_mem_nil _⟩⟩⟩) (hS14.front 3 rfl) (fun H22 hS23 hxx => ?_)
      replace hS23 : St H0 NoB (fun b => S b ∧ b < H0.size) [blkE g1 (.cells #[I (2), v1, v2] 36), rowE 22 v1 (topN l k : List (List Int)), rowE 4 v2 (topT l k : List Bool), blkE g5 (.cells #[I (2), v1, v2] 36), rdE vl l] H22 := hS23
      exact ⟨a15_2, hS23⟩
    rintro f24 H24 ⟨a24_2, hS24⟩
    clear a15_0 a15_2 a15_3 a15_4 a15_7
    refine wpF_ret ?_
    refine ⟨_, resC a24_2 (loadV_blkA Try.isAgg36 Try.sizeOf36 rfl (hS24.blk 0 rfl)) (resN), hS24.frame, ?_⟩
    show ∃ w1_ w2_, (Value.agg #[I (2), v1, v2]) = Value.agg #[I (topA l).Signs, w1_, w2_] ∧ Rd (fun b => S b ∧ b < H0.size) H24 w1_ (topA l).Next ∧ Rd (fun b => S b ∧ b < H0.size) H24 w2_ (topA l).Takes
    have hS25 : St H0 NoB (fun b => S b ∧ b < H0.size) [rdE v1 (topN l k), blkE g1 (.cells #[I (2), v1, v2] 36), rowE 4 v2 (topT l k : List Bool), blkE g5 (.cells #[I (2), v1, v2] 36), rdE vl l] H24 := St.fin (hS24.front 1 rfl)
    have hS26 : St H0 NoB (fun b => S b ∧ b < H0.size) [rdE v2 (topT l k), rdE v1 (topN l k), blkE g1 (.cells #[I (2), v1, v2] 36), blkE g5 (.cells #[I (2), v1, v2] 36), rdE vl l] H24 := St.fin (hS25.front 2 rfl)
    have hk3 : k = 3 := by omega
    subst hk3
    exact ⟨v1, v2, rfl, (hS26.result (hS26.rdS 1 rfl)), (hS26.result (hS26.rdS 0 rfl))⟩
  have htn := topN_len (l := l) (k := k)
  have htt := topT_len (l := l) (k := k)
  refine wpF_skip ?_
  refine wpF_seq ?_
  refine wpF_block ?_
  refine wpF_seq ?_
  refine wpF_cut (fun f H => ∃ (v17o15 : Value), (In64 (atI l (2 * (k : Int)))) ∧ (0 ≤ pickI (atI l (2 * (k : Int))) 3 ∧ pickI (atI l (2 * (k : Int))) 3 < 3) ∧ (In64 (atI l ((2 * (k : Int)) + 1))) ∧ (0 ≤ pickI (atI l ((2 * (k : Int)) + 1)) 3 ∧ pickI (atI l ((2 * (k : Int)) + 1)) 3 < 3) ∧ f 0 = vl ∧ f 2 = PT g1 0 ∧ f 3 = PT g5 0 ∧ f 4 = I ((k : Int)) ∧ St H0 NoB (fun b => S b ∧ b < H0.size) [blkE g5 (.cells #[I (2), v17o15, v2] 36), rowE 22 v17o15 (topN l (k + 1) : List (List Int)), rowE 4 v2 (topT l k : List Bool), blkE g1 (.cells #[I (0), (Value.slice none 0 0), (Value.slice none 0 0)] 36), rdE vl l] H) ?_ ?_
  · refine wpF_drawn [none, none, none, none, none, none, none, none, none, none, none, none, none, none, none, some 0, none, some 1] [[], [], [], [], [], [], [], [], [], [], [], [], [], [], [], [], [], []] (fun l b => match l with | 0 => True | 1 => True | _ => False) (by kernel_rfl) (by kernel_rfl) ?_
    refine wpR_q 0 (by kernel_rfl) rfl (quietAt rfl rfl (q_fieldAddr rfl Try.underlying36 rfl Try.sizeOf27 a15_3)) ?_
    refine wpR_q 1 (by kernel_rfl) rfl (quietAt rfl rfl (q_loadBlk rfl rfl Try.isAgg27 (hS14.blk 2 rfl) rfl (labU_not [] rfl (List.forall_mem_nil _)))) ?_
    refine wpR_q 2 (by kernel_rfl) rfl (quietAt rfl rfl (q_move (v := vl) rfl a15_0)) ?_
    refine wpR_q 3 (by kernel_rfl) rfl (quietAt rfl rfl (q_move (v := I ((k : Int))) rfl a15_4)) ?_
    refine wpR_q 4 (by kernel_rfl) rfl (quietAt rfl rfl (q_mul rfl rfl rfl (by constructor <;> omega))) ?_
    refine wpR_q 7 (by kernel_rfl) rfl (quietAt rfl rfl (q_move (v := vl) rfl a15_0)) ?_
    refine wpR_q 8 (by kernel_rfl) rfl (quietAt rfl rfl (q_move (v := I ((k : Int))) rfl a15_4)) ?_
    refine wpR_q 9 (by kernel_rfl) rfl (quietAt rfl rfl (q_mul rfl rfl rfl (by constructor <;> omega))) ?_
    refine wpR_q 10 (by kernel_rfl) rfl (quietAt rfl rfl (q_add rfl rfl rfl (by constructor <;> omega))) ?_
    refine wpR_n [5] (by kernel_rfl) ?_
    refine List.forall_mem_cons.2 ⟨?_, List.forall_mem_nil _⟩
    refine exE rfl rfl ?_
    refine e_call rfl Try.call65 (arr2 (v0 := vl) (v1 := I (2 * (k : Int))) rfl rfl) (At_K vl l (2 * (k : Int)) (hS14.rdN 4 rfl)) ?_
    rintro _ H17o5 ⟨hxx, rfl, y17o5⟩
    have hS17o5 : St H0 NoB (fun b => S b ∧ b < H0.size) [rowE 22 v1 (topN l k : List (List Int)), rowE 4 v2 (topT l k : List Bool), blkE g5 (.cells #[I (2), v1, v2] 36), blkE g1 (.cells #[I (0), (Value.slice none 0 0), (Value.slice none 0 0)] 36), rdE vl l] H17o5 := hS14.ext hxx
    refine ⟨Ext.mono hxx (fun _ h => h.elim), ?_⟩
    refine wpR_n [6] (by kernel_rfl) ?_
    refine List.forall_mem_cons.2 ⟨?_, List.forall_mem_nil _⟩
    refine exE rfl rfl ?_
    refine e_call rfl Try.call41 (arr2 (v0 := I (atI l (2 * (k : Int)))) (v1 := I (3)) rfl rfl) (Picked (atI l (2 * (k : Int))) 3 (by omega)) ?_
    rintro _ H17o6 ⟨hxx, rfl, y17o6⟩
    have hS17o6 : St H0 NoB (fun b => S b ∧ b < H0.size) [rowE 22 v1 (topN l k : List (List Int)), rowE 4 v2 (topT l k : List Bool), blkE g5 (.cells #[I (2), v1, v2] 36), blkE g1 (.cells #[I (0), (Value.slice none 0 0), (Value.slice none 0 0)] 36), rdE vl l] H17o6 := hS17o5.ext hxx
    refine ⟨Ext.mono hxx (fun _ h => h.elim), ?_⟩
    refine wpR_n [11] (by kernel_rfl) ?_
    refine List.forall_mem_cons.2 ⟨?_, List.forall_mem_nil _⟩
    refine exE rfl rfl ?_
    refine e_call rfl Try.call65 (arr2 (v0 := vl) (v1 := I ((2 * (k : Int)) + 1)) rfl rfl) (At_K vl l ((2 * (k : Int)) + 1) (hS17o6.rdN 4 rfl)) ?_
    rintro _ H17o11 ⟨hxx, rfl, y17o11⟩
    have hS17o11 : St H0 NoB (fun b => S b ∧ b < H0.size) [rowE 22 v1 (topN l k : List (List Int)), rowE 4 v2 (topT l k : List Bool), blkE g5 (.cells #[I (2), v1, v2] 36), blkE g1 (.cells #[I (0), (Value.slice none 0 0), (Value.slice none 0 0)] 36), rdE vl l] H17o11 := hS17o6.ext hxx
    refine ⟨Ext.mono hxx (fun _ h => h.elim), ?_⟩
    refine wpR_n [12] (by kernel_rfl) ?_
    refine List.forall_mem_cons.2 ⟨?_, List.forall_mem_nil _⟩
    refine exE rfl rfl ?_
    refine e_call rfl Try.call41 (arr2 (v0 := I (atI l ((2 * (k : Int)) + 1))) (v1 := I (3)) rfl rfl) (Picked (atI l ((2 * (k : Int)) + 1)) 3 (by omega)) ?_
    rintro _ H17o12 ⟨hxx, rfl, y17o12⟩
    have hS17o12 : St H0 NoB (fun b => S b ∧ b < H0.size) [rowE 22 v1 (topN l k : List (List Int)), rowE 4 v2 (topT l k : List Bool), blkE g5 (.cells #[I (2), v1, v2] 36), blkE g1 (.cells #[I (0), (Value.slice none 0 0), (Value.slice none 0 0)] 36), rdE vl l] H17o12 := hS17o11.ext hxx
    refine ⟨Ext.mono hxx (fun _ h => h.elim), ?_⟩
    refine wpR_n [13] (by kernel_rfl) ?_
    refine List.forall_mem_cons.2 ⟨?_, List.forall_mem_nil _⟩
    refine exE rfl rfl ?_
    refine e_buildSlice (vs := [I (pickI (atI l (2 * (k : Int))) 3), I (pickI (atI l ((2 * (k : Int)) + 1)) 3)]) (xs := ([pickI (atI l (2 * (k : Int))) 3, pickI (atI l ((2 * (k : Int)) + 1)) 3] : List Int)) rfl Try.underlying22 Try.zeroValue3 rfl Try.sizeOf3 (par2 (v0 := I (pickI (atI l (2 * (k : Int))) 3)) (v1 := I (pickI (atI l ((2 * (k : Int)) + 1)) 3)) rfl rfl) rfl hS17o12 (RdVs.cons (Rd.int.2 ⟨rfl, by constructor <;> omega⟩) (RdVs.cons (Rd.int.2 ⟨rfl, by constructor <;> omega⟩) (RdVs.nil))) (by decide) (by decide) (fun v17o13 H17o13 hS17o13 hxx hvv17o13 => ?_)
    replace hS17o13 : St H0 NoB (fun b => S b ∧ b < H0.size) [rowE 3 v17o13 ([pickI (atI l (2 * (k : Int))) 3, pickI (atI l ((2 * (k : Int)) + 1)) 3] : List Int), rowE 22 v1 (topN l k : List (List Int)), rowE 4 v2 (topT l k : List Bool), blkE g5 (.cells #[I (2), v1, v2] 36), blkE g1 (.cells #[I (0), (Value.slice none 0 0), (Value.slice none 0 0)] 36), rdE vl l] H17o13 := hS17o13
    refine ⟨Ext.mono hxx (fun _ h => h.elim), ?_⟩
    refine wpR_n [14] (by kernel_rfl) ?_
    refine List.forall_mem_cons.2 ⟨?_, List.forall_mem_nil _⟩
    have hS17o14 : St H0 NoB (fun b => S b ∧ b < H0.size) [rdE v17o13 ([pickI (atI l (2 * (k : Int))) 3, pickI (atI l ((2 * (k : Int)) + 1)) 3] : List Int), rowE 22 v1 (topN l k : List (List Int)), rowE 4 v2 (topT l k : List Bool), blkE g5 (.cells #[I (2), v1, v2] 36), blkE g1 (.cells #[I (0), (Value.slice none 0 0), (Value.slice none 0 0)] 36), rdE vl l] H17o13 := St.fin hS17o13
    refine exE rfl rfl ?_
    refine e_buildSlice (vs := [v17o13]) (xs := ([[pickI (atI l (2 * (k : Int))) 3, pickI (atI l ((2 * (k : Int)) + 1)) 3]] : List (List Int))) rfl Try.underlying27 Try.zeroValue22 rfl Try.sizeOf22 (par1 (v0 := v17o13) rfl) rfl hS17o14 (RdVs.cons (hS17o14.rdS 0 rfl) (RdVs.nil)) (by decide) (by decide) (fun v17o14 H17o14 hS17o14x2 hxx hvv17o14 => ?_)
    replace hS17o14x2 : St H0 NoB (fun b => S b ∧ b < H0.size) [rowE 22 v17o14 ([[pickI (atI l (2 * (k : Int))) 3, pickI (atI l ((2 * (k : Int)) + 1)) 3]] : List (List Int)), rdE v17o13 ([pickI (atI l (2 * (k : Int))) 3, pickI (atI l ((2 * (k : Int)) + 1)) 3] : List Int), rowE 22 v1 (topN l k : List (List Int)), rowE 4 v2 (topT l k : List Bool), blkE g5 (.cells #[I (2), v1, v2] 36), blkE g1 (.cells #[I (0), (Value.slice none 0 0), (Value.slice none 0 0)] 36), rdE vl l] H17o14 := hS17o14x2
    refine ⟨Ext.mono hxx (fun _ h => h.elim), ?_⟩
    refine wpR_n [15] (by kernel_rfl) ?_
    refine List.forall_mem_cons.2 ⟨?_, List.forall_mem_nil _⟩
    have hS17o15 : St H0 NoB (fun b => S b ∧ b < H0.size) [rdE v17o14 ([[pickI (atI l (2 * (k : Int))) 3, pickI (atI l ((2 * (k : Int)) + 1)) 3]] : List (List Int)), rdE v17o13 ([pickI (atI l (2 * (k : Int))) 3, pickI (atI l ((2 * (k : Int)) + 1)) 3] : List Int), rowE 22 v1 (topN l k : List (List Int)), rowE 4 v2 (topT l k : List Bool), blkE g5 (.cells #[I (2), v1, v2] 36), blkE g1 (.cells #[I (0), (Value.slice none 0 0), (Value.slice none 0 0)] 36), rdE vl l] H17o14 := St.fin hS17o14x2
    have hS17o15x2 : St H0 NoB (fun b => S b ∧ b < H0.size) [rowE 22 v1 (topN l k : List (List Int)), rdE v17o14 ([[pickI (atI l (2 * (k : Int))) 3, pickI (atI l ((2 * (k : Int)) + 1)) 3]] : List (List Int)), rdE v17o13 ([pickI (atI l (2 * (k : Int))) 3, pickI (atI l ((2 * (k : Int)) + 1)) 3] : List Int), rowE 4 v2 (topT l k : List Bool), blkE g5 (.cells #[I (2), v1, v2] 36), blkE g1 (.cells #[I (0), (Value.slice none 0 0), (Value.slice none 0 0)] 36), rdE vl l] H17o14 := (hS17o15.front 2 rfl)
    refine exE rfl rfl ?_
    refine e_append rfl Try.underlying27 em_LInt_22_TopT1 rfl rfl hS17o15x2 (hS17o15x2.rdS 1 rfl) (fun _ h => h) (by have hb : GoT.bytes (List Int) = 24 := rfl; simp [hb]; omega) (by decide) (fun v17o15 H17o15 hS17o15x3 hxx => ?_)
    replace hS17o15x3 : St H0 NoB (fun b => S b ∧ b < H0.size) [rowE 22 v17o15 ((topN l k) ++ ([[pickI (atI l (2 * (k : Int))) 3, pickI (atI l ((2 * (k : Int)) + 1)) 3]]) : List (List Int)), rdE v17o14 ([[pickI (atI l (2 * (k : Int))) 3, pickI (atI l ((2 * (k : Int)) + 1)) 3]] : List (List Int)), rdE v17o13 ([pickI (atI l (2 * (k : Int))) 3, pickI (atI l ((2 * (k : Int)) + 1)) 3] : List Int), rowE 4 v2 (topT l k : List Bool), blkE g5 (.cells #[I (2), v1, v2] 36), blkE g1 (.cells #[I (0), (Value.slice none 0 0), (Value.slice none 0 0)] 36), rdE vl l] H17o15 := hS17o15x3
    have hS17o15x4 : St H0 NoB (fun b => S b ∧ b < H0.size) [rowE 22 v17o15 (topN l (k + 1) : List (List Int)), rdE v17o14 ([[pickI (atI l (2 * (k : Int))) 3, pickI (atI l ((2 * (k : Int)) + 1)) 3]] : List (List Int)), rdE v17o13 ([pickI (atI l (2 * (k : Int))) 3, pickI (atI l ((2 * (k : Int)) + 1)) 3] : List Int), rowE 4 v2 (topT l k : List Bool), blkE g5 (.cells #[I (2), v1, v2] 36), blkE g1 (.cells #[I (0), (Value.slice none 0 0), (Value.slice none 0 0)] 36), rdE vl l] H17o15 := by rw [show (topN l (k + 1)) = ((topN l k) ++ ([[pickI (atI l (2 * (k : Int))) 3, pickI (atI l ((2 * (k : Int)) + 1)) 3]])) from topN_next]; exact hS17o15x3
    refine ⟨Ext.mono hxx (labS_of 0 rfl (fun _ _ => trivial)), ?_⟩
    refine wpR_q 16 (by kernel_rfl) rfl (quietAt rfl rfl (q_fieldAddr rfl Try.underlying36 rfl Try.sizeOf27 a15_3)) ?_
    refine wpR_n [17] (by kernel_rfl) ?_
    refine List.forall_mem_cons.2 ⟨?_, List.forall_mem_nil _⟩
    refine exE rfl rfl ?_
    refine e_storeBlk (v := v17o15) rfl rfl rfl (oneCell_rdL (hS17o15x4.rowl 0 rfl)) Try.sizeOf27 (by show _ < 3; decide) (hS17o15x4.front 4 rfl) (fun H17o17 hS17o17 hxx => ?_)
    replace hS17o17 : St H0 NoB (fun b => S b ∧ b < H0.size) [blkE g5 (.cells #[I (2), v17o15, v2] 36), rowE 22 v17o15 (topN l (k + 1) : List (List Int)), rdE v17o14 ([[pickI (atI l (2 * (k : Int))) 3, pickI (atI l ((2 * (k : Int)) + 1)) 3]] : List (List Int)), rdE v17o13 ([pickI (atI l (2 * (k : Int))) 3, pickI (atI l ((2 * (k : Int)) + 1)) 3] : List Int), rowE 4 v2 (topT l k : List Bool), blkE g1 (.cells #[I (0), (Value.slice none 0 0), (Value.slice none 0 0)] 36), rdE vl l] H17o17 := hS17o17
    refine ⟨Ext.mono hxx (labS_of 1 rfl (fun _ _ => trivial)), ?_⟩
    refine wpR_end (by kernel_rfl) ?_
    exact ⟨v17o15, y17o5, y17o6, y17o11, y17o12, a15_0, a15_2, a15_3, a15_4, (hS17o17.drop (sk (sk (sn (sn (sk (sk (sk (List.Sublist.slnil)))))))))⟩
  rintro f18 H18 ⟨v17o15, y17o5, y17o6, y17o11, y17o12, a18_0, a18_2, a18_3, a18_4, hS18⟩
  clear a15_0 a15_2 a15_3 a15_4 a15_7
  refine wpF_cut (fun f H => ∃ (v19o9 : Value), (In64 (atI l (6 + (k : Int)))) ∧ (0 ≤ pickI (atI l (6 + (k : Int))) 2 ∧ pickI (atI l (6 + (k : Int))) 2 < 2) ∧ f 0 = vl ∧ f 2 = PT g1 0 ∧ f 3 = PT g5 0 ∧ f 4 = I ((k : Int)) ∧ St H0 NoB (fun b => S b ∧ b < H0.size) [blkE g5 (.cells #[I (2), v17o15, v19o9] 36), rowE 4 v19o9 (topT l (k + 1) : List Bool), rowE 22 v17o15 (topN l (k + 1) : List (List Int)), blkE g1 (.cells #[I (0), (Value.slice none 0 0), (Value.slice none 0 0)] 36), rdE vl l] H) ?_ ?_
  · refine wpF_drawn [none, none, none, none, none, none, none, none, none, some 0, none, some 1] [[], [], [], [], [], [], [], [], [], [], [], []] (fun l b => match l with | 0 => True | 1 => True | _ => False) (by kernel_rfl) (by kernel_rfl) ?_
    refine wpR_q 0 (by kernel_rfl) rfl (quietAt rfl rfl (q_fieldAddr rfl Try.underlying36 rfl Try.sizeOf32 a18_3)) ?_
    refine wpR_q 1 (by kernel_rfl) rfl (quietAt rfl rfl (q_loadBlk rfl rfl Try.isAgg32 (hS18.blk 0 rfl) rfl (labU_not [] rfl (List.forall_mem_nil _)))) ?_
    refine wpR_q 2 (by kernel_rfl) rfl (quietAt rfl rfl (q_move (v := vl) rfl a18_0)) ?_
    refine wpR_q 3 (by kernel_rfl) rfl (quietAt rfl rfl (q_move (v := I ((k : Int))) rfl a18_4)) ?_
    refine wpR_q 4 (by kernel_rfl) rfl (quietAt rfl rfl (q_add rfl rfl rfl (by constructor <;> omega))) ?_
    refine wpR_n [5] (by kernel_rfl) ?_
    refine List.forall_mem_cons.2 ⟨?_, List.forall_mem_nil _⟩
    refine exE rfl rfl ?_
    refine e_call rfl Try.call65 (arr2 (v0 := vl) (v1 := I (6 + (k : Int))) rfl rfl) (At_K vl l (6 + (k : Int)) (hS18.rdN 4 rfl)) ?_
    rintro _ H19o5 ⟨hxx, rfl, y19o5⟩
    have hS19o5 : St H0 NoB (fun b => S b ∧ b < H0.size) [blkE g5 (.cells #[I (2), v17o15, v2] 36), rowE 22 v17o15 (topN l (k + 1) : List (List Int)), rowE 4 v2 (topT l k : List Bool), blkE g1 (.cells #[I (0), (Value.slice none 0 0), (Value.slice none 0 0)] 36), rdE vl l] H19o5 := hS18.ext hxx
    refine ⟨Ext.mono hxx (fun _ h => h.elim), ?_⟩
    refine wpR_n [6] (by kernel_rfl) ?_
    refine List.forall_mem_cons.2 ⟨?_, List.forall_mem_nil _⟩
    refine exE rfl rfl ?_
    refine e_call rfl Try.call41 (arr2 (v0 := I (atI l (6 + (k : Int)))) (v1 := I (2)) rfl rfl) (Picked (atI l (6 + (k : Int))) 2 (by omega)) ?_
    rintro _ H19o6 ⟨hxx, rfl, y19o6⟩
    have hS19o6 : St H0 NoB (fun b => S b ∧ b < H0.size) [blkE g5 (.cells #[I (2), v17o15, v2] 36), rowE 22 v17o15 (topN l (k + 1) : List (List Int)), rowE 4 v2 (topT l k : List Bool), blkE g1 (.cells #[I (0), (Value.slice none 0 0), (Value.slice none 0 0)] 36), rdE vl l] H19o6 := hS19o5.ext hxx
    refine ⟨Ext.mono hxx (fun _ h => h.elim), ?_⟩
    refine wpR_q 7 (by kernel_rfl) rfl (quietAt rfl rfl (q_eql rfl rfl rfl)) ?_
    refine wpR_n [8] (by kernel_rfl) ?_
    refine List.forall_mem_cons.2 ⟨?_, List.forall_mem_nil _⟩
    refine exE rfl rfl ?_
    refine e_buildSlice (vs := [B (decide ((pickI (atI l (6 + (k : Int))) 2) = 1))]) (xs := ([decide ((pickI (atI l (6 + (k : Int))) 2) = 1)] : List Bool)) rfl Try.underlying32 Try.zeroValue4 rfl Try.sizeOf4 (par1 (v0 := B (decide ((pickI (atI l (6 + (k : Int))) 2) = 1))) rfl) rfl hS19o6 (RdVs.cons (Rd.bool.2 rfl) (RdVs.nil)) (by decide) (by decide) (fun v19o8 H19o8 hS19o8 hxx hvv19o8 => ?_)
    replace hS19o8 : St H0 NoB (fun b => S b ∧ b < H0.size) [rowE 4 v19o8 ([decide ((pickI (atI l (6 + (k : Int))) 2) = 1)] : List Bool), blkE g5 (.cells #[I (2), v17o15, v2] 36), rowE 22 v17o15 (topN l (k + 1) : List (List Int)), rowE 4 v2 (topT l k : List Bool), blkE g1 (.cells #[I (0), (Value.slice none 0 0), (Value.slice none 0 0)] 36), rdE vl l] H19o8 := hS19o8
    refine ⟨Ext.mono hxx (fun _ h => h.elim), ?_⟩
    refine wpR_n [9] (by kernel_rfl) ?_
    refine List.forall_mem_cons.2 ⟨?_, List.forall_mem_nil _⟩
    have hS19o9 : St H0 NoB (fun b => S b ∧ b < H0.size) [rdE v19o8 ([decide ((pickI (atI l (6 + (k : Int))) 2) = 1)] : List Bool), blkE g5 (.cells #[I (2), v17o15, v2] 36), rowE 22 v17o15 (topN l (k + 1) : List (List Int)), rowE 4 v2 (topT l k : List Bool), blkE g1 (.cells #[I (0), (Value.slice none 0 0), (Value.slice none 0 0)] 36), rdE vl l] H19o8 := St.fin hS19o8
    have hS19o9x2 : St H0 NoB (fun b => S b ∧ b < H0.size) [rowE 4 v2 (topT l k : List Bool), rdE v19o8 ([decide ((pickI (atI l (6 + (k : Int))) 2) = 1)] : List Bool), blkE g5 (.cells #[I (2), v17o15, v2] 36), rowE 22 v17o15 (topN l (k + 1) : List (List Int)), blkE g1 (.cells #[I (0), (Value.slice none 0 0), (Value.slice none 0 0)] 36), rdE vl l] H19o8 := (hS19o9.front 3 rfl)
    refine exE rfl rfl ?_
    refine e_append rfl Try.underlying32 em_Bool_4_TopT1 rfl rfl hS19o9x2 (hS19o9x2.rdS 1 rfl) (fun _ h => h) (by have hb : GoT.bytes Bool = 1 := rfl; simp [hb]; omega) (by decide) (fun v19o9 H19o9 hS19o9x3 hxx => ?_)
    replace hS19o9x3 : St H0 NoB (fun b => S b ∧ b < H0.size) [rowE 4 v19o9 ((topT l k) ++ ([decide ((pickI (atI l (6 + (k : Int))) 2) = 1)]) : List Bool), rdE v19o8 ([decide ((pickI (atI l (6 + (k : Int))) 2) = 1)] : List Bool), blkE g5 (.cells #[I (2), v17o15, v2] 36), rowE 22 v17o15 (topN l (k + 1) : List (List Int)), blkE g1 (.cells #[I (0), (Value.slice none 0 0), (Value.slice none 0 0)] 36), rdE vl l] H19o9 := hS19o9x3
    have hS19o9x4 : St H0 NoB (fun b => S b ∧ b < H0.size) [rowE 4 v19o9 (topT l (k + 1) : List Bool), rdE v19o8 ([decide ((pickI (atI l (6 + (k : Int))) 2) = 1)] : List Bool), blkE g5 (.cells #[I (2), v17o15, v2] 36), rowE 22 v17o15 (topN l (k + 1) : List (List Int)), blkE g1 (.cells #[I (0), (Value.slice none 0 0), (Value.slice none 0 0)] 36), rdE vl l] H19o9 := by rw [show (topT l (k + 1)) = ((topT l k) ++ ([decide ((pickI (atI l (6 + (k : Int))) 2) = 1)])) from topT_next]; exact hS19o9x3
    refine ⟨Ext.mono hxx (labS_of 0 rfl (fun _ _ => trivial)), ?_⟩
    refine wpR_q 10 (by kernel_rfl) rfl (quietAt rfl rfl (q_fieldAddr rfl Try.underlying36 rfl Try.sizeOf32 a18_3)) ?_
    refine wpR_n [11] (by kernel_rfl) ?_
    refine List.forall_mem_cons.2 ⟨?_, List.forall_mem_nil _⟩
    refine exE rfl rfl ?_
    refine e_storeBlk (v := v19o9) rfl rfl rfl (oneCell_rdL (hS19o9x4.rowl 0 rfl)) Try.sizeOf32 (by show _ < 3; decide) (hS19o9x4.front 2 rfl) (fun H19o11 hS19o11 hxx => ?_)
    replace hS19o11 : St H0 NoB (fun b => S b ∧ b < H0.size) [blkE g5 (.cells #[I (2), v17o15, v19o9] 36), rowE 4 v19o9 (topT l (k + 1) : List Bool), rdE v19o8 ([decide ((pickI (atI l (6 + (k : Int))) 2) = 1)] : List Bool), rowE 22 v17o15 (topN l (k + 1) : List (List Int)), blkE g1 (.cells #[I (0), (Value.slice none 0 0), (Value.slice none 0 0)] 36), rdE vl l] H19o11 := hS19o11
    refine ⟨Ext.mono hxx (labS_of 1 rfl (fun _ _ => trivial)), ?_⟩
    refine wpR_end (by kernel_rfl) ?_
    exact ⟨v19o9, y19o5, y19o6, a18_0, a18_2, a18_3, a18_4, (hS19o11.drop (sk (sk (sn (sk (sk (sk (List.Sublist.slnil))))))))⟩
  rintro f20 H20 ⟨v19o9, y19o5, y19o6, a20_0, a20_2, a20_3, a20_4, hS20⟩
  clear a18_0 a18_2 a18_3 a18_4
  refine wpF_cut (fun f H => f 0 = vl ∧ f 2 = PT g1 0 ∧ f 3 = PT g5 0 ∧ f 4 = I ((k : Int) + 1) ∧ H20 = H) ?_ ?_
  · refine wpF_region ?_
    refine wpL_q (U := NoB) rfl (q_move (v := I ((k : Int))) rfl a20_4) ?_
    refine wpL_q (U := NoB) rfl (q_add rfl rfl rfl (by constructor <;> omega)) ?_
    refine wpL_q (U := NoB) rfl (q_assign (v := I ((k : Int) + 1)) rfl rfl) ?_
    exact ⟨a20_0, a20_2, a20_3, rfl, rfl⟩
  rintro f21 _ ⟨a21_0, a21_2, a21_3, a21_4, rfl⟩
  clear a20_0 a20_2 a20_3 a20_4
  refine ⟨_, ?_, k + 1, v17o15, v19o9, rfl, (by omega), a21_0, a21_2, a21_3, (Eq.trans a21_4 (congrArg I (by omega))), (St.drop (show St H0 NoB (fun b => S b ∧ b < H0.size) [rowE 22 v17o15 (topN l (k + 1) : List (List Int)), rowE 4 v19o9 (topT l (k + 1) : List Bool), blkE g5 (.cells #[I (2), v17o15, v19o9] 36), blkE g1 (.cells #[I (0), (Value.slice none 0 0), (Value.slice none 0 0)] 36), rdE vl l] H20 from ((hS20.front 1 rfl).front 2 rfl)) (sk (sk (sk (sk (sk (List.Sublist.slnil)))))))⟩
  omega

end Go.Um
