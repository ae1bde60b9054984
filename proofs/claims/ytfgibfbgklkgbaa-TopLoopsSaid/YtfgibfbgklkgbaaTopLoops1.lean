import Derived.Test.YtfgibfbgklkgbaaProg
import Derived.Test.YtfgibfbgklkgbaaTopL1
namespace Go.Um
open Go.Proofs
open GoT (sz ag rdc)
open KeyT (kv)

theorem el_Int_3_TopLoops1 : ElT Try.prog Int 3 := ⟨Try.isAgg3, Try.sizeOf3⟩
theorem el_LInt_32_TopLoops1 : ElT Try.prog (List Int) 32 := ⟨Try.isAgg32, Try.sizeOf32⟩
theorem el_LRow_34_TopLoops1 : ElT Try.prog LRow 34 := ⟨Try.isAgg34, Try.sizeOf34⟩
theorem em_LRow_34_TopLoops1 : ElemOk Try.prog LRow 34 := ⟨Try.t34, (.agg #[(.slice none 0 0), (.int .i64 0), (.int .i64 0)]), by kernel_rfl, by kernel_rfl, by kernel_rfl, by kernel_rfl, by kernel_rfl⟩

set_option maxHeartbeats 2000000 in
set_option maxRecDepth 100000 in
theorem TopLoops_L {H0 : Heap} (va vb : Value) (raw rows : List Int) (ra : Rd NoB H0 va raw) (rb : Rd NoB H0 vb rows) : CallsH Try.prog 4 #[va, vb] H0 (fun rv_ H' => Ext NoB H0 H' ∧ rv_ = B true) := by
  have hsb := (Rd.list.1 rb).small
  have hl := topL_LW raw
  have hlz := hl.code
  have hbL : (topL raw).Bad.length = 1 := rfl
  have hrlf : (runsOut (topL raw)).length ≤ 1200 := (by rw [top_runs]; exact comeL_few hl)
  have hbfw := badL_few (l := topL raw)
  have hS0 : St H0 NoB NoB [rdE va (raw : List Int), rdE vb (rows : List Int)] H0 := St.arg (St.arg (St.start (fun _ h => h.elim)) (Bl0.nil) rb (fun _ h => h)) (Bl0.cons (Bl0.nil)) ra (fun _ h => h)
  refine callsH_of_wpF (args := [va, vb]) (rs := [.tmp 4]) Try.func4 rfl Try.ntmps4 Try.results4 (by kernel_rfl) (Nat.le_of_ble_eq_true rfl) ?_
  have a0_0 : argF [va, vb] 0 = va := rfl
  have a0_1 : argF [va, vb] 1 = vb := rfl
  generalize argF [va, vb] = f0 at *
  refine wpF_seq ?_
  refine wpF_cut (fun f H => f 0 = va ∧ f 1 = vb ∧ H0 = H) ?_ ?_
  · refine wpF_region ?_
    refine wpL_q (U := NoB) rfl (q_assign (v := B (false)) rfl rfl) ?_
    exact ⟨a0_0, a0_1, rfl⟩
  rintro f1 _ ⟨a1_0, a1_1, rfl⟩
  clear a0_0 a0_1
  refine wpF_seq ?_
  refine wpF_cut (fun f H => ∃ (r2 : Value), ∃ (r3 : Value), ∃ (r4 : Value), ∃ (r5 : Value), ∃ (r6 : Value), ∃ (g10 : Nat), f 1 = vb ∧ f 5 = PT g10 0 ∧ St H0 NoB NoB [blkE g10 (.cells #[r2, r3, r4, r5, r6] 42), rdE r2 ((topL raw).Low : List Int), rdE r3 ((topL raw).High : List Int), rdE r4 ((topL raw).Start : List LRow), rdE r5 ((topL raw).Jumps : List Jump), rdE r6 ((topL raw).Bad : List LRow), rdE va (raw : List Int), rdE vb (rows : List Int)] H) ?_ ?_
  · refine wpF_region ?_
    refine wpL_q (U := NoB) rfl (q_move (v := va) rfl a1_0) ?_
    refine wpL_o rfl ?_
    refine e_call rfl Try.call19 (arr1 (v0 := va) rfl) (loopOf_T (S := SL NoB [rdE va (raw : List Int), rdE vb (rows : List Int)]) va raw (hS0.rdS 0 rfl)) ?_
    rintro _ H7 ⟨hxx, r2, r3, r4, r5, r6, rfl, hrr2, hrr3, hrr4, hrr5, hrr6⟩
    have hS8 : St H0 NoB NoB [rdE r2 ((topL raw).Low : List Int), rdE r3 ((topL raw).High : List Int), rdE r4 ((topL raw).Start : List LRow), rdE r5 ((topL raw).Jumps : List Jump), rdE r6 ((topL raw).Bad : List LRow), rdE va (raw : List Int), rdE vb (rows : List Int)] H7 := ((((((hS0.ext hxx).rd (hrr6.sub fun b hb => ⟨hb, SL.lt hS0 hb⟩)).rd (hrr5.sub fun b hb => ⟨(SL_rd hb), SL.lt hS0 (SL_rd hb)⟩)).rd (hrr4.sub fun b hb => ⟨(SL_rd (SL_rd hb)), SL.lt hS0 (SL_rd (SL_rd hb))⟩)).rd (hrr3.sub fun b hb => ⟨(SL_rd (SL_rd (SL_rd hb))), SL.lt hS0 (SL_rd (SL_rd (SL_rd hb)))⟩)).rd (hrr2.sub fun b hb => ⟨(SL_rd (SL_rd (SL_rd (SL_rd hb)))), SL.lt hS0 (SL_rd (SL_rd (SL_rd (SL_rd hb))))⟩))
    refine wpL_o rfl ?_
    refine e_alloc rfl Try.zeroValue42 hS8 (fun g10 H11 hS12 hxx => ?_)
    replace hS12 : St H0 NoB NoB [blkE g10 (.cells #[(Value.slice none 0 0), (Value.slice none 0 0), (Value.slice none 0 0), (Value.slice none 0 0), (Value.slice none 0 0)] 42), rdE r2 ((topL raw).Low : List Int), rdE r3 ((topL raw).High : List Int), rdE r4 ((topL raw).Start : List LRow), rdE r5 ((topL raw).Jumps : List Jump), rdE r6 ((topL raw).Bad : List LRow), rdE va (raw : List Int), rdE vb (rows : List Int)] H11 := hS12
    refine wpL_o rfl ?_
    refine e_storeBlkA (cs' := #[r2, r3, r4, r5, r6]) rfl rfl rfl Try.sizeOf42 rfl rfl (List.forall_mem_cons.2 ⟨(oneCell_rdL (hS12.rdl 1 rfl)), List.forall_mem_cons.2 ⟨(oneCell_rdL (hS12.rdl 2 rfl)), List.forall_mem_cons.2 ⟨(oneCell_rdL (hS12.rdl 3 rfl)), List.forall_mem_cons.2 ⟨(oneCell_rdL (hS12.rdl 4 rfl)), List.forall_mem_cons.2 ⟨(oneCell_rdL (hS12.rdl 5 rfl)), List.forall_mem_nil _⟩⟩⟩⟩⟩) hS12 (fun H13 hS14 hxx => ?_)
    replace hS14 : St H0 NoB NoB [blkE g10 (.cells #[r2, r3, r4, r5, r6] 42), rdE r2 ((topL raw).Low : List Int), rdE r3 ((topL raw).High : List Int), rdE r4 ((topL raw).Start : List LRow), rdE r5 ((topL raw).Jumps : List Jump), rdE r6 ((topL raw).Bad : List LRow), rdE va (raw : List Int), rdE vb (rows : List Int)] H13 := hS14
    exact ⟨r2, r3, r4, r5, r6, g10, a1_1, rfl, hS14⟩
  rintro f15 H15 ⟨r2, r3, r4, r5, r6, g10, a15_1, a15_5, hS15⟩
  clear a1_0 a1_1
  refine wpF_seq ?_
  refine wpF_cut (fun f H => f 1 = vb ∧ f 5 = PT g10 0 ∧ f 6 = (Value.slice none 0 0) ∧ H15 = H) ?_ ?_
  · refine wpF_region ?_
    refine wpL_q (U := NoB) rfl (q_assign (v := (Value.slice none 0 0)) rfl rfl) ?_
    exact ⟨a15_1, a15_5, rfl, rfl⟩
  rintro f16 _ ⟨a16_1, a16_5, a16_6, rfl⟩
  clear a15_1 a15_5
  have hS17 : St H0 NoB NoB [rowE 34 (Value.slice none 0 0) ([] : List LRow), blkE g10 (.cells #[r2, r3, r4, r5, r6] 42), rdE r2 ((topL raw).Low : List Int), rdE r3 ((topL raw).High : List Int), rdE r4 ((topL raw).Start : List LRow), rdE r5 ((topL raw).Jumps : List Jump), rdE r6 ((topL raw).Bad : List LRow), rdE va (raw : List Int), rdE vb (rows : List Int)] H15 := hS15.row0 34
  refine wpF_seq ?_
  refine wpF_seq ?_
  refine wpF_cut (fun f H => f 1 = vb ∧ f 5 = PT g10 0 ∧ f 6 = (Value.slice none 0 0) ∧ f 7 = I (0) ∧ H15 = H) ?_ ?_
  · refine wpF_region ?_
    refine wpL_q (U := NoB) rfl (q_assign (v := I (0)) rfl rfl) ?_
    exact ⟨a16_1, a16_5, a16_6, rfl, rfl⟩
  rintro f18 _ ⟨a18_1, a18_5, a18_6, a18_7, rfl⟩
  clear a16_1 a16_5 a16_6
  refine wpF_block ?_
  refine wpF_loop (fun mz f H => ∃ (n : Nat), ∃ (vk : Value), mz = 2 - n ∧ (n ≤ 2) ∧ (n ≤ rows.length) ∧ f 1 = vb ∧ f 5 = PT g10 0 ∧ f 6 = vk ∧ f 7 = I ((n : Int)) ∧ St H0 NoB NoB [rowE 34 vk (keepL rows n : List LRow), blkE g10 (.cells #[r2, r3, r4, r5, r6] 42), rdE r2 ((topL raw).Low : List Int), rdE r3 ((topL raw).High : List Int), rdE r4 ((topL raw).Start : List LRow), rdE r5 ((topL raw).Jumps : List Jump), rdE r6 ((topL raw).Bad : List LRow), rdE va (raw : List Int), rdE vb (rows : List Int)] H) (2 - 0) ?_ ?_
  · exact ⟨0, (Value.slice none 0 0), rfl, Nat.zero_le _, Nat.zero_le _, a18_1, a18_5, a18_6, (Eq.trans a18_7 (congrArg I (by omega))), (show St H0 NoB NoB [rowE 34 (Value.slice none 0 0) (keepL rows 0 : List LRow), blkE g10 (.cells #[r2, r3, r4, r5, r6] 42), rdE r2 ((topL raw).Low : List Int), rdE r3 ((topL raw).High : List Int), rdE r4 ((topL raw).Start : List LRow), rdE r5 ((topL raw).Jumps : List Jump), rdE r6 ((topL raw).Bad : List LRow), rdE va (raw : List Int), rdE vb (rows : List Int)] H15 from hS17)⟩
  intro m19 f19 H19 hI19
  obtain ⟨n, vk, hm19, hn, hnr, a19_1, a19_5, a19_6, a19_7, hS19⟩ := hI19
  clear a18_1 a18_5 a18_6 a18_7
  refine wpF_seq ?_
  refine wpF_seq ?_
  refine wpF_cut (fun f H => f 1 = vb ∧ f 5 = PT g10 0 ∧ f 6 = vk ∧ f 7 = I ((n : Int)) ∧ f 32 = B (decide (((n : Int) < (rows.length : Int)) ∧ ((n : Int) < 2))) ∧ H19 = H) ?_ ?_
  · refine wpF_region ?_
    refine wpL_q (U := NoB) rfl (q_move (v := I ((n : Int))) rfl a19_7) ?_
    refine wpL_q (U := NoB) rfl (q_move (v := vb) rfl a19_1) ?_
    refine wpL_q (U := NoB) rfl (q_lenRd rfl Try.underlying32 rfl (hS19.rdl 8 rfl)) ?_
    refine wpL_q (U := NoB) rfl (q_lss rfl rfl rfl) ?_
    refine wpL_q (U := NoB) rfl (q_move (v := B (decide ((n : Int) < (rows.length : Int)))) rfl rfl) ?_
    by_cases hg20 : (n : Int) < (rows.length : Int)
    · have hb21 := Eq.trans rfl (congrArg B (decide_eq_true hg20))
      refine wpL_gq (U := NoB) rfl rfl rfl hb21 (q_move (v := I ((n : Int))) rfl a19_7) ?_
      refine wpL_gq (U := NoB) rfl rfl rfl hb21 (q_lss rfl rfl rfl) ?_
      refine wpL_q (U := NoB) rfl (q_pickT (v := B (decide ((n : Int) < 2))) rfl hb21 rfl) ?_
      exact ⟨a19_1, a19_5, a19_6, a19_7, (Eq.trans rfl (congrArg B (decide_congr_of ((Iff.rfl).trans (((and_iff_right hg20).trans Iff.rfl)).symm)))), rfl⟩
    · have hb22 := Eq.trans rfl (congrArg B (decide_eq_false hg20))
      refine wpL_gs rfl rfl rfl hb22 rfl ?_
      refine wpL_gs rfl rfl rfl hb22 rfl ?_
      refine wpL_q (U := NoB) rfl (q_pickF (v := B (false)) rfl hb22 rfl) ?_
      exact ⟨a19_1, a19_5, a19_6, a19_7, (Eq.trans rfl (congrArg B ((decide_eq_false (fun h => hg20 h.1)).symm))), rfl⟩
  rintro f23 _ ⟨a23_1, a23_5, a23_6, a23_7, a23_32, rfl⟩
  clear a19_1 a19_5 a19_6 a19_7
  refine wpF_condP a23_32 (fun h32 => ?t164) (fun h32 => ?e164)
  case t164 =>
    refine wpF_skip ?_
    refine wpF_seq ?_
    refine wpF_block ?_
    have hri := (Rd.list.1 rb).in64 (k := n) (by omega)
    refine wpF_cut (fun f H => ∃ (v25o18 : Value), (0 ≤ pickI (nth rows n) 2 ∧ pickI (nth rows n) 2 < 2) ∧ (0 ≤ pickI ((nth rows n).tdiv 2) 13 ∧ pickI ((nth rows n).tdiv 2) 13 < 13) ∧ f 1 = vb ∧ f 5 = PT g10 0 ∧ f 6 = v25o18 ∧ f 7 = I ((n : Int)) ∧ St H0 NoB NoB [rowE 34 v25o18 (keepL rows (n + 1) : List LRow), blkE g10 (.cells #[r2, r3, r4, r5, r6] 42), rdE r2 ((topL raw).Low : List Int), rdE r3 ((topL raw).High : List Int), rdE r4 ((topL raw).Start : List LRow), rdE r5 ((topL raw).Jumps : List Jump), rdE r6 ((topL raw).Bad : List LRow), rdE va (raw : List Int), rdE vb (rows : List Int)] H) ?_ ?_
    · refine wpF_drawn [none, none, none, none, none, none, none, none, none, none, none, none, none, none, none, none, none, none, some 0, none] [[], [], [], [], [], [], [], [], [], [], [], [], [], [], [], [], [], [], [], []] (fun l b => match l with | 0 => True | _ => False) (by kernel_rfl) (by kernel_rfl) ?_
      refine wpR_q 0 (by kernel_rfl) rfl (quietAt rfl rfl (q_move (v := vk) rfl a23_6)) ?_
      refine wpR_q 1 (by kernel_rfl) rfl (quietAt rfl rfl (q_move (v := vb) rfl a23_1)) ?_
      refine wpR_q 2 (by kernel_rfl) rfl (quietAt rfl rfl (q_move (v := I ((n : Int))) rfl a23_7)) ?_
      refine wpR_q 3 (by kernel_rfl) rfl (quietAt rfl rfl (q_indexRd (k := n) rfl Try.underlying32 el_Int_3_TopLoops1 rfl rfl (hS19.rdl 8 rfl) (by omega) (by omega))) ?_
      refine wpR_q 4 (by kernel_rfl) rfl (quietAt rfl rfl (q_loadInt (k := n) rfl rfl el_Int_3_TopLoops1 (hS19.rdl 8 rfl) (by omega) (labU_sub [] rfl (List.forall_mem_nil _)))) ?_
      refine wpR_q 9 (by kernel_rfl) rfl (quietAt rfl rfl (q_move (v := vb) rfl a23_1)) ?_
      refine wpR_q 10 (by kernel_rfl) rfl (quietAt rfl rfl (q_move (v := I ((n : Int))) rfl a23_7)) ?_
      refine wpR_q 11 (by kernel_rfl) rfl (quietAt rfl rfl (q_indexRd (k := n) rfl Try.underlying32 el_Int_3_TopLoops1 rfl rfl (hS19.rdl 8 rfl) (by omega) (by omega))) ?_
      refine wpR_q 12 (by kernel_rfl) rfl (quietAt rfl rfl (q_loadInt (k := n) rfl rfl el_Int_3_TopLoops1 (hS19.rdl 8 rfl) (by omega) (labU_sub [] rfl (List.forall_mem_nil _)))) ?_
      refine wpR_q 13 (by kernel_rfl) rfl (quietAt rfl rfl (q_quo rfl rfl rfl (by first | assumption | omega) (by omega))) ?_
      refine wpR_n [5] (by kernel_rfl) ?_
      refine List.forall_mem_cons.2 ⟨?_, List.forall_mem_nil _⟩
      refine exE rfl rfl ?_
      refine e_call rfl Try.call20 (arr2 (v0 := I (nth rows n)) (v1 := I (2)) rfl rfl) (Picked (nth rows n) 2 (by omega)) ?_
      rintro _ H25o5 ⟨hxx, rfl, y25o5⟩
      have hS25o5 : St H0 NoB NoB [rowE 34 vk (keepL rows n : List LRow), blkE g10 (.cells #[r2, r3, r4, r5, r6] 42), rdE r2 ((topL raw).Low : List Int), rdE r3 ((topL raw).High : List Int), rdE r4 ((topL raw).Start : List LRow), rdE r5 ((topL raw).Jumps : List Jump), rdE r6 ((topL raw).Bad : List LRow), rdE va (raw : List Int), rdE vb (rows : List Int)] H25o5 := hS19.ext hxx
      refine ⟨Ext.mono hxx (fun _ h => h.elim), ?_⟩
      refine wpR_q 6 (by kernel_rfl) rfl (quietAt rfl rfl (q_mul rfl rfl rfl (by constructor <;> omega))) ?_
      refine wpR_q 7 (by kernel_rfl) rfl (quietAt rfl rfl (q_sub rfl rfl rfl (by constructor <;> omega))) ?_
      refine wpR_n [8, 14] (by kernel_rfl) ?_
      refine List.forall_mem_cons.2 ⟨?_, List.forall_mem_cons.2 ⟨?_, List.forall_mem_nil _⟩⟩
      · refine exE rfl rfl ?_
        refine e_buildSlice (vs := [I (1 - (2 * (pickI (nth rows n) 2)))]) (xs := ([1 - (2 * (pickI (nth rows n) 2))] : List Int)) rfl Try.underlying32 Try.zeroValue3 rfl Try.sizeOf3 (par1 (v0 := I (1 - (2 * (pickI (nth rows n) 2)))) rfl) rfl hS25o5 (RdVs.cons (Rd.int.2 ⟨rfl, by constructor <;> omega⟩) (RdVs.nil)) (by decide) (by decide) (fun v25o8 H25o8 hS25o8 hxx hvv25o8 => ?_)
        replace hS25o8 : St H0 NoB NoB [rowE 3 v25o8 ([1 - (2 * (pickI (nth rows n) 2))] : List Int), rowE 34 vk (keepL rows n : List LRow), blkE g10 (.cells #[r2, r3, r4, r5, r6] 42), rdE r2 ((topL raw).Low : List Int), rdE r3 ((topL raw).High : List Int), rdE r4 ((topL raw).Start : List LRow), rdE r5 ((topL raw).Jumps : List Jump), rdE r6 ((topL raw).Bad : List LRow), rdE va (raw : List Int), rdE vb (rows : List Int)] H25o8 := hS25o8
        refine ⟨Ext.mono hxx (fun _ h => h.elim), ?_⟩
        refine wpR_n [14] (by kernel_rfl) ?_
        refine List.forall_mem_cons.2 ⟨?_, List.forall_mem_nil _⟩
        refine exE rfl rfl ?_
        refine e_call rfl Try.call20 (arr2 (v0 := I ((nth rows n).tdiv 2)) (v1 := I (13)) rfl rfl) (Picked ((nth rows n).tdiv 2) 13 (by omega)) ?_
        rintro _ H25o14 ⟨hxx, rfl, y25o14⟩
        have hS25o14 : St H0 NoB NoB [rowE 3 v25o8 ([1 - (2 * (pickI (nth rows n) 2))] : List Int), rowE 34 vk (keepL rows n : List LRow), blkE g10 (.cells #[r2, r3, r4, r5, r6] 42), rdE r2 ((topL raw).Low : List Int), rdE r3 ((topL raw).High : List Int), rdE r4 ((topL raw).Start : List LRow), rdE r5 ((topL raw).Jumps : List Jump), rdE r6 ((topL raw).Bad : List LRow), rdE va (raw : List Int), rdE vb (rows : List Int)] H25o14 := hS25o8.ext hxx
        refine ⟨Ext.mono hxx (fun _ h => h.elim), ?_⟩
        refine wpR_q 15 (by kernel_rfl) rfl (quietAt rfl rfl (q_sub rfl rfl rfl (by constructor <;> omega))) ?_
        refine wpR_q 16 (by kernel_rfl) rfl (quietAt rfl rfl (q_build (v := Value.agg #[v25o8, I (1), I ((pickI ((nth rows n).tdiv 2) 13) - 6)]) rfl (par3 (v0 := v25o8) (v1 := I (1)) (v2 := I ((pickI ((nth rows n).tdiv 2) 13) - 6)) rfl rfl rfl) ((hS25o14.rowl 0 rfl).slc (fun zz0 => ∀ w, (Instr.build 34 #[(0, zz0), (1, I (1)), (2, I ((pickI ((nth rows n).tdiv 2) 13) - 6))]).run Try.prog w = .ok (Value.agg #[zz0, I (1), I ((pickI ((nth rows n).tdiv 2) 13) - 6)]) w) (fun a0 n0 c0 => (fun w => by kernel_rfl))))) ?_
        refine wpR_n [17] (by kernel_rfl) ?_
        refine List.forall_mem_cons.2 ⟨?_, List.forall_mem_nil _⟩
        have hS25o17 : St H0 NoB NoB [rdE v25o8 ([1 - (2 * (pickI (nth rows n) 2))] : List Int), rowE 34 vk (keepL rows n : List LRow), blkE g10 (.cells #[r2, r3, r4, r5, r6] 42), rdE r2 ((topL raw).Low : List Int), rdE r3 ((topL raw).High : List Int), rdE r4 ((topL raw).Start : List LRow), rdE r5 ((topL raw).Jumps : List Jump), rdE r6 ((topL raw).Bad : List LRow), rdE va (raw : List Int), rdE vb (rows : List Int)] H25o14 := St.fin hS25o14
        refine exE rfl rfl ?_
        refine e_buildSlice (vs := [Value.agg #[v25o8, I (1), I ((pickI ((nth rows n).tdiv 2) 13) - 6)]]) (xs := ([(LRow.mk ([1 - (2 * (pickI (nth rows n) 2))]) 1 ((pickI ((nth rows n).tdiv 2) 13) - 6))] : List LRow)) rfl Try.underlying22 Try.zeroValue34 rfl Try.sizeOf34 (par1 (v0 := Value.agg #[v25o8, I (1), I ((pickI ((nth rows n).tdiv 2) 13) - 6)]) rfl) rfl hS25o17 (RdVs.cons (Rd.lRow.2 ⟨_, rfl, (hS25o17.rdS 0 rfl), (by first | assumption | (constructor <;> (dsimp only; omega)) | (constructor <;> omega)), (by first | assumption | (constructor <;> (dsimp only; omega)) | (constructor <;> omega))⟩) (RdVs.nil)) (by decide) (by decide) (fun v25o17 H25o17 hS25o17x2 hxx hvv25o17 => ?_)
        replace hS25o17x2 : St H0 NoB NoB [rowE 34 v25o17 ([(LRow.mk ([1 - (2 * (pickI (nth rows n) 2))]) 1 ((pickI ((nth rows n).tdiv 2) 13) - 6))] : List LRow), rdE v25o8 ([1 - (2 * (pickI (nth rows n) 2))] : List Int), rowE 34 vk (keepL rows n : List LRow), blkE g10 (.cells #[r2, r3, r4, r5, r6] 42), rdE r2 ((topL raw).Low : List Int), rdE r3 ((topL raw).High : List Int), rdE r4 ((topL raw).Start : List LRow), rdE r5 ((topL raw).Jumps : List Jump), rdE r6 ((topL raw).Bad : List LRow), rdE va (raw : List Int), rdE vb (rows : List Int)] H25o17 := hS25o17x2
        refine ⟨Ext.mono hxx (fun _ h => h.elim), ?_⟩
        refine wpR_n [18] (by kernel_rfl) ?_
        refine List.forall_mem_cons.2 ⟨?_, List.forall_mem_nil _⟩
        have hS25o18 : St H0 NoB NoB [rdE v25o17 ([(LRow.mk ([1 - (2 * (pickI (nth rows n) 2))]) 1 ((pickI ((nth rows n).tdiv 2) 13) - 6))] : List LRow), rdE v25o8 ([1 - (2 * (pickI (nth rows n) 2))] : List Int), rowE 34 vk (keepL rows n : List LRow), blkE g10 (.cells #[r2, r3, r4, r5, r6] 42), rdE r2 ((topL raw).Low : List Int), rdE r3 ((topL raw).High : List Int), rdE r4 ((topL raw).Start : List LRow), rdE r5 ((topL raw).Jumps : List Jump), rdE r6 ((topL raw).Bad : List LRow), rdE va (raw : List Int), rdE vb (rows : List Int)] H25o17 := St.fin hS25o17x2
        have hS25o18x2 : St H0 NoB NoB [rowE 34 vk (keepL rows n : List LRow), rdE v25o17 ([(LRow.mk ([1 - (2 * (pickI (nth rows n) 2))]) 1 ((pickI ((nth rows n).tdiv 2) 13) - 6))] : List LRow), rdE v25o8 ([1 - (2 * (pickI (nth rows n) 2))] : List Int), blkE g10 (.cells #[r2, r3, r4, r5, r6] 42), rdE r2 ((topL raw).Low : List Int), rdE r3 ((topL raw).High : List Int), rdE r4 ((topL raw).Start : List LRow), rdE r5 ((topL raw).Jumps : List Jump), rdE r6 ((topL raw).Bad : List LRow), rdE va (raw : List Int), rdE vb (rows : List Int)] H25o17 := (hS25o18.front 2 rfl)
        refine exE rfl rfl ?_
        refine e_append rfl Try.underlying22 em_LRow_34_TopLoops1 rfl rfl hS25o18x2 (hS25o18x2.rdS 1 rfl) (fun _ h => h) (by have hb : GoT.bytes LRow = 40 := rfl; have hbl : (keepL rows n).length = n := keepL_len; simp [hb, hbl]; omega) (by decide) (fun v25o18 H25o18 hS25o18x3 hxx => ?_)
        replace hS25o18x3 : St H0 NoB NoB [rowE 34 v25o18 ((keepL rows n) ++ ([(LRow.mk ([1 - (2 * (pickI (nth rows n) 2))]) 1 ((pickI ((nth rows n).tdiv 2) 13) - 6))]) : List LRow), rdE v25o17 ([(LRow.mk ([1 - (2 * (pickI (nth rows n) 2))]) 1 ((pickI ((nth rows n).tdiv 2) 13) - 6))] : List LRow), rdE v25o8 ([1 - (2 * (pickI (nth rows n) 2))] : List Int), blkE g10 (.cells #[r2, r3, r4, r5, r6] 42), rdE r2 ((topL raw).Low : List Int), rdE r3 ((topL raw).High : List Int), rdE r4 ((topL raw).Start : List LRow), rdE r5 ((topL raw).Jumps : List Jump), rdE r6 ((topL raw).Bad : List LRow), rdE va (raw : List Int), rdE vb (rows : List Int)] H25o18 := hS25o18x3
        have hS25o18x4 : St H0 NoB NoB [rowE 34 v25o18 (keepL rows (n + 1) : List LRow), rdE v25o17 ([(LRow.mk ([1 - (2 * (pickI (nth rows n) 2))]) 1 ((pickI ((nth rows n).tdiv 2) 13) - 6))] : List LRow), rdE v25o8 ([1 - (2 * (pickI (nth rows n) 2))] : List Int), blkE g10 (.cells #[r2, r3, r4, r5, r6] 42), rdE r2 ((topL raw).Low : List Int), rdE r3 ((topL raw).High : List Int), rdE r4 ((topL raw).Start : List LRow), rdE r5 ((topL raw).Jumps : List Jump), rdE r6 ((topL raw).Bad : List LRow), rdE va (raw : List Int), rdE vb (rows : List Int)] H25o18 := by rw [show (keepL rows (n + 1)) = ((keepL rows n) ++ ([(LRow.mk ([1 - (2 * (pickI (nth rows n) 2))]) 1 ((pickI ((nth rows n).tdiv 2) 13) - 6))])) from (by rw [keepL_next])]; exact hS25o18x3
        refine ⟨Ext.mono hxx (labS_of 0 rfl (fun _ _ => trivial)), ?_⟩
        refine wpR_q 19 (by kernel_rfl) rfl (quietAt rfl rfl (q_assign (v := v25o18) rfl rfl)) ?_
        refine wpR_end (by kernel_rfl) ?_
        exact ⟨v25o18, y25o5, y25o14, a23_1, a23_5, rfl, a23_7, (hS25o18x4.drop (List.Sublist.cons_cons _ (List.Sublist.cons _ (List.Sublist.cons _ (List.Sublist.cons_cons _ (List.Sublist.cons_cons _ (List.Sublist.cons_cons _ (List.Sublist.cons_cons _ (List.Sublist.cons_cons _ (List.Sublist.cons_cons _ (List.Sublist.cons_cons _ (List.Sublist.cons_cons _ (List.Sublist.slnil)))))))))))))⟩
      · refine exE rfl rfl ?_
        refine e_call rfl Try.call20 (arr2 (v0 := I ((nth rows n).tdiv 2)) (v1 := I (13)) rfl rfl) (Picked ((nth rows n).tdiv 2) 13 (by omega)) ?_
        rintro _ H25o14 ⟨hxx, rfl, y25o14⟩
        have hS25o14 : St H0 NoB NoB [rowE 34 vk (keepL rows n : List LRow), blkE g10 (.cells #[r2, r3, r4, r5, r6] 42), rdE r2 ((topL raw).Low : List Int), rdE r3 ((topL raw).High : List Int), rdE r4 ((topL raw).Start : List LRow), rdE r5 ((topL raw).Jumps : List Jump), rdE r6 ((topL raw).Bad : List LRow), rdE va (raw : List Int), rdE vb (rows : List Int)] H25o14 := hS25o5.ext hxx
        refine ⟨Ext.mono hxx (fun _ h => h.elim), ?_⟩
        refine wpR_q 15 (by kernel_rfl) rfl (quietAt rfl rfl (q_sub rfl rfl rfl (by constructor <;> omega))) ?_
        refine wpR_n [8] (by kernel_rfl) ?_
        refine List.forall_mem_cons.2 ⟨?_, List.forall_mem_nil _⟩
        refine exE rfl rfl ?_
        refine e_buildSlice (vs := [I (1 - (2 * (pickI (nth rows n) 2)))]) (xs := ([1 - (2 * (pickI (nth rows n) 2))] : List Int)) rfl Try.underlying32 Try.zeroValue3 rfl Try.sizeOf3 (par1 (v0 := I (1 - (2 * (pickI (nth rows n) 2)))) rfl) rfl hS25o14 (RdVs.cons (Rd.int.2 ⟨rfl, by constructor <;> omega⟩) (RdVs.nil)) (by decide) (by decide) (fun v25o8 H25o8 hS25o8 hxx hvv25o8 => ?_)
        replace hS25o8 : St H0 NoB NoB [rowE 3 v25o8 ([1 - (2 * (pickI (nth rows n) 2))] : List Int), rowE 34 vk (keepL rows n : List LRow), blkE g10 (.cells #[r2, r3, r4, r5, r6] 42), rdE r2 ((topL raw).Low : List Int), rdE r3 ((topL raw).High : List Int), rdE r4 ((topL raw).Start : List LRow), rdE r5 ((topL raw).Jumps : List Jump), rdE r6 ((topL raw).Bad : List LRow), rdE va (raw : List Int), rdE vb (rows : List Int)] H25o8 := hS25o8
        refine ⟨Ext.mono hxx (fun _ h => h.elim), ?_⟩
        refine wpR_q 16 (by kernel_rfl) rfl (quietAt rfl rfl (q_build (v := Value.agg #[v25o8, I (1), I ((pickI ((nth rows n).tdiv 2) 13) - 6)]) rfl (par3 (v0 := v25o8) (v1 := I (1)) (v2 := I ((pickI ((nth rows n).tdiv 2) 13) - 6)) rfl rfl rfl) ((hS25o8.rowl 0 rfl).slc (fun zz0 => ∀ w, (Instr.build 34 #[(0, zz0), (1, I (1)), (2, I ((pickI ((nth rows n).tdiv 2) 13) - 6))]).run Try.prog w = .ok (Value.agg #[zz0, I (1), I ((pickI ((nth rows n).tdiv 2) 13) - 6)]) w) (fun a0 n0 c0 => (fun w => by kernel_rfl))))) ?_
        refine wpR_n [17] (by kernel_rfl) ?_
        refine List.forall_mem_cons.2 ⟨?_, List.forall_mem_nil _⟩
        have hS25o17 : St H0 NoB NoB [rdE v25o8 ([1 - (2 * (pickI (nth rows n) 2))] : List Int), rowE 34 vk (keepL rows n : List LRow), blkE g10 (.cells #[r2, r3, r4, r5, r6] 42), rdE r2 ((topL raw).Low : List Int), rdE r3 ((topL raw).High : List Int), rdE r4 ((topL raw).Start : List LRow), rdE r5 ((topL raw).Jumps : List Jump), rdE r6 ((topL raw).Bad : List LRow), rdE va (raw : List Int), rdE vb (rows : List Int)] H25o8 := St.fin hS25o8
        refine exE rfl rfl ?_
        refine e_buildSlice (vs := [Value.agg #[v25o8, I (1), I ((pickI ((nth rows n).tdiv 2) 13) - 6)]]) (xs := ([(LRow.mk ([1 - (2 * (pickI (nth rows n) 2))]) 1 ((pickI ((nth rows n).tdiv 2) 13) - 6))] : List LRow)) rfl Try.underlying22 Try.zeroValue34 rfl Try.sizeOf34 (par1 (v0 := Value.agg #[v25o8, I (1), I ((pickI ((nth rows n).tdiv 2) 13) - 6)]) rfl) rfl hS25o17 (RdVs.cons (Rd.lRow.2 ⟨_, rfl, (hS25o17.rdS 0 rfl), (by first | assumption | (constructor <;> (dsimp only; omega)) | (constructor <;> omega)), (by first | assumption | (constructor <;> (dsimp only; omega)) | (constructor <;> omega))⟩) (RdVs.nil)) (by decide) (by decide) (fun v25o17 H25o17 hS25o17x2 hxx hvv25o17 => ?_)
        replace hS25o17x2 : St H0 NoB NoB [rowE 34 v25o17 ([(LRow.mk ([1 - (2 * (pickI (nth rows n) 2))]) 1 ((pickI ((nth rows n).tdiv 2) 13) - 6))] : List LRow), rdE v25o8 ([1 - (2 * (pickI (nth rows n) 2))] : List Int), rowE 34 vk (keepL rows n : List LRow), blkE g10 (.cells #[r2, r3, r4, r5, r6] 42), rdE r2 ((topL raw).Low : List Int), rdE r3 ((topL raw).High : List Int), rdE r4 ((topL raw).Start : List LRow), rdE r5 ((topL raw).Jumps : List Jump), rdE r6 ((topL raw).Bad : List LRow), rdE va (raw : List Int), rdE vb (rows : List Int)] H25o17 := hS25o17x2
        refine ⟨Ext.mono hxx (fun _ h => h.elim), ?_⟩
        refine wpR_n [18] (by kernel_rfl) ?_
        refine List.forall_mem_cons.2 ⟨?_, List.forall_mem_nil _⟩
        have hS25o18 : St H0 NoB NoB [rdE v25o17 ([(LRow.mk ([1 - (2 * (pickI (nth rows n) 2))]) 1 ((pickI ((nth rows n).tdiv 2) 13) - 6))] : List LRow), rdE v25o8 ([1 - (2 * (pickI (nth rows n) 2))] : List Int), rowE 34 vk (keepL rows n : List LRow), blkE g10 (.cells #[r2, r3, r4, r5, r6] 42), rdE r2 ((topL raw).Low : List Int), rdE r3 ((topL raw).High : List Int), rdE r4 ((topL raw).Start : List LRow), rdE r5 ((topL raw).Jumps : List Jump), rdE r6 ((topL raw).Bad : List LRow), rdE va (raw : List Int), rdE vb (rows : List Int)] H25o17 := St.fin hS25o17x2
        have hS25o18x2 : St H0 NoB NoB [rowE 34 vk (keepL rows n : List LRow), rdE v25o17 ([(LRow.mk ([1 - (2 * (pickI (nth rows n) 2))]) 1 ((pickI ((nth rows n).tdiv 2) 13) - 6))] : List LRow), rdE v25o8 ([1 - (2 * (pickI (nth rows n) 2))] : List Int), blkE g10 (.cells #[r2, r3, r4, r5, r6] 42), rdE r2 ((topL raw).Low : List Int), rdE r3 ((topL raw).High : List Int), rdE r4 ((topL raw).Start : List LRow), rdE r5 ((topL raw).Jumps : List Jump), rdE r6 ((topL raw).Bad : List LRow), rdE va (raw : List Int), rdE vb (rows : List Int)] H25o17 := (hS25o18.front 2 rfl)
        refine exE rfl rfl ?_
        refine e_append rfl Try.underlying22 em_LRow_34_TopLoops1 rfl rfl hS25o18x2 (hS25o18x2.rdS 1 rfl) (fun _ h => h) (by have hb : GoT.bytes LRow = 40 := rfl; have hbl : (keepL rows n).length = n := keepL_len; simp [hb, hbl]; omega) (by decide) (fun v25o18 H25o18 hS25o18x3 hxx => ?_)
        replace hS25o18x3 : St H0 NoB NoB [rowE 34 v25o18 ((keepL rows n) ++ ([(LRow.mk ([1 - (2 * (pickI (nth rows n) 2))]) 1 ((pickI ((nth rows n).tdiv 2) 13) - 6))]) : List LRow), rdE v25o17 ([(LRow.mk ([1 - (2 * (pickI (nth rows n) 2))]) 1 ((pickI ((nth rows n).tdiv 2) 13) - 6))] : List LRow), rdE v25o8 ([1 - (2 * (pickI (nth rows n) 2))] : List Int), blkE g10 (.cells #[r2, r3, r4, r5, r6] 42), rdE r2 ((topL raw).Low : List Int), rdE r3 ((topL raw).High : List Int), rdE r4 ((topL raw).Start : List LRow), rdE r5 ((topL raw).Jumps : List Jump), rdE r6 ((topL raw).Bad : List LRow), rdE va (raw : List Int), rdE vb (rows : List Int)] H25o18 := hS25o18x3
        have hS25o18x4 : St H0 NoB NoB [rowE 34 v25o18 (keepL rows (n + 1) : List LRow), rdE v25o17 ([(LRow.mk ([1 - (2 * (pickI (nth rows n) 2))]) 1 ((pickI ((nth rows n).tdiv 2) 13) - 6))] : List LRow), rdE v25o8 ([1 - (2 * (pickI (nth rows n) 2))] : List Int), blkE g10 (.cells #[r2, r3, r4, r5, r6] 42), rdE r2 ((topL raw).Low : List Int), rdE r3 ((topL raw).High : List Int), rdE r4 ((topL raw).Start : List LRow), rdE r5 ((topL raw).Jumps : List Jump), rdE r6 ((topL raw).Bad : List LRow), rdE va (raw : List Int), rdE vb (rows : List Int)] H25o18 := by rw [show (keepL rows (n + 1)) = ((keepL rows n) ++ ([(LRow.mk ([1 - (2 * (pickI (nth rows n) 2))]) 1 ((pickI ((nth rows n).tdiv 2) 13) - 6))])) from (by rw [keepL_next])]; exact hS25o18x3
        refine ⟨Ext.mono hxx (labS_of 0 rfl (fun _ _ => trivial)), ?_⟩
        refine wpR_q 19 (by kernel_rfl) rfl (quietAt rfl rfl (q_assign (v := v25o18) rfl rfl)) ?_
        refine wpR_end (by kernel_rfl) ?_
        exact ⟨v25o18, y25o5, y25o14, a23_1, a23_5, rfl, a23_7, (hS25o18x4.drop (List.Sublist.cons_cons _ (List.Sublist.cons _ (List.Sublist.cons _ (List.Sublist.cons_cons _ (List.Sublist.cons_cons _ (List.Sublist.cons_cons _ (List.Sublist.cons_cons _ (List.Sublist.cons_cons _ (List.Sublist.cons_cons _ (List.Sublist.cons_cons _ (List.Sublist.cons_cons _ (List.Sublist.slnil)))))))))))))⟩
    rintro f26 H26 ⟨v25o18, y25o5, y25o14, a26_1, a26_5, a26_6, a26_7, hS26⟩
    clear a23_1 a23_32 a23_5 a23_6 a23_7
    refine wpF_cut (fun f H => f 1 = vb ∧ f 5 = PT g10 0 ∧ f 6 = v25o18 ∧ f 7 = I ((n : Int) + 1) ∧ H26 = H) ?_ ?_
    · refine wpF_region ?_
      refine wpL_q (U := NoB) rfl (q_move (v := I ((n : Int))) rfl a26_7) ?_
      refine wpL_q (U := NoB) rfl (q_add rfl rfl rfl (by constructor <;> omega)) ?_
      refine wpL_q (U := NoB) rfl (q_assign (v := I ((n : Int) + 1)) rfl rfl) ?_
      exact ⟨a26_1, a26_5, a26_6, rfl, rfl⟩
    rintro f27 _ ⟨a27_1, a27_5, a27_6, a27_7, rfl⟩
    clear a26_1 a26_5 a26_6 a26_7
    refine ⟨_, ?_, n + 1, v25o18, rfl, (by omega), (by omega), a27_1, a27_5, a27_6, (Eq.trans a27_7 (congrArg I (by omega))), hS26⟩
    omega
  have hcz := top_chk (raw := raw) (rows := rows) hn
  refine wpF_exit ?_
  refine atX_here ?_
  refine wpF_seq ?_
  refine wpF_cut (fun f H => ∃ (g33 : Nat), f 5 = PT g10 0 ∧ f 6 = vk ∧ f 8 = B (keptB (topL raw) (keepL rows n)) ∧ f 10 = PT g33 0 ∧ St H0 NoB NoB [blkE g33 (.cells #[I ((chkFault (topL raw) (keepL rows n)).1), I ((chkFault (topL raw) (keepL rows n)).2)] 27), rdE vk (keepL rows n : List LRow), blkE g10 (.cells #[r2, r3, r4, r5, r6] 42), rdE r2 ((topL raw).Low : List Int), rdE r3 ((topL raw).High : List Int), rdE r4 ((topL raw).Start : List LRow), rdE r5 ((topL raw).Jumps : List Jump), rdE r6 ((topL raw).Bad : List LRow), rdE va (raw : List Int), rdE vb (rows : List Int)] H) ?_ ?_
  · refine wpF_region ?_
    refine wpL_q (U := NoB) rfl (q_loadBlkA rfl a23_5 Try.isAgg42 Try.sizeOf42 rfl (hS19.blk 1 rfl) (fun h => h)) ?_
    refine wpL_q (U := NoB) rfl (q_move (v := vk) rfl a23_6) ?_
    have hS28 : St H0 NoB NoB [rdE vk (keepL rows n : List LRow), blkE g10 (.cells #[r2, r3, r4, r5, r6] 42), rdE r2 ((topL raw).Low : List Int), rdE r3 ((topL raw).High : List Int), rdE r4 ((topL raw).Start : List LRow), rdE r5 ((topL raw).Jumps : List Jump), rdE r6 ((topL raw).Bad : List LRow), rdE va (raw : List Int), rdE vb (rows : List Int)] H19 := St.fin hS19
    refine wpL_o rfl ?_
    refine e_call rfl Try.call21 (arr2 (v0 := Value.agg #[r2, r3, r4, r5, r6]) (v1 := vk) rfl rfl) (Kept_L r2 r3 r4 r5 r6 vk (topL raw) (keepL rows n) (hS28.rdS 2 rfl) (hS28.rdS 3 rfl) (hS28.rdS 4 rfl) (hS28.rdS 5 rfl) (hS28.rdS 6 rfl) (hS28.rdS 0 rfl) ) ?_
    rintro _ H30 ⟨hxx, r29, rfl, hrr29⟩
    have hS31 : St H0 NoB NoB [rdE r29 (keptS (topL raw) (keepL rows n) : List Int), rdE vk (keepL rows n : List LRow), blkE g10 (.cells #[r2, r3, r4, r5, r6] 42), rdE r2 ((topL raw).Low : List Int), rdE r3 ((topL raw).High : List Int), rdE r4 ((topL raw).Start : List LRow), rdE r5 ((topL raw).Jumps : List Jump), rdE r6 ((topL raw).Bad : List LRow), rdE va (raw : List Int), rdE vb (rows : List Int)] H30 := hS28.res hxx hrr29
    refine wpL_q (U := NoB) rfl (q_move (v := Value.tuple #[B (keptB (topL raw) (keepL rows n)), r29, Value.agg #[I ((chkFault (topL raw) (keepL rows n)).1), I ((chkFault (topL raw) (keepL rows n)).2)]]) rfl rfl) ?_
    refine wpL_q (U := NoB) rfl (q_extract (vs := #[B (keptB (topL raw) (keepL rows n)), r29, Value.agg #[I ((chkFault (topL raw) (keepL rows n)).1), I ((chkFault (topL raw) (keepL rows n)).2)]]) (v := B (keptB (topL raw) (keepL rows n))) rfl rfl rfl) ?_
    refine wpL_q (U := NoB) rfl (q_extract (vs := #[B (keptB (topL raw) (keepL rows n)), r29, Value.agg #[I ((chkFault (topL raw) (keepL rows n)).1), I ((chkFault (topL raw) (keepL rows n)).2)]]) (v := r29) rfl rfl rfl) ?_
    refine wpL_q (U := NoB) rfl (q_extract (vs := #[B (keptB (topL raw) (keepL rows n)), r29, Value.agg #[I ((chkFault (topL raw) (keepL rows n)).1), I ((chkFault (topL raw) (keepL rows n)).2)]]) (v := Value.agg #[I ((chkFault (topL raw) (keepL rows n)).1), I ((chkFault (topL raw) (keepL rows n)).2)]) rfl rfl rfl) ?_
    refine wpL_o rfl ?_
    refine e_alloc rfl Try.zeroValue27 hS31 (fun g33 H34 hS35 hxx => ?_)
    replace hS35 : St H0 NoB NoB [blkE g33 (.cells #[I (0), I (0)] 27), rdE r29 (keptS (topL raw) (keepL rows n) : List Int), rdE vk (keepL rows n : List LRow), blkE g10 (.cells #[r2, r3, r4, r5, r6] 42), rdE r2 ((topL raw).Low : List Int), rdE r3 ((topL raw).High : List Int), rdE r4 ((topL raw).Start : List LRow), rdE r5 ((topL raw).Jumps : List Jump), rdE r6 ((topL raw).Bad : List LRow), rdE va (raw : List Int), rdE vb (rows : List Int)] H34 := hS35
    refine wpL_q (U := NoB) rfl (q_assign (v := B (keptB (topL raw) (keepL rows n))) rfl rfl) ?_
    refine wpL_q (U := NoB) rfl (q_assign (v := r29) rfl rfl) ?_
    refine wpL_o rfl ?_
    refine e_storeBlkA (cs' := #[I ((chkFault (topL raw) (keepL rows n)).1), I ((chkFault (topL raw) (keepL rows n)).2)]) rfl rfl rfl Try.sizeOf27 rfl rfl (List.forall_mem_cons.2 ⟨rfl, List.forall_mem_cons.2 ⟨rfl, List.forall_mem_nil _⟩⟩) hS35 (fun H36 hS37 hxx => ?_)
    replace hS37 : St H0 NoB NoB [blkE g33 (.cells #[I ((chkFault (topL raw) (keepL rows n)).1), I ((chkFault (topL raw) (keepL rows n)).2)] 27), rdE r29 (keptS (topL raw) (keepL rows n) : List Int), rdE vk (keepL rows n : List LRow), blkE g10 (.cells #[r2, r3, r4, r5, r6] 42), rdE r2 ((topL raw).Low : List Int), rdE r3 ((topL raw).High : List Int), rdE r4 ((topL raw).Start : List LRow), rdE r5 ((topL raw).Jumps : List Jump), rdE r6 ((topL raw).Bad : List LRow), rdE va (raw : List Int), rdE vb (rows : List Int)] H36 := hS37
    exact ⟨g33, a23_5, a23_6, rfl, rfl, (hS37.drop (List.Sublist.cons_cons _ (List.Sublist.cons _ (List.Sublist.cons_cons _ (List.Sublist.cons_cons _ (List.Sublist.cons_cons _ (List.Sublist.cons_cons _ (List.Sublist.cons_cons _ (List.Sublist.cons_cons _ (List.Sublist.cons_cons _ (List.Sublist.cons_cons _ (List.Sublist.cons_cons _ (List.Sublist.slnil)))))))))))))⟩
  rintro f38 H38 ⟨g33, a38_5, a38_6, a38_8, a38_10, hS38⟩
  clear a23_1 a23_32 a23_5 a23_6 a23_7
  refine wpF_seq ?_
  refine wpF_cut (fun f H => ∃ (r39 : Value), ∃ (g43 : Nat), f 5 = PT g10 0 ∧ f 6 = vk ∧ f 8 = B (keptB (topL raw) (keepL rows n)) ∧ f 10 = PT g33 0 ∧ f 11 = r39 ∧ f 12 = PT g43 0 ∧ St H0 NoB NoB [blkE g43 (.cells #[I ((loopFault (topL raw)).1), I ((loopFault (topL raw)).2)] 27), rdE r39 (runsOut (topL raw) : List (List Int)), blkE g33 (.cells #[I ((chkFault (topL raw) (keepL rows n)).1), I ((chkFault (topL raw) (keepL rows n)).2)] 27), rdE vk (keepL rows n : List LRow), blkE g10 (.cells #[r2, r3, r4, r5, r6] 42), rdE r2 ((topL raw).Low : List Int), rdE r3 ((topL raw).High : List Int), rdE r4 ((topL raw).Start : List LRow), rdE r5 ((topL raw).Jumps : List Jump), rdE r6 ((topL raw).Bad : List LRow), rdE va (raw : List Int), rdE vb (rows : List Int)] H) ?_ ?_
  · refine wpF_region ?_
    refine wpL_q (U := NoB) rfl (q_loadBlkA rfl a38_5 Try.isAgg42 Try.sizeOf42 rfl (hS38.blk 2 rfl) (fun h => h)) ?_
    refine wpL_o rfl ?_
    refine e_call rfl Try.call22 (arr1 (v0 := Value.agg #[r2, r3, r4, r5, r6]) rfl) (Runs_L r2 r3 r4 r5 r6 (topL raw) (hS38.rdS 3 rfl) (hS38.rdS 4 rfl) (hS38.rdS 5 rfl) (hS38.rdS 6 rfl) (hS38.rdS 7 rfl) ) ?_
    rintro _ H40 ⟨hxx, r39, rfl, hrr39⟩
    have hS41 : St H0 NoB NoB [rdE r39 (runsOut (topL raw) : List (List Int)), blkE g33 (.cells #[I ((chkFault (topL raw) (keepL rows n)).1), I ((chkFault (topL raw) (keepL rows n)).2)] 27), rdE vk (keepL rows n : List LRow), blkE g10 (.cells #[r2, r3, r4, r5, r6] 42), rdE r2 ((topL raw).Low : List Int), rdE r3 ((topL raw).High : List Int), rdE r4 ((topL raw).Start : List LRow), rdE r5 ((topL raw).Jumps : List Jump), rdE r6 ((topL raw).Bad : List LRow), rdE va (raw : List Int), rdE vb (rows : List Int)] H40 := hS38.res hxx hrr39
    refine wpL_q (U := NoB) rfl (q_move (v := Value.tuple #[r39, Value.agg #[I ((loopFault (topL raw)).1), I ((loopFault (topL raw)).2)]]) rfl rfl) ?_
    refine wpL_q (U := NoB) rfl (q_extract (vs := #[r39, Value.agg #[I ((loopFault (topL raw)).1), I ((loopFault (topL raw)).2)]]) (v := r39) rfl rfl rfl) ?_
    refine wpL_q (U := NoB) rfl (q_extract (vs := #[r39, Value.agg #[I ((loopFault (topL raw)).1), I ((loopFault (topL raw)).2)]]) (v := Value.agg #[I ((loopFault (topL raw)).1), I ((loopFault (topL raw)).2)]) rfl rfl rfl) ?_
    refine wpL_o rfl ?_
    refine e_alloc rfl Try.zeroValue27 hS41 (fun g43 H44 hS45 hxx => ?_)
    replace hS45 : St H0 NoB NoB [blkE g43 (.cells #[I (0), I (0)] 27), rdE r39 (runsOut (topL raw) : List (List Int)), blkE g33 (.cells #[I ((chkFault (topL raw) (keepL rows n)).1), I ((chkFault (topL raw) (keepL rows n)).2)] 27), rdE vk (keepL rows n : List LRow), blkE g10 (.cells #[r2, r3, r4, r5, r6] 42), rdE r2 ((topL raw).Low : List Int), rdE r3 ((topL raw).High : List Int), rdE r4 ((topL raw).Start : List LRow), rdE r5 ((topL raw).Jumps : List Jump), rdE r6 ((topL raw).Bad : List LRow), rdE va (raw : List Int), rdE vb (rows : List Int)] H44 := hS45
    refine wpL_q (U := NoB) rfl (q_assign (v := r39) rfl rfl) ?_
    refine wpL_o rfl ?_
    refine e_storeBlkA (cs' := #[I ((loopFault (topL raw)).1), I ((loopFault (topL raw)).2)]) rfl rfl rfl Try.sizeOf27 rfl rfl (List.forall_mem_cons.2 ⟨rfl, List.forall_mem_cons.2 ⟨rfl, List.forall_mem_nil _⟩⟩) hS45 (fun H46 hS47 hxx => ?_)
    replace hS47 : St H0 NoB NoB [blkE g43 (.cells #[I ((loopFault (topL raw)).1), I ((loopFault (topL raw)).2)] 27), rdE r39 (runsOut (topL raw) : List (List Int)), blkE g33 (.cells #[I ((chkFault (topL raw) (keepL rows n)).1), I ((chkFault (topL raw) (keepL rows n)).2)] 27), rdE vk (keepL rows n : List LRow), blkE g10 (.cells #[r2, r3, r4, r5, r6] 42), rdE r2 ((topL raw).Low : List Int), rdE r3 ((topL raw).High : List Int), rdE r4 ((topL raw).Start : List LRow), rdE r5 ((topL raw).Jumps : List Jump), rdE r6 ((topL raw).Bad : List LRow), rdE va (raw : List Int), rdE vb (rows : List Int)] H46 := hS47
    exact ⟨r39, g43, a38_5, a38_6, a38_8, a38_10, rfl, rfl, hS47⟩
  rintro f48 H48 ⟨r39, g43, a48_5, a48_6, a48_8, a48_10, a48_11, a48_12, hS48⟩
  clear a38_10 a38_5 a38_6 a38_8
  refine wpF_seq ?_
  refine wpF_cut (fun f H => ∃ (r49 : Value), ∃ (g53 : Nat), f 5 = PT g10 0 ∧ f 6 = vk ∧ f 8 = B (keptB (topL raw) (keepL rows n)) ∧ f 10 = PT g33 0 ∧ f 11 = r39 ∧ f 12 = PT g43 0 ∧ f 13 = r49 ∧ f 14 = B (badB (topL raw)) ∧ f 15 = PT g53 0 ∧ St H0 NoB NoB [blkE g53 (.cells #[I ((loopFault (topL raw)).1), I ((loopFault (topL raw)).2)] 27), rdE r49 (badL (topL raw) : List (List Int)), blkE g43 (.cells #[I ((loopFault (topL raw)).1), I ((loopFault (topL raw)).2)] 27), rdE r39 (runsOut (topL raw) : List (List Int)), blkE g33 (.cells #[I ((chkFault (topL raw) (keepL rows n)).1), I ((chkFault (topL raw) (keepL rows n)).2)] 27), rdE vk (keepL rows n : List LRow), blkE g10 (.cells #[r2, r3, r4, r5, r6] 42), rdE r2 ((topL raw).Low : List Int), rdE r3 ((topL raw).High : List Int), rdE r4 ((topL raw).Start : List LRow), rdE r5 ((topL raw).Jumps : List Jump), rdE r6 ((topL raw).Bad : List LRow), rdE va (raw : List Int), rdE vb (rows : List Int)] H) ?_ ?_
  · refine wpF_region ?_
    refine wpL_q (U := NoB) rfl (q_loadBlkA rfl a48_5 Try.isAgg42 Try.sizeOf42 rfl (hS48.blk 4 rfl) (fun h => h)) ?_
    refine wpL_o rfl ?_
    refine e_call rfl Try.call23 (arr1 (v0 := Value.agg #[r2, r3, r4, r5, r6]) rfl) (Bad_L r2 r3 r4 r5 r6 (topL raw) (hS48.rdS 5 rfl) (hS48.rdS 6 rfl) (hS48.rdS 7 rfl) (hS48.rdS 8 rfl) (hS48.rdS 9 rfl) ) ?_
    rintro _ H50 ⟨hxx, r49, rfl, hrr49⟩
    have hS51 : St H0 NoB NoB [rdE r49 (badL (topL raw) : List (List Int)), blkE g43 (.cells #[I ((loopFault (topL raw)).1), I ((loopFault (topL raw)).2)] 27), rdE r39 (runsOut (topL raw) : List (List Int)), blkE g33 (.cells #[I ((chkFault (topL raw) (keepL rows n)).1), I ((chkFault (topL raw) (keepL rows n)).2)] 27), rdE vk (keepL rows n : List LRow), blkE g10 (.cells #[r2, r3, r4, r5, r6] 42), rdE r2 ((topL raw).Low : List Int), rdE r3 ((topL raw).High : List Int), rdE r4 ((topL raw).Start : List LRow), rdE r5 ((topL raw).Jumps : List Jump), rdE r6 ((topL raw).Bad : List LRow), rdE va (raw : List Int), rdE vb (rows : List Int)] H50 := hS48.res hxx hrr49
    refine wpL_q (U := NoB) rfl (q_move (v := Value.tuple #[r49, B (badB (topL raw)), Value.agg #[I ((loopFault (topL raw)).1), I ((loopFault (topL raw)).2)]]) rfl rfl) ?_
    refine wpL_q (U := NoB) rfl (q_extract (vs := #[r49, B (badB (topL raw)), Value.agg #[I ((loopFault (topL raw)).1), I ((loopFault (topL raw)).2)]]) (v := r49) rfl rfl rfl) ?_
    refine wpL_q (U := NoB) rfl (q_extract (vs := #[r49, B (badB (topL raw)), Value.agg #[I ((loopFault (topL raw)).1), I ((loopFault (topL raw)).2)]]) (v := B (badB (topL raw))) rfl rfl rfl) ?_
    refine wpL_q (U := NoB) rfl (q_extract (vs := #[r49, B (badB (topL raw)), Value.agg #[I ((loopFault (topL raw)).1), I ((loopFault (topL raw)).2)]]) (v := Value.agg #[I ((loopFault (topL raw)).1), I ((loopFault (topL raw)).2)]) rfl rfl rfl) ?_
    refine wpL_o rfl ?_
    refine e_alloc rfl Try.zeroValue27 hS51 (fun g53 H54 hS55 hxx => ?_)
    replace hS55 : St H0 NoB NoB [blkE g53 (.cells #[I (0), I (0)] 27), rdE r49 (badL (topL raw) : List (List Int)), blkE g43 (.cells #[I ((loopFault (topL raw)).1), I ((loopFault (topL raw)).2)] 27), rdE r39 (runsOut (topL raw) : List (List Int)), blkE g33 (.cells #[I ((chkFault (topL raw) (keepL rows n)).1), I ((chkFault (topL raw) (keepL rows n)).2)] 27), rdE vk (keepL rows n : List LRow), blkE g10 (.cells #[r2, r3, r4, r5, r6] 42), rdE r2 ((topL raw).Low : List Int), rdE r3 ((topL raw).High : List Int), rdE r4 ((topL raw).Start : List LRow), rdE r5 ((topL raw).Jumps : List Jump), rdE r6 ((topL raw).Bad : List LRow), rdE va (raw : List Int), rdE vb (rows : List Int)] H54 := hS55
    refine wpL_q (U := NoB) rfl (q_assign (v := r49) rfl rfl) ?_
    refine wpL_q (U := NoB) rfl (q_assign (v := B (badB (topL raw))) rfl rfl) ?_
    refine wpL_o rfl ?_
    refine e_storeBlkA (cs' := #[I ((loopFault (topL raw)).1), I ((loopFault (topL raw)).2)]) rfl rfl rfl Try.sizeOf27 rfl rfl (List.forall_mem_cons.2 ⟨rfl, List.forall_mem_cons.2 ⟨rfl, List.forall_mem_nil _⟩⟩) hS55 (fun H56 hS57 hxx => ?_)
    replace hS57 : St H0 NoB NoB [blkE g53 (.cells #[I ((loopFault (topL raw)).1), I ((loopFault (topL raw)).2)] 27), rdE r49 (badL (topL raw) : List (List Int)), blkE g43 (.cells #[I ((loopFault (topL raw)).1), I ((loopFault (topL raw)).2)] 27), rdE r39 (runsOut (topL raw) : List (List Int)), blkE g33 (.cells #[I ((chkFault (topL raw) (keepL rows n)).1), I ((chkFault (topL raw) (keepL rows n)).2)] 27), rdE vk (keepL rows n : List LRow), blkE g10 (.cells #[r2, r3, r4, r5, r6] 42), rdE r2 ((topL raw).Low : List Int), rdE r3 ((topL raw).High : List Int), rdE r4 ((topL raw).Start : List LRow), rdE r5 ((topL raw).Jumps : List Jump), rdE r6 ((topL raw).Bad : List LRow), rdE va (raw : List Int), rdE vb (rows : List Int)] H56 := hS57
    exact ⟨r49, g53, a48_5, a48_6, a48_8, a48_10, a48_11, a48_12, rfl, rfl, rfl, hS57⟩
  rintro f58 H58 ⟨r49, g53, a58_5, a58_6, a58_8, a58_10, a58_11, a58_12, a58_13, a58_14, a58_15, hS58⟩
  clear a48_10 a48_11 a48_12 a48_5 a48_6 a48_8
  refine wpF_seq ?_
  refine wpF_seq ?_
  refine wpF_cut (fun f H => f 5 = PT g10 0 ∧ f 6 = vk ∧ f 8 = B (keptB (topL raw) (keepL rows n)) ∧ f 11 = r39 ∧ f 13 = r49 ∧ f 14 = B (badB (topL raw)) ∧ f 89 = B (decide ((((((chkFault (topL raw) (keepL rows n)).1) ≠ 0) ∨ (((loopFault (topL raw)).1) ≠ 0)) ∨ (((loopFault (topL raw)).1) ≠ 0)) ∨ (((runsOut (topL raw)).length : Int) = 0))) ∧ H58 = H) ?_ ?_
  · refine wpF_region ?_
    refine wpL_q (U := NoB) rfl (q_fieldAddr rfl Try.underlying27 rfl Try.sizeOf3 a58_10) ?_
    refine wpL_q (U := NoB) rfl (q_loadBlk rfl rfl Try.isAgg3 (hS58.blk 4 rfl) rfl (fun h => h)) ?_
    refine wpL_q (U := NoB) rfl (q_neq rfl rfl rfl) ?_
    refine wpL_q (U := NoB) rfl (q_move (v := B (decide (((chkFault (topL raw) (keepL rows n)).1) ≠ 0))) rfl rfl) ?_
    by_cases hg59 : ((chkFault (topL raw) (keepL rows n)).1) ≠ 0
    · have hb60 := Eq.trans rfl (congrArg B (decide_eq_true hg59))
      refine wpL_gs rfl rfl rfl hb60 rfl ?_
      refine wpL_gs rfl rfl rfl hb60 rfl ?_
      refine wpL_gs rfl rfl rfl hb60 rfl ?_
      refine wpL_q (U := NoB) rfl (q_pickT (v := B (true)) rfl hb60 rfl) ?_
      refine wpL_q (U := NoB) rfl (q_move (v := B (true)) rfl rfl) ?_
      refine wpL_gs rfl rfl rfl rfl rfl ?_
      refine wpL_gs rfl rfl rfl rfl rfl ?_
      refine wpL_gs rfl rfl rfl rfl rfl ?_
      refine wpL_q (U := NoB) rfl (q_pickT (v := B (true)) rfl rfl rfl) ?_
      refine wpL_q (U := NoB) rfl (q_move (v := B (true)) rfl rfl) ?_
      refine wpL_gs rfl rfl rfl rfl rfl ?_
      refine wpL_gs rfl rfl rfl rfl rfl ?_
      refine wpL_gs rfl rfl rfl rfl rfl ?_
      refine wpL_q (U := NoB) rfl (q_pickT (v := B (true)) rfl rfl rfl) ?_
      exact ⟨a58_5, a58_6, a58_8, a58_11, a58_13, a58_14, (Eq.trans rfl (congrArg B ((decide_eq_true (Or.inl (Or.inl (Or.inl hg59)))).symm))), rfl⟩
    · have hb61 := Eq.trans rfl (congrArg B (decide_eq_false hg59))
      refine wpL_gq (U := NoB) rfl rfl rfl hb61 (q_fieldAddr rfl Try.underlying27 rfl Try.sizeOf3 a58_12) ?_
      refine wpL_gq (U := NoB) rfl rfl rfl hb61 (q_loadBlk rfl rfl Try.isAgg3 (hS58.blk 2 rfl) rfl (fun h => h)) ?_
      refine wpL_gq (U := NoB) rfl rfl rfl hb61 (q_neq rfl rfl rfl) ?_
      refine wpL_q (U := NoB) rfl (q_pickF (v := B (decide (((loopFault (topL raw)).1) ≠ 0))) rfl hb61 rfl) ?_
      refine wpL_q (U := NoB) rfl (q_move (v := B (decide (((loopFault (topL raw)).1) ≠ 0))) rfl rfl) ?_
      by_cases hg62 : ((loopFault (topL raw)).1) ≠ 0
      · have hb63 := Eq.trans rfl (congrArg B (decide_eq_true hg62))
        refine wpL_gs rfl rfl rfl hb63 rfl ?_
        refine wpL_gs rfl rfl rfl hb63 rfl ?_
        refine wpL_gs rfl rfl rfl hb63 rfl ?_
        refine wpL_q (U := NoB) rfl (q_pickT (v := B (true)) rfl hb63 rfl) ?_
        refine wpL_q (U := NoB) rfl (q_move (v := B (true)) rfl rfl) ?_
        refine wpL_gs rfl rfl rfl rfl rfl ?_
        refine wpL_gs rfl rfl rfl rfl rfl ?_
        refine wpL_gs rfl rfl rfl rfl rfl ?_
        refine wpL_q (U := NoB) rfl (q_pickT (v := B (true)) rfl rfl rfl) ?_
        exact ⟨a58_5, a58_6, a58_8, a58_11, a58_13, a58_14, (Eq.trans rfl (congrArg B ((decide_eq_true (Or.inl (Or.inl (Or.inr hg62)))).symm))), rfl⟩
      · have hb64 := Eq.trans rfl (congrArg B (decide_eq_false hg62))
        refine wpL_gq (U := NoB) rfl rfl rfl hb64 (q_fieldAddr rfl Try.underlying27 rfl Try.sizeOf3 a58_15) ?_
        refine wpL_gq (U := NoB) rfl rfl rfl hb64 (q_loadBlk rfl rfl Try.isAgg3 (hS58.blk 0 rfl) rfl (fun h => h)) ?_
        refine wpL_gq (U := NoB) rfl rfl rfl hb64 (q_neq rfl rfl rfl) ?_
        refine wpL_q (U := NoB) rfl (q_pickF (v := B (decide (((loopFault (topL raw)).1) ≠ 0))) rfl hb64 rfl) ?_
        refine wpL_q (U := NoB) rfl (q_move (v := B (decide (((loopFault (topL raw)).1) ≠ 0))) rfl rfl) ?_
        by_cases hg65 : ((loopFault (topL raw)).1) ≠ 0
        · have hb66 := Eq.trans rfl (congrArg B (decide_eq_true hg65))
          refine wpL_gs rfl rfl rfl hb66 rfl ?_
          refine wpL_gs rfl rfl rfl hb66 rfl ?_
          refine wpL_gs rfl rfl rfl hb66 rfl ?_
          refine wpL_q (U := NoB) rfl (q_pickT (v := B (true)) rfl hb66 rfl) ?_
          exact ⟨a58_5, a58_6, a58_8, a58_11, a58_13, a58_14, (absurd hg65 hg62), rfl⟩
        · have hb67 := Eq.trans rfl (congrArg B (decide_eq_false hg65))
          refine wpL_gq (U := NoB) rfl rfl rfl hb67 (q_move (v := r39) rfl a58_11) ?_
          refine wpL_gq (U := NoB) rfl rfl rfl hb67 (q_lenRd rfl Try.underlying23 rfl (hS58.rdl 3 rfl)) ?_
          refine wpL_gq (U := NoB) rfl rfl rfl hb67 (q_eql rfl rfl rfl) ?_
          refine wpL_q (U := NoB) rfl (q_pickF (v := B (decide (((runsOut (topL raw)).length : Int) = 0))) rfl hb67 rfl) ?_
          exact ⟨a58_5, a58_6, a58_8, a58_11, a58_13, a58_14, (Eq.trans rfl (congrArg B (decide_congr_of ((Iff.rfl).trans (((or_iff_right (not_or.2 ⟨(not_or.2 ⟨hg59, hg62⟩), hg62⟩)).trans Iff.rfl)).symm)))), rfl⟩
  rintro f68 _ ⟨a68_5, a68_6, a68_8, a68_11, a68_13, a68_14, a68_89, rfl⟩
  clear a58_10 a58_11 a58_12 a58_13 a58_14 a58_15 a58_5 a58_6 a58_8
  refine wpF_condP a68_89 (fun h89 => ?t163) (fun h89 => ?e163)
  case t163 =>
    refine wpF_seq ?_
    refine wpF_cut (fun f H => f 4 = B (false) ∧ H58 = H) ?_ ?_
    · refine wpF_region ?_
      refine wpL_q (U := NoB) rfl (q_assign (v := B (false)) rfl rfl) ?_
      exact ⟨rfl, rfl⟩
    rintro f70 _ ⟨a70_4, rfl⟩
    clear a68_11 a68_13 a68_14 a68_5 a68_6 a68_8 a68_89
    refine wpF_ret ?_
    refine ⟨_, resT a70_4 resN, hS58.frame, ?_⟩
    show (B (false)) = B true
    exfalso
    simp [hcz, hlz, top_runs] at h89
    exact absurd h89 (List.ne_nil_of_length_pos top_some)
  refine wpF_skip ?_
  refine wpF_seq ?_
  refine wpF_cut (fun f H => f 5 = PT g10 0 ∧ f 6 = vk ∧ f 8 = B (keptB (topL raw) (keepL rows n)) ∧ f 11 = r39 ∧ f 13 = r49 ∧ f 14 = B (badB (topL raw)) ∧ f 16 = B (false) ∧ H58 = H) ?_ ?_
  · refine wpF_region ?_
    refine wpL_q (U := NoB) rfl (q_assign (v := B (false)) rfl rfl) ?_
    exact ⟨a68_5, a68_6, a68_8, a68_11, a68_13, a68_14, rfl, rfl⟩
  rintro f71 _ ⟨a71_5, a71_6, a71_8, a71_11, a71_13, a71_14, a71_16, rfl⟩
  clear a68_11 a68_13 a68_14 a68_5 a68_6 a68_8 a68_89
  refine wpF_seq ?_
  refine wpF_seq ?_
  refine wpF_cut (fun f H => f 5 = PT g10 0 ∧ f 6 = vk ∧ f 8 = B (keptB (topL raw) (keepL rows n)) ∧ f 11 = r39 ∧ f 13 = r49 ∧ f 14 = B (badB (topL raw)) ∧ f 16 = B (false) ∧ f 17 = I (0) ∧ H58 = H) ?_ ?_
  · refine wpF_region ?_
    refine wpL_q (U := NoB) rfl (q_assign (v := I (0)) rfl rfl) ?_
    exact ⟨a71_5, a71_6, a71_8, a71_11, a71_13, a71_14, a71_16, rfl, rfl⟩
  rintro f72 _ ⟨a72_5, a72_6, a72_8, a72_11, a72_13, a72_14, a72_16, a72_17, rfl⟩
  clear a71_11 a71_13 a71_14 a71_16 a71_5 a71_6 a71_8
  refine wpF_block ?_
  refine wpF_loop (fun mz f H => ∃ (i : Nat), ∃ (w : Bool), mz = (runsOut (topL raw)).length - i ∧ (i ≤ (runsOut (topL raw)).length) ∧ (w = (List.range i).any (fun j => decide (nth (nth (runsOut (topL raw)) j) 0 = (nth (topL raw).Bad 0).To))) ∧ f 5 = PT g10 0 ∧ f 6 = vk ∧ f 8 = B (keptB (topL raw) (keepL rows n)) ∧ f 11 = r39 ∧ f 13 = r49 ∧ f 14 = B (badB (topL raw)) ∧ f 16 = B (w) ∧ f 17 = I ((i : Int)) ∧ St H0 NoB NoB [blkE g53 (.cells #[I ((loopFault (topL raw)).1), I ((loopFault (topL raw)).2)] 27), rdE r49 (badL (topL raw) : List (List Int)), blkE g43 (.cells #[I ((loopFault (topL raw)).1), I ((loopFault (topL raw)).2)] 27), rdE r39 (runsOut (topL raw) : List (List Int)), blkE g33 (.cells #[I ((chkFault (topL raw) (keepL rows n)).1), I ((chkFault (topL raw) (keepL rows n)).2)] 27), rdE vk (keepL rows n : List LRow), blkE g10 (.cells #[r2, r3, r4, r5, r6] 42), rdE r2 ((topL raw).Low : List Int), rdE r3 ((topL raw).High : List Int), rdE r4 ((topL raw).Start : List LRow), rdE r5 ((topL raw).Jumps : List Jump), rdE r6 ((topL raw).Bad : List LRow), rdE va (raw : List Int), rdE vb (rows : List Int)] H) ((runsOut (topL raw)).length - 0) ?_ ?_
  · exact ⟨0, false, rfl, Nat.zero_le _, rfl, a72_5, a72_6, a72_8, a72_11, a72_13, a72_14, a72_16, (Eq.trans a72_17 (congrArg I (by omega))), hS58⟩
  intro m73 f73 H73 hI73
  obtain ⟨i, w, hm73, hi, hw, a73_5, a73_6, a73_8, a73_11, a73_13, a73_14, a73_16, a73_17, hS73⟩ := hI73
  clear a72_11 a72_13 a72_14 a72_16 a72_17 a72_5 a72_6 a72_8
  refine wpF_seq ?_
  refine wpF_seq ?_
  refine wpF_cut (fun f H => f 5 = PT g10 0 ∧ f 6 = vk ∧ f 8 = B (keptB (topL raw) (keepL rows n)) ∧ f 11 = r39 ∧ f 13 = r49 ∧ f 14 = B (badB (topL raw)) ∧ f 16 = B (w) ∧ f 17 = I ((i : Int)) ∧ f 93 = B (decide ((i : Int) < ((runsOut (topL raw)).length : Int))) ∧ H73 = H) ?_ ?_
  · refine wpF_region ?_
    refine wpL_q (U := NoB) rfl (q_move (v := I ((i : Int))) rfl a73_17) ?_
    refine wpL_q (U := NoB) rfl (q_move (v := r39) rfl a73_11) ?_
    refine wpL_q (U := NoB) rfl (q_lenRd rfl Try.underlying23 rfl (hS73.rdl 3 rfl)) ?_
    refine wpL_q (U := NoB) rfl (q_lss rfl rfl rfl) ?_
    exact ⟨a73_5, a73_6, a73_8, a73_11, a73_13, a73_14, a73_16, a73_17, rfl, rfl⟩
  rintro f74 _ ⟨a74_5, a74_6, a74_8, a74_11, a74_13, a74_14, a74_16, a74_17, a74_93, rfl⟩
  clear a73_11 a73_13 a73_14 a73_16 a73_17 a73_5 a73_6 a73_8
  refine wpF_condP a74_93 (fun hlt => ?t162) (fun hlt => ?e162)
  case t162 =>
    have hmem := top_in (raw := raw) (i := i) (by omega)
    have ho1 := top_one hmem
    refine wpF_skip ?_
    refine wpF_seq ?_
    refine wpF_block ?_
    refine wpF_seq ?_
    refine wpF_seq ?_
    obtain ⟨u76, huu76, hlu76⟩ := (Rd.list.1 (hS73.rdS 3 rfl)).elem i (by omega)
    have hS77 : St H0 NoB NoB [rdE u76 (nth (runsOut (topL raw)) i : List Int), blkE g53 (.cells #[I ((loopFault (topL raw)).1), I ((loopFault (topL raw)).2)] 27), rdE r49 (badL (topL raw) : List (List Int)), blkE g43 (.cells #[I ((loopFault (topL raw)).1), I ((loopFault (topL raw)).2)] 27), rdE r39 (runsOut (topL raw) : List (List Int)), blkE g33 (.cells #[I ((chkFault (topL raw) (keepL rows n)).1), I ((chkFault (topL raw) (keepL rows n)).2)] 27), rdE vk (keepL rows n : List LRow), blkE g10 (.cells #[r2, r3, r4, r5, r6] 42), rdE r2 ((topL raw).Low : List Int), rdE r3 ((topL raw).High : List Int), rdE r4 ((topL raw).Start : List LRow), rdE r5 ((topL raw).Jumps : List Jump), rdE r6 ((topL raw).Bad : List LRow), rdE va (raw : List Int), rdE vb (rows : List Int)] H73 := hS73.rd huu76
    refine wpF_cut (fun f H => f 5 = PT g10 0 ∧ f 6 = vk ∧ f 8 = B (keptB (topL raw) (keepL rows n)) ∧ f 11 = r39 ∧ f 13 = r49 ∧ f 14 = B (badB (topL raw)) ∧ f 16 = B (w) ∧ f 17 = I ((i : Int)) ∧ f 101 = B (decide (((nth (runsOut (topL raw)) i).length : Int) ≠ 1)) ∧ H73 = H) ?_ ?_
    · refine wpF_region ?_
      refine wpL_q (U := NoB) rfl (q_move (v := r39) rfl a74_11) ?_
      refine wpL_q (U := NoB) rfl (q_move (v := I ((i : Int))) rfl a74_17) ?_
      refine wpL_q (U := NoB) rfl (q_indexRd (k := i) rfl Try.underlying23 el_LInt_32_TopLoops1 rfl rfl (hS73.rdl 3 rfl) (by omega) (by omega)) ?_
      refine wpL_q (U := NoB) rfl (q_loadE rfl rfl (hlu76 Try.prog 32 _ el_LInt_32_TopLoops1 (fun _ h => False.elim h))) ?_
      refine wpL_q (U := NoB) rfl (q_lenRd rfl Try.underlying32 rfl (hS77.rdl 0 rfl)) ?_
      refine wpL_q (U := NoB) rfl (q_neq rfl rfl rfl) ?_
      exact ⟨a74_5, a74_6, a74_8, a74_11, a74_13, a74_14, a74_16, a74_17, rfl, rfl⟩
    rintro f78 _ ⟨a78_5, a78_6, a78_8, a78_11, a78_13, a78_14, a78_16, a78_17, a78_101, rfl⟩
    clear a74_11 a74_13 a74_14 a74_16 a74_17 a74_5 a74_6 a74_8 a74_93
    refine wpF_condP a78_101 (fun h101 => ?t99) (fun h101 => ?e99)
    case t99 =>
      refine wpF_seq ?_
      refine wpF_cut (fun f H => f 4 = B (false) ∧ H73 = H) ?_ ?_
      · refine wpF_region ?_
        refine wpL_q (U := NoB) rfl (q_assign (v := B (false)) rfl rfl) ?_
        exact ⟨rfl, rfl⟩
      rintro f80 _ ⟨a80_4, rfl⟩
      clear a78_101 a78_11 a78_13 a78_14 a78_16 a78_17 a78_5 a78_6 a78_8
      refine wpF_ret ?_
      refine ⟨_, resT a80_4 resN, hS73.frame, ?_⟩
      show (B (false)) = B true
      exfalso
      exact h101 (by omega)
    refine wpF_skip ?_
    refine wpF_seq ?_
    refine wpF_seq ?_
    refine wpF_cut (fun f H => f 5 = PT g10 0 ∧ f 6 = vk ∧ f 8 = B (keptB (topL raw) (keepL rows n)) ∧ f 11 = r39 ∧ f 13 = r49 ∧ f 14 = B (badB (topL raw)) ∧ f 16 = B (w) ∧ f 17 = I ((i : Int)) ∧ f 113 = B (decide (((keptB (topL raw) (keepL rows n)) = true) ∧ ((!(heldB (keepL rows n) (nth (nth (runsOut (topL raw)) i) 0))) = true))) ∧ St H0 NoB NoB [blkE g53 (.cells #[I ((loopFault (topL raw)).1), I ((loopFault (topL raw)).2)] 27), rdE r49 (badL (topL raw) : List (List Int)), blkE g43 (.cells #[I ((loopFault (topL raw)).1), I ((loopFault (topL raw)).2)] 27), rdE r39 (runsOut (topL raw) : List (List Int)), blkE g33 (.cells #[I ((chkFault (topL raw) (keepL rows n)).1), I ((chkFault (topL raw) (keepL rows n)).2)] 27), rdE vk (keepL rows n : List LRow), blkE g10 (.cells #[r2, r3, r4, r5, r6] 42), rdE r2 ((topL raw).Low : List Int), rdE r3 ((topL raw).High : List Int), rdE r4 ((topL raw).Start : List LRow), rdE r5 ((topL raw).Jumps : List Jump), rdE r6 ((topL raw).Bad : List LRow), rdE va (raw : List Int), rdE vb (rows : List Int)] H) ?_ ?_
    · refine wpF_region ?_
      refine wpL_q (U := NoB) rfl (q_move (v := B (keptB (topL raw) (keepL rows n))) rfl a78_8) ?_
      refine wpL_q (U := NoB) rfl (q_move (v := B (keptB (topL raw) (keepL rows n))) rfl rfl) ?_
      by_cases hg81 : (keptB (topL raw) (keepL rows n)) = true
      · have hb82 := Eq.trans rfl (congrArg B hg81)
        refine wpL_gq (U := NoB) rfl rfl rfl hb82 (q_move (v := vk) rfl a78_6) ?_
        refine wpL_gq (U := NoB) rfl rfl rfl hb82 (q_move (v := r39) rfl a78_11) ?_
        refine wpL_gq (U := NoB) rfl rfl rfl hb82 (q_move (v := I ((i : Int))) rfl a78_17) ?_
        refine wpL_gq (U := NoB) rfl rfl rfl hb82 (q_indexRd (k := i) rfl Try.underlying23 el_LInt_32_TopLoops1 rfl rfl (hS73.rdl 3 rfl) (by omega) (by omega)) ?_
        obtain ⟨u84, huu84, hlu84⟩ := (Rd.list.1 (hS73.rdS 3 rfl)).elem i (by omega)
        have hS85 : St H0 NoB NoB [rdE u84 (nth (runsOut (topL raw)) i : List Int), blkE g53 (.cells #[I ((loopFault (topL raw)).1), I ((loopFault (topL raw)).2)] 27), rdE r49 (badL (topL raw) : List (List Int)), blkE g43 (.cells #[I ((loopFault (topL raw)).1), I ((loopFault (topL raw)).2)] 27), rdE r39 (runsOut (topL raw) : List (List Int)), blkE g33 (.cells #[I ((chkFault (topL raw) (keepL rows n)).1), I ((chkFault (topL raw) (keepL rows n)).2)] 27), rdE vk (keepL rows n : List LRow), blkE g10 (.cells #[r2, r3, r4, r5, r6] 42), rdE r2 ((topL raw).Low : List Int), rdE r3 ((topL raw).High : List Int), rdE r4 ((topL raw).Start : List LRow), rdE r5 ((topL raw).Jumps : List Jump), rdE r6 ((topL raw).Bad : List LRow), rdE va (raw : List Int), rdE vb (rows : List Int)] H73 := hS73.rd huu84
        refine wpL_gq (U := NoB) rfl rfl rfl hb82 (q_loadE rfl rfl (hlu84 Try.prog 32 _ el_LInt_32_TopLoops1 (fun _ h => False.elim h))) ?_
        refine wpL_gq (U := NoB) rfl rfl rfl hb82 (q_indexRd (k := 0) rfl Try.underlying32 el_Int_3_TopLoops1 rfl rfl (hS85.rdl 0 rfl) (by omega) (by omega)) ?_
        refine wpL_gq (U := NoB) rfl rfl rfl hb82 (q_loadInt (k := 0) rfl rfl el_Int_3_TopLoops1 (hS85.rdl 0 rfl) (by omega) (fun _ h => h)) ?_
        refine wpL_go rfl rfl rfl hb82 ?_
        refine e_call rfl Try.call24 (arr2 (v0 := vk) (v1 := I (nth (nth (runsOut (topL raw)) i) 0)) rfl rfl) (held_T vk (keepL rows n) (nth (nth (runsOut (topL raw)) i) 0) (hS85.rdN 6 rfl) keepL_held (by omega)) ?_
        rintro _ H86 ⟨hxx, rfl⟩
        have hS87 : St H0 NoB NoB [rdE u84 (nth (runsOut (topL raw)) i : List Int), blkE g53 (.cells #[I ((loopFault (topL raw)).1), I ((loopFault (topL raw)).2)] 27), rdE r49 (badL (topL raw) : List (List Int)), blkE g43 (.cells #[I ((loopFault (topL raw)).1), I ((loopFault (topL raw)).2)] 27), rdE r39 (runsOut (topL raw) : List (List Int)), blkE g33 (.cells #[I ((chkFault (topL raw) (keepL rows n)).1), I ((chkFault (topL raw) (keepL rows n)).2)] 27), rdE vk (keepL rows n : List LRow), blkE g10 (.cells #[r2, r3, r4, r5, r6] 42), rdE r2 ((topL raw).Low : List Int), rdE r3 ((topL raw).High : List Int), rdE r4 ((topL raw).Start : List LRow), rdE r5 ((topL raw).Jumps : List Jump), rdE r6 ((topL raw).Bad : List LRow), rdE va (raw : List Int), rdE vb (rows : List Int)] H86 := hS85.ext hxx
        refine wpL_gq (U := NoB) rfl rfl rfl hb82 (q_not rfl rfl) ?_
        refine wpL_q (U := NoB) rfl (q_pickT (v := B (!(heldB (keepL rows n) (nth (nth (runsOut (topL raw)) i) 0)))) rfl hb82 rfl) ?_
        exact ⟨a78_5, a78_6, a78_8, a78_11, a78_13, a78_14, a78_16, a78_17, (Eq.trans rfl (congrArg B (bool_congr_of ((Iff.rfl).trans (((and_iff_right hg81).trans Iff.rfl)).symm)))), (hS87.drop (List.Sublist.cons _ (List.Sublist.cons_cons _ (List.Sublist.cons_cons _ (List.Sublist.cons_cons _ (List.Sublist.cons_cons _ (List.Sublist.cons_cons _ (List.Sublist.cons_cons _ (List.Sublist.cons_cons _ (List.Sublist.cons_cons _ (List.Sublist.cons_cons _ (List.Sublist.cons_cons _ (List.Sublist.cons_cons _ (List.Sublist.cons_cons _ (List.Sublist.cons_cons _ (List.Sublist.cons_cons _ (List.Sublist.slnil)))))))))))))))))⟩
      · have hb83 := Eq.trans rfl (congrArg B (Bool.eq_false_iff.2 hg81))
        refine wpL_gs rfl rfl rfl hb83 rfl ?_
        refine wpL_gs rfl rfl rfl hb83 rfl ?_
        refine wpL_gs rfl rfl rfl hb83 rfl ?_
        refine wpL_gs rfl rfl rfl hb83 rfl ?_
        refine wpL_gs rfl rfl rfl hb83 rfl ?_
        refine wpL_gs rfl rfl rfl hb83 rfl ?_
        refine wpL_gs rfl rfl rfl hb83 rfl ?_
        refine wpL_gs rfl rfl rfl hb83 rfl ?_
        refine wpL_gs rfl rfl rfl hb83 rfl ?_
        refine wpL_q (U := NoB) rfl (q_pickF (v := B (false)) rfl hb83 rfl) ?_
        exact ⟨a78_5, a78_6, a78_8, a78_11, a78_13, a78_14, a78_16, a78_17, (Eq.trans rfl (congrArg B ((decide_eq_false (fun h => hg81 h.1)).symm))), hS73⟩
    rintro f89 H89 ⟨a89_5, a89_6, a89_8, a89_11, a89_13, a89_14, a89_16, a89_17, a89_113, hS89⟩
    clear a78_101 a78_11 a78_13 a78_14 a78_16 a78_17 a78_5 a78_6 a78_8
    refine wpF_condP a89_113 (fun h113 => ?t98) (fun h113 => ?e98)
    case t98 =>
      refine wpF_seq ?_
      refine wpF_cut (fun f H => f 4 = B (false) ∧ H89 = H) ?_ ?_
      · refine wpF_region ?_
        refine wpL_q (U := NoB) rfl (q_assign (v := B (false)) rfl rfl) ?_
        exact ⟨rfl, rfl⟩
      rintro f91 _ ⟨a91_4, rfl⟩
      clear a89_11 a89_113 a89_13 a89_14 a89_16 a89_17 a89_5 a89_6 a89_8
      refine wpF_ret ?_
      refine ⟨_, resT a91_4 resN, hS89.frame, ?_⟩
      show (B (false)) = B true
      exfalso
      have hh := top_kept hn h113.1 hmem
      have h2 := h113.2
      rw [hh] at h2
      cases h2
    refine wpF_skip ?_
    refine wpF_cut (fun f H => f 5 = PT g10 0 ∧ f 6 = vk ∧ f 8 = B (keptB (topL raw) (keepL rows n)) ∧ f 11 = r39 ∧ f 13 = r49 ∧ f 14 = B (badB (topL raw)) ∧ f 16 = B (decide ((w = true) ∨ ((nth (nth (runsOut (topL raw)) i) 0) = ((nth ((topL raw).Bad) 0).To)))) ∧ f 17 = I ((i : Int)) ∧ H89 = H) ?_ ?_
    · refine wpF_drawn [] [] (fun _ _ => False) (by kernel_rfl) (by kernel_rfl) ?_
      refine wpR_q 0 (by kernel_rfl) rfl (quietAt rfl rfl (q_move (v := B (w)) rfl a89_16)) ?_
      refine wpR_q 1 (by kernel_rfl) rfl (quietAt rfl rfl (q_move (v := B (w)) rfl rfl)) ?_
      by_cases hg93 : w = true
      · have hb94 := Eq.trans rfl (congrArg B hg93)
        refine wpR_q 2 (by kernel_rfl) rfl (quietAt_s rfl rfl rfl rfl hb94 rfl) ?_
        refine wpR_q 3 (by kernel_rfl) rfl (quietAt_s rfl rfl rfl rfl hb94 rfl) ?_
        refine wpR_q 4 (by kernel_rfl) rfl (quietAt_s rfl rfl rfl rfl hb94 rfl) ?_
        refine wpR_q 5 (by kernel_rfl) rfl (quietAt_s rfl rfl rfl rfl hb94 rfl) ?_
        refine wpR_q 6 (by kernel_rfl) rfl (quietAt_s rfl rfl rfl rfl hb94 rfl) ?_
        refine wpR_q 7 (by kernel_rfl) rfl (quietAt_s rfl rfl rfl rfl hb94 rfl) ?_
        refine wpR_q 8 (by kernel_rfl) rfl (quietAt_s rfl rfl rfl rfl hb94 rfl) ?_
        refine wpR_q 9 (by kernel_rfl) rfl (quietAt_s rfl rfl rfl rfl hb94 rfl) ?_
        refine wpR_q 10 (by kernel_rfl) rfl (quietAt_s rfl rfl rfl rfl hb94 rfl) ?_
        refine wpR_q 11 (by kernel_rfl) rfl (quietAt_s rfl rfl rfl rfl hb94 rfl) ?_
        refine wpR_q 12 (by kernel_rfl) rfl (quietAt_s rfl rfl rfl rfl hb94 rfl) ?_
        refine wpR_q 13 (by kernel_rfl) rfl (quietAt_s rfl rfl rfl rfl hb94 rfl) ?_
        refine wpR_q 14 (by kernel_rfl) rfl (quietAt rfl rfl (q_pickT (v := B (true)) rfl hb94 rfl)) ?_
        refine wpR_q 15 (by kernel_rfl) rfl (quietAt rfl rfl (q_assign (v := B (true)) rfl rfl)) ?_
        refine wpR_end (by kernel_rfl) ?_
        exact ⟨a89_5, a89_6, a89_8, a89_11, a89_13, a89_14, (Eq.trans rfl (congrArg B ((decide_eq_true (Or.inl hg93)).symm))), a89_17, rfl⟩
      · have hb95 := Eq.trans rfl (congrArg B (Bool.eq_false_iff.2 hg93))
        refine wpR_q 2 (by kernel_rfl) rfl (quietAt_g rfl rfl rfl rfl hb95 (q_move (v := r39) rfl a89_11)) ?_
        refine wpR_q 3 (by kernel_rfl) rfl (quietAt_g rfl rfl rfl rfl hb95 (q_move (v := I ((i : Int))) rfl a89_17)) ?_
        refine wpR_q 4 (by kernel_rfl) rfl (quietAt_g rfl rfl rfl rfl hb95 (q_indexRd (k := i) rfl Try.underlying23 el_LInt_32_TopLoops1 rfl rfl (hS89.rdl 3 rfl) (by omega) (by omega))) ?_
        obtain ⟨u92o5, huu92o5, hlu92o5⟩ := (Rd.list.1 (hS89.rdS 3 rfl)).elem i (by omega)
        have hS92o5 : St H0 NoB NoB [rdE u92o5 (nth (runsOut (topL raw)) i : List Int), blkE g53 (.cells #[I ((loopFault (topL raw)).1), I ((loopFault (topL raw)).2)] 27), rdE r49 (badL (topL raw) : List (List Int)), blkE g43 (.cells #[I ((loopFault (topL raw)).1), I ((loopFault (topL raw)).2)] 27), rdE r39 (runsOut (topL raw) : List (List Int)), blkE g33 (.cells #[I ((chkFault (topL raw) (keepL rows n)).1), I ((chkFault (topL raw) (keepL rows n)).2)] 27), rdE vk (keepL rows n : List LRow), blkE g10 (.cells #[r2, r3, r4, r5, r6] 42), rdE r2 ((topL raw).Low : List Int), rdE r3 ((topL raw).High : List Int), rdE r4 ((topL raw).Start : List LRow), rdE r5 ((topL raw).Jumps : List Jump), rdE r6 ((topL raw).Bad : List LRow), rdE va (raw : List Int), rdE vb (rows : List Int)] H89 := hS89.rd huu92o5
        refine wpR_q 5 (by kernel_rfl) rfl (quietAt_g rfl rfl rfl rfl hb95 (q_loadE rfl rfl (hlu92o5 Try.prog 32 _ el_LInt_32_TopLoops1 (labU_sub [] rfl (List.forall_mem_nil _))))) ?_
        refine wpR_q 6 (by kernel_rfl) rfl (quietAt_g rfl rfl rfl rfl hb95 (q_indexRd (k := 0) rfl Try.underlying32 el_Int_3_TopLoops1 rfl rfl (hS92o5.rdl 0 rfl) (by omega) (by omega))) ?_
        refine wpR_q 7 (by kernel_rfl) rfl (quietAt_g rfl rfl rfl rfl hb95 (q_loadInt (k := 0) rfl rfl el_Int_3_TopLoops1 (hS92o5.rdl 0 rfl) (by omega) (labU_sub [] rfl (List.forall_mem_nil _)))) ?_
        refine wpR_q 8 (by kernel_rfl) rfl (quietAt_g rfl rfl rfl rfl hb95 (q_fieldAddr rfl Try.underlying42 rfl Try.sizeOf22 a89_5)) ?_
        refine wpR_q 9 (by kernel_rfl) rfl (quietAt_g rfl rfl rfl rfl hb95 (q_loadBlk rfl rfl Try.isAgg22 (hS92o5.blk 7 rfl) rfl (labU_not [] rfl (List.forall_mem_nil _)))) ?_
        refine wpR_q 10 (by kernel_rfl) rfl (quietAt_g rfl rfl rfl rfl hb95 (q_indexRd (k := 0) rfl Try.underlying22 el_LRow_34_TopLoops1 rfl rfl (hS92o5.rdl 12 rfl) (by omega) (by omega))) ?_
        refine wpR_q 11 (by kernel_rfl) rfl (quietAt_g rfl rfl rfl rfl hb95 (q_fieldE (k := 0) rfl Try.underlying34 rfl Try.sizeOf3 rfl rfl (hS92o5.rdl 12 rfl) (by omega))) ?_
        obtain ⟨_, hcu92o12, hFu92o12⟩ := (Rd.list.1 (hS92o5.rdS 12 rfl)).cellF 0 (by omega)
        obtain ⟨u92o12n0, rfl, hu92o120, hu92o121, hu92o122⟩ := hcu92o12
        refine wpR_q 12 (by kernel_rfl) rfl (quietAt_g rfl rfl rfl rfl hb95 (q_loadF rfl rfl (hFu92o12 2 _ Try.prog 3 _ rfl Try.isAgg3 (labU_sub [] rfl (List.forall_mem_nil _))))) ?_
        refine wpR_q 13 (by kernel_rfl) rfl (quietAt_g rfl rfl rfl rfl hb95 (q_eql rfl rfl rfl)) ?_
        refine wpR_q 14 (by kernel_rfl) rfl (quietAt rfl rfl (q_pickF (v := B (decide ((nth (nth (runsOut (topL raw)) i) 0) = ((nth ((topL raw).Bad) 0).To)))) rfl hb95 rfl)) ?_
        refine wpR_q 15 (by kernel_rfl) rfl (quietAt rfl rfl (q_assign (v := B (decide ((nth (nth (runsOut (topL raw)) i) 0) = ((nth ((topL raw).Bad) 0).To)))) rfl rfl)) ?_
        refine wpR_end (by kernel_rfl) ?_
        exact ⟨a89_5, a89_6, a89_8, a89_11, a89_13, a89_14, (Eq.trans rfl (congrArg B (decide_congr_of ((Iff.rfl).trans (((or_iff_right hg93).trans Iff.rfl)).symm)))), a89_17, rfl⟩
    rintro f96 _ ⟨a96_5, a96_6, a96_8, a96_11, a96_13, a96_14, a96_16, a96_17, rfl⟩
    clear a89_11 a89_113 a89_13 a89_14 a89_16 a89_17 a89_5 a89_6 a89_8
    refine wpF_cut (fun f H => f 5 = PT g10 0 ∧ f 6 = vk ∧ f 8 = B (keptB (topL raw) (keepL rows n)) ∧ f 11 = r39 ∧ f 13 = r49 ∧ f 14 = B (badB (topL raw)) ∧ f 16 = B (decide ((w = true) ∨ ((nth (nth (runsOut (topL raw)) i) 0) = ((nth ((topL raw).Bad) 0).To)))) ∧ f 17 = I ((i : Int) + 1) ∧ H89 = H) ?_ ?_
    · refine wpF_region ?_
      refine wpL_q (U := NoB) rfl (q_move (v := I ((i : Int))) rfl a96_17) ?_
      refine wpL_q (U := NoB) rfl (q_add rfl rfl rfl (by constructor <;> omega)) ?_
      refine wpL_q (U := NoB) rfl (q_assign (v := I ((i : Int) + 1)) rfl rfl) ?_
      exact ⟨a96_5, a96_6, a96_8, a96_11, a96_13, a96_14, a96_16, rfl, rfl⟩
    rintro f97 _ ⟨a97_5, a97_6, a97_8, a97_11, a97_13, a97_14, a97_16, a97_17, rfl⟩
    clear a96_11 a96_13 a96_14 a96_16 a96_17 a96_5 a96_6 a96_8
    refine ⟨_, ?_, i + 1, decide ((w = true) ∨ ((nth (nth (runsOut (topL raw)) i) 0) = ((nth ((topL raw).Bad) 0).To))), rfl, (by omega), (any_step hw rfl), a97_5, a97_6, a97_8, a97_11, a97_13, a97_14, (Eq.trans a97_16 (congrArg B (by simp))), (Eq.trans a97_17 (congrArg I (by omega))), hS89⟩
    omega
  refine wpF_exit ?_
  refine atX_here ?_
  refine wpF_seq ?_
  refine wpF_seq ?_
  refine wpF_cut (fun f H => f 5 = PT g10 0 ∧ f 6 = vk ∧ f 8 = B (keptB (topL raw) (keepL rows n)) ∧ f 13 = r49 ∧ f 14 = B (badB (topL raw)) ∧ f 138 = B (decide ((w ≠ (badB (topL raw))) ∨ ((badB (topL raw)) ≠ (decide (0 < ((badL (topL raw)).length : Int)))))) ∧ H73 = H) ?_ ?_
  · refine wpF_region ?_
    refine wpL_q (U := NoB) rfl (q_move (v := B (w)) rfl a74_16) ?_
    refine wpL_q (U := NoB) rfl (q_move (v := B (badB (topL raw))) rfl a74_14) ?_
    refine wpL_q (U := NoB) rfl (q_neqB rfl Try.underlying4 rfl rfl) ?_
    refine wpL_q (U := NoB) rfl (q_move (v := B (decide (w ≠ (badB (topL raw))))) rfl rfl) ?_
    by_cases hg100 : w ≠ (badB (topL raw))
    · have hb101 := Eq.trans rfl (congrArg B (decide_eq_true hg100))
      refine wpL_gs rfl rfl rfl hb101 rfl ?_
      refine wpL_gs rfl rfl rfl hb101 rfl ?_
      refine wpL_gs rfl rfl rfl hb101 rfl ?_
      refine wpL_gs rfl rfl rfl hb101 rfl ?_
      refine wpL_gs rfl rfl rfl hb101 rfl ?_
      refine wpL_q (U := NoB) rfl (q_pickT (v := B (true)) rfl hb101 rfl) ?_
      exact ⟨a74_5, a74_6, a74_8, a74_13, a74_14, (Eq.trans rfl (congrArg B ((decide_eq_true (Or.inl hg100)).symm))), rfl⟩
    · have hb102 := Eq.trans rfl (congrArg B (decide_eq_false hg100))
      refine wpL_gq (U := NoB) rfl rfl rfl hb102 (q_move (v := B (badB (topL raw))) rfl a74_14) ?_
      refine wpL_gq (U := NoB) rfl rfl rfl hb102 (q_move (v := r49) rfl a74_13) ?_
      refine wpL_gq (U := NoB) rfl rfl rfl hb102 (q_lenRd rfl Try.underlying23 rfl (hS73.rdl 1 rfl)) ?_
      refine wpL_gq (U := NoB) rfl rfl rfl hb102 (q_gtr rfl rfl rfl) ?_
      refine wpL_gq (U := NoB) rfl rfl rfl hb102 (q_neqB rfl Try.underlying4 rfl rfl) ?_
      refine wpL_q (U := NoB) rfl (q_pickF (v := B (decide ((badB (topL raw)) ≠ (decide (0 < ((badL (topL raw)).length : Int)))))) rfl hb102 rfl) ?_
      exact ⟨a74_5, a74_6, a74_8, a74_13, a74_14, (Eq.trans rfl (congrArg B (decide_congr_of ((Iff.rfl).trans (((or_iff_right hg100).trans Iff.rfl)).symm)))), rfl⟩
  rintro f103 _ ⟨a103_5, a103_6, a103_8, a103_13, a103_14, a103_138, rfl⟩
  clear a74_11 a74_13 a74_14 a74_16 a74_17 a74_5 a74_6 a74_8 a74_93
  refine wpF_condP a103_138 (fun h138 => ?t161) (fun h138 => ?e161)
  case t161 =>
    refine wpF_seq ?_
    refine wpF_cut (fun f H => f 4 = B (false) ∧ H73 = H) ?_ ?_
    · refine wpF_region ?_
      refine wpL_q (U := NoB) rfl (q_assign (v := B (false)) rfl rfl) ?_
      exact ⟨rfl, rfl⟩
    rintro f105 _ ⟨a105_4, rfl⟩
    clear a103_13 a103_138 a103_14 a103_5 a103_6 a103_8
    refine wpF_ret ?_
    refine ⟨_, resT a105_4 resN, hS73.frame, ?_⟩
    show (B (false)) = B true
    exfalso
    have hwb := top_w hw (by omega)
    rcases h138 with h | h
    · exact h hwb
    · apply h
      rw [top_badlen]
      exact decide_congr_of (by omega)
  refine wpF_skip ?_
  refine wpF_seq ?_
  refine wpF_seq ?_
  refine wpF_cut (fun f H => f 5 = PT g10 0 ∧ f 6 = vk ∧ f 8 = B (keptB (topL raw) (keepL rows n)) ∧ f 13 = r49 ∧ f 140 = B (!(badB (topL raw))) ∧ H73 = H) ?_ ?_
  · refine wpF_region ?_
    refine wpL_q (U := NoB) rfl (q_move (v := B (badB (topL raw))) rfl a103_14) ?_
    refine wpL_q (U := NoB) rfl (q_not rfl rfl) ?_
    exact ⟨a103_5, a103_6, a103_8, a103_13, rfl, rfl⟩
  rintro f106 _ ⟨a106_5, a106_6, a106_8, a106_13, a106_140, rfl⟩
  clear a103_13 a103_138 a103_14 a103_5 a103_6 a103_8
  refine wpF_cond a106_140 (fun h140 => ?t160) (fun h140 => ?e160)
  case t160 =>
    refine wpF_seq ?_
    refine wpF_cut (fun f H => f 4 = B (true) ∧ H73 = H) ?_ ?_
    · refine wpF_region ?_
      refine wpL_q (U := NoB) rfl (q_assign (v := B (true)) rfl rfl) ?_
      exact ⟨rfl, rfl⟩
    rintro f108 _ ⟨a108_4, rfl⟩
    clear a106_13 a106_140 a106_5 a106_6 a106_8
    refine wpF_ret ?_
    refine ⟨_, resT a108_4 resN, hS73.frame, ?_⟩
    show (B (true)) = B true
    rfl
  refine wpF_skip ?_
  refine wpF_seq ?_
  refine wpF_seq ?_
  refine wpF_cut (fun f H => f 5 = PT g10 0 ∧ f 6 = vk ∧ f 8 = B (keptB (topL raw) (keepL rows n)) ∧ f 13 = r49 ∧ f 18 = I (0) ∧ H73 = H) ?_ ?_
  · refine wpF_region ?_
    refine wpL_q (U := NoB) rfl (q_assign (v := I (0)) rfl rfl) ?_
    exact ⟨a106_5, a106_6, a106_8, a106_13, rfl, rfl⟩
  rintro f109 _ ⟨a109_5, a109_6, a109_8, a109_13, a109_18, rfl⟩
  clear a106_13 a106_140 a106_5 a106_6 a106_8
  refine wpF_block ?_
  refine wpF_loop (fun mz f H => ∃ (p : Nat), mz = (badL (topL raw)).length - p ∧ (p ≤ (badL (topL raw)).length) ∧ f 5 = PT g10 0 ∧ f 6 = vk ∧ f 8 = B (keptB (topL raw) (keepL rows n)) ∧ f 13 = r49 ∧ f 18 = I ((p : Int)) ∧ St H0 NoB NoB [blkE g53 (.cells #[I ((loopFault (topL raw)).1), I ((loopFault (topL raw)).2)] 27), rdE r49 (badL (topL raw) : List (List Int)), blkE g43 (.cells #[I ((loopFault (topL raw)).1), I ((loopFault (topL raw)).2)] 27), blkE g33 (.cells #[I ((chkFault (topL raw) (keepL rows n)).1), I ((chkFault (topL raw) (keepL rows n)).2)] 27), rdE vk (keepL rows n : List LRow), blkE g10 (.cells #[r2, r3, r4, r5, r6] 42), rdE r2 ((topL raw).Low : List Int), rdE r3 ((topL raw).High : List Int), rdE r4 ((topL raw).Start : List LRow), rdE r5 ((topL raw).Jumps : List Jump), rdE r6 ((topL raw).Bad : List LRow), rdE va (raw : List Int), rdE vb (rows : List Int)] H) ((badL (topL raw)).length - 0) ?_ ?_
  · exact ⟨0, rfl, Nat.zero_le _, a109_5, a109_6, a109_8, a109_13, (Eq.trans a109_18 (congrArg I (by omega))), (hS73.drop (List.Sublist.cons_cons _ (List.Sublist.cons_cons _ (List.Sublist.cons_cons _ (List.Sublist.cons _ (List.Sublist.cons_cons _ (List.Sublist.cons_cons _ (List.Sublist.cons_cons _ (List.Sublist.cons_cons _ (List.Sublist.cons_cons _ (List.Sublist.cons_cons _ (List.Sublist.cons_cons _ (List.Sublist.cons_cons _ (List.Sublist.cons_cons _ (List.Sublist.cons_cons _ (List.Sublist.slnil))))))))))))))))⟩
  intro m110 f110 H110 hI110
  obtain ⟨p, hm110, hpl, a110_5, a110_6, a110_8, a110_13, a110_18, hS110⟩ := hI110
  clear a109_13 a109_18 a109_5 a109_6 a109_8
  refine wpF_seq ?_
  refine wpF_seq ?_
  refine wpF_cut (fun f H => f 5 = PT g10 0 ∧ f 6 = vk ∧ f 8 = B (keptB (topL raw) (keepL rows n)) ∧ f 13 = r49 ∧ f 18 = I ((p : Int)) ∧ f 144 = B (decide ((p : Int) < ((badL (topL raw)).length : Int))) ∧ H110 = H) ?_ ?_
  · refine wpF_region ?_
    refine wpL_q (U := NoB) rfl (q_move (v := I ((p : Int))) rfl a110_18) ?_
    refine wpL_q (U := NoB) rfl (q_move (v := r49) rfl a110_13) ?_
    refine wpL_q (U := NoB) rfl (q_lenRd rfl Try.underlying23 rfl (hS110.rdl 1 rfl)) ?_
    refine wpL_q (U := NoB) rfl (q_lss rfl rfl rfl) ?_
    exact ⟨a110_5, a110_6, a110_8, a110_13, a110_18, rfl, rfl⟩
  rintro f111 _ ⟨a111_5, a111_6, a111_8, a111_13, a111_18, a111_144, rfl⟩
  clear a110_13 a110_18 a110_5 a110_6 a110_8
  refine wpF_condP a111_144 (fun hlt4 => ?t159) (fun hlt4 => ?e159)
  case e159 =>
    refine wpF_exit ?_
    refine atX_here ?_
    refine wpF_seq ?_
    have hbt : badB (topL raw) = true := (by simpa using h140)
    have hrl := (bad_run hl hbt).1
    have ho0 := (top_one ((bad_run hl hbt).2.1 0 hrl)).1
    have hoL := (top_one ((bad_run hl hbt).2.1 (((badL (topL raw)).length : Int) - 1).toNat (by omega))).1
    have hsL : (topL raw).Start.length = 1 := rfl
    have hbL : (topL raw).Bad.length = 1 := rfl
    obtain ⟨u148o2, huu148o2, hlu148o2⟩ := (Rd.list.1 (hS110.rdS 1 rfl)).elem 0 (by omega)
    have hS148o2 : St H0 NoB NoB [rdE u148o2 (nth (badL (topL raw)) 0 : List Int), blkE g53 (.cells #[I ((loopFault (topL raw)).1), I ((loopFault (topL raw)).2)] 27), rdE r49 (badL (topL raw) : List (List Int)), blkE g43 (.cells #[I ((loopFault (topL raw)).1), I ((loopFault (topL raw)).2)] 27), blkE g33 (.cells #[I ((chkFault (topL raw) (keepL rows n)).1), I ((chkFault (topL raw) (keepL rows n)).2)] 27), rdE vk (keepL rows n : List LRow), blkE g10 (.cells #[r2, r3, r4, r5, r6] 42), rdE r2 ((topL raw).Low : List Int), rdE r3 ((topL raw).High : List Int), rdE r4 ((topL raw).Start : List LRow), rdE r5 ((topL raw).Jumps : List Jump), rdE r6 ((topL raw).Bad : List LRow), rdE va (raw : List Int), rdE vb (rows : List Int)] H110 := hS110.rd huu148o2
    refine wpF_cut (fun f H => (In64 (nth ((topL raw).Start) 0).To) ∧ f 4 = B (decide ((((nth (nth (badL (topL raw)) 0) 0) = ((nth ((topL raw).Start) 0).To)) ∧ ((nth (nth (badL (topL raw)) ((((badL (topL raw)).length : Int) - 1).toNat)) 0) = ((nth ((topL raw).Bad) 0).To))) ∧ (¬ (((keptB (topL raw) (keepL rows n)) = true) ∧ ((!(heldB (keepL rows n) ((nth ((topL raw).Bad) 0).To))) = true))))) ∧ St H0 NoB NoB [blkE g53 (.cells #[I ((loopFault (topL raw)).1), I ((loopFault (topL raw)).2)] 27), blkE g43 (.cells #[I ((loopFault (topL raw)).1), I ((loopFault (topL raw)).2)] 27), blkE g33 (.cells #[I ((chkFault (topL raw) (keepL rows n)).1), I ((chkFault (topL raw) (keepL rows n)).2)] 27), blkE g10 (.cells #[r2, r3, r4, r5, r6] 42), rdE r2 ((topL raw).Low : List Int), rdE r3 ((topL raw).High : List Int), rdE r4 ((topL raw).Start : List LRow), rdE r5 ((topL raw).Jumps : List Jump), rdE r6 ((topL raw).Bad : List LRow), rdE va (raw : List Int), rdE vb (rows : List Int)] H) ?_ ?_
    · refine wpF_drawn [] [] (fun _ _ => False) (by kernel_rfl) (by kernel_rfl) ?_
      refine wpR_q 0 (by kernel_rfl) rfl (quietAt rfl rfl (q_move (v := r49) rfl a111_13)) ?_
      refine wpR_q 1 (by kernel_rfl) rfl (quietAt rfl rfl (q_indexRd (k := 0) rfl Try.underlying23 el_LInt_32_TopLoops1 rfl rfl (hS110.rdl 1 rfl) (by omega) (by omega))) ?_
      refine wpR_q 2 (by kernel_rfl) rfl (quietAt rfl rfl (q_loadE rfl rfl (hlu148o2 Try.prog 32 _ el_LInt_32_TopLoops1 (labU_sub [] rfl (List.forall_mem_nil _))))) ?_
      refine wpR_q 3 (by kernel_rfl) rfl (quietAt rfl rfl (q_indexRd (k := 0) rfl Try.underlying32 el_Int_3_TopLoops1 rfl rfl (hS148o2.rdl 0 rfl) (by omega) (by omega))) ?_
      refine wpR_q 4 (by kernel_rfl) rfl (quietAt rfl rfl (q_loadInt (k := 0) rfl rfl el_Int_3_TopLoops1 (hS148o2.rdl 0 rfl) (by omega) (labU_sub [] rfl (List.forall_mem_nil _)))) ?_
      refine wpR_q 5 (by kernel_rfl) rfl (quietAt rfl rfl (q_fieldAddr rfl Try.underlying42 rfl Try.sizeOf22 a111_5)) ?_
      refine wpR_q 6 (by kernel_rfl) rfl (quietAt rfl rfl (q_loadBlk rfl rfl Try.isAgg22 (hS148o2.blk 6 rfl) rfl (labU_not [] rfl (List.forall_mem_nil _)))) ?_
      refine wpR_q 7 (by kernel_rfl) rfl (quietAt rfl rfl (q_indexRd (k := 0) rfl Try.underlying22 el_LRow_34_TopLoops1 rfl rfl (hS148o2.rdl 9 rfl) (by omega) (by omega))) ?_
      refine wpR_q 8 (by kernel_rfl) rfl (quietAt rfl rfl (q_fieldE (k := 0) rfl Try.underlying34 rfl Try.sizeOf3 rfl rfl (hS148o2.rdl 9 rfl) (by omega))) ?_
      obtain ⟨_, hcu148o9, hFu148o9⟩ := (Rd.list.1 (hS148o2.rdS 9 rfl)).cellF 0 (by omega)
      obtain ⟨u148o9n0, rfl, hu148o90, hu148o91, hu148o92⟩ := hcu148o9
      refine wpR_q 9 (by kernel_rfl) rfl (quietAt rfl rfl (q_loadF rfl rfl (hFu148o9 2 _ Try.prog 3 _ rfl Try.isAgg3 (labU_sub [] rfl (List.forall_mem_nil _))))) ?_
      refine wpR_q 10 (by kernel_rfl) rfl (quietAt rfl rfl (q_eql rfl rfl rfl)) ?_
      refine wpR_q 11 (by kernel_rfl) rfl (quietAt rfl rfl (q_move (v := B (decide ((nth (nth (badL (topL raw)) 0) 0) = ((nth ((topL raw).Start) 0).To)))) rfl rfl)) ?_
      by_cases hg149 : (nth (nth (badL (topL raw)) 0) 0) = ((nth ((topL raw).Start) 0).To)
      · have hb150 := Eq.trans rfl (congrArg B (decide_eq_true hg149))
        refine wpR_q 12 (by kernel_rfl) rfl (quietAt_g rfl rfl rfl rfl hb150 (q_move (v := r49) rfl a111_13)) ?_
        refine wpR_q 13 (by kernel_rfl) rfl (quietAt_g rfl rfl rfl rfl hb150 (q_move (v := r49) rfl a111_13)) ?_
        refine wpR_q 14 (by kernel_rfl) rfl (quietAt_g rfl rfl rfl rfl hb150 (q_lenRd rfl Try.underlying23 rfl (hS148o2.rdl 2 rfl))) ?_
        refine wpR_q 15 (by kernel_rfl) rfl (quietAt_g rfl rfl rfl rfl hb150 (q_sub rfl rfl rfl (by constructor <;> omega))) ?_
        refine wpR_q 16 (by kernel_rfl) rfl (quietAt_g rfl rfl rfl rfl hb150 (q_indexRd (k := (((badL (topL raw)).length : Int) - 1).toNat) rfl Try.underlying23 el_LInt_32_TopLoops1 rfl rfl (hS148o2.rdl 2 rfl) (by omega) (by omega))) ?_
        obtain ⟨u148o17, huu148o17, hlu148o17⟩ := (Rd.list.1 (hS148o2.rdS 2 rfl)).elem ((((badL (topL raw)).length : Int) - 1).toNat) (by omega)
        have hS148o17 : St H0 NoB NoB [rdE u148o17 (nth (badL (topL raw)) ((((badL (topL raw)).length : Int) - 1).toNat) : List Int), rdE u148o2 (nth (badL (topL raw)) 0 : List Int), blkE g53 (.cells #[I ((loopFault (topL raw)).1), I ((loopFault (topL raw)).2)] 27), rdE r49 (badL (topL raw) : List (List Int)), blkE g43 (.cells #[I ((loopFault (topL raw)).1), I ((loopFault (topL raw)).2)] 27), blkE g33 (.cells #[I ((chkFault (topL raw) (keepL rows n)).1), I ((chkFault (topL raw) (keepL rows n)).2)] 27), rdE vk (keepL rows n : List LRow), blkE g10 (.cells #[r2, r3, r4, r5, r6] 42), rdE r2 ((topL raw).Low : List Int), rdE r3 ((topL raw).High : List Int), rdE r4 ((topL raw).Start : List LRow), rdE r5 ((topL raw).Jumps : List Jump), rdE r6 ((topL raw).Bad : List LRow), rdE va (raw : List Int), rdE vb (rows : List Int)] H110 := hS148o2.rd huu148o17
        refine wpR_q 17 (by kernel_rfl) rfl (quietAt_g rfl rfl rfl rfl hb150 (q_loadE rfl rfl (hlu148o17 Try.prog 32 _ el_LInt_32_TopLoops1 (labU_sub [] rfl (List.forall_mem_nil _))))) ?_
        refine wpR_q 18 (by kernel_rfl) rfl (quietAt_g rfl rfl rfl rfl hb150 (q_indexRd (k := 0) rfl Try.underlying32 el_Int_3_TopLoops1 rfl rfl (hS148o17.rdl 0 rfl) (by omega) (by omega))) ?_
        refine wpR_q 19 (by kernel_rfl) rfl (quietAt_g rfl rfl rfl rfl hb150 (q_loadInt (k := 0) rfl rfl el_Int_3_TopLoops1 (hS148o17.rdl 0 rfl) (by omega) (labU_sub [] rfl (List.forall_mem_nil _)))) ?_
        refine wpR_q 20 (by kernel_rfl) rfl (quietAt_g rfl rfl rfl rfl hb150 (q_fieldAddr rfl Try.underlying42 rfl Try.sizeOf22 a111_5)) ?_
        refine wpR_q 21 (by kernel_rfl) rfl (quietAt_g rfl rfl rfl rfl hb150 (q_loadBlk rfl rfl Try.isAgg22 (hS148o17.blk 7 rfl) rfl (labU_not [] rfl (List.forall_mem_nil _)))) ?_
        refine wpR_q 22 (by kernel_rfl) rfl (quietAt_g rfl rfl rfl rfl hb150 (q_indexRd (k := 0) rfl Try.underlying22 el_LRow_34_TopLoops1 rfl rfl (hS148o17.rdl 12 rfl) (by omega) (by omega))) ?_
        refine wpR_q 23 (by kernel_rfl) rfl (quietAt_g rfl rfl rfl rfl hb150 (q_fieldE (k := 0) rfl Try.underlying34 rfl Try.sizeOf3 rfl rfl (hS148o17.rdl 12 rfl) (by omega))) ?_
        obtain ⟨_, hcu148o24, hFu148o24⟩ := (Rd.list.1 (hS148o17.rdS 12 rfl)).cellF 0 (by omega)
        obtain ⟨u148o24n0, rfl, hu148o240, hu148o241, hu148o242⟩ := hcu148o24
        refine wpR_q 24 (by kernel_rfl) rfl (quietAt_g rfl rfl rfl rfl hb150 (q_loadF rfl rfl (hFu148o24 2 _ Try.prog 3 _ rfl Try.isAgg3 (labU_sub [] rfl (List.forall_mem_nil _))))) ?_
        refine wpR_q 25 (by kernel_rfl) rfl (quietAt_g rfl rfl rfl rfl hb150 (q_eql rfl rfl rfl)) ?_
        refine wpR_q 26 (by kernel_rfl) rfl (quietAt rfl rfl (q_pickT (v := B (decide ((nth (nth (badL (topL raw)) ((((badL (topL raw)).length : Int) - 1).toNat)) 0) = ((nth ((topL raw).Bad) 0).To)))) rfl hb150 rfl)) ?_
        refine wpR_q 27 (by kernel_rfl) rfl (quietAt rfl rfl (q_move (v := B (decide ((nth (nth (badL (topL raw)) ((((badL (topL raw)).length : Int) - 1).toNat)) 0) = ((nth ((topL raw).Bad) 0).To)))) rfl rfl)) ?_
        by_cases hg152 : (nth (nth (badL (topL raw)) ((((badL (topL raw)).length : Int) - 1).toNat)) 0) = ((nth ((topL raw).Bad) 0).To)
        · have hb153 := Eq.trans rfl (congrArg B (decide_eq_true hg152))
          refine wpR_q 28 (by kernel_rfl) rfl (quietAt_g rfl rfl rfl rfl hb153 (q_move (v := B (keptB (topL raw) (keepL rows n))) rfl a111_8)) ?_
          refine wpR_q 29 (by kernel_rfl) rfl (quietAt_g rfl rfl rfl rfl hb153 (q_move (v := B (keptB (topL raw) (keepL rows n))) rfl rfl)) ?_
          by_cases hg155 : (keptB (topL raw) (keepL rows n)) = true
          · have hb156 := Eq.trans rfl (congrArg B hg155)
            refine wpR_q 30 (by kernel_rfl) rfl (quietAt_g rfl rfl rfl rfl hb156 (q_move (v := vk) rfl a111_6)) ?_
            refine wpR_q 31 (by kernel_rfl) rfl (quietAt_g rfl rfl rfl rfl hb156 (q_fieldAddr rfl Try.underlying42 rfl Try.sizeOf22 a111_5)) ?_
            refine wpR_q 32 (by kernel_rfl) rfl (quietAt_g rfl rfl rfl rfl hb156 (q_loadBlk rfl rfl Try.isAgg22 (hS148o17.blk 7 rfl) rfl (labU_not [] rfl (List.forall_mem_nil _)))) ?_
            refine wpR_q 33 (by kernel_rfl) rfl (quietAt_g rfl rfl rfl rfl hb156 (q_indexRd (k := 0) rfl Try.underlying22 el_LRow_34_TopLoops1 rfl rfl (hS148o17.rdl 12 rfl) (by omega) (by omega))) ?_
            refine wpR_q 34 (by kernel_rfl) rfl (quietAt_g rfl rfl rfl rfl hb156 (q_fieldE (k := 0) rfl Try.underlying34 rfl Try.sizeOf3 rfl rfl (hS148o17.rdl 12 rfl) (by omega))) ?_
            obtain ⟨_, hcu148o35, hFu148o35⟩ := (Rd.list.1 (hS148o17.rdS 12 rfl)).cellF 0 (by omega)
            obtain ⟨u148o35n0, rfl, hu148o350, hu148o351, hu148o352⟩ := hcu148o35
            refine wpR_q 35 (by kernel_rfl) rfl (quietAt_g rfl rfl rfl rfl hb156 (q_loadF rfl rfl (hFu148o35 2 _ Try.prog 3 _ rfl Try.isAgg3 (labU_sub [] rfl (List.forall_mem_nil _))))) ?_
            refine wpR_n [36] (by kernel_rfl) ?_
            refine List.forall_mem_cons.2 ⟨?_, List.forall_mem_nil _⟩
            refine exE_g rfl rfl rfl rfl hb156 ?_
            refine e_call rfl Try.call24 (arr2 (v0 := vk) (v1 := I ((nth ((topL raw).Bad) 0).To)) rfl rfl) (held_T vk (keepL rows n) ((nth ((topL raw).Bad) 0).To) (hS148o17.rdN 6 rfl) keepL_held top_badTo) ?_
            rintro _ H148o36 ⟨hxx, rfl⟩
            have hS148o36 : St H0 NoB NoB [rdE u148o17 (nth (badL (topL raw)) ((((badL (topL raw)).length : Int) - 1).toNat) : List Int), rdE u148o2 (nth (badL (topL raw)) 0 : List Int), blkE g53 (.cells #[I ((loopFault (topL raw)).1), I ((loopFault (topL raw)).2)] 27), rdE r49 (badL (topL raw) : List (List Int)), blkE g43 (.cells #[I ((loopFault (topL raw)).1), I ((loopFault (topL raw)).2)] 27), blkE g33 (.cells #[I ((chkFault (topL raw) (keepL rows n)).1), I ((chkFault (topL raw) (keepL rows n)).2)] 27), rdE vk (keepL rows n : List LRow), blkE g10 (.cells #[r2, r3, r4, r5, r6] 42), rdE r2 ((topL raw).Low : List Int), rdE r3 ((topL raw).High : List Int), rdE r4 ((topL raw).Start : List LRow), rdE r5 ((topL raw).Jumps : List Jump), rdE r6 ((topL raw).Bad : List LRow), rdE va (raw : List Int), rdE vb (rows : List Int)] H148o36 := hS148o17.ext hxx
            refine ⟨Ext.mono hxx (fun _ h => h.elim), ?_⟩
            refine wpR_q 37 (by kernel_rfl) rfl (quietAt_g rfl rfl rfl rfl hb156 (q_not rfl rfl)) ?_
            refine wpR_q 38 (by kernel_rfl) rfl (quietAt_g rfl rfl rfl rfl hb153 (q_pickT (v := B (!(heldB (keepL rows n) ((nth ((topL raw).Bad) 0).To)))) rfl hb156 rfl)) ?_
            refine wpR_q 39 (by kernel_rfl) rfl (quietAt_g rfl rfl rfl rfl hb153 (q_not rfl rfl)) ?_
            refine wpR_q 40 (by kernel_rfl) rfl (quietAt rfl rfl (q_pickT (v := B (!(!(heldB (keepL rows n) ((nth ((topL raw).Bad) 0).To))))) rfl hb153 rfl)) ?_
            refine wpR_q 41 (by kernel_rfl) rfl (quietAt rfl rfl (q_assign (v := B (!(!(heldB (keepL rows n) ((nth ((topL raw).Bad) 0).To))))) rfl rfl)) ?_
            refine wpR_end (by kernel_rfl) ?_
            exact ⟨hu148o92, (Eq.trans rfl (congrArg B (bool_congr_of (not_tr.trans (((and_iff_right ⟨hg149, hg152⟩).trans (not_congr ((and_iff_right hg155).trans Iff.rfl)))).symm)))), (hS148o36.drop (List.Sublist.cons _ (List.Sublist.cons _ (List.Sublist.cons_cons _ (List.Sublist.cons _ (List.Sublist.cons_cons _ (List.Sublist.cons_cons _ (List.Sublist.cons _ (List.Sublist.cons_cons _ (List.Sublist.cons_cons _ (List.Sublist.cons_cons _ (List.Sublist.cons_cons _ (List.Sublist.cons_cons _ (List.Sublist.cons_cons _ (List.Sublist.cons_cons _ (List.Sublist.cons_cons _ (List.Sublist.slnil)))))))))))))))))⟩
          · have hb157 := Eq.trans rfl (congrArg B (Bool.eq_false_iff.2 hg155))
            refine wpR_q 30 (by kernel_rfl) rfl (quietAt_s rfl rfl rfl rfl hb157 rfl) ?_
            refine wpR_q 31 (by kernel_rfl) rfl (quietAt_s rfl rfl rfl rfl hb157 rfl) ?_
            refine wpR_q 32 (by kernel_rfl) rfl (quietAt_s rfl rfl rfl rfl hb157 rfl) ?_
            refine wpR_q 33 (by kernel_rfl) rfl (quietAt_s rfl rfl rfl rfl hb157 rfl) ?_
            refine wpR_q 34 (by kernel_rfl) rfl (quietAt_s rfl rfl rfl rfl hb157 rfl) ?_
            refine wpR_q 35 (by kernel_rfl) rfl (quietAt_s rfl rfl rfl rfl hb157 rfl) ?_
            refine wpR_q 36 (by kernel_rfl) rfl (quietAt_s rfl rfl rfl rfl hb157 rfl) ?_
            refine wpR_q 37 (by kernel_rfl) rfl (quietAt_s rfl rfl rfl rfl hb157 rfl) ?_
            refine wpR_q 38 (by kernel_rfl) rfl (quietAt_g rfl rfl rfl rfl hb153 (q_pickF (v := B (false)) rfl hb157 rfl)) ?_
            refine wpR_q 39 (by kernel_rfl) rfl (quietAt_g rfl rfl rfl rfl hb153 (q_not rfl rfl)) ?_
            refine wpR_q 40 (by kernel_rfl) rfl (quietAt rfl rfl (q_pickT (v := B (true)) rfl hb153 rfl)) ?_
            refine wpR_q 41 (by kernel_rfl) rfl (quietAt rfl rfl (q_assign (v := B (true)) rfl rfl)) ?_
            refine wpR_end (by kernel_rfl) ?_
            exact ⟨hu148o92, (Eq.trans rfl (congrArg B ((decide_eq_true ⟨⟨hg149, hg152⟩, (fun h => hg155 h.1)⟩).symm))), (hS148o17.drop (List.Sublist.cons _ (List.Sublist.cons _ (List.Sublist.cons_cons _ (List.Sublist.cons _ (List.Sublist.cons_cons _ (List.Sublist.cons_cons _ (List.Sublist.cons _ (List.Sublist.cons_cons _ (List.Sublist.cons_cons _ (List.Sublist.cons_cons _ (List.Sublist.cons_cons _ (List.Sublist.cons_cons _ (List.Sublist.cons_cons _ (List.Sublist.cons_cons _ (List.Sublist.cons_cons _ (List.Sublist.slnil)))))))))))))))))⟩
        · have hb154 := Eq.trans rfl (congrArg B (decide_eq_false hg152))
          refine wpR_q 28 (by kernel_rfl) rfl (quietAt_s rfl rfl rfl rfl hb154 rfl) ?_
          refine wpR_q 29 (by kernel_rfl) rfl (quietAt_s rfl rfl rfl rfl hb154 rfl) ?_
          refine wpR_q 30 (by kernel_rfl) rfl (quietAt_s' rfl rfl rfl rfl rfl) ?_
          refine wpR_q 31 (by kernel_rfl) rfl (quietAt_s' rfl rfl rfl rfl rfl) ?_
          refine wpR_q 32 (by kernel_rfl) rfl (quietAt_s' rfl rfl rfl rfl rfl) ?_
          refine wpR_q 33 (by kernel_rfl) rfl (quietAt_s' rfl rfl rfl rfl rfl) ?_
          refine wpR_q 34 (by kernel_rfl) rfl (quietAt_s' rfl rfl rfl rfl rfl) ?_
          refine wpR_q 35 (by kernel_rfl) rfl (quietAt_s' rfl rfl rfl rfl rfl) ?_
          refine wpR_q 36 (by kernel_rfl) rfl (quietAt_s' rfl rfl rfl rfl rfl) ?_
          refine wpR_q 37 (by kernel_rfl) rfl (quietAt_s' rfl rfl rfl rfl rfl) ?_
          refine wpR_q 38 (by kernel_rfl) rfl (quietAt_s rfl rfl rfl rfl hb154 rfl) ?_
          refine wpR_q 39 (by kernel_rfl) rfl (quietAt_s rfl rfl rfl rfl hb154 rfl) ?_
          refine wpR_q 40 (by kernel_rfl) rfl (quietAt rfl rfl (q_pickF (v := B (false)) rfl hb154 rfl)) ?_
          refine wpR_q 41 (by kernel_rfl) rfl (quietAt rfl rfl (q_assign (v := B (false)) rfl rfl)) ?_
          refine wpR_end (by kernel_rfl) ?_
          exact ⟨hu148o92, (Eq.trans rfl (congrArg B ((decide_eq_false (fun h => (fun h => hg152 h.2) h.1)).symm))), (hS148o17.drop (List.Sublist.cons _ (List.Sublist.cons _ (List.Sublist.cons_cons _ (List.Sublist.cons _ (List.Sublist.cons_cons _ (List.Sublist.cons_cons _ (List.Sublist.cons _ (List.Sublist.cons_cons _ (List.Sublist.cons_cons _ (List.Sublist.cons_cons _ (List.Sublist.cons_cons _ (List.Sublist.cons_cons _ (List.Sublist.cons_cons _ (List.Sublist.cons_cons _ (List.Sublist.cons_cons _ (List.Sublist.slnil)))))))))))))))))⟩
      · have hb151 := Eq.trans rfl (congrArg B (decide_eq_false hg149))
        refine wpR_q 12 (by kernel_rfl) rfl (quietAt_s rfl rfl rfl rfl hb151 rfl) ?_
        refine wpR_q 13 (by kernel_rfl) rfl (quietAt_s rfl rfl rfl rfl hb151 rfl) ?_
        refine wpR_q 14 (by kernel_rfl) rfl (quietAt_s rfl rfl rfl rfl hb151 rfl) ?_
        refine wpR_q 15 (by kernel_rfl) rfl (quietAt_s rfl rfl rfl rfl hb151 rfl) ?_
        refine wpR_q 16 (by kernel_rfl) rfl (quietAt_s rfl rfl rfl rfl hb151 rfl) ?_
        refine wpR_q 17 (by kernel_rfl) rfl (quietAt_s rfl rfl rfl rfl hb151 rfl) ?_
        refine wpR_q 18 (by kernel_rfl) rfl (quietAt_s rfl rfl rfl rfl hb151 rfl) ?_
        refine wpR_q 19 (by kernel_rfl) rfl (quietAt_s rfl rfl rfl rfl hb151 rfl) ?_
        refine wpR_q 20 (by kernel_rfl) rfl (quietAt_s rfl rfl rfl rfl hb151 rfl) ?_
        refine wpR_q 21 (by kernel_rfl) rfl (quietAt_s rfl rfl rfl rfl hb151 rfl) ?_
        refine wpR_q 22 (by kernel_rfl) rfl (quietAt_s rfl rfl rfl rfl hb151 rfl) ?_
        refine wpR_q 23 (by kernel_rfl) rfl (quietAt_s rfl rfl rfl rfl hb151 rfl) ?_
        refine wpR_q 24 (by kernel_rfl) rfl (quietAt_s rfl rfl rfl rfl hb151 rfl) ?_
        refine wpR_q 25 (by kernel_rfl) rfl (quietAt_s rfl rfl rfl rfl hb151 rfl) ?_
        refine wpR_q 26 (by kernel_rfl) rfl (quietAt rfl rfl (q_pickF (v := B (false)) rfl hb151 rfl)) ?_
        refine wpR_q 27 (by kernel_rfl) rfl (quietAt rfl rfl (q_move (v := B (false)) rfl rfl)) ?_
        refine wpR_q 28 (by kernel_rfl) rfl (quietAt_s rfl rfl rfl rfl rfl rfl) ?_
        refine wpR_q 29 (by kernel_rfl) rfl (quietAt_s rfl rfl rfl rfl rfl rfl) ?_
        refine wpR_q 30 (by kernel_rfl) rfl (quietAt_s' rfl rfl rfl rfl rfl) ?_
        refine wpR_q 31 (by kernel_rfl) rfl (quietAt_s' rfl rfl rfl rfl rfl) ?_
        refine wpR_q 32 (by kernel_rfl) rfl (quietAt_s' rfl rfl rfl rfl rfl) ?_
        refine wpR_q 33 (by kernel_rfl) rfl (quietAt_s' rfl rfl rfl rfl rfl) ?_
        refine wpR_q 34 (by kernel_rfl) rfl (quietAt_s' rfl rfl rfl rfl rfl) ?_
        refine wpR_q 35 (by kernel_rfl) rfl (quietAt_s' rfl rfl rfl rfl rfl) ?_
        refine wpR_q 36 (by kernel_rfl) rfl (quietAt_s' rfl rfl rfl rfl rfl) ?_
        refine wpR_q 37 (by kernel_rfl) rfl (quietAt_s' rfl rfl rfl rfl rfl) ?_
        refine wpR_q 38 (by kernel_rfl) rfl (quietAt_s rfl rfl rfl rfl rfl rfl) ?_
        refine wpR_q 39 (by kernel_rfl) rfl (quietAt_s rfl rfl rfl rfl rfl rfl) ?_
        refine wpR_q 40 (by kernel_rfl) rfl (quietAt rfl rfl (q_pickF (v := B (false)) rfl rfl rfl)) ?_
        refine wpR_q 41 (by kernel_rfl) rfl (quietAt rfl rfl (q_assign (v := B (false)) rfl rfl)) ?_
        refine wpR_end (by kernel_rfl) ?_
        exact ⟨hu148o92, (Eq.trans rfl (congrArg B ((decide_eq_false (fun h => (fun h => hg149 h.1) h.1)).symm))), (hS148o2.drop (List.Sublist.cons _ (List.Sublist.cons_cons _ (List.Sublist.cons _ (List.Sublist.cons_cons _ (List.Sublist.cons_cons _ (List.Sublist.cons _ (List.Sublist.cons_cons _ (List.Sublist.cons_cons _ (List.Sublist.cons_cons _ (List.Sublist.cons_cons _ (List.Sublist.cons_cons _ (List.Sublist.cons_cons _ (List.Sublist.cons_cons _ (List.Sublist.cons_cons _ (List.Sublist.slnil))))))))))))))))⟩
    rintro f158 H158 ⟨hu148o92, a158_4, hS158⟩
    clear a111_13 a111_144 a111_18 a111_5 a111_6 a111_8
    refine wpF_ret ?_
    refine ⟨_, resT a158_4 resN, hS158.frame, ?_⟩
    show (B (decide ((((nth (nth (badL (topL raw)) 0) 0) = ((nth ((topL raw).Start) 0).To)) ∧ ((nth (nth (badL (topL raw)) ((((badL (topL raw)).length : Int) - 1).toNat)) 0) = ((nth ((topL raw).Bad) 0).To))) ∧ (¬ (((keptB (topL raw) (keepL rows n)) = true) ∧ ((!(heldB (keepL rows n) ((nth ((topL raw).Bad) 0).To))) = true)))))) = B true
    have hbt : badB (topL raw) = true := (by simpa using h140)
    have hlast := top_last hbt
    have hrl := (bad_run hl hbt).1
    have hrb := (bad_run hl hbt).2.1 _ (show (badL (topL raw)).length - 1 < _ by omega)
    have hidx : (((badL (topL raw)).length : Int) - 1).toNat = (badL (topL raw)).length - 1 := (by omega)
    refine congrArg B (decide_eq_true ⟨⟨hlast.2, by rw [hidx]; exact hlast.1⟩, ?_⟩)
    rintro ⟨hk1, hk2⟩
    have hh := top_kept hn hk1 hrb
    rw [hlast.1] at hh
    rw [hh] at hk2
    cases hk2
  refine wpF_skip ?_
  refine wpF_seq ?_
  refine wpF_block ?_
  refine wpF_seq ?_
  refine wpF_seq ?_
  obtain ⟨u113, huu113, hlu113⟩ := (Rd.list.1 (hS110.rdS 1 rfl)).elem p (by omega)
  have hS114 : St H0 NoB NoB [rdE u113 (nth (badL (topL raw)) p : List Int), blkE g53 (.cells #[I ((loopFault (topL raw)).1), I ((loopFault (topL raw)).2)] 27), rdE r49 (badL (topL raw) : List (List Int)), blkE g43 (.cells #[I ((loopFault (topL raw)).1), I ((loopFault (topL raw)).2)] 27), blkE g33 (.cells #[I ((chkFault (topL raw) (keepL rows n)).1), I ((chkFault (topL raw) (keepL rows n)).2)] 27), rdE vk (keepL rows n : List LRow), blkE g10 (.cells #[r2, r3, r4, r5, r6] 42), rdE r2 ((topL raw).Low : List Int), rdE r3 ((topL raw).High : List Int), rdE r4 ((topL raw).Start : List LRow), rdE r5 ((topL raw).Jumps : List Jump), rdE r6 ((topL raw).Bad : List LRow), rdE va (raw : List Int), rdE vb (rows : List Int)] H110 := hS110.rd huu113
  refine wpF_cut (fun f H => f 5 = PT g10 0 ∧ f 6 = vk ∧ f 8 = B (keptB (topL raw) (keepL rows n)) ∧ f 13 = r49 ∧ f 18 = I ((p : Int)) ∧ f 152 = B (decide (((nth (badL (topL raw)) p).length : Int) ≠ 1)) ∧ H110 = H) ?_ ?_
  · refine wpF_region ?_
    refine wpL_q (U := NoB) rfl (q_move (v := r49) rfl a111_13) ?_
    refine wpL_q (U := NoB) rfl (q_move (v := I ((p : Int))) rfl a111_18) ?_
    refine wpL_q (U := NoB) rfl (q_indexRd (k := p) rfl Try.underlying23 el_LInt_32_TopLoops1 rfl rfl (hS110.rdl 1 rfl) (by omega) (by omega)) ?_
    refine wpL_q (U := NoB) rfl (q_loadE rfl rfl (hlu113 Try.prog 32 _ el_LInt_32_TopLoops1 (fun _ h => False.elim h))) ?_
    refine wpL_q (U := NoB) rfl (q_lenRd rfl Try.underlying32 rfl (hS114.rdl 0 rfl)) ?_
    refine wpL_q (U := NoB) rfl (q_neq rfl rfl rfl) ?_
    exact ⟨a111_5, a111_6, a111_8, a111_13, a111_18, rfl, rfl⟩
  rintro f115 _ ⟨a115_5, a115_6, a115_8, a115_13, a115_18, a115_152, rfl⟩
  clear a111_13 a111_144 a111_18 a111_5 a111_6 a111_8
  refine wpF_condP a115_152 (fun h152 => ?t147) (fun h152 => ?e147)
  case t147 =>
    refine wpF_seq ?_
    refine wpF_cut (fun f H => f 4 = B (false) ∧ H110 = H) ?_ ?_
    · refine wpF_region ?_
      refine wpL_q (U := NoB) rfl (q_assign (v := B (false)) rfl rfl) ?_
      exact ⟨rfl, rfl⟩
    rintro f117 _ ⟨a117_4, rfl⟩
    clear a115_13 a115_152 a115_18 a115_5 a115_6 a115_8
    refine wpF_ret ?_
    refine ⟨_, resT a117_4 resN, hS110.frame, ?_⟩
    show (B (false)) = B true
    exfalso
    have hbt : badB (topL raw) = true := (by simpa using h140)
    have hr2 := (bad_run hl hbt).2.1 p (by omega)
    have := (top_one hr2).1
    omega
  refine wpF_skip ?_
  refine wpF_seq ?_
  refine wpF_cut (fun f H => f 5 = PT g10 0 ∧ f 6 = vk ∧ f 8 = B (keptB (topL raw) (keepL rows n)) ∧ f 13 = r49 ∧ f 18 = I ((p : Int)) ∧ f 154 = B (decide (0 < (p : Int))) ∧ H110 = H) ?_ ?_
  · refine wpF_region ?_
    refine wpL_q (U := NoB) rfl (q_move (v := I ((p : Int))) rfl a115_18) ?_
    refine wpL_q (U := NoB) rfl (q_gtr rfl rfl rfl) ?_
    exact ⟨a115_5, a115_6, a115_8, a115_13, a115_18, rfl, rfl⟩
  rintro f118 _ ⟨a118_5, a118_6, a118_8, a118_13, a118_18, a118_154, rfl⟩
  clear a115_13 a115_152 a115_18 a115_5 a115_6 a115_8
  refine wpF_condP a118_154 (fun h154 => ?t146) (fun h154 => ?e146)
  case e146 =>
    refine wpF_skip ?_
    refine wpF_cut (fun f H => f 5 = PT g10 0 ∧ f 6 = vk ∧ f 8 = B (keptB (topL raw) (keepL rows n)) ∧ f 13 = r49 ∧ f 18 = I ((p : Int) + 1) ∧ H110 = H) ?_ ?_
    · refine wpF_region ?_
      refine wpL_q (U := NoB) rfl (q_move (v := I ((p : Int))) rfl a118_18) ?_
      refine wpL_q (U := NoB) rfl (q_add rfl rfl rfl (by constructor <;> omega)) ?_
      refine wpL_q (U := NoB) rfl (q_assign (v := I ((p : Int) + 1)) rfl rfl) ?_
      exact ⟨a118_5, a118_6, a118_8, a118_13, rfl, rfl⟩
    rintro f145 _ ⟨a145_5, a145_6, a145_8, a145_13, a145_18, rfl⟩
    clear a118_13 a118_154 a118_18 a118_5 a118_6 a118_8
    refine ⟨_, ?_, p + 1, rfl, (by omega), a145_5, a145_6, a145_8, a145_13, (Eq.trans a145_18 (congrArg I (by omega))), hS110⟩
    omega
  refine wpF_seq ?_
  have hbt : badB (topL raw) = true := (by simpa using h140)
  have hnln : (nextOut (topL raw) (nth (badL (topL raw)) ((p : Int) - 1).toNat)).length ≤ 6 := by rw [(next_ok hl (comeL_st hl ((bad_run hl hbt).2.1 ((p : Int) - 1).toNat (by omega)))).2]; exact Nat.le_trans (nextTo_len _) hl.jumps
  obtain ⟨u120o5, huu120o5, hlu120o5⟩ := (Rd.list.1 (hS110.rdS 1 rfl)).elem (((p : Int) - 1).toNat) (by omega)
  have hS120o5 : St H0 NoB NoB [rdE u120o5 (nth (badL (topL raw)) (((p : Int) - 1).toNat) : List Int), blkE g53 (.cells #[I ((loopFault (topL raw)).1), I ((loopFault (topL raw)).2)] 27), rdE r49 (badL (topL raw) : List (List Int)), blkE g43 (.cells #[I ((loopFault (topL raw)).1), I ((loopFault (topL raw)).2)] 27), blkE g33 (.cells #[I ((chkFault (topL raw) (keepL rows n)).1), I ((chkFault (topL raw) (keepL rows n)).2)] 27), rdE vk (keepL rows n : List LRow), blkE g10 (.cells #[r2, r3, r4, r5, r6] 42), rdE r2 ((topL raw).Low : List Int), rdE r3 ((topL raw).High : List Int), rdE r4 ((topL raw).Start : List LRow), rdE r5 ((topL raw).Jumps : List Jump), rdE r6 ((topL raw).Bad : List LRow), rdE va (raw : List Int), rdE vb (rows : List Int)] H110 := hS110.rd huu120o5
  refine wpF_cut (fun f H => ∃ (r120o6 : Value), ∃ (g120o10 : Nat), f 5 = PT g10 0 ∧ f 6 = vk ∧ f 8 = B (keptB (topL raw) (keepL rows n)) ∧ f 13 = r49 ∧ f 18 = I ((p : Int)) ∧ f 19 = r120o6 ∧ f 20 = PT g120o10 0 ∧ St H0 NoB NoB [blkE g120o10 (.cells #[I ((nextFault (topL raw) (nth (badL (topL raw)) (((p : Int) - 1).toNat))).1), I ((nextFault (topL raw) (nth (badL (topL raw)) (((p : Int) - 1).toNat))).2)] 27), rdE r120o6 (nextOut (topL raw) (nth (badL (topL raw)) (((p : Int) - 1).toNat)) : List (List Int)), blkE g53 (.cells #[I ((loopFault (topL raw)).1), I ((loopFault (topL raw)).2)] 27), rdE r49 (badL (topL raw) : List (List Int)), blkE g43 (.cells #[I ((loopFault (topL raw)).1), I ((loopFault (topL raw)).2)] 27), blkE g33 (.cells #[I ((chkFault (topL raw) (keepL rows n)).1), I ((chkFault (topL raw) (keepL rows n)).2)] 27), rdE vk (keepL rows n : List LRow), blkE g10 (.cells #[r2, r3, r4, r5, r6] 42), rdE r2 ((topL raw).Low : List Int), rdE r3 ((topL raw).High : List Int), rdE r4 ((topL raw).Start : List LRow), rdE r5 ((topL raw).Jumps : List Jump), rdE r6 ((topL raw).Bad : List LRow), rdE va (raw : List Int), rdE vb (rows : List Int)] H) ?_ ?_
  · refine wpF_drawn [none, none, none, none, none, none, none, none, none, none, none, none, some 0] [[], [], [], [], [], [], [], [], [], [], [], [], []] (fun l b => match l with | 0 => True | _ => False) (by kernel_rfl) (by kernel_rfl) ?_
    refine wpR_q 0 (by kernel_rfl) rfl (quietAt rfl rfl (q_loadBlkA rfl a118_5 Try.isAgg42 Try.sizeOf42 rfl (hS110.blk 5 rfl) (labU_not [] rfl (List.forall_mem_nil _)))) ?_
    refine wpR_q 1 (by kernel_rfl) rfl (quietAt rfl rfl (q_move (v := r49) rfl a118_13)) ?_
    refine wpR_q 2 (by kernel_rfl) rfl (quietAt rfl rfl (q_move (v := I ((p : Int))) rfl a118_18)) ?_
    refine wpR_q 3 (by kernel_rfl) rfl (quietAt rfl rfl (q_sub rfl rfl rfl (by constructor <;> omega))) ?_
    refine wpR_q 4 (by kernel_rfl) rfl (quietAt rfl rfl (q_indexRd (k := ((p : Int) - 1).toNat) rfl Try.underlying23 el_LInt_32_TopLoops1 rfl rfl (hS110.rdl 1 rfl) (by omega) (by omega))) ?_
    refine wpR_q 5 (by kernel_rfl) rfl (quietAt rfl rfl (q_loadE rfl rfl (hlu120o5 Try.prog 32 _ el_LInt_32_TopLoops1 (labU_sub [] rfl (List.forall_mem_nil _))))) ?_
    refine wpR_n [6, 10] (by kernel_rfl) ?_
    refine List.forall_mem_cons.2 ⟨?_, List.forall_mem_cons.2 ⟨?_, List.forall_mem_nil _⟩⟩
    · refine exE rfl rfl ?_
      refine e_call rfl Try.call25 (arr2 (v0 := Value.agg #[r2, r3, r4, r5, r6]) (v1 := u120o5) rfl rfl) (Next_L r2 r3 r4 r5 r6 u120o5 (topL raw) (nth (badL (topL raw)) (((p : Int) - 1).toNat)) (hS120o5.rdS 7 rfl) (hS120o5.rdS 8 rfl) (hS120o5.rdS 9 rfl) (hS120o5.rdS 10 rfl) (hS120o5.rdS 11 rfl) (hS120o5.rdS 0 rfl) ) ?_
      rintro _ H120o6 ⟨hxx, r120o6, rfl, hrr120o6⟩
      have hS120o6 : St H0 NoB NoB [rdE r120o6 (nextOut (topL raw) (nth (badL (topL raw)) (((p : Int) - 1).toNat)) : List (List Int)), rdE u120o5 (nth (badL (topL raw)) (((p : Int) - 1).toNat) : List Int), blkE g53 (.cells #[I ((loopFault (topL raw)).1), I ((loopFault (topL raw)).2)] 27), rdE r49 (badL (topL raw) : List (List Int)), blkE g43 (.cells #[I ((loopFault (topL raw)).1), I ((loopFault (topL raw)).2)] 27), blkE g33 (.cells #[I ((chkFault (topL raw) (keepL rows n)).1), I ((chkFault (topL raw) (keepL rows n)).2)] 27), rdE vk (keepL rows n : List LRow), blkE g10 (.cells #[r2, r3, r4, r5, r6] 42), rdE r2 ((topL raw).Low : List Int), rdE r3 ((topL raw).High : List Int), rdE r4 ((topL raw).Start : List LRow), rdE r5 ((topL raw).Jumps : List Jump), rdE r6 ((topL raw).Bad : List LRow), rdE va (raw : List Int), rdE vb (rows : List Int)] H120o6 := hS120o5.res hxx hrr120o6
      refine ⟨Ext.mono hxx (fun _ h => h.elim), ?_⟩
      refine wpR_q 7 (by kernel_rfl) rfl (quietAt rfl rfl (q_move (v := Value.tuple #[r120o6, Value.agg #[I ((nextFault (topL raw) (nth (badL (topL raw)) (((p : Int) - 1).toNat))).1), I ((nextFault (topL raw) (nth (badL (topL raw)) (((p : Int) - 1).toNat))).2)]]) rfl rfl)) ?_
      refine wpR_q 8 (by kernel_rfl) rfl (quietAt rfl rfl (q_extract (vs := #[r120o6, Value.agg #[I ((nextFault (topL raw) (nth (badL (topL raw)) (((p : Int) - 1).toNat))).1), I ((nextFault (topL raw) (nth (badL (topL raw)) (((p : Int) - 1).toNat))).2)]]) (v := r120o6) rfl rfl rfl)) ?_
      refine wpR_q 9 (by kernel_rfl) rfl (quietAt rfl rfl (q_extract (vs := #[r120o6, Value.agg #[I ((nextFault (topL raw) (nth (badL (topL raw)) (((p : Int) - 1).toNat))).1), I ((nextFault (topL raw) (nth (badL (topL raw)) (((p : Int) - 1).toNat))).2)]]) (v := Value.agg #[I ((nextFault (topL raw) (nth (badL (topL raw)) (((p : Int) - 1).toNat))).1), I ((nextFault (topL raw) (nth (badL (topL raw)) (((p : Int) - 1).toNat))).2)]) rfl rfl rfl)) ?_
      refine wpR_n [10] (by kernel_rfl) ?_
      refine List.forall_mem_cons.2 ⟨?_, List.forall_mem_nil _⟩
      refine exE rfl rfl ?_
      refine e_alloc rfl Try.zeroValue27 hS120o6 (fun g120o10 H120o10 hS120o10 hxx => ?_)
      replace hS120o10 : St H0 NoB NoB [blkE g120o10 (.cells #[I (0), I (0)] 27), rdE r120o6 (nextOut (topL raw) (nth (badL (topL raw)) (((p : Int) - 1).toNat)) : List (List Int)), rdE u120o5 (nth (badL (topL raw)) (((p : Int) - 1).toNat) : List Int), blkE g53 (.cells #[I ((loopFault (topL raw)).1), I ((loopFault (topL raw)).2)] 27), rdE r49 (badL (topL raw) : List (List Int)), blkE g43 (.cells #[I ((loopFault (topL raw)).1), I ((loopFault (topL raw)).2)] 27), blkE g33 (.cells #[I ((chkFault (topL raw) (keepL rows n)).1), I ((chkFault (topL raw) (keepL rows n)).2)] 27), rdE vk (keepL rows n : List LRow), blkE g10 (.cells #[r2, r3, r4, r5, r6] 42), rdE r2 ((topL raw).Low : List Int), rdE r3 ((topL raw).High : List Int), rdE r4 ((topL raw).Start : List LRow), rdE r5 ((topL raw).Jumps : List Jump), rdE r6 ((topL raw).Bad : List LRow), rdE va (raw : List Int), rdE vb (rows : List Int)] H120o10 := hS120o10
      refine ⟨Ext.mono hxx (fun _ h => h.elim), ?_⟩
      refine wpR_q 11 (by kernel_rfl) rfl (quietAt rfl rfl (q_assign (v := r120o6) rfl rfl)) ?_
      refine wpR_n [12] (by kernel_rfl) ?_
      refine List.forall_mem_cons.2 ⟨?_, List.forall_mem_nil _⟩
      refine exE rfl rfl ?_
      refine e_storeBlkA (cs' := #[I ((nextFault (topL raw) (nth (badL (topL raw)) (((p : Int) - 1).toNat))).1), I ((nextFault (topL raw) (nth (badL (topL raw)) (((p : Int) - 1).toNat))).2)]) rfl rfl rfl Try.sizeOf27 rfl rfl (List.forall_mem_cons.2 ⟨rfl, List.forall_mem_cons.2 ⟨rfl, List.forall_mem_nil _⟩⟩) hS120o10 (fun H120o12 hS120o12 hxx => ?_)
      replace hS120o12 : St H0 NoB NoB [blkE g120o10 (.cells #[I ((nextFault (topL raw) (nth (badL (topL raw)) (((p : Int) - 1).toNat))).1), I ((nextFault (topL raw) (nth (badL (topL raw)) (((p : Int) - 1).toNat))).2)] 27), rdE r120o6 (nextOut (topL raw) (nth (badL (topL raw)) (((p : Int) - 1).toNat)) : List (List Int)), rdE u120o5 (nth (badL (topL raw)) (((p : Int) - 1).toNat) : List Int), blkE g53 (.cells #[I ((loopFault (topL raw)).1), I ((loopFault (topL raw)).2)] 27), rdE r49 (badL (topL raw) : List (List Int)), blkE g43 (.cells #[I ((loopFault (topL raw)).1), I ((loopFault (topL raw)).2)] 27), blkE g33 (.cells #[I ((chkFault (topL raw) (keepL rows n)).1), I ((chkFault (topL raw) (keepL rows n)).2)] 27), rdE vk (keepL rows n : List LRow), blkE g10 (.cells #[r2, r3, r4, r5, r6] 42), rdE r2 ((topL raw).Low : List Int), rdE r3 ((topL raw).High : List Int), rdE r4 ((topL raw).Start : List LRow), rdE r5 ((topL raw).Jumps : List Jump), rdE r6 ((topL raw).Bad : List LRow), rdE va (raw : List Int), rdE vb (rows : List Int)] H120o12 := hS120o12
      refine ⟨Ext.mono hxx (labS_of 0 rfl (fun _ _ => trivial)), ?_⟩
      refine wpR_end (by kernel_rfl) ?_
      exact ⟨r120o6, g120o10, a118_5, a118_6, a118_8, a118_13, a118_18, rfl, rfl, (hS120o12.drop (List.Sublist.cons_cons _ (List.Sublist.cons_cons _ (List.Sublist.cons _ (List.Sublist.cons_cons _ (List.Sublist.cons_cons _ (List.Sublist.cons_cons _ (List.Sublist.cons_cons _ (List.Sublist.cons_cons _ (List.Sublist.cons_cons _ (List.Sublist.cons_cons _ (List.Sublist.cons_cons _ (List.Sublist.cons_cons _ (List.Sublist.cons_cons _ (List.Sublist.cons_cons _ (List.Sublist.cons_cons _ (List.Sublist.cons_cons _ (List.Sublist.slnil))))))))))))))))))⟩
    · refine exE rfl rfl ?_
      refine e_alloc rfl Try.zeroValue27 hS120o5 (fun g120o10 H120o10 hS120o10 hxx => ?_)
      replace hS120o10 : St H0 NoB NoB [blkE g120o10 (.cells #[I (0), I (0)] 27), rdE u120o5 (nth (badL (topL raw)) (((p : Int) - 1).toNat) : List Int), blkE g53 (.cells #[I ((loopFault (topL raw)).1), I ((loopFault (topL raw)).2)] 27), rdE r49 (badL (topL raw) : List (List Int)), blkE g43 (.cells #[I ((loopFault (topL raw)).1), I ((loopFault (topL raw)).2)] 27), blkE g33 (.cells #[I ((chkFault (topL raw) (keepL rows n)).1), I ((chkFault (topL raw) (keepL rows n)).2)] 27), rdE vk (keepL rows n : List LRow), blkE g10 (.cells #[r2, r3, r4, r5, r6] 42), rdE r2 ((topL raw).Low : List Int), rdE r3 ((topL raw).High : List Int), rdE r4 ((topL raw).Start : List LRow), rdE r5 ((topL raw).Jumps : List Jump), rdE r6 ((topL raw).Bad : List LRow), rdE va (raw : List Int), rdE vb (rows : List Int)] H120o10 := hS120o10
      refine ⟨Ext.mono hxx (fun _ h => h.elim), ?_⟩
      refine wpR_n [6] (by kernel_rfl) ?_
      refine List.forall_mem_cons.2 ⟨?_, List.forall_mem_nil _⟩
      refine exE rfl rfl ?_
      refine e_call rfl Try.call25 (arr2 (v0 := Value.agg #[r2, r3, r4, r5, r6]) (v1 := u120o5) rfl rfl) (Next_L r2 r3 r4 r5 r6 u120o5 (topL raw) (nth (badL (topL raw)) (((p : Int) - 1).toNat)) (hS120o10.rdS 8 rfl) (hS120o10.rdS 9 rfl) (hS120o10.rdS 10 rfl) (hS120o10.rdS 11 rfl) (hS120o10.rdS 12 rfl) (hS120o10.rdS 1 rfl) ) ?_
      rintro _ H120o6 ⟨hxx, r120o6, rfl, hrr120o6⟩
      have hS120o6 : St H0 NoB NoB [rdE r120o6 (nextOut (topL raw) (nth (badL (topL raw)) (((p : Int) - 1).toNat)) : List (List Int)), blkE g120o10 (.cells #[I (0), I (0)] 27), rdE u120o5 (nth (badL (topL raw)) (((p : Int) - 1).toNat) : List Int), blkE g53 (.cells #[I ((loopFault (topL raw)).1), I ((loopFault (topL raw)).2)] 27), rdE r49 (badL (topL raw) : List (List Int)), blkE g43 (.cells #[I ((loopFault (topL raw)).1), I ((loopFault (topL raw)).2)] 27), blkE g33 (.cells #[I ((chkFault (topL raw) (keepL rows n)).1), I ((chkFault (topL raw) (keepL rows n)).2)] 27), rdE vk (keepL rows n : List LRow), blkE g10 (.cells #[r2, r3, r4, r5, r6] 42), rdE r2 ((topL raw).Low : List Int), rdE r3 ((topL raw).High : List Int), rdE r4 ((topL raw).Start : List LRow), rdE r5 ((topL raw).Jumps : List Jump), rdE r6 ((topL raw).Bad : List LRow), rdE va (raw : List Int), rdE vb (rows : List Int)] H120o6 := hS120o10.res hxx hrr120o6
      refine ⟨Ext.mono hxx (fun _ h => h.elim), ?_⟩
      refine wpR_q 7 (by kernel_rfl) rfl (quietAt rfl rfl (q_move (v := Value.tuple #[r120o6, Value.agg #[I ((nextFault (topL raw) (nth (badL (topL raw)) (((p : Int) - 1).toNat))).1), I ((nextFault (topL raw) (nth (badL (topL raw)) (((p : Int) - 1).toNat))).2)]]) rfl rfl)) ?_
      refine wpR_q 8 (by kernel_rfl) rfl (quietAt rfl rfl (q_extract (vs := #[r120o6, Value.agg #[I ((nextFault (topL raw) (nth (badL (topL raw)) (((p : Int) - 1).toNat))).1), I ((nextFault (topL raw) (nth (badL (topL raw)) (((p : Int) - 1).toNat))).2)]]) (v := r120o6) rfl rfl rfl)) ?_
      refine wpR_q 9 (by kernel_rfl) rfl (quietAt rfl rfl (q_extract (vs := #[r120o6, Value.agg #[I ((nextFault (topL raw) (nth (badL (topL raw)) (((p : Int) - 1).toNat))).1), I ((nextFault (topL raw) (nth (badL (topL raw)) (((p : Int) - 1).toNat))).2)]]) (v := Value.agg #[I ((nextFault (topL raw) (nth (badL (topL raw)) (((p : Int) - 1).toNat))).1), I ((nextFault (topL raw) (nth (badL (topL raw)) (((p : Int) - 1).toNat))).2)]) rfl rfl rfl)) ?_
      refine wpR_q 11 (by kernel_rfl) rfl (quietAt rfl rfl (q_assign (v := r120o6) rfl rfl)) ?_
      refine wpR_n [12] (by kernel_rfl) ?_
      refine List.forall_mem_cons.2 ⟨?_, List.forall_mem_nil _⟩
      refine exE rfl rfl ?_
      refine e_storeBlkA (cs' := #[I ((nextFault (topL raw) (nth (badL (topL raw)) (((p : Int) - 1).toNat))).1), I ((nextFault (topL raw) (nth (badL (topL raw)) (((p : Int) - 1).toNat))).2)]) rfl rfl rfl Try.sizeOf27 rfl rfl (List.forall_mem_cons.2 ⟨rfl, List.forall_mem_cons.2 ⟨rfl, List.forall_mem_nil _⟩⟩) (hS120o6.front 1 rfl) (fun H120o12 hS120o12 hxx => ?_)
      replace hS120o12 : St H0 NoB NoB [blkE g120o10 (.cells #[I ((nextFault (topL raw) (nth (badL (topL raw)) (((p : Int) - 1).toNat))).1), I ((nextFault (topL raw) (nth (badL (topL raw)) (((p : Int) - 1).toNat))).2)] 27), rdE r120o6 (nextOut (topL raw) (nth (badL (topL raw)) (((p : Int) - 1).toNat)) : List (List Int)), rdE u120o5 (nth (badL (topL raw)) (((p : Int) - 1).toNat) : List Int), blkE g53 (.cells #[I ((loopFault (topL raw)).1), I ((loopFault (topL raw)).2)] 27), rdE r49 (badL (topL raw) : List (List Int)), blkE g43 (.cells #[I ((loopFault (topL raw)).1), I ((loopFault (topL raw)).2)] 27), blkE g33 (.cells #[I ((chkFault (topL raw) (keepL rows n)).1), I ((chkFault (topL raw) (keepL rows n)).2)] 27), rdE vk (keepL rows n : List LRow), blkE g10 (.cells #[r2, r3, r4, r5, r6] 42), rdE r2 ((topL raw).Low : List Int), rdE r3 ((topL raw).High : List Int), rdE r4 ((topL raw).Start : List LRow), rdE r5 ((topL raw).Jumps : List Jump), rdE r6 ((topL raw).Bad : List LRow), rdE va (raw : List Int), rdE vb (rows : List Int)] H120o12 := hS120o12
      refine ⟨Ext.mono hxx (labS_of 0 rfl (fun _ _ => trivial)), ?_⟩
      refine wpR_end (by kernel_rfl) ?_
      exact ⟨r120o6, g120o10, a118_5, a118_6, a118_8, a118_13, a118_18, rfl, rfl, (hS120o12.drop (List.Sublist.cons_cons _ (List.Sublist.cons_cons _ (List.Sublist.cons _ (List.Sublist.cons_cons _ (List.Sublist.cons_cons _ (List.Sublist.cons_cons _ (List.Sublist.cons_cons _ (List.Sublist.cons_cons _ (List.Sublist.cons_cons _ (List.Sublist.cons_cons _ (List.Sublist.cons_cons _ (List.Sublist.cons_cons _ (List.Sublist.cons_cons _ (List.Sublist.cons_cons _ (List.Sublist.cons_cons _ (List.Sublist.cons_cons _ (List.Sublist.slnil))))))))))))))))))⟩
  rintro f121 H121 ⟨r120o6, g120o10, a121_5, a121_6, a121_8, a121_13, a121_18, a121_19, a121_20, hS121⟩
  clear a118_13 a118_154 a118_18 a118_5 a118_6 a118_8
  refine wpF_seq ?_
  refine wpF_cut (fun f H => f 5 = PT g10 0 ∧ f 6 = vk ∧ f 8 = B (keptB (topL raw) (keepL rows n)) ∧ f 13 = r49 ∧ f 18 = I ((p : Int)) ∧ f 19 = r120o6 ∧ f 20 = PT g120o10 0 ∧ f 21 = B (false) ∧ H121 = H) ?_ ?_
  · refine wpF_region ?_
    refine wpL_q (U := NoB) rfl (q_assign (v := B (false)) rfl rfl) ?_
    exact ⟨a121_5, a121_6, a121_8, a121_13, a121_18, a121_19, a121_20, rfl, rfl⟩
  rintro f122 _ ⟨a122_5, a122_6, a122_8, a122_13, a122_18, a122_19, a122_20, a122_21, rfl⟩
  clear a121_13 a121_18 a121_19 a121_20 a121_5 a121_6 a121_8
  refine wpF_seq ?_
  refine wpF_seq ?_
  refine wpF_cut (fun f H => f 5 = PT g10 0 ∧ f 6 = vk ∧ f 8 = B (keptB (topL raw) (keepL rows n)) ∧ f 13 = r49 ∧ f 18 = I ((p : Int)) ∧ f 19 = r120o6 ∧ f 20 = PT g120o10 0 ∧ f 21 = B (false) ∧ f 22 = I (0) ∧ H121 = H) ?_ ?_
  · refine wpF_region ?_
    refine wpL_q (U := NoB) rfl (q_assign (v := I (0)) rfl rfl) ?_
    exact ⟨a122_5, a122_6, a122_8, a122_13, a122_18, a122_19, a122_20, a122_21, rfl, rfl⟩
  rintro f123 _ ⟨a123_5, a123_6, a123_8, a123_13, a123_18, a123_19, a123_20, a123_21, a123_22, rfl⟩
  clear a122_13 a122_18 a122_19 a122_20 a122_21 a122_5 a122_6 a122_8
  refine wpF_block ?_
  refine wpF_loop (fun mz f H => ∃ (k : Nat), ∃ (w2 : Bool), mz = (nextOut (topL raw) (nth (badL (topL raw)) ((p : Int) - 1).toNat)).length - k ∧ (k ≤ (nextOut (topL raw) (nth (badL (topL raw)) ((p : Int) - 1).toNat)).length) ∧ (w2 = (List.range k).any (fun j => decide (((nth (nextOut (topL raw) (nth (badL (topL raw)) ((p : Int) - 1).toNat)) j).length : Int) = 1 ∧ nth (nth (nextOut (topL raw) (nth (badL (topL raw)) ((p : Int) - 1).toNat)) j) 0 = nth (nth (badL (topL raw)) p) 0))) ∧ f 5 = PT g10 0 ∧ f 6 = vk ∧ f 8 = B (keptB (topL raw) (keepL rows n)) ∧ f 13 = r49 ∧ f 18 = I ((p : Int)) ∧ f 19 = r120o6 ∧ f 20 = PT g120o10 0 ∧ f 21 = B (w2) ∧ f 22 = I ((k : Int)) ∧ St H0 NoB NoB [blkE g120o10 (.cells #[I ((nextFault (topL raw) (nth (badL (topL raw)) (((p : Int) - 1).toNat))).1), I ((nextFault (topL raw) (nth (badL (topL raw)) (((p : Int) - 1).toNat))).2)] 27), rdE r120o6 (nextOut (topL raw) (nth (badL (topL raw)) (((p : Int) - 1).toNat)) : List (List Int)), blkE g53 (.cells #[I ((loopFault (topL raw)).1), I ((loopFault (topL raw)).2)] 27), rdE r49 (badL (topL raw) : List (List Int)), blkE g43 (.cells #[I ((loopFault (topL raw)).1), I ((loopFault (topL raw)).2)] 27), blkE g33 (.cells #[I ((chkFault (topL raw) (keepL rows n)).1), I ((chkFault (topL raw) (keepL rows n)).2)] 27), rdE vk (keepL rows n : List LRow), blkE g10 (.cells #[r2, r3, r4, r5, r6] 42), rdE r2 ((topL raw).Low : List Int), rdE r3 ((topL raw).High : List Int), rdE r4 ((topL raw).Start : List LRow), rdE r5 ((topL raw).Jumps : List Jump), rdE r6 ((topL raw).Bad : List LRow), rdE va (raw : List Int), rdE vb (rows : List Int)] H) ((nextOut (topL raw) (nth (badL (topL raw)) ((p : Int) - 1).toNat)).length - 0) ?_ ?_
  · exact ⟨0, false, rfl, Nat.zero_le _, rfl, a123_5, a123_6, a123_8, a123_13, a123_18, a123_19, a123_20, a123_21, (Eq.trans a123_22 (congrArg I (by omega))), hS121⟩
  intro m124 f124 H124 hI124
  obtain ⟨k, w2, hm124, hk, hw2, a124_5, a124_6, a124_8, a124_13, a124_18, a124_19, a124_20, a124_21, a124_22, hS124⟩ := hI124
  clear a123_13 a123_18 a123_19 a123_20 a123_21 a123_22 a123_5 a123_6 a123_8
  refine wpF_seq ?_
  refine wpF_seq ?_
  refine wpF_cut (fun f H => f 5 = PT g10 0 ∧ f 6 = vk ∧ f 8 = B (keptB (topL raw) (keepL rows n)) ∧ f 13 = r49 ∧ f 18 = I ((p : Int)) ∧ f 19 = r120o6 ∧ f 20 = PT g120o10 0 ∧ f 21 = B (w2) ∧ f 22 = I ((k : Int)) ∧ f 168 = B (decide ((k : Int) < ((nextOut (topL raw) (nth (badL (topL raw)) (((p : Int) - 1).toNat))).length : Int))) ∧ H124 = H) ?_ ?_
  · refine wpF_region ?_
    refine wpL_q (U := NoB) rfl (q_move (v := I ((k : Int))) rfl a124_22) ?_
    refine wpL_q (U := NoB) rfl (q_move (v := r120o6) rfl a124_19) ?_
    refine wpL_q (U := NoB) rfl (q_lenRd rfl Try.underlying23 rfl (hS124.rdl 1 rfl)) ?_
    refine wpL_q (U := NoB) rfl (q_lss rfl rfl rfl) ?_
    exact ⟨a124_5, a124_6, a124_8, a124_13, a124_18, a124_19, a124_20, a124_21, a124_22, rfl, rfl⟩
  rintro f125 _ ⟨a125_5, a125_6, a125_8, a125_13, a125_18, a125_19, a125_20, a125_21, a125_22, a125_168, rfl⟩
  clear a124_13 a124_18 a124_19 a124_20 a124_21 a124_22 a124_5 a124_6 a124_8
  refine wpF_condP a125_168 (fun hlt6 => ?t144) (fun hlt6 => ?e144)
  case e144 =>
    refine wpF_exit ?_
    refine atX_here ?_
    refine wpF_seq ?_
    refine wpF_cut (fun f H => f 5 = PT g10 0 ∧ f 6 = vk ∧ f 8 = B (keptB (topL raw) (keepL rows n)) ∧ f 13 = r49 ∧ f 18 = I ((p : Int)) ∧ f 201 = B (decide ((((nextFault (topL raw) (nth (badL (topL raw)) (((p : Int) - 1).toNat))).1) ≠ 0) ∨ ((!w2) = true))) ∧ H124 = H) ?_ ?_
    · refine wpF_region ?_
      refine wpL_q (U := NoB) rfl (q_fieldAddr rfl Try.underlying27 rfl Try.sizeOf3 a125_20) ?_
      refine wpL_q (U := NoB) rfl (q_loadBlk rfl rfl Try.isAgg3 (hS124.blk 0 rfl) rfl (fun h => h)) ?_
      refine wpL_q (U := NoB) rfl (q_neq rfl rfl rfl) ?_
      refine wpL_q (U := NoB) rfl (q_move (v := B (decide (((nextFault (topL raw) (nth (badL (topL raw)) (((p : Int) - 1).toNat))).1) ≠ 0))) rfl rfl) ?_
      by_cases hg136 : ((nextFault (topL raw) (nth (badL (topL raw)) (((p : Int) - 1).toNat))).1) ≠ 0
      · have hb137 := Eq.trans rfl (congrArg B (decide_eq_true hg136))
        refine wpL_gs rfl rfl rfl hb137 rfl ?_
        refine wpL_gs rfl rfl rfl hb137 rfl ?_
        refine wpL_q (U := NoB) rfl (q_pickT (v := B (true)) rfl hb137 rfl) ?_
        exact ⟨a125_5, a125_6, a125_8, a125_13, a125_18, (Eq.trans rfl (congrArg B ((decide_eq_true (Or.inl hg136)).symm))), rfl⟩
      · have hb138 := Eq.trans rfl (congrArg B (decide_eq_false hg136))
        refine wpL_gq (U := NoB) rfl rfl rfl hb138 (q_move (v := B (w2)) rfl a125_21) ?_
        refine wpL_gq (U := NoB) rfl rfl rfl hb138 (q_not rfl rfl) ?_
        refine wpL_q (U := NoB) rfl (q_pickF (v := B (!w2)) rfl hb138 rfl) ?_
        exact ⟨a125_5, a125_6, a125_8, a125_13, a125_18, (Eq.trans rfl (congrArg B (bool_congr_of ((Iff.rfl).trans (((or_iff_right hg136).trans Iff.rfl)).symm)))), rfl⟩
    rintro f139 _ ⟨a139_5, a139_6, a139_8, a139_13, a139_18, a139_201, rfl⟩
    clear a125_13 a125_168 a125_18 a125_19 a125_20 a125_21 a125_22 a125_5 a125_6 a125_8
    refine wpF_condP a139_201 (fun h201 => ?t143) (fun h201 => ?e143)
    case e143 =>
      refine wpF_skip ?_
      refine wpF_cut (fun f H => f 5 = PT g10 0 ∧ f 6 = vk ∧ f 8 = B (keptB (topL raw) (keepL rows n)) ∧ f 13 = r49 ∧ f 18 = I ((p : Int) + 1) ∧ H124 = H) ?_ ?_
      · refine wpF_region ?_
        refine wpL_q (U := NoB) rfl (q_move (v := I ((p : Int))) rfl a139_18) ?_
        refine wpL_q (U := NoB) rfl (q_add rfl rfl rfl (by constructor <;> omega)) ?_
        refine wpL_q (U := NoB) rfl (q_assign (v := I ((p : Int) + 1)) rfl rfl) ?_
        exact ⟨a139_5, a139_6, a139_8, a139_13, rfl, rfl⟩
      rintro f142 _ ⟨a142_5, a142_6, a142_8, a142_13, a142_18, rfl⟩
      clear a139_13 a139_18 a139_201 a139_5 a139_6 a139_8
      refine ⟨_, ?_, p + 1, rfl, (by omega), a142_5, a142_6, a142_8, a142_13, (Eq.trans a142_18 (congrArg I (by omega))), (hS124.drop (List.Sublist.cons _ (List.Sublist.cons _ (List.Sublist.cons_cons _ (List.Sublist.cons_cons _ (List.Sublist.cons_cons _ (List.Sublist.cons_cons _ (List.Sublist.cons_cons _ (List.Sublist.cons_cons _ (List.Sublist.cons_cons _ (List.Sublist.cons_cons _ (List.Sublist.cons_cons _ (List.Sublist.cons_cons _ (List.Sublist.cons_cons _ (List.Sublist.cons_cons _ (List.Sublist.cons_cons _ (List.Sublist.slnil)))))))))))))))))⟩
      omega
    refine wpF_seq ?_
    refine wpF_cut (fun f H => f 4 = B (false) ∧ H124 = H) ?_ ?_
    · refine wpF_region ?_
      refine wpL_q (U := NoB) rfl (q_assign (v := B (false)) rfl rfl) ?_
      exact ⟨rfl, rfl⟩
    rintro f141 _ ⟨a141_4, rfl⟩
    clear a139_13 a139_18 a139_201 a139_5 a139_6 a139_8
    refine wpF_ret ?_
    refine ⟨_, resT a141_4 resN, hS124.frame, ?_⟩
    show (B (false)) = B true
    exfalso
    have hbt : badB (topL raw) = true := (by simpa using h140)
    have hx := top_next hbt (by omega) h154 hw2 (by omega)
    rcases h201 with h | h
    · exact h hx.1
    · rw [hx.2] at h; cases h
  refine wpF_skip ?_
  refine wpF_seq ?_
  refine wpF_block ?_
  refine wpF_cut (fun f H => f 5 = PT g10 0 ∧ f 6 = vk ∧ f 8 = B (keptB (topL raw) (keepL rows n)) ∧ f 13 = r49 ∧ f 18 = I ((p : Int)) ∧ f 19 = r120o6 ∧ f 20 = PT g120o10 0 ∧ f 21 = B (decide ((w2 = true) ∨ ((((nth (nextOut (topL raw) (nth (badL (topL raw)) (((p : Int) - 1).toNat))) k).length : Int) = 1) ∧ ((nth (nth (nextOut (topL raw) (nth (badL (topL raw)) (((p : Int) - 1).toNat))) k) 0) = (nth (nth (badL (topL raw)) p) 0))))) ∧ f 22 = I ((k : Int)) ∧ H124 = H) ?_ ?_
  · refine wpF_drawn [] [] (fun _ _ => False) (by kernel_rfl) (by kernel_rfl) ?_
    refine wpR_q 0 (by kernel_rfl) rfl (quietAt rfl rfl (q_move (v := B (w2)) rfl a125_21)) ?_
    refine wpR_q 1 (by kernel_rfl) rfl (quietAt rfl rfl (q_move (v := B (w2)) rfl rfl)) ?_
    by_cases hg128 : w2 = true
    · have hb129 := Eq.trans rfl (congrArg B hg128)
      refine wpR_q 2 (by kernel_rfl) rfl (quietAt_s rfl rfl rfl rfl hb129 rfl) ?_
      refine wpR_q 3 (by kernel_rfl) rfl (quietAt_s rfl rfl rfl rfl hb129 rfl) ?_
      refine wpR_q 4 (by kernel_rfl) rfl (quietAt_s rfl rfl rfl rfl hb129 rfl) ?_
      refine wpR_q 5 (by kernel_rfl) rfl (quietAt_s rfl rfl rfl rfl hb129 rfl) ?_
      refine wpR_q 6 (by kernel_rfl) rfl (quietAt_s rfl rfl rfl rfl hb129 rfl) ?_
      refine wpR_q 7 (by kernel_rfl) rfl (quietAt_s rfl rfl rfl rfl hb129 rfl) ?_
      refine wpR_q 8 (by kernel_rfl) rfl (quietAt_s rfl rfl rfl rfl hb129 rfl) ?_
      refine wpR_q 9 (by kernel_rfl) rfl (quietAt_s' rfl rfl rfl rfl rfl) ?_
      refine wpR_q 10 (by kernel_rfl) rfl (quietAt_s' rfl rfl rfl rfl rfl) ?_
      refine wpR_q 11 (by kernel_rfl) rfl (quietAt_s' rfl rfl rfl rfl rfl) ?_
      refine wpR_q 12 (by kernel_rfl) rfl (quietAt_s' rfl rfl rfl rfl rfl) ?_
      refine wpR_q 13 (by kernel_rfl) rfl (quietAt_s' rfl rfl rfl rfl rfl) ?_
      refine wpR_q 14 (by kernel_rfl) rfl (quietAt_s' rfl rfl rfl rfl rfl) ?_
      refine wpR_q 15 (by kernel_rfl) rfl (quietAt_s' rfl rfl rfl rfl rfl) ?_
      refine wpR_q 16 (by kernel_rfl) rfl (quietAt_s' rfl rfl rfl rfl rfl) ?_
      refine wpR_q 17 (by kernel_rfl) rfl (quietAt_s' rfl rfl rfl rfl rfl) ?_
      refine wpR_q 18 (by kernel_rfl) rfl (quietAt_s' rfl rfl rfl rfl rfl) ?_
      refine wpR_q 19 (by kernel_rfl) rfl (quietAt_s' rfl rfl rfl rfl rfl) ?_
      refine wpR_q 20 (by kernel_rfl) rfl (quietAt_s' rfl rfl rfl rfl rfl) ?_
      refine wpR_q 21 (by kernel_rfl) rfl (quietAt_s' rfl rfl rfl rfl rfl) ?_
      refine wpR_q 22 (by kernel_rfl) rfl (quietAt_s rfl rfl rfl rfl hb129 rfl) ?_
      refine wpR_q 23 (by kernel_rfl) rfl (quietAt rfl rfl (q_pickT (v := B (true)) rfl hb129 rfl)) ?_
      refine wpR_q 24 (by kernel_rfl) rfl (quietAt rfl rfl (q_assign (v := B (true)) rfl rfl)) ?_
      refine wpR_end (by kernel_rfl) ?_
      exact ⟨a125_5, a125_6, a125_8, a125_13, a125_18, a125_19, a125_20, (Eq.trans rfl (congrArg B ((decide_eq_true (Or.inl hg128)).symm))), a125_22, rfl⟩
    · have hb130 := Eq.trans rfl (congrArg B (Bool.eq_false_iff.2 hg128))
      refine wpR_q 2 (by kernel_rfl) rfl (quietAt_g rfl rfl rfl rfl hb130 (q_move (v := r120o6) rfl a125_19)) ?_
      refine wpR_q 3 (by kernel_rfl) rfl (quietAt_g rfl rfl rfl rfl hb130 (q_move (v := I ((k : Int))) rfl a125_22)) ?_
      refine wpR_q 4 (by kernel_rfl) rfl (quietAt_g rfl rfl rfl rfl hb130 (q_indexRd (k := k) rfl Try.underlying23 el_LInt_32_TopLoops1 rfl rfl (hS124.rdl 1 rfl) (by omega) (by omega))) ?_
      obtain ⟨u127o5, huu127o5, hlu127o5⟩ := (Rd.list.1 (hS124.rdS 1 rfl)).elem k (by omega)
      have hS127o5 : St H0 NoB NoB [rdE u127o5 (nth (nextOut (topL raw) (nth (badL (topL raw)) (((p : Int) - 1).toNat))) k : List Int), blkE g120o10 (.cells #[I ((nextFault (topL raw) (nth (badL (topL raw)) (((p : Int) - 1).toNat))).1), I ((nextFault (topL raw) (nth (badL (topL raw)) (((p : Int) - 1).toNat))).2)] 27), rdE r120o6 (nextOut (topL raw) (nth (badL (topL raw)) (((p : Int) - 1).toNat)) : List (List Int)), blkE g53 (.cells #[I ((loopFault (topL raw)).1), I ((loopFault (topL raw)).2)] 27), rdE r49 (badL (topL raw) : List (List Int)), blkE g43 (.cells #[I ((loopFault (topL raw)).1), I ((loopFault (topL raw)).2)] 27), blkE g33 (.cells #[I ((chkFault (topL raw) (keepL rows n)).1), I ((chkFault (topL raw) (keepL rows n)).2)] 27), rdE vk (keepL rows n : List LRow), blkE g10 (.cells #[r2, r3, r4, r5, r6] 42), rdE r2 ((topL raw).Low : List Int), rdE r3 ((topL raw).High : List Int), rdE r4 ((topL raw).Start : List LRow), rdE r5 ((topL raw).Jumps : List Jump), rdE r6 ((topL raw).Bad : List LRow), rdE va (raw : List Int), rdE vb (rows : List Int)] H124 := hS124.rd huu127o5
      refine wpR_q 5 (by kernel_rfl) rfl (quietAt_g rfl rfl rfl rfl hb130 (q_loadE rfl rfl (hlu127o5 Try.prog 32 _ el_LInt_32_TopLoops1 (labU_sub [] rfl (List.forall_mem_nil _))))) ?_
      refine wpR_q 6 (by kernel_rfl) rfl (quietAt_g rfl rfl rfl rfl hb130 (q_lenRd rfl Try.underlying32 rfl (hS127o5.rdl 0 rfl))) ?_
      refine wpR_q 7 (by kernel_rfl) rfl (quietAt_g rfl rfl rfl rfl hb130 (q_eql rfl rfl rfl)) ?_
      refine wpR_q 8 (by kernel_rfl) rfl (quietAt_g rfl rfl rfl rfl hb130 (q_move (v := B (decide (((nth (nextOut (topL raw) (nth (badL (topL raw)) (((p : Int) - 1).toNat))) k).length : Int) = 1))) rfl rfl)) ?_
      by_cases hg131 : ((nth (nextOut (topL raw) (nth (badL (topL raw)) (((p : Int) - 1).toNat))) k).length : Int) = 1
      · have hb132 := Eq.trans rfl (congrArg B (decide_eq_true hg131))
        refine wpR_q 9 (by kernel_rfl) rfl (quietAt_g rfl rfl rfl rfl hb132 (q_move (v := r120o6) rfl a125_19)) ?_
        refine wpR_q 10 (by kernel_rfl) rfl (quietAt_g rfl rfl rfl rfl hb132 (q_move (v := I ((k : Int))) rfl a125_22)) ?_
        refine wpR_q 11 (by kernel_rfl) rfl (quietAt_g rfl rfl rfl rfl hb132 (q_indexRd (k := k) rfl Try.underlying23 el_LInt_32_TopLoops1 rfl rfl (hS127o5.rdl 2 rfl) (by omega) (by omega))) ?_
        obtain ⟨u127o12, huu127o12, hlu127o12⟩ := (Rd.list.1 (hS127o5.rdS 2 rfl)).elem k (by omega)
        have hS127o12 : St H0 NoB NoB [rdE u127o12 (nth (nextOut (topL raw) (nth (badL (topL raw)) (((p : Int) - 1).toNat))) k : List Int), rdE u127o5 (nth (nextOut (topL raw) (nth (badL (topL raw)) (((p : Int) - 1).toNat))) k : List Int), blkE g120o10 (.cells #[I ((nextFault (topL raw) (nth (badL (topL raw)) (((p : Int) - 1).toNat))).1), I ((nextFault (topL raw) (nth (badL (topL raw)) (((p : Int) - 1).toNat))).2)] 27), rdE r120o6 (nextOut (topL raw) (nth (badL (topL raw)) (((p : Int) - 1).toNat)) : List (List Int)), blkE g53 (.cells #[I ((loopFault (topL raw)).1), I ((loopFault (topL raw)).2)] 27), rdE r49 (badL (topL raw) : List (List Int)), blkE g43 (.cells #[I ((loopFault (topL raw)).1), I ((loopFault (topL raw)).2)] 27), blkE g33 (.cells #[I ((chkFault (topL raw) (keepL rows n)).1), I ((chkFault (topL raw) (keepL rows n)).2)] 27), rdE vk (keepL rows n : List LRow), blkE g10 (.cells #[r2, r3, r4, r5, r6] 42), rdE r2 ((topL raw).Low : List Int), rdE r3 ((topL raw).High : List Int), rdE r4 ((topL raw).Start : List LRow), rdE r5 ((topL raw).Jumps : List Jump), rdE r6 ((topL raw).Bad : List LRow), rdE va (raw : List Int), rdE vb (rows : List Int)] H124 := hS127o5.rd huu127o12
        refine wpR_q 12 (by kernel_rfl) rfl (quietAt_g rfl rfl rfl rfl hb132 (q_loadE rfl rfl (hlu127o12 Try.prog 32 _ el_LInt_32_TopLoops1 (labU_sub [] rfl (List.forall_mem_nil _))))) ?_
        refine wpR_q 13 (by kernel_rfl) rfl (quietAt_g rfl rfl rfl rfl hb132 (q_indexRd (k := 0) rfl Try.underlying32 el_Int_3_TopLoops1 rfl rfl (hS127o12.rdl 0 rfl) (by omega) (by omega))) ?_
        refine wpR_q 14 (by kernel_rfl) rfl (quietAt_g rfl rfl rfl rfl hb132 (q_loadInt (k := 0) rfl rfl el_Int_3_TopLoops1 (hS127o12.rdl 0 rfl) (by omega) (labU_sub [] rfl (List.forall_mem_nil _)))) ?_
        refine wpR_q 15 (by kernel_rfl) rfl (quietAt_g rfl rfl rfl rfl hb132 (q_move (v := r49) rfl a125_13)) ?_
        refine wpR_q 16 (by kernel_rfl) rfl (quietAt_g rfl rfl rfl rfl hb132 (q_move (v := I ((p : Int))) rfl a125_18)) ?_
        refine wpR_q 17 (by kernel_rfl) rfl (quietAt_g rfl rfl rfl rfl hb132 (q_indexRd (k := p) rfl Try.underlying23 el_LInt_32_TopLoops1 rfl rfl (hS127o12.rdl 5 rfl) (by omega) (by omega))) ?_
        obtain ⟨u127o18, huu127o18, hlu127o18⟩ := (Rd.list.1 (hS127o12.rdS 5 rfl)).elem p (by omega)
        have hS127o18 : St H0 NoB NoB [rdE u127o18 (nth (badL (topL raw)) p : List Int), rdE u127o12 (nth (nextOut (topL raw) (nth (badL (topL raw)) (((p : Int) - 1).toNat))) k : List Int), rdE u127o5 (nth (nextOut (topL raw) (nth (badL (topL raw)) (((p : Int) - 1).toNat))) k : List Int), blkE g120o10 (.cells #[I ((nextFault (topL raw) (nth (badL (topL raw)) (((p : Int) - 1).toNat))).1), I ((nextFault (topL raw) (nth (badL (topL raw)) (((p : Int) - 1).toNat))).2)] 27), rdE r120o6 (nextOut (topL raw) (nth (badL (topL raw)) (((p : Int) - 1).toNat)) : List (List Int)), blkE g53 (.cells #[I ((loopFault (topL raw)).1), I ((loopFault (topL raw)).2)] 27), rdE r49 (badL (topL raw) : List (List Int)), blkE g43 (.cells #[I ((loopFault (topL raw)).1), I ((loopFault (topL raw)).2)] 27), blkE g33 (.cells #[I ((chkFault (topL raw) (keepL rows n)).1), I ((chkFault (topL raw) (keepL rows n)).2)] 27), rdE vk (keepL rows n : List LRow), blkE g10 (.cells #[r2, r3, r4, r5, r6] 42), rdE r2 ((topL raw).Low : List Int), rdE r3 ((topL raw).High : List Int), rdE r4 ((topL raw).Start : List LRow), rdE r5 ((topL raw).Jumps : List Jump), rdE r6 ((topL raw).Bad : List LRow), rdE va (raw : List Int), rdE vb (rows : List Int)] H124 := hS127o12.rd huu127o18
        refine wpR_q 18 (by kernel_rfl) rfl (quietAt_g rfl rfl rfl rfl hb132 (q_loadE rfl rfl (hlu127o18 Try.prog 32 _ el_LInt_32_TopLoops1 (labU_sub [] rfl (List.forall_mem_nil _))))) ?_
        refine wpR_q 19 (by kernel_rfl) rfl (quietAt_g rfl rfl rfl rfl hb132 (q_indexRd (k := 0) rfl Try.underlying32 el_Int_3_TopLoops1 rfl rfl (hS127o18.rdl 0 rfl) (by omega) (by omega))) ?_
        refine wpR_q 20 (by kernel_rfl) rfl (quietAt_g rfl rfl rfl rfl hb132 (q_loadInt (k := 0) rfl rfl el_Int_3_TopLoops1 (hS127o18.rdl 0 rfl) (by omega) (labU_sub [] rfl (List.forall_mem_nil _)))) ?_
        refine wpR_q 21 (by kernel_rfl) rfl (quietAt_g rfl rfl rfl rfl hb132 (q_eql rfl rfl rfl)) ?_
        refine wpR_q 22 (by kernel_rfl) rfl (quietAt_g rfl rfl rfl rfl hb130 (q_pickT (v := B (decide ((nth (nth (nextOut (topL raw) (nth (badL (topL raw)) (((p : Int) - 1).toNat))) k) 0) = (nth (nth (badL (topL raw)) p) 0)))) rfl hb132 rfl)) ?_
        refine wpR_q 23 (by kernel_rfl) rfl (quietAt rfl rfl (q_pickF (v := B (decide ((nth (nth (nextOut (topL raw) (nth (badL (topL raw)) (((p : Int) - 1).toNat))) k) 0) = (nth (nth (badL (topL raw)) p) 0)))) rfl hb130 rfl)) ?_
        refine wpR_q 24 (by kernel_rfl) rfl (quietAt rfl rfl (q_assign (v := B (decide ((nth (nth (nextOut (topL raw) (nth (badL (topL raw)) (((p : Int) - 1).toNat))) k) 0) = (nth (nth (badL (topL raw)) p) 0)))) rfl rfl)) ?_
        refine wpR_end (by kernel_rfl) ?_
        exact ⟨a125_5, a125_6, a125_8, a125_13, a125_18, a125_19, a125_20, (Eq.trans rfl (congrArg B (decide_congr_of ((Iff.rfl).trans (((or_iff_right hg128).trans ((and_iff_right hg131).trans Iff.rfl))).symm)))), a125_22, rfl⟩
      · have hb133 := Eq.trans rfl (congrArg B (decide_eq_false hg131))
        refine wpR_q 9 (by kernel_rfl) rfl (quietAt_s rfl rfl rfl rfl hb133 rfl) ?_
        refine wpR_q 10 (by kernel_rfl) rfl (quietAt_s rfl rfl rfl rfl hb133 rfl) ?_
        refine wpR_q 11 (by kernel_rfl) rfl (quietAt_s rfl rfl rfl rfl hb133 rfl) ?_
        refine wpR_q 12 (by kernel_rfl) rfl (quietAt_s rfl rfl rfl rfl hb133 rfl) ?_
        refine wpR_q 13 (by kernel_rfl) rfl (quietAt_s rfl rfl rfl rfl hb133 rfl) ?_
        refine wpR_q 14 (by kernel_rfl) rfl (quietAt_s rfl rfl rfl rfl hb133 rfl) ?_
        refine wpR_q 15 (by kernel_rfl) rfl (quietAt_s rfl rfl rfl rfl hb133 rfl) ?_
        refine wpR_q 16 (by kernel_rfl) rfl (quietAt_s rfl rfl rfl rfl hb133 rfl) ?_
        refine wpR_q 17 (by kernel_rfl) rfl (quietAt_s rfl rfl rfl rfl hb133 rfl) ?_
        refine wpR_q 18 (by kernel_rfl) rfl (quietAt_s rfl rfl rfl rfl hb133 rfl) ?_
        refine wpR_q 19 (by kernel_rfl) rfl (quietAt_s rfl rfl rfl rfl hb133 rfl) ?_
        refine wpR_q 20 (by kernel_rfl) rfl (quietAt_s rfl rfl rfl rfl hb133 rfl) ?_
        refine wpR_q 21 (by kernel_rfl) rfl (quietAt_s rfl rfl rfl rfl hb133 rfl) ?_
        refine wpR_q 22 (by kernel_rfl) rfl (quietAt_g rfl rfl rfl rfl hb130 (q_pickF (v := B (false)) rfl hb133 rfl)) ?_
        refine wpR_q 23 (by kernel_rfl) rfl (quietAt rfl rfl (q_pickF (v := B (false)) rfl hb130 rfl)) ?_
        refine wpR_q 24 (by kernel_rfl) rfl (quietAt rfl rfl (q_assign (v := B (false)) rfl rfl)) ?_
        refine wpR_end (by kernel_rfl) ?_
        exact ⟨a125_5, a125_6, a125_8, a125_13, a125_18, a125_19, a125_20, (Eq.trans rfl (congrArg B ((decide_eq_false (not_or.2 ⟨hg128, (fun h => hg131 h.1)⟩)).symm))), a125_22, rfl⟩
  rintro f134 _ ⟨a134_5, a134_6, a134_8, a134_13, a134_18, a134_19, a134_20, a134_21, a134_22, rfl⟩
  clear a125_13 a125_168 a125_18 a125_19 a125_20 a125_21 a125_22 a125_5 a125_6 a125_8
  refine wpF_cut (fun f H => f 5 = PT g10 0 ∧ f 6 = vk ∧ f 8 = B (keptB (topL raw) (keepL rows n)) ∧ f 13 = r49 ∧ f 18 = I ((p : Int)) ∧ f 19 = r120o6 ∧ f 20 = PT g120o10 0 ∧ f 21 = B (decide ((w2 = true) ∨ ((((nth (nextOut (topL raw) (nth (badL (topL raw)) (((p : Int) - 1).toNat))) k).length : Int) = 1) ∧ ((nth (nth (nextOut (topL raw) (nth (badL (topL raw)) (((p : Int) - 1).toNat))) k) 0) = (nth (nth (badL (topL raw)) p) 0))))) ∧ f 22 = I ((k : Int) + 1) ∧ H124 = H) ?_ ?_
  · refine wpF_region ?_
    refine wpL_q (U := NoB) rfl (q_move (v := I ((k : Int))) rfl a134_22) ?_
    refine wpL_q (U := NoB) rfl (q_add rfl rfl rfl (by constructor <;> omega)) ?_
    refine wpL_q (U := NoB) rfl (q_assign (v := I ((k : Int) + 1)) rfl rfl) ?_
    exact ⟨a134_5, a134_6, a134_8, a134_13, a134_18, a134_19, a134_20, a134_21, rfl, rfl⟩
  rintro f135 _ ⟨a135_5, a135_6, a135_8, a135_13, a135_18, a135_19, a135_20, a135_21, a135_22, rfl⟩
  clear a134_13 a134_18 a134_19 a134_20 a134_21 a134_22 a134_5 a134_6 a134_8
  refine ⟨_, ?_, k + 1, decide ((w2 = true) ∨ ((((nth (nextOut (topL raw) (nth (badL (topL raw)) (((p : Int) - 1).toNat))) k).length : Int) = 1) ∧ ((nth (nth (nextOut (topL raw) (nth (badL (topL raw)) (((p : Int) - 1).toNat))) k) 0) = (nth (nth (badL (topL raw)) p) 0)))), rfl, (by omega), (any_step hw2 rfl), a135_5, a135_6, a135_8, a135_13, a135_18, a135_19, a135_20, (Eq.trans a135_21 (congrArg B (by simp))), (Eq.trans a135_22 (congrArg I (by omega))), hS124⟩
  omega

end Go.Um
