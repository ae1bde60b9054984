import Derived.Test.YtfgibfbgklkgbaaProg
import Derived.Test.YtfgibfbgklkgbaaLoopC1
namespace Go.Um
open Go.Proofs
open GoT (sz ag rdc)
open KeyT (kv)

theorem el_Int_3_LoopW1 : ElT Try.prog Int 3 := ⟨Try.isAgg3, Try.sizeOf3⟩
theorem el_LInt_32_LoopW1 : ElT Try.prog (List Int) 32 := ⟨Try.isAgg32, Try.sizeOf32⟩
theorem el_LRow_34_LoopW1 : ElT Try.prog LRow 34 := ⟨Try.isAgg34, Try.sizeOf34⟩
theorem em_Int_3_LoopW1 : ElemOk Try.prog Int 3 := ⟨Try.t3, (.int .i64 0), by kernel_rfl, by kernel_rfl, by kernel_rfl, by kernel_rfl, by kernel_rfl⟩
theorem em_LRow_34_LoopW1 : ElemOk Try.prog LRow 34 := ⟨Try.t34, (.agg #[(.slice none 0 0), (.int .i64 0), (.int .i64 0)]), by kernel_rfl, by kernel_rfl, by kernel_rfl, by kernel_rfl, by kernel_rfl⟩

set_option maxRecDepth 100000 in
theorem Want_R {H0 : Heap} {S : Nat → Prop} (vw vt vo : Value) (j : Jump) (r : LRow) (rvw : Rd S H0 vw j.When) (rvt : Rd S H0 vt j.To) (rvo : Rd S H0 vo r.Of) (h6rKind : In64 r.Kind) (h6rTo : In64 r.To) (hj : JW j j.To.length) (hr : rowFault j.To.length r = 0) (hN8 : (j.To.length : Int) ≤ 8) : CallsH Try.prog 16 #[Value.agg #[vw, vt], Value.agg #[vo, I (r.Kind), I (r.To)]] H0 (fun rv_ H' => Ext NoB H0 H' ∧ ∃ w_, rv_ = Value.agg #[w_, I (wantRow j r).Kind, I (wantRow j r).To] ∧ Rd (fun b => S b ∧ b < H0.size) H' w_ (wantRow j r).Of ∧ In64 (wantRow j r).To) := by
  have hr1 := rowFault_zero hr
  have hS0 : St H0 NoB (fun b => S b ∧ b < H0.size) [rdE vw (j.When : List LRow), rdE vt (j.To : List (List Int)), rdE vo (r.Of : List Int)] H0 := St.arg (St.arg (St.arg (St.start (fun _ h => h.2)) (Bl0.nil) rvo (fun _ h => h.1)) (Bl0.cons (Bl0.nil)) rvt (fun _ h => h.1)) (Bl0.cons (Bl0.cons (Bl0.nil))) rvw (fun _ h => h.1)
  refine callsH_of_wpF (args := [Value.agg #[vw, vt], Value.agg #[vo, I (r.Kind), I (r.To)]]) (rs := [.cell 4 34]) Try.func16 rfl Try.ntmps16 Try.results16 (by kernel_rfl) (Nat.le_of_ble_eq_true rfl) ?_
  have a0_0 : argF [Value.agg #[vw, vt], Value.agg #[vo, I (r.Kind), I (r.To)]] 0 = Value.agg #[vw, vt] := rfl
  have a0_1 : argF [Value.agg #[vw, vt], Value.agg #[vo, I (r.Kind), I (r.To)]] 1 = Value.agg #[vo, I (r.Kind), I (r.To)] := rfl
  generalize argF [Value.agg #[vw, vt], Value.agg #[vo, I (r.Kind), I (r.To)]] = f0 at *
  refine wpF_seq ?_
  refine wpF_cut (fun f H => ∃ (g1 : Nat), ∃ (g4 : Nat), ∃ (g7 : Nat), f 2 = PT g1 0 ∧ f 3 = PT g4 0 ∧ f 4 = PT g7 0 ∧ St H0 NoB (fun b => S b ∧ b < H0.size) [blkE g7 (.cells #[(Value.slice none 0 0), I (0), I (0)] 34), blkE g4 (.cells #[vo, I (r.Kind), I (r.To)] 34), blkE g1 (.cells #[vw, vt] 25), rdE vw (j.When : List LRow), rdE vt (j.To : List (List Int)), rdE vo (r.Of : List Int)] H) ?_ ?_
  · refine wpF_region ?_
    refine wpL_o rfl ?_
    refine e_box (v := Value.agg #[vw, vt]) rfl a0_0 hS0 (fun g1 H2 hS3 hxx => ?_)
    replace hS3 : St H0 NoB (fun b => S b ∧ b < H0.size) [blkE g1 (.cells #[vw, vt] 25), rdE vw (j.When : List LRow), rdE vt (j.To : List (List Int)), rdE vo (r.Of : List Int)] H2 := hS3
    refine wpL_o rfl ?_
    refine e_box (v := Value.agg #[vo, I (r.Kind), I (r.To)]) rfl a0_1 hS3 (fun g4 H5 hS6 hxx => ?_)
    replace hS6 : St H0 NoB (fun b => S b ∧ b < H0.size) [blkE g4 (.cells #[vo, I (r.Kind), I (r.To)] 34), blkE g1 (.cells #[vw, vt] 25), rdE vw (j.When : List LRow), rdE vt (j.To : List (List Int)), rdE vo (r.Of : List Int)] H5 := hS6
    refine wpL_o rfl ?_
    refine e_alloc rfl Try.zeroValue34 hS6 (fun g7 H8 hS9 hxx => ?_)
    replace hS9 : St H0 NoB (fun b => S b ∧ b < H0.size) [blkE g7 (.cells #[(Value.slice none 0 0), I (0), I (0)] 34), blkE g4 (.cells #[vo, I (r.Kind), I (r.To)] 34), blkE g1 (.cells #[vw, vt] 25), rdE vw (j.When : List LRow), rdE vt (j.To : List (List Int)), rdE vo (r.Of : List Int)] H8 := hS9
    exact ⟨g1, g4, g7, rfl, rfl, rfl, hS9⟩
  rintro f10 H10 ⟨g1, g4, g7, a10_2, a10_3, a10_4, hS10⟩
  clear a0_0 a0_1
  refine wpF_seq ?_
  refine wpF_cut (fun f H => f 2 = PT g1 0 ∧ f 3 = PT g4 0 ∧ f 4 = PT g7 0 ∧ f 5 = I ((j.To.length : Int)) ∧ H10 = H) ?_ ?_
  · refine wpF_region ?_
    refine wpL_q (U := NoB) rfl (q_fieldAddr rfl Try.underlying25 rfl Try.sizeOf23 a10_2) ?_
    refine wpL_q (U := NoB) rfl (q_loadBlk rfl rfl Try.isAgg23 (hS10.blk 2 rfl) rfl (fun h => h)) ?_
    refine wpL_q (U := NoB) rfl (q_lenRd rfl Try.underlying23 rfl (hS10.rdl 4 rfl)) ?_
    refine wpL_q (U := NoB) rfl (q_assign (v := I ((j.To.length : Int))) rfl rfl) ?_
    exact ⟨a10_2, a10_3, a10_4, rfl, rfl⟩
  rintro f11 _ ⟨a11_2, a11_3, a11_4, a11_5, rfl⟩
  clear a10_2 a10_3 a10_4
  refine wpF_seq ?_
  refine wpF_cut (fun f H => ∃ (g12 : Nat), f 2 = PT g1 0 ∧ f 3 = PT g4 0 ∧ f 4 = PT g7 0 ∧ f 5 = I ((j.To.length : Int)) ∧ f 6 = PT g12 0 ∧ St H0 NoB (fun b => S b ∧ b < H0.size) [blkE g12 (.cells #[(Value.slice none 0 0), I (r.Kind), I (r.To)] 34), blkE g7 (.cells #[(Value.slice none 0 0), I (0), I (0)] 34), blkE g4 (.cells #[vo, I (r.Kind), I (r.To)] 34), blkE g1 (.cells #[vw, vt] 25), rdE vw (j.When : List LRow), rdE vt (j.To : List (List Int)), rdE vo (r.Of : List Int)] H) ?_ ?_
  · refine wpF_region ?_
    refine wpL_q (U := NoB) rfl (q_fieldAddr rfl Try.underlying34 rfl Try.sizeOf3 a11_3) ?_
    refine wpL_q (U := NoB) rfl (q_loadBlk rfl rfl Try.isAgg3 (hS10.blk 1 rfl) rfl (fun h => h)) ?_
    refine wpL_q (U := NoB) rfl (q_fieldAddr rfl Try.underlying34 rfl Try.sizeOf3 a11_3) ?_
    refine wpL_q (U := NoB) rfl (q_loadBlk rfl rfl Try.isAgg3 (hS10.blk 1 rfl) rfl (fun h => h)) ?_
    refine wpL_q (U := NoB) rfl (q_build (v := Value.agg #[(Value.slice none 0 0), I (r.Kind), I (r.To)]) rfl (par2 (v0 := I (r.Kind)) (v1 := I (r.To)) rfl rfl) (fun w => by kernel_rfl)) ?_
    refine wpL_o rfl ?_
    refine e_alloc rfl Try.zeroValue34 hS10 (fun g12 H13 hS14 hxx => ?_)
    replace hS14 : St H0 NoB (fun b => S b ∧ b < H0.size) [blkE g12 (.cells #[(Value.slice none 0 0), I (0), I (0)] 34), blkE g7 (.cells #[(Value.slice none 0 0), I (0), I (0)] 34), blkE g4 (.cells #[vo, I (r.Kind), I (r.To)] 34), blkE g1 (.cells #[vw, vt] 25), rdE vw (j.When : List LRow), rdE vt (j.To : List (List Int)), rdE vo (r.Of : List Int)] H13 := hS14
    refine wpL_o rfl ?_
    refine e_storeBlkA (cs' := #[(Value.slice none 0 0), I (r.Kind), I (r.To)]) rfl rfl rfl Try.sizeOf34 rfl rfl (List.forall_mem_cons.2 ⟨rfl, List.forall_mem_cons.2 ⟨rfl, List.forall_mem_cons.2 ⟨rfl, List.forall_mem_nil _⟩⟩⟩) hS14 (fun H15 hS16 hxx => ?_)
    replace hS16 : St H0 NoB (fun b => S b ∧ b < H0.size) [blkE g12 (.cells #[(Value.slice none 0 0), I (r.Kind), I (r.To)] 34), blkE g7 (.cells #[(Value.slice none 0 0), I (0), I (0)] 34), blkE g4 (.cells #[vo, I (r.Kind), I (r.To)] 34), blkE g1 (.cells #[vw, vt] 25), rdE vw (j.When : List LRow), rdE vt (j.To : List (List Int)), rdE vo (r.Of : List Int)] H15 := hS16
    exact ⟨g12, a11_2, a11_3, a11_4, a11_5, rfl, hS16⟩
  rintro f17 H17 ⟨g12, a17_2, a17_3, a17_4, a17_5, a17_6, hS17⟩
  clear a11_2 a11_3 a11_4 a11_5
  have hS18 : St H0 NoB (fun b => S b ∧ b < H0.size) [rowE 3 (Value.slice none 0 0) ([] : List Int), blkE g12 (.cells #[(Value.slice none 0 0), I (r.Kind), I (r.To)] 34), blkE g7 (.cells #[(Value.slice none 0 0), I (0), I (0)] 34), blkE g4 (.cells #[vo, I (r.Kind), I (r.To)] 34), blkE g1 (.cells #[vw, vt] 25), rdE vw (j.When : List LRow), rdE vt (j.To : List (List Int)), rdE vo (r.Of : List Int)] H17 := hS17.row0 3
  refine wpF_seq ?_
  refine wpF_seq ?_
  refine wpF_cut (fun f H => f 2 = PT g1 0 ∧ f 3 = PT g4 0 ∧ f 4 = PT g7 0 ∧ f 5 = I ((j.To.length : Int)) ∧ f 6 = PT g12 0 ∧ f 7 = I (0) ∧ H17 = H) ?_ ?_
  · refine wpF_region ?_
    refine wpL_q (U := NoB) rfl (q_assign (v := I (0)) rfl rfl) ?_
    exact ⟨a17_2, a17_3, a17_4, a17_5, a17_6, rfl, rfl⟩
  rintro f19 _ ⟨a19_2, a19_3, a19_4, a19_5, a19_6, a19_7, rfl⟩
  clear a17_2 a17_3 a17_4 a17_5 a17_6
  refine wpF_block ?_
  refine wpF_loop (fun mz f H => ∃ (m : Nat), ∃ (vx : Value), mz = j.To.length - m ∧ (m ≤ j.To.length) ∧ f 2 = PT g1 0 ∧ f 3 = PT g4 0 ∧ f 4 = PT g7 0 ∧ f 5 = I ((j.To.length : Int)) ∧ f 6 = PT g12 0 ∧ f 7 = I ((m : Int)) ∧ St H0 NoB (fun b => S b ∧ b < H0.size) [rowE 3 vx (wantOf j r m : List Int), blkE g12 (.cells #[vx, I (r.Kind), I (r.To)] 34), blkE g7 (.cells #[(Value.slice none 0 0), I (0), I (0)] 34), blkE g4 (.cells #[vo, I (r.Kind), I (r.To)] 34), blkE g1 (.cells #[vw, vt] 25), rdE vw (j.When : List LRow), rdE vt (j.To : List (List Int)), rdE vo (r.Of : List Int)] H) (j.To.length - 0) ?_ ?_
  · exact ⟨0, (Value.slice none 0 0), rfl, Nat.zero_le _, a19_2, a19_3, a19_4, a19_5, a19_6, (Eq.trans a19_7 (congrArg I (by omega))), (show St H0 NoB (fun b => S b ∧ b < H0.size) [rowE 3 (Value.slice none 0 0) (wantOf j r 0 : List Int), blkE g12 (.cells #[(Value.slice none 0 0), I (r.Kind), I (r.To)] 34), blkE g7 (.cells #[(Value.slice none 0 0), I (0), I (0)] 34), blkE g4 (.cells #[vo, I (r.Kind), I (r.To)] 34), blkE g1 (.cells #[vw, vt] 25), rdE vw (j.When : List LRow), rdE vt (j.To : List (List Int)), rdE vo (r.Of : List Int)] H17 from hS18)⟩
  intro m20 f20 H20 hI20
  obtain ⟨m, vx, hm20, hm, a20_2, a20_3, a20_4, a20_5, a20_6, a20_7, hS20⟩ := hI20
  clear a19_2 a19_3 a19_4 a19_5 a19_6 a19_7
  refine wpF_seq ?_
  refine wpF_seq ?_
  refine wpF_cut (fun f H => f 2 = PT g1 0 ∧ f 3 = PT g4 0 ∧ f 4 = PT g7 0 ∧ f 5 = I ((j.To.length : Int)) ∧ f 6 = PT g12 0 ∧ f 7 = I ((m : Int)) ∧ f 21 = B (decide ((m : Int) < (j.To.length : Int))) ∧ H20 = H) ?_ ?_
  · refine wpF_region ?_
    refine wpL_q (U := NoB) rfl (q_move (v := I ((m : Int))) rfl a20_7) ?_
    refine wpL_q (U := NoB) rfl (q_move (v := I ((j.To.length : Int))) rfl a20_5) ?_
    refine wpL_q (U := NoB) rfl (q_lss rfl rfl rfl) ?_
    exact ⟨a20_2, a20_3, a20_4, a20_5, a20_6, a20_7, rfl, rfl⟩
  rintro f21 _ ⟨a21_2, a21_3, a21_4, a21_5, a21_6, a21_7, a21_21, rfl⟩
  clear a20_2 a20_3 a20_4 a20_5 a20_6 a20_7
  refine wpF_condP a21_21 (fun hlt => ?t57) (fun hlt => ?e57)
  case e57 =>
    have hme : m = j.To.length := by omega
    refine wpF_exit ?_
    refine atX_here ?_
    refine wpF_seq ?_
    refine wpF_seq ?_
    refine wpF_cut (fun f H => f 2 = PT g1 0 ∧ f 3 = PT g4 0 ∧ f 4 = PT g7 0 ∧ f 5 = I ((j.To.length : Int)) ∧ f 6 = PT g12 0 ∧ f 10 = I (0) ∧ H20 = H) ?_ ?_
    · refine wpF_region ?_
      refine wpL_q (U := NoB) rfl (q_assign (v := I (0)) rfl rfl) ?_
      exact ⟨a21_2, a21_3, a21_4, a21_5, a21_6, rfl, rfl⟩
    rintro f45 _ ⟨a45_2, a45_3, a45_4, a45_5, a45_6, a45_10, rfl⟩
    clear a21_2 a21_21 a21_3 a21_4 a21_5 a21_6 a21_7
    refine wpF_block ?_
    refine wpF_loop (fun mz f H => ∃ (i : Nat), mz = r.Of.length - i ∧ (i ≤ r.Of.length) ∧ f 2 = PT g1 0 ∧ f 3 = PT g4 0 ∧ f 4 = PT g7 0 ∧ f 5 = I ((j.To.length : Int)) ∧ f 6 = PT g12 0 ∧ f 10 = I ((i : Int)) ∧ St H0 NoB (fun b => S b ∧ b < H0.size) [rowE 3 vx (wantOf j r m : List Int), blkE g12 (.cells #[vx, I (r.Kind), I (wantT j r j.To.length i)] 34), blkE g7 (.cells #[(Value.slice none 0 0), I (0), I (0)] 34), blkE g4 (.cells #[vo, I (r.Kind), I (r.To)] 34), blkE g1 (.cells #[vw, vt] 25), rdE vw (j.When : List LRow), rdE vt (j.To : List (List Int)), rdE vo (r.Of : List Int)] H) (r.Of.length - 0) ?_ ?_
    · exact ⟨0, rfl, Nat.zero_le _, a45_2, a45_3, a45_4, a45_5, a45_6, (Eq.trans a45_10 (congrArg I (by omega))), (show St H0 NoB (fun b => S b ∧ b < H0.size) [rowE 3 vx (wantOf j r m : List Int), blkE g12 (.cells #[vx, I (r.Kind), I (wantT j r j.To.length 0)] 34), blkE g7 (.cells #[(Value.slice none 0 0), I (0), I (0)] 34), blkE g4 (.cells #[vo, I (r.Kind), I (r.To)] 34), blkE g1 (.cells #[vw, vt] 25), rdE vw (j.When : List LRow), rdE vt (j.To : List (List Int)), rdE vo (r.Of : List Int)] H20 from hS20)⟩
    intro m46 f46 H46 hI46
    obtain ⟨i, hm46, hi, a46_2, a46_3, a46_4, a46_5, a46_6, a46_10, hS46⟩ := hI46
    clear a45_10 a45_2 a45_3 a45_4 a45_5 a45_6
    refine wpF_seq ?_
    refine wpF_seq ?_
    refine wpF_cut (fun f H => f 2 = PT g1 0 ∧ f 3 = PT g4 0 ∧ f 4 = PT g7 0 ∧ f 5 = I ((j.To.length : Int)) ∧ f 6 = PT g12 0 ∧ f 10 = I ((i : Int)) ∧ f 57 = B (decide ((i : Int) < (r.Of.length : Int))) ∧ H46 = H) ?_ ?_
    · refine wpF_region ?_
      refine wpL_q (U := NoB) rfl (q_move (v := I ((i : Int))) rfl a46_10) ?_
      refine wpL_q (U := NoB) rfl (q_fieldAddr rfl Try.underlying34 rfl Try.sizeOf32 a46_3) ?_
      refine wpL_q (U := NoB) rfl (q_loadBlk rfl rfl Try.isAgg32 (hS46.blk 3 rfl) rfl (fun h => h)) ?_
      refine wpL_q (U := NoB) rfl (q_lenRd rfl Try.underlying32 rfl (hS46.rdl 7 rfl)) ?_
      refine wpL_q (U := NoB) rfl (q_lss rfl rfl rfl) ?_
      exact ⟨a46_2, a46_3, a46_4, a46_5, a46_6, a46_10, rfl, rfl⟩
    rintro f47 _ ⟨a47_2, a47_3, a47_4, a47_5, a47_6, a47_10, a47_57, rfl⟩
    clear a46_10 a46_2 a46_3 a46_4 a46_5 a46_6
    refine wpF_condP a47_57 (fun hlt3 => ?t56) (fun hlt3 => ?e56)
    case e56 =>
      have hie : i = r.Of.length := by omega
      refine wpF_exit ?_
      refine atX_here ?_
      refine wpF_seq ?_
      refine wpF_cut (fun f H => f 4 = PT g7 0 ∧ St H0 NoB (fun b => S b ∧ b < H0.size) [blkE g7 (.cells #[vx, I (r.Kind), I (wantT j r j.To.length i)] 34), rowE 3 vx (wantOf j r m : List Int), blkE g12 (.cells #[vx, I (r.Kind), I (wantT j r j.To.length i)] 34), blkE g4 (.cells #[vo, I (r.Kind), I (r.To)] 34), blkE g1 (.cells #[vw, vt] 25), rdE vw (j.When : List LRow), rdE vt (j.To : List (List Int)), rdE vo (r.Of : List Int)] H) ?_ ?_
      · refine wpF_region ?_
        refine wpL_q (U := NoB) rfl (q_loadBlkA rfl a47_6 Try.isAgg34 Try.sizeOf34 rfl (hS46.blk 1 rfl) (fun h => h)) ?_
        refine wpL_o rfl ?_
        refine e_storeBlkA (cs' := #[vx, I (r.Kind), I (wantT j r j.To.length i)]) rfl a47_4 rfl Try.sizeOf34 rfl rfl (List.forall_mem_cons.2 ⟨(oneCell_rdL (hS46.rowl 0 rfl)), List.forall_mem_cons.2 ⟨rfl, List.forall_mem_cons.2 ⟨rfl, List.forall_mem_nil _⟩⟩⟩) (hS46.front 2 rfl) (fun H52 hS53 hxx => ?_)
        replace hS53 : St H0 NoB (fun b => S b ∧ b < H0.size) [blkE g7 (.cells #[vx, I (r.Kind), I (wantT j r j.To.length i)] 34), rowE 3 vx (wantOf j r m : List Int), blkE g12 (.cells #[vx, I (r.Kind), I (wantT j r j.To.length i)] 34), blkE g4 (.cells #[vo, I (r.Kind), I (r.To)] 34), blkE g1 (.cells #[vw, vt] 25), rdE vw (j.When : List LRow), rdE vt (j.To : List (List Int)), rdE vo (r.Of : List Int)] H52 := hS53
        exact ⟨a47_4, hS53⟩
      rintro f54 H54 ⟨a54_4, hS54⟩
      clear a47_10 a47_2 a47_3 a47_4 a47_5 a47_57 a47_6
      refine wpF_ret ?_
      refine ⟨_, resC a54_4 (loadV_blkA Try.isAgg34 Try.sizeOf34 rfl (hS54.blk 0 rfl)) (resN), hS54.frame, ?_⟩
      show ∃ w_, (Value.agg #[vx, I (r.Kind), I (wantT j r j.To.length i)]) = Value.agg #[w_, I (wantRow j r).Kind, I (wantRow j r).To] ∧ Rd (fun b => S b ∧ b < H0.size) H54 w_ (wantRow j r).Of ∧ In64 (wantRow j r).To
      have hS55 : St H0 NoB (fun b => S b ∧ b < H0.size) [rdE vx (wantOf j r m : List Int), blkE g7 (.cells #[vx, I (r.Kind), I (wantT j r j.To.length i)] 34), blkE g12 (.cells #[vx, I (r.Kind), I (wantT j r j.To.length i)] 34), blkE g4 (.cells #[vo, I (r.Kind), I (r.To)] 34), blkE g1 (.cells #[vw, vt] 25), rdE vw (j.When : List LRow), rdE vt (j.To : List (List Int)), rdE vo (r.Of : List Int)] H54 := St.fin (hS54.front 1 rfl)
      have htb := wantT_bound (v := j.To.length) (i := i) hj hr hN8 (by omega) (by omega)
      rw [hie] at htb
      exact ⟨vx, by rw [hie]; rfl, by have h__ := (hS55.result (hS55.rdS 0 rfl)); rw [hme] at h__; exact h__, by constructor; exact Int.le_trans (by decide) htb.1; exact Int.le_trans htb.2 (by decide)⟩
    have hat := hj.at_ (i := i) (v := j.To.length) (by omega) (by omega)
    have hmb : -1000000000000 ≤ nth r.Of i * nth (nth j.To i) j.To.length ∧ nth r.Of i * nth (nth j.To i) j.To.length ≤ 1000000000000 := wantG_bound hj hr hN8 (by omega) (by omega)
    have hsb := wantS_bound (v := j.To.length) (i := i) hj hr hN8 (by omega) (by omega)
    have htb := wantT_bound (v := j.To.length) (i := i) hj hr hN8 (by omega) (by omega)
    refine wpF_skip ?_
    refine wpF_seq ?_
    refine wpF_block ?_
    obtain ⟨u49o11, huu49o11, hlu49o11⟩ := (Rd.list.1 (hS46.rdS 6 rfl)).elem i (by omega)
    have hS49o11 : St H0 NoB (fun b => S b ∧ b < H0.size) [rdE u49o11 (nth j.To i : List Int), rowE 3 vx (wantOf j r m : List Int), blkE g12 (.cells #[vx, I (r.Kind), I (wantT j r j.To.length i)] 34), blkE g7 (.cells #[(Value.slice none 0 0), I (0), I (0)] 34), blkE g4 (.cells #[vo, I (r.Kind), I (r.To)] 34), blkE g1 (.cells #[vw, vt] 25), rdE vw (j.When : List LRow), rdE vt (j.To : List (List Int)), rdE vo (r.Of : List Int)] H46 := hS46.rd huu49o11
    refine wpF_cut (fun f H => f 2 = PT g1 0 ∧ f 3 = PT g4 0 ∧ f 4 = PT g7 0 ∧ f 5 = I ((j.To.length : Int)) ∧ f 6 = PT g12 0 ∧ f 10 = I ((i : Int)) ∧ St H0 NoB (fun b => S b ∧ b < H0.size) [blkE g12 (.cells #[vx, I (r.Kind), I ((wantT j r j.To.length i) - ((nth r.Of i) * (nth (nth j.To i) j.To.length)))] 34), rowE 3 vx (wantOf j r m : List Int), blkE g7 (.cells #[(Value.slice none 0 0), I (0), I (0)] 34), blkE g4 (.cells #[vo, I (r.Kind), I (r.To)] 34), blkE g1 (.cells #[vw, vt] 25), rdE vw (j.When : List LRow), rdE vt (j.To : List (List Int)), rdE vo (r.Of : List Int)] H) ?_ ?_
    · refine wpF_drawn [none, none, none, none, none, none, none, none, none, none, none, none, none, none, none, none, none, none, some 0] [[], [], [], [], [], [], [], [], [], [], [], [], [], [], [], [], [], [], []] (fun l b => match l with | 0 => True | _ => False) (by kernel_rfl) (by kernel_rfl) ?_
      refine wpR_q 0 (by kernel_rfl) rfl (quietAt rfl rfl (q_fieldAddr rfl Try.underlying34 rfl Try.sizeOf3 a47_6)) ?_
      refine wpR_q 1 (by kernel_rfl) rfl (quietAt rfl rfl (q_loadBlk rfl rfl Try.isAgg3 (hS46.blk 1 rfl) rfl (labU_not [] rfl (List.forall_mem_nil _)))) ?_
      refine wpR_q 2 (by kernel_rfl) rfl (quietAt rfl rfl (q_fieldAddr rfl Try.underlying34 rfl Try.sizeOf32 a47_3)) ?_
      refine wpR_q 3 (by kernel_rfl) rfl (quietAt rfl rfl (q_loadBlk rfl rfl Try.isAgg32 (hS46.blk 3 rfl) rfl (labU_not [] rfl (List.forall_mem_nil _)))) ?_
      refine wpR_q 4 (by kernel_rfl) rfl (quietAt rfl rfl (q_move (v := I ((i : Int))) rfl a47_10)) ?_
      refine wpR_q 5 (by kernel_rfl) rfl (quietAt rfl rfl (q_indexRd (k := i) rfl Try.underlying32 el_Int_3_LoopW1 rfl rfl (hS46.rdl 7 rfl) (by omega) (by omega))) ?_
      refine wpR_q 6 (by kernel_rfl) rfl (quietAt rfl rfl (q_loadInt (k := i) rfl rfl el_Int_3_LoopW1 (hS46.rdl 7 rfl) (by omega) (labU_sub [] rfl (List.forall_mem_nil _)))) ?_
      refine wpR_q 7 (by kernel_rfl) rfl (quietAt rfl rfl (q_fieldAddr rfl Try.underlying25 rfl Try.sizeOf23 a47_2)) ?_
      refine wpR_q 8 (by kernel_rfl) rfl (quietAt rfl rfl (q_loadBlk rfl rfl Try.isAgg23 (hS46.blk 4 rfl) rfl (labU_not [] rfl (List.forall_mem_nil _)))) ?_
      refine wpR_q 9 (by kernel_rfl) rfl (quietAt rfl rfl (q_move (v := I ((i : Int))) rfl a47_10)) ?_
      refine wpR_q 10 (by kernel_rfl) rfl (quietAt rfl rfl (q_indexRd (k := i) rfl Try.underlying23 el_LInt_32_LoopW1 rfl rfl (hS46.rdl 6 rfl) (by omega) (by omega))) ?_
      refine wpR_q 11 (by kernel_rfl) rfl (quietAt rfl rfl (q_loadE rfl rfl (hlu49o11 Try.prog 32 _ el_LInt_32_LoopW1 (labU_sub [] rfl (List.forall_mem_nil _))))) ?_
      refine wpR_q 12 (by kernel_rfl) rfl (quietAt rfl rfl (q_move (v := I ((j.To.length : Int))) rfl a47_5)) ?_
      refine wpR_q 13 (by kernel_rfl) rfl (quietAt rfl rfl (q_indexRd (k := j.To.length) rfl Try.underlying32 el_Int_3_LoopW1 rfl rfl (hS49o11.rdl 0 rfl) (by omega) (by omega))) ?_
      refine wpR_q 14 (by kernel_rfl) rfl (quietAt rfl rfl (q_loadInt (k := j.To.length) rfl rfl el_Int_3_LoopW1 (hS49o11.rdl 0 rfl) (by omega) (labU_sub [] rfl (List.forall_mem_nil _)))) ?_
      refine wpR_q 15 (by kernel_rfl) rfl (quietAt rfl rfl (q_mul rfl rfl rfl (by constructor <;> omega))) ?_
      refine wpR_q 16 (by kernel_rfl) rfl (quietAt rfl rfl (q_sub rfl rfl rfl (by constructor <;> omega))) ?_
      refine wpR_q 17 (by kernel_rfl) rfl (quietAt rfl rfl (q_fieldAddr rfl Try.underlying34 rfl Try.sizeOf3 a47_6)) ?_
      refine wpR_n [18] (by kernel_rfl) ?_
      refine List.forall_mem_cons.2 ⟨?_, List.forall_mem_nil _⟩
      refine exE rfl rfl ?_
      refine e_storeBlk (v := I ((wantT j r j.To.length i) - ((nth r.Of i) * (nth (nth j.To i) j.To.length)))) rfl rfl rfl rfl Try.sizeOf3 (by show _ < 3; decide) (hS49o11.front 2 rfl) (fun H49o18 hS49o18 hxx => ?_)
      replace hS49o18 : St H0 NoB (fun b => S b ∧ b < H0.size) [blkE g12 (.cells #[vx, I (r.Kind), I ((wantT j r j.To.length i) - ((nth r.Of i) * (nth (nth j.To i) j.To.length)))] 34), rdE u49o11 (nth j.To i : List Int), rowE 3 vx (wantOf j r m : List Int), blkE g7 (.cells #[(Value.slice none 0 0), I (0), I (0)] 34), blkE g4 (.cells #[vo, I (r.Kind), I (r.To)] 34), blkE g1 (.cells #[vw, vt] 25), rdE vw (j.When : List LRow), rdE vt (j.To : List (List Int)), rdE vo (r.Of : List Int)] H49o18 := hS49o18
      refine ⟨Ext.mono hxx (labS_of 0 rfl (fun _ _ => trivial)), ?_⟩
      refine wpR_end (by kernel_rfl) ?_
      exact ⟨a47_2, a47_3, a47_4, a47_5, a47_6, a47_10, (hS49o18.drop (List.Sublist.cons_cons _ (List.Sublist.cons _ (List.Sublist.cons_cons _ (List.Sublist.cons_cons _ (List.Sublist.cons_cons _ (List.Sublist.cons_cons _ (List.Sublist.cons_cons _ (List.Sublist.cons_cons _ (List.Sublist.cons_cons _ (List.Sublist.slnil)))))))))))⟩
    rintro f50 H50 ⟨a50_2, a50_3, a50_4, a50_5, a50_6, a50_10, hS50⟩
    clear a47_10 a47_2 a47_3 a47_4 a47_5 a47_57 a47_6
    refine wpF_cut (fun f H => f 2 = PT g1 0 ∧ f 3 = PT g4 0 ∧ f 4 = PT g7 0 ∧ f 5 = I ((j.To.length : Int)) ∧ f 6 = PT g12 0 ∧ f 10 = I ((i : Int) + 1) ∧ H50 = H) ?_ ?_
    · refine wpF_region ?_
      refine wpL_q (U := NoB) rfl (q_move (v := I ((i : Int))) rfl a50_10) ?_
      refine wpL_q (U := NoB) rfl (q_add rfl rfl rfl (by constructor <;> omega)) ?_
      refine wpL_q (U := NoB) rfl (q_assign (v := I ((i : Int) + 1)) rfl rfl) ?_
      exact ⟨a50_2, a50_3, a50_4, a50_5, a50_6, rfl, rfl⟩
    rintro f51 _ ⟨a51_2, a51_3, a51_4, a51_5, a51_6, a51_10, rfl⟩
    clear a50_10 a50_2 a50_3 a50_4 a50_5 a50_6
    refine ⟨_, ?_, i + 1, rfl, (by omega), a51_2, a51_3, a51_4, a51_5, a51_6, (Eq.trans a51_10 (congrArg I (by omega))), (show St H0 NoB (fun b => S b ∧ b < H0.size) [rowE 3 vx (wantOf j r m : List Int), blkE g12 (.cells #[vx, I (r.Kind), I (wantT j r j.To.length (i + 1))] 34), blkE g7 (.cells #[(Value.slice none 0 0), I (0), I (0)] 34), blkE g4 (.cells #[vo, I (r.Kind), I (r.To)] 34), blkE g1 (.cells #[vw, vt] 25), rdE vw (j.When : List LRow), rdE vt (j.To : List (List Int)), rdE vo (r.Of : List Int)] H50 from (St.drop (show St H0 NoB (fun b => S b ∧ b < H0.size) [rowE 3 vx (wantOf j r m : List Int), blkE g12 (.cells #[vx, I (r.Kind), I ((wantT j r j.To.length i) - ((nth r.Of i) * (nth (nth j.To i) j.To.length)))] 34), blkE g7 (.cells #[(Value.slice none 0 0), I (0), I (0)] 34), blkE g4 (.cells #[vo, I (r.Kind), I (r.To)] 34), blkE g1 (.cells #[vw, vt] 25), rdE vw (j.When : List LRow), rdE vt (j.To : List (List Int)), rdE vo (r.Of : List Int)] H50 from ((((((((hS50.front 7 rfl).front 7 rfl).front 7 rfl).front 7 rfl).front 7 rfl).front 7 rfl).front 6 rfl).front 7 rfl)) (List.Sublist.cons_cons _ (List.Sublist.cons_cons _ (List.Sublist.cons_cons _ (List.Sublist.cons_cons _ (List.Sublist.cons_cons _ (List.Sublist.cons_cons _ (List.Sublist.cons_cons _ (List.Sublist.cons_cons _ (List.Sublist.slnil)))))))))))⟩
    omega
  refine wpF_skip ?_
  refine wpF_seq ?_
  refine wpF_block ?_
  refine wpF_seq ?_
  refine wpF_cut (fun f H => f 2 = PT g1 0 ∧ f 3 = PT g4 0 ∧ f 4 = PT g7 0 ∧ f 5 = I ((j.To.length : Int)) ∧ f 6 = PT g12 0 ∧ f 7 = I ((m : Int)) ∧ f 8 = I (0) ∧ H20 = H) ?_ ?_
  · refine wpF_region ?_
    refine wpL_q (U := NoB) rfl (q_assign (v := I (0)) rfl rfl) ?_
    exact ⟨a21_2, a21_3, a21_4, a21_5, a21_6, a21_7, rfl, rfl⟩
  rintro f23 _ ⟨a23_2, a23_3, a23_4, a23_5, a23_6, a23_7, a23_8, rfl⟩
  clear a21_2 a21_21 a21_3 a21_4 a21_5 a21_6 a21_7
  refine wpF_seq ?_
  refine wpF_seq ?_
  refine wpF_cut (fun f H => f 2 = PT g1 0 ∧ f 3 = PT g4 0 ∧ f 4 = PT g7 0 ∧ f 5 = I ((j.To.length : Int)) ∧ f 6 = PT g12 0 ∧ f 7 = I ((m : Int)) ∧ f 8 = I (0) ∧ f 9 = I (0) ∧ H20 = H) ?_ ?_
  · refine wpF_region ?_
    refine wpL_q (U := NoB) rfl (q_assign (v := I (0)) rfl rfl) ?_
    exact ⟨a23_2, a23_3, a23_4, a23_5, a23_6, a23_7, a23_8, rfl, rfl⟩
  rintro f24 _ ⟨a24_2, a24_3, a24_4, a24_5, a24_6, a24_7, a24_8, a24_9, rfl⟩
  clear a23_2 a23_3 a23_4 a23_5 a23_6 a23_7 a23_8
  refine wpF_block ?_
  refine wpF_loop (fun mz f H => ∃ (i : Nat), mz = r.Of.length - i ∧ (i ≤ r.Of.length) ∧ f 2 = PT g1 0 ∧ f 3 = PT g4 0 ∧ f 4 = PT g7 0 ∧ f 5 = I ((j.To.length : Int)) ∧ f 6 = PT g12 0 ∧ f 7 = I ((m : Int)) ∧ f 8 = I (sumTo (wantG j r m) i) ∧ f 9 = I ((i : Int)) ∧ H20 = H) (r.Of.length - 0) ?_ ?_
  · exact ⟨0, rfl, Nat.zero_le _, a24_2, a24_3, a24_4, a24_5, a24_6, a24_7, a24_8, (Eq.trans a24_9 (congrArg I (by omega))), rfl⟩
  intro m25 f25 H25 hI25
  obtain ⟨i, hm25, hi, a25_2, a25_3, a25_4, a25_5, a25_6, a25_7, a25_8, a25_9, rfl⟩ := hI25
  clear a24_2 a24_3 a24_4 a24_5 a24_6 a24_7 a24_8 a24_9
  refine wpF_seq ?_
  refine wpF_seq ?_
  refine wpF_cut (fun f H => f 2 = PT g1 0 ∧ f 3 = PT g4 0 ∧ f 4 = PT g7 0 ∧ f 5 = I ((j.To.length : Int)) ∧ f 6 = PT g12 0 ∧ f 7 = I ((m : Int)) ∧ f 8 = I (sumTo (wantG j r m) i) ∧ f 9 = I ((i : Int)) ∧ f 28 = B (decide ((i : Int) < (r.Of.length : Int))) ∧ H20 = H) ?_ ?_
  · refine wpF_region ?_
    refine wpL_q (U := NoB) rfl (q_move (v := I ((i : Int))) rfl a25_9) ?_
    refine wpL_q (U := NoB) rfl (q_fieldAddr rfl Try.underlying34 rfl Try.sizeOf32 a25_3) ?_
    refine wpL_q (U := NoB) rfl (q_loadBlk rfl rfl Try.isAgg32 (hS20.blk 3 rfl) rfl (fun h => h)) ?_
    refine wpL_q (U := NoB) rfl (q_lenRd rfl Try.underlying32 rfl (hS20.rdl 7 rfl)) ?_
    refine wpL_q (U := NoB) rfl (q_lss rfl rfl rfl) ?_
    exact ⟨a25_2, a25_3, a25_4, a25_5, a25_6, a25_7, a25_8, a25_9, rfl, rfl⟩
  rintro f26 _ ⟨a26_2, a26_3, a26_4, a26_5, a26_6, a26_7, a26_8, a26_9, a26_28, rfl⟩
  clear a25_2 a25_3 a25_4 a25_5 a25_6 a25_7 a25_8 a25_9
  refine wpF_condP a26_28 (fun hlt2 => ?t44) (fun hlt2 => ?e44)
  case e44 =>
    have hie : i = r.Of.length := by omega
    have hsb := wantS_bound (v := m) (i := i) hj hr hN8 (by omega) (by omega)
    refine wpF_exit ?_
    refine atX_here ?_
    refine wpF_cut (fun f H => ∃ (v36 : Value), f 2 = PT g1 0 ∧ f 3 = PT g4 0 ∧ f 4 = PT g7 0 ∧ f 5 = I ((j.To.length : Int)) ∧ f 6 = PT g12 0 ∧ f 7 = I ((m : Int)) ∧ St H0 NoB (fun b => S b ∧ b < H0.size) [blkE g12 (.cells #[v36, I (r.Kind), I (r.To)] 34), rowE 3 v36 (wantOf j r (m + 1) : List Int), blkE g7 (.cells #[(Value.slice none 0 0), I (0), I (0)] 34), blkE g4 (.cells #[vo, I (r.Kind), I (r.To)] 34), blkE g1 (.cells #[vw, vt] 25), rdE vw (j.When : List LRow), rdE vt (j.To : List (List Int)), rdE vo (r.Of : List Int)] H) ?_ ?_
    · refine wpF_region ?_
      refine wpL_q (U := NoB) rfl (q_fieldAddr rfl Try.underlying34 rfl Try.sizeOf32 a26_6) ?_
      refine wpL_q (U := NoB) rfl (q_loadBlk rfl rfl Try.isAgg32 (hS20.blk 1 rfl) rfl (fun h => h)) ?_
      refine wpL_q (U := NoB) rfl (q_move (v := I (sumTo (wantG j r m) i)) rfl a26_8) ?_
      refine wpL_o rfl ?_
      refine e_buildSlice (vs := [I (sumTo (wantG j r m) i)]) (xs := ([sumTo (wantG j r m) i] : List Int)) rfl Try.underlying32 Try.zeroValue3 rfl Try.sizeOf3 (par1 (v0 := I (sumTo (wantG j r m) i)) rfl) rfl hS20 (RdVs.cons (Rd.int.2 ⟨rfl, by constructor <;> omega⟩) (RdVs.nil)) (by decide) (by decide) (fun v31 H32 hS33 hxx hvv31 => ?_)
      replace hS33 : St H0 NoB (fun b => S b ∧ b < H0.size) [rowE 3 v31 ([sumTo (wantG j r m) i] : List Int), rowE 3 vx (wantOf j r m : List Int), blkE g12 (.cells #[vx, I (r.Kind), I (r.To)] 34), blkE g7 (.cells #[(Value.slice none 0 0), I (0), I (0)] 34), blkE g4 (.cells #[vo, I (r.Kind), I (r.To)] 34), blkE g1 (.cells #[vw, vt] 25), rdE vw (j.When : List LRow), rdE vt (j.To : List (List Int)), rdE vo (r.Of : List Int)] H32 := hS33
      have hS34 : St H0 NoB (fun b => S b ∧ b < H0.size) [rdE v31 ([sumTo (wantG j r m) i] : List Int), rowE 3 vx (wantOf j r m : List Int), blkE g12 (.cells #[vx, I (r.Kind), I (r.To)] 34), blkE g7 (.cells #[(Value.slice none 0 0), I (0), I (0)] 34), blkE g4 (.cells #[vo, I (r.Kind), I (r.To)] 34), blkE g1 (.cells #[vw, vt] 25), rdE vw (j.When : List LRow), rdE vt (j.To : List (List Int)), rdE vo (r.Of : List Int)] H32 := St.fin hS33
      have hS35 : St H0 NoB (fun b => S b ∧ b < H0.size) [rowE 3 vx (wantOf j r m : List Int), rdE v31 ([sumTo (wantG j r m) i] : List Int), blkE g12 (.cells #[vx, I (r.Kind), I (r.To)] 34), blkE g7 (.cells #[(Value.slice none 0 0), I (0), I (0)] 34), blkE g4 (.cells #[vo, I (r.Kind), I (r.To)] 34), blkE g1 (.cells #[vw, vt] 25), rdE vw (j.When : List LRow), rdE vt (j.To : List (List Int)), rdE vo (r.Of : List Int)] H32 := (hS34.front 1 rfl)
      refine wpL_o rfl ?_
      refine e_append rfl Try.underlying32 em_Int_3_LoopW1 rfl rfl hS35 (hS35.rdS 1 rfl) (fun _ h => h) (by have hb : GoT.bytes Int = 8 := rfl; simp [wantOf_len, hb]; omega) (by decide) (fun v36 H37 hS38 hxx => ?_)
      replace hS38 : St H0 NoB (fun b => S b ∧ b < H0.size) [rowE 3 v36 ((wantOf j r m) ++ ([sumTo (wantG j r m) i]) : List Int), rdE v31 ([sumTo (wantG j r m) i] : List Int), blkE g12 (.cells #[vx, I (r.Kind), I (r.To)] 34), blkE g7 (.cells #[(Value.slice none 0 0), I (0), I (0)] 34), blkE g4 (.cells #[vo, I (r.Kind), I (r.To)] 34), blkE g1 (.cells #[vw, vt] 25), rdE vw (j.When : List LRow), rdE vt (j.To : List (List Int)), rdE vo (r.Of : List Int)] H37 := hS38
      have hS39 : St H0 NoB (fun b => S b ∧ b < H0.size) [rowE 3 v36 (wantOf j r (m + 1) : List Int), rdE v31 ([sumTo (wantG j r m) i] : List Int), blkE g12 (.cells #[vx, I (r.Kind), I (r.To)] 34), blkE g7 (.cells #[(Value.slice none 0 0), I (0), I (0)] 34), blkE g4 (.cells #[vo, I (r.Kind), I (r.To)] 34), blkE g1 (.cells #[vw, vt] 25), rdE vw (j.When : List LRow), rdE vt (j.To : List (List Int)), rdE vo (r.Of : List Int)] H37 := by rw [show (wantOf j r (m + 1)) = ((wantOf j r m) ++ ([sumTo (wantG j r m) i])) from (by rw [wantOf_next, hie])]; exact hS38
      refine wpL_q (U := NoB) rfl (q_fieldAddr rfl Try.underlying34 rfl Try.sizeOf32 a26_6) ?_
      refine wpL_o rfl ?_
      refine e_storeBlk (v := v36) rfl rfl rfl (oneCell_rdL (hS39.rowl 0 rfl)) Try.sizeOf32 (by show _ < 3; decide) (hS39.front 2 rfl) (fun H40 hS41 hxx => ?_)
      replace hS41 : St H0 NoB (fun b => S b ∧ b < H0.size) [blkE g12 (.cells #[v36, I (r.Kind), I (r.To)] 34), rowE 3 v36 (wantOf j r (m + 1) : List Int), rdE v31 ([sumTo (wantG j r m) i] : List Int), blkE g7 (.cells #[(Value.slice none 0 0), I (0), I (0)] 34), blkE g4 (.cells #[vo, I (r.Kind), I (r.To)] 34), blkE g1 (.cells #[vw, vt] 25), rdE vw (j.When : List LRow), rdE vt (j.To : List (List Int)), rdE vo (r.Of : List Int)] H40 := hS41
      exact ⟨v36, a26_2, a26_3, a26_4, a26_5, a26_6, a26_7, (hS41.drop (List.Sublist.cons_cons _ (List.Sublist.cons_cons _ (List.Sublist.cons _ (List.Sublist.cons_cons _ (List.Sublist.cons_cons _ (List.Sublist.cons_cons _ (List.Sublist.cons_cons _ (List.Sublist.cons_cons _ (List.Sublist.cons_cons _ (List.Sublist.slnil)))))))))))⟩
    rintro f42 H42 ⟨v36, a42_2, a42_3, a42_4, a42_5, a42_6, a42_7, hS42⟩
    clear a26_2 a26_28 a26_3 a26_4 a26_5 a26_6 a26_7 a26_8 a26_9
    refine wpF_cut (fun f H => f 2 = PT g1 0 ∧ f 3 = PT g4 0 ∧ f 4 = PT g7 0 ∧ f 5 = I ((j.To.length : Int)) ∧ f 6 = PT g12 0 ∧ f 7 = I ((m : Int) + 1) ∧ H42 = H) ?_ ?_
    · refine wpF_region ?_
      refine wpL_q (U := NoB) rfl (q_move (v := I ((m : Int))) rfl a42_7) ?_
      refine wpL_q (U := NoB) rfl (q_add rfl rfl rfl (by constructor <;> omega)) ?_
      refine wpL_q (U := NoB) rfl (q_assign (v := I ((m : Int) + 1)) rfl rfl) ?_
      exact ⟨a42_2, a42_3, a42_4, a42_5, a42_6, rfl, rfl⟩
    rintro f43 _ ⟨a43_2, a43_3, a43_4, a43_5, a43_6, a43_7, rfl⟩
    clear a42_2 a42_3 a42_4 a42_5 a42_6 a42_7
    refine ⟨_, ?_, m + 1, v36, rfl, (by omega), a43_2, a43_3, a43_4, a43_5, a43_6, (Eq.trans a43_7 (congrArg I (by omega))), (St.drop (show St H0 NoB (fun b => S b ∧ b < H0.size) [rowE 3 v36 (wantOf j r (m + 1) : List Int), blkE g12 (.cells #[v36, I (r.Kind), I (r.To)] 34), blkE g7 (.cells #[(Value.slice none 0 0), I (0), I (0)] 34), blkE g4 (.cells #[vo, I (r.Kind), I (r.To)] 34), blkE g1 (.cells #[vw, vt] 25), rdE vw (j.When : List LRow), rdE vt (j.To : List (List Int)), rdE vo (r.Of : List Int)] H42 from ((((((((hS42.front 7 rfl).front 7 rfl).front 7 rfl).front 7 rfl).front 7 rfl).front 7 rfl).front 6 rfl).front 7 rfl)) (List.Sublist.cons_cons _ (List.Sublist.cons_cons _ (List.Sublist.cons_cons _ (List.Sublist.cons_cons _ (List.Sublist.cons_cons _ (List.Sublist.cons_cons _ (List.Sublist.cons_cons _ (List.Sublist.cons_cons _ (List.Sublist.slnil))))))))))⟩
    omega
  have hat := hj.at_ (i := i) (v := m) (by omega) (by omega)
  have hmb : -1000000000000 ≤ nth r.Of i * nth (nth j.To i) m ∧ nth r.Of i * nth (nth j.To i) m ≤ 1000000000000 := wantG_bound hj hr hN8 (by omega) (by omega)
  have hsb := wantS_bound (v := m) (i := i) hj hr hN8 (by omega) (by omega)
  have htb := wantT_bound (v := m) (i := i) hj hr hN8 (by omega) (by omega)
  refine wpF_skip ?_
  refine wpF_seq ?_
  refine wpF_block ?_
  obtain ⟨u28o10, huu28o10, hlu28o10⟩ := (Rd.list.1 (hS20.rdS 6 rfl)).elem i (by omega)
  have hS28o10 : St H0 NoB (fun b => S b ∧ b < H0.size) [rdE u28o10 (nth j.To i : List Int), rowE 3 vx (wantOf j r m : List Int), blkE g12 (.cells #[vx, I (r.Kind), I (r.To)] 34), blkE g7 (.cells #[(Value.slice none 0 0), I (0), I (0)] 34), blkE g4 (.cells #[vo, I (r.Kind), I (r.To)] 34), blkE g1 (.cells #[vw, vt] 25), rdE vw (j.When : List LRow), rdE vt (j.To : List (List Int)), rdE vo (r.Of : List Int)] H20 := hS20.rd huu28o10
  refine wpF_cut (fun f H => f 2 = PT g1 0 ∧ f 3 = PT g4 0 ∧ f 4 = PT g7 0 ∧ f 5 = I ((j.To.length : Int)) ∧ f 6 = PT g12 0 ∧ f 7 = I ((m : Int)) ∧ f 8 = I ((sumTo (wantG j r m) i) + ((nth r.Of i) * (nth (nth j.To i) m))) ∧ f 9 = I ((i : Int)) ∧ H20 = H) ?_ ?_
  · refine wpF_drawn [] [] (fun _ _ => False) (by kernel_rfl) (by kernel_rfl) ?_
    refine wpR_q 0 (by kernel_rfl) rfl (quietAt rfl rfl (q_move (v := I (sumTo (wantG j r m) i)) rfl a26_8)) ?_
    refine wpR_q 1 (by kernel_rfl) rfl (quietAt rfl rfl (q_fieldAddr rfl Try.underlying34 rfl Try.sizeOf32 a26_3)) ?_
    refine wpR_q 2 (by kernel_rfl) rfl (quietAt rfl rfl (q_loadBlk rfl rfl Try.isAgg32 (hS20.blk 3 rfl) rfl (labU_not [] rfl (List.forall_mem_nil _)))) ?_
    refine wpR_q 3 (by kernel_rfl) rfl (quietAt rfl rfl (q_move (v := I ((i : Int))) rfl a26_9)) ?_
    refine wpR_q 4 (by kernel_rfl) rfl (quietAt rfl rfl (q_indexRd (k := i) rfl Try.underlying32 el_Int_3_LoopW1 rfl rfl (hS20.rdl 7 rfl) (by omega) (by omega))) ?_
    refine wpR_q 5 (by kernel_rfl) rfl (quietAt rfl rfl (q_loadInt (k := i) rfl rfl el_Int_3_LoopW1 (hS20.rdl 7 rfl) (by omega) (labU_sub [] rfl (List.forall_mem_nil _)))) ?_
    refine wpR_q 6 (by kernel_rfl) rfl (quietAt rfl rfl (q_fieldAddr rfl Try.underlying25 rfl Try.sizeOf23 a26_2)) ?_
    refine wpR_q 7 (by kernel_rfl) rfl (quietAt rfl rfl (q_loadBlk rfl rfl Try.isAgg23 (hS20.blk 4 rfl) rfl (labU_not [] rfl (List.forall_mem_nil _)))) ?_
    refine wpR_q 8 (by kernel_rfl) rfl (quietAt rfl rfl (q_move (v := I ((i : Int))) rfl a26_9)) ?_
    refine wpR_q 9 (by kernel_rfl) rfl (quietAt rfl rfl (q_indexRd (k := i) rfl Try.underlying23 el_LInt_32_LoopW1 rfl rfl (hS20.rdl 6 rfl) (by omega) (by omega))) ?_
    refine wpR_q 10 (by kernel_rfl) rfl (quietAt rfl rfl (q_loadE rfl rfl (hlu28o10 Try.prog 32 _ el_LInt_32_LoopW1 (labU_sub [] rfl (List.forall_mem_nil _))))) ?_
    refine wpR_q 11 (by kernel_rfl) rfl (quietAt rfl rfl (q_move (v := I ((m : Int))) rfl a26_7)) ?_
    refine wpR_q 12 (by kernel_rfl) rfl (quietAt rfl rfl (q_indexRd (k := m) rfl Try.underlying32 el_Int_3_LoopW1 rfl rfl (hS28o10.rdl 0 rfl) (by omega) (by omega))) ?_
    refine wpR_q 13 (by kernel_rfl) rfl (quietAt rfl rfl (q_loadInt (k := m) rfl rfl el_Int_3_LoopW1 (hS28o10.rdl 0 rfl) (by omega) (labU_sub [] rfl (List.forall_mem_nil _)))) ?_
    refine wpR_q 14 (by kernel_rfl) rfl (quietAt rfl rfl (q_mul rfl rfl rfl (by constructor <;> omega))) ?_
    refine wpR_q 15 (by kernel_rfl) rfl (quietAt rfl rfl (q_add rfl rfl rfl (by constructor <;> omega))) ?_
    refine wpR_q 16 (by kernel_rfl) rfl (quietAt rfl rfl (q_assign (v := I ((sumTo (wantG j r m) i) + ((nth r.Of i) * (nth (nth j.To i) m)))) rfl rfl)) ?_
    refine wpR_end (by kernel_rfl) ?_
    exact ⟨a26_2, a26_3, a26_4, a26_5, a26_6, a26_7, rfl, a26_9, rfl⟩
  rintro f29 _ ⟨a29_2, a29_3, a29_4, a29_5, a29_6, a29_7, a29_8, a29_9, rfl⟩
  clear a26_2 a26_28 a26_3 a26_4 a26_5 a26_6 a26_7 a26_8 a26_9
  refine wpF_cut (fun f H => f 2 = PT g1 0 ∧ f 3 = PT g4 0 ∧ f 4 = PT g7 0 ∧ f 5 = I ((j.To.length : Int)) ∧ f 6 = PT g12 0 ∧ f 7 = I ((m : Int)) ∧ f 8 = I ((sumTo (wantG j r m) i) + ((nth r.Of i) * (nth (nth j.To i) m))) ∧ f 9 = I ((i : Int) + 1) ∧ H20 = H) ?_ ?_
  · refine wpF_region ?_
    refine wpL_q (U := NoB) rfl (q_move (v := I ((i : Int))) rfl a29_9) ?_
    refine wpL_q (U := NoB) rfl (q_add rfl rfl rfl (by constructor <;> omega)) ?_
    refine wpL_q (U := NoB) rfl (q_assign (v := I ((i : Int) + 1)) rfl rfl) ?_
    exact ⟨a29_2, a29_3, a29_4, a29_5, a29_6, a29_7, a29_8, rfl, rfl⟩
  rintro f30 _ ⟨a30_2, a30_3, a30_4, a30_5, a30_6, a30_7, a30_8, a30_9, rfl⟩
  clear a29_2 a29_3 a29_4 a29_5 a29_6 a29_7 a29_8 a29_9
  refine ⟨_, ?_, i + 1, rfl, (by omega), a30_2, a30_3, a30_4, a30_5, a30_6, a30_7, a30_8, (Eq.trans a30_9 (congrArg I (by omega))), rfl⟩
  omega

set_option maxHeartbeats 1000000 in
set_option maxRecDepth 100000 in
theorem Want_L {H0 : Heap} {S : Nat → Prop} (vw vt vl : Value) (j : Jump) (l : List LRow) (rvw : Rd S H0 vw j.When) (rvt : Rd S H0 vt j.To) (rl : Rd S H0 vl l) : CallsH Try.prog 17 #[Value.agg #[vw, vt], vl] H0 (fun rv_ H' => Ext NoB H0 H' ∧ ∃ w_, rv_ = Value.tuple #[w_, Value.agg #[I (wantFault j l).1, I (wantFault j l).2]] ∧ Rd (fun b => S b ∧ b < H0.size) H' w_ (wantAll j l)) := by
  have hst := (Rd.list.1 rvt).small
  have hsl := (Rd.list.1 rl).small
  have hS0 : St H0 NoB (fun b => S b ∧ b < H0.size) [rdE vw (j.When : List LRow), rdE vt (j.To : List (List Int)), rdE vl (l : List LRow)] H0 := St.arg (St.arg (St.arg (St.start (fun _ h => h.2)) (Bl0.nil) rl (fun _ h => h.1)) (Bl0.cons (Bl0.nil)) rvt (fun _ h => h.1)) (Bl0.cons (Bl0.cons (Bl0.nil))) rvw (fun _ h => h.1)
  refine callsH_of_wpF (args := [Value.agg #[vw, vt], vl]) (rs := [.tmp 4, .cell 5 27]) Try.func17 rfl Try.ntmps17 Try.results17 (by kernel_rfl) (Nat.le_of_ble_eq_true rfl) ?_
  have a0_0 : argF [Value.agg #[vw, vt], vl] 0 = Value.agg #[vw, vt] := rfl
  have a0_1 : argF [Value.agg #[vw, vt], vl] 1 = vl := rfl
  generalize argF [Value.agg #[vw, vt], vl] = f0 at *
  refine wpF_seq ?_
  refine wpF_cut (fun f H => ∃ (g1 : Nat), ∃ (g4 : Nat), f 1 = vl ∧ f 2 = PT g1 0 ∧ f 5 = PT g4 0 ∧ St H0 NoB (fun b => S b ∧ b < H0.size) [blkE g4 (.cells #[I (0), I (0)] 27), blkE g1 (.cells #[vw, vt] 25), rdE vw (j.When : List LRow), rdE vt (j.To : List (List Int)), rdE vl (l : List LRow)] H) ?_ ?_
  · refine wpF_region ?_
    refine wpL_o rfl ?_
    refine e_box (v := Value.agg #[vw, vt]) rfl a0_0 hS0 (fun g1 H2 hS3 hxx => ?_)
    replace hS3 : St H0 NoB (fun b => S b ∧ b < H0.size) [blkE g1 (.cells #[vw, vt] 25), rdE vw (j.When : List LRow), rdE vt (j.To : List (List Int)), rdE vl (l : List LRow)] H2 := hS3
    refine wpL_q (U := NoB) rfl (q_assign (v := (Value.slice none 0 0)) rfl rfl) ?_
    refine wpL_o rfl ?_
    refine e_alloc rfl Try.zeroValue27 hS3 (fun g4 H5 hS6 hxx => ?_)
    replace hS6 : St H0 NoB (fun b => S b ∧ b < H0.size) [blkE g4 (.cells #[I (0), I (0)] 27), blkE g1 (.cells #[vw, vt] 25), rdE vw (j.When : List LRow), rdE vt (j.To : List (List Int)), rdE vl (l : List LRow)] H5 := hS6
    exact ⟨g1, g4, a0_1, rfl, rfl, hS6⟩
  rintro f7 H7 ⟨g1, g4, a7_1, a7_2, a7_5, hS7⟩
  clear a0_0 a0_1
  refine wpF_seq ?_
  refine wpF_cut (fun f H => f 1 = vl ∧ f 2 = PT g1 0 ∧ f 5 = PT g4 0 ∧ f 6 = I ((j.To.length : Int)) ∧ H7 = H) ?_ ?_
  · refine wpF_region ?_
    refine wpL_q (U := NoB) rfl (q_fieldAddr rfl Try.underlying25 rfl Try.sizeOf23 a7_2) ?_
    refine wpL_q (U := NoB) rfl (q_loadBlk rfl rfl Try.isAgg23 (hS7.blk 1 rfl) rfl (fun h => h)) ?_
    refine wpL_q (U := NoB) rfl (q_lenRd rfl Try.underlying23 rfl (hS7.rdl 3 rfl)) ?_
    refine wpL_q (U := NoB) rfl (q_assign (v := I ((j.To.length : Int))) rfl rfl) ?_
    exact ⟨a7_1, a7_2, a7_5, rfl, rfl⟩
  rintro f8 _ ⟨a8_1, a8_2, a8_5, a8_6, rfl⟩
  clear a7_1 a7_2 a7_5
  refine wpF_seq ?_
  refine wpF_seq ?_
  refine wpF_cut (fun f H => f 1 = vl ∧ f 2 = PT g1 0 ∧ f 5 = PT g4 0 ∧ f 6 = I ((j.To.length : Int)) ∧ f 24 = B (decide (((j.To.length : Int) < 1) ∨ (8 < (j.To.length : Int)))) ∧ H7 = H) ?_ ?_
  · refine wpF_region ?_
    refine wpL_q (U := NoB) rfl (q_move (v := I ((j.To.length : Int))) rfl a8_6) ?_
    refine wpL_q (U := NoB) rfl (q_lss rfl rfl rfl) ?_
    refine wpL_q (U := NoB) rfl (q_move (v := B (decide ((j.To.length : Int) < 1))) rfl rfl) ?_
    by_cases hg9 : (j.To.length : Int) < 1
    · have hb10 := Eq.trans rfl (congrArg B (decide_eq_true hg9))
      refine wpL_gs rfl rfl rfl hb10 rfl ?_
      refine wpL_gs rfl rfl rfl hb10 rfl ?_
      refine wpL_q (U := NoB) rfl (q_pickT (v := B (true)) rfl hb10 rfl) ?_
      exact ⟨a8_1, a8_2, a8_5, a8_6, (Eq.trans rfl (congrArg B ((decide_eq_true (Or.inl hg9)).symm))), rfl⟩
    · have hb11 := Eq.trans rfl (congrArg B (decide_eq_false hg9))
      refine wpL_gq (U := NoB) rfl rfl rfl hb11 (q_move (v := I ((j.To.length : Int))) rfl a8_6) ?_
      refine wpL_gq (U := NoB) rfl rfl rfl hb11 (q_gtr rfl rfl rfl) ?_
      refine wpL_q (U := NoB) rfl (q_pickF (v := B (decide (8 < (j.To.length : Int)))) rfl hb11 rfl) ?_
      exact ⟨a8_1, a8_2, a8_5, a8_6, (Eq.trans rfl (congrArg B (decide_congr_of ((Iff.rfl).trans (((or_iff_right hg9).trans Iff.rfl)).symm)))), rfl⟩
  rintro f12 _ ⟨a12_1, a12_2, a12_5, a12_6, a12_24, rfl⟩
  clear a8_1 a8_2 a8_5 a8_6
  refine wpF_condP a12_24 (fun h1 => ?t103) (fun h1 => ?e103)
  case t103 =>
    refine wpF_seq ?_
    refine wpF_cut (fun f H => f 4 = (Value.slice none 0 0) ∧ f 5 = PT g4 0 ∧ St H0 NoB (fun b => S b ∧ b < H0.size) [blkE g4 (.cells #[I (2), I (-1)] 27), blkE g1 (.cells #[vw, vt] 25), rdE vw (j.When : List LRow), rdE vt (j.To : List (List Int)), rdE vl (l : List LRow)] H) ?_ ?_
    · refine wpF_region ?_
      refine wpL_q (U := NoB) rfl (q_build (v := Value.agg #[I (2), I (-1)]) rfl (par2 (v0 := I (2)) (v1 := I (-1)) rfl rfl) (fun w => by kernel_rfl)) ?_
      refine wpL_q (U := NoB) rfl (q_assign (v := (Value.slice none 0 0)) rfl rfl) ?_
      refine wpL_o rfl ?_
      refine e_storeBlkA (cs' := #[I (2), I (-1)]) rfl a12_5 rfl Try.sizeOf27 rfl rfl (List.forall_mem_cons.2 ⟨rfl, List.forall_mem_cons.2 ⟨rfl, List.forall_mem_nil _⟩⟩) hS7 (fun H14 hS15 hxx => ?_)
      replace hS15 : St H0 NoB (fun b => S b ∧ b < H0.size) [blkE g4 (.cells #[I (2), I (-1)] 27), blkE g1 (.cells #[vw, vt] 25), rdE vw (j.When : List LRow), rdE vt (j.To : List (List Int)), rdE vl (l : List LRow)] H14 := hS15
      exact ⟨rfl, a12_5, hS15⟩
    rintro f16 H16 ⟨a16_4, a16_5, hS16⟩
    clear a12_1 a12_2 a12_24 a12_5 a12_6
    refine wpF_ret ?_
    refine ⟨_, resT a16_4 (resC a16_5 (loadV_blkA Try.isAgg27 Try.sizeOf27 rfl (hS16.blk 0 rfl)) (resN)), hS16.frame, ?_⟩
    show ∃ w_, (Value.tuple #[(Value.slice none 0 0), Value.agg #[I (2), I (-1)]]) = Value.tuple #[w_, Value.agg #[I (wantFault j l).1, I (wantFault j l).2]] ∧ Rd (fun b => S b ∧ b < H0.size) H16 w_ (wantAll j l)
    have hq : wantFault j l = _ := wantFault_head (wantHead_n h1) (by decide)
    have hq2 : (wantFault j l).1 ≠ 0 := by rw [hq]; exact (by decide : (2 : Int) ≠ 0)
    exact ⟨(Value.slice none 0 0), by rw [hq], by rw [wantAll_bad hq2]; exact rdNil⟩
  refine wpF_skip ?_
  refine wpF_seq ?_
  refine wpF_seq ?_
  refine wpF_cut (fun f H => f 1 = vl ∧ f 2 = PT g1 0 ∧ f 5 = PT g4 0 ∧ f 6 = I ((j.To.length : Int)) ∧ f 7 = I (jumpFault j (j.To.length : Int)) ∧ St H0 NoB (fun b => S b ∧ b < H0.size) [blkE g4 (.cells #[I (0), I (0)] 27), blkE g1 (.cells #[vw, vt] 25), rdE vw (j.When : List LRow), rdE vt (j.To : List (List Int)), rdE vl (l : List LRow)] H) ?_ ?_
  · refine wpF_region ?_
    refine wpL_q (U := NoB) rfl (q_loadBlkA rfl a12_2 Try.isAgg25 Try.sizeOf25 rfl (hS7.blk 1 rfl) (fun h => h)) ?_
    refine wpL_q (U := NoB) rfl (q_move (v := I ((j.To.length : Int))) rfl a12_6) ?_
    refine wpL_o rfl ?_
    refine e_call rfl Try.call45 (arr2 (v0 := Value.agg #[vw, vt]) (v1 := I ((j.To.length : Int))) rfl rfl) (jump_L vw vt j (j.To.length : Int) (hS7.rdN 2 rfl) (hS7.rdN 3 rfl)) ?_
    rintro _ H17 ⟨hxx, rfl⟩
    have hS18 : St H0 NoB (fun b => S b ∧ b < H0.size) [blkE g4 (.cells #[I (0), I (0)] 27), blkE g1 (.cells #[vw, vt] 25), rdE vw (j.When : List LRow), rdE vt (j.To : List (List Int)), rdE vl (l : List LRow)] H17 := hS7.ext hxx
    refine wpL_q (U := NoB) rfl (q_assign (v := I (jumpFault j (j.To.length : Int))) rfl rfl) ?_
    exact ⟨a12_1, a12_2, a12_5, a12_6, rfl, hS18⟩
  rintro f20 H20 ⟨a20_1, a20_2, a20_5, a20_6, a20_7, hS20⟩
  clear a12_1 a12_2 a12_24 a12_5 a12_6
  refine wpF_seq ?_
  refine wpF_cut (fun f H => f 1 = vl ∧ f 2 = PT g1 0 ∧ f 5 = PT g4 0 ∧ f 6 = I ((j.To.length : Int)) ∧ f 7 = I (jumpFault j (j.To.length : Int)) ∧ f 30 = B (decide ((jumpFault j (j.To.length : Int)) ≠ 0)) ∧ H20 = H) ?_ ?_
  · refine wpF_region ?_
    refine wpL_q (U := NoB) rfl (q_move (v := I (jumpFault j (j.To.length : Int))) rfl a20_7) ?_
    refine wpL_q (U := NoB) rfl (q_neq rfl rfl rfl) ?_
    exact ⟨a20_1, a20_2, a20_5, a20_6, a20_7, rfl, rfl⟩
  rintro f21 _ ⟨a21_1, a21_2, a21_5, a21_6, a21_7, a21_30, rfl⟩
  clear a20_1 a20_2 a20_5 a20_6 a20_7
  refine wpF_condP a21_30 (fun h2 => ?t102) (fun h2 => ?e102)
  case t102 =>
    refine wpF_seq ?_
    refine wpF_cut (fun f H => f 4 = (Value.slice none 0 0) ∧ f 5 = PT g4 0 ∧ St H0 NoB (fun b => S b ∧ b < H0.size) [blkE g4 (.cells #[I (jumpFault j (j.To.length : Int)), I (-1)] 27), blkE g1 (.cells #[vw, vt] 25), rdE vw (j.When : List LRow), rdE vt (j.To : List (List Int)), rdE vl (l : List LRow)] H) ?_ ?_
    · refine wpF_region ?_
      refine wpL_q (U := NoB) rfl (q_move (v := I (jumpFault j (j.To.length : Int))) rfl a21_7) ?_
      refine wpL_q (U := NoB) rfl (q_build (v := Value.agg #[I (jumpFault j (j.To.length : Int)), I (-1)]) rfl (par2 (v0 := I (jumpFault j (j.To.length : Int))) (v1 := I (-1)) rfl rfl) (fun w => by kernel_rfl)) ?_
      refine wpL_q (U := NoB) rfl (q_assign (v := (Value.slice none 0 0)) rfl rfl) ?_
      refine wpL_o rfl ?_
      refine e_storeBlkA (cs' := #[I (jumpFault j (j.To.length : Int)), I (-1)]) rfl a21_5 rfl Try.sizeOf27 rfl rfl (List.forall_mem_cons.2 ⟨rfl, List.forall_mem_cons.2 ⟨rfl, List.forall_mem_nil _⟩⟩) hS20 (fun H23 hS24 hxx => ?_)
      replace hS24 : St H0 NoB (fun b => S b ∧ b < H0.size) [blkE g4 (.cells #[I (jumpFault j (j.To.length : Int)), I (-1)] 27), blkE g1 (.cells #[vw, vt] 25), rdE vw (j.When : List LRow), rdE vt (j.To : List (List Int)), rdE vl (l : List LRow)] H23 := hS24
      exact ⟨rfl, a21_5, hS24⟩
    rintro f25 H25 ⟨a25_4, a25_5, hS25⟩
    clear a21_1 a21_2 a21_30 a21_5 a21_6 a21_7
    refine wpF_ret ?_
    refine ⟨_, resT a25_4 (resC a25_5 (loadV_blkA Try.isAgg27 Try.sizeOf27 rfl (hS25.blk 0 rfl)) (resN)), hS25.frame, ?_⟩
    show ∃ w_, (Value.tuple #[(Value.slice none 0 0), Value.agg #[I (jumpFault j (j.To.length : Int)), I (-1)]]) = Value.tuple #[w_, Value.agg #[I (wantFault j l).1, I (wantFault j l).2]] ∧ Rd (fun b => S b ∧ b < H0.size) H25 w_ (wantAll j l)
    have hq : wantFault j l = _ := wantFault_head (wantHead_j h1 h2) h2
    have hq2 : (wantFault j l).1 ≠ 0 := by rw [hq]; exact h2
    exact ⟨(Value.slice none 0 0), by rw [hq], by rw [wantAll_bad hq2]; exact rdNil⟩
  refine wpF_skip ?_
  refine wpF_seq ?_
  refine wpF_seq ?_
  refine wpF_cut (fun f H => f 1 = vl ∧ f 2 = PT g1 0 ∧ f 5 = PT g4 0 ∧ f 6 = I ((j.To.length : Int)) ∧ f 8 = I (rowsFault l (j.To.length : Int)) ∧ St H0 NoB (fun b => S b ∧ b < H0.size) [blkE g4 (.cells #[I (0), I (0)] 27), blkE g1 (.cells #[vw, vt] 25), rdE vw (j.When : List LRow), rdE vt (j.To : List (List Int)), rdE vl (l : List LRow)] H) ?_ ?_
  · refine wpF_region ?_
    refine wpL_q (U := NoB) rfl (q_move (v := vl) rfl a21_1) ?_
    refine wpL_q (U := NoB) rfl (q_move (v := I ((j.To.length : Int))) rfl a21_6) ?_
    refine wpL_o rfl ?_
    refine e_call rfl Try.call46 (arr2 (v0 := vl) (v1 := I ((j.To.length : Int))) rfl rfl) (Rows_L vl l (j.To.length : Int) (hS20.rdN 4 rfl)) ?_
    rintro _ H26 ⟨hxx, rfl⟩
    have hS27 : St H0 NoB (fun b => S b ∧ b < H0.size) [blkE g4 (.cells #[I (0), I (0)] 27), blkE g1 (.cells #[vw, vt] 25), rdE vw (j.When : List LRow), rdE vt (j.To : List (List Int)), rdE vl (l : List LRow)] H26 := hS20.ext hxx
    refine wpL_q (U := NoB) rfl (q_assign (v := I (rowsFault l (j.To.length : Int))) rfl rfl) ?_
    exact ⟨a21_1, a21_2, a21_5, a21_6, rfl, hS27⟩
  rintro f29 H29 ⟨a29_1, a29_2, a29_5, a29_6, a29_8, hS29⟩
  clear a21_1 a21_2 a21_30 a21_5 a21_6 a21_7
  refine wpF_seq ?_
  refine wpF_cut (fun f H => f 1 = vl ∧ f 2 = PT g1 0 ∧ f 5 = PT g4 0 ∧ f 6 = I ((j.To.length : Int)) ∧ f 8 = I (rowsFault l (j.To.length : Int)) ∧ f 37 = B (decide ((rowsFault l (j.To.length : Int)) ≠ 0)) ∧ H29 = H) ?_ ?_
  · refine wpF_region ?_
    refine wpL_q (U := NoB) rfl (q_move (v := I (rowsFault l (j.To.length : Int))) rfl a29_8) ?_
    refine wpL_q (U := NoB) rfl (q_neq rfl rfl rfl) ?_
    exact ⟨a29_1, a29_2, a29_5, a29_6, a29_8, rfl, rfl⟩
  rintro f30 _ ⟨a30_1, a30_2, a30_5, a30_6, a30_8, a30_37, rfl⟩
  clear a29_1 a29_2 a29_5 a29_6 a29_8
  refine wpF_condP a30_37 (fun h3 => ?t101) (fun h3 => ?e101)
  case t101 =>
    refine wpF_seq ?_
    refine wpF_cut (fun f H => f 4 = (Value.slice none 0 0) ∧ f 5 = PT g4 0 ∧ St H0 NoB (fun b => S b ∧ b < H0.size) [blkE g4 (.cells #[I (rowsFault l (j.To.length : Int)), I (-2)] 27), blkE g1 (.cells #[vw, vt] 25), rdE vw (j.When : List LRow), rdE vt (j.To : List (List Int)), rdE vl (l : List LRow)] H) ?_ ?_
    · refine wpF_region ?_
      refine wpL_q (U := NoB) rfl (q_move (v := I (rowsFault l (j.To.length : Int))) rfl a30_8) ?_
      refine wpL_q (U := NoB) rfl (q_build (v := Value.agg #[I (rowsFault l (j.To.length : Int)), I (-2)]) rfl (par2 (v0 := I (rowsFault l (j.To.length : Int))) (v1 := I (-2)) rfl rfl) (fun w => by kernel_rfl)) ?_
      refine wpL_q (U := NoB) rfl (q_assign (v := (Value.slice none 0 0)) rfl rfl) ?_
      refine wpL_o rfl ?_
      refine e_storeBlkA (cs' := #[I (rowsFault l (j.To.length : Int)), I (-2)]) rfl a30_5 rfl Try.sizeOf27 rfl rfl (List.forall_mem_cons.2 ⟨rfl, List.forall_mem_cons.2 ⟨rfl, List.forall_mem_nil _⟩⟩) hS29 (fun H32 hS33 hxx => ?_)
      replace hS33 : St H0 NoB (fun b => S b ∧ b < H0.size) [blkE g4 (.cells #[I (rowsFault l (j.To.length : Int)), I (-2)] 27), blkE g1 (.cells #[vw, vt] 25), rdE vw (j.When : List LRow), rdE vt (j.To : List (List Int)), rdE vl (l : List LRow)] H32 := hS33
      exact ⟨rfl, a30_5, hS33⟩
    rintro f34 H34 ⟨a34_4, a34_5, hS34⟩
    clear a30_1 a30_2 a30_37 a30_5 a30_6 a30_8
    refine wpF_ret ?_
    refine ⟨_, resT a34_4 (resC a34_5 (loadV_blkA Try.isAgg27 Try.sizeOf27 rfl (hS34.blk 0 rfl)) (resN)), hS34.frame, ?_⟩
    show ∃ w_, (Value.tuple #[(Value.slice none 0 0), Value.agg #[I (rowsFault l (j.To.length : Int)), I (-2)]]) = Value.tuple #[w_, Value.agg #[I (wantFault j l).1, I (wantFault j l).2]] ∧ Rd (fun b => S b ∧ b < H0.size) H34 w_ (wantAll j l)
    have hq : wantFault j l = _ := wantFault_head (wantHead_r h1 h2 h3) h3
    have hq2 : (wantFault j l).1 ≠ 0 := by rw [hq]; exact h3
    exact ⟨(Value.slice none 0 0), by rw [hq], by rw [wantAll_bad hq2]; exact rdNil⟩
  have hhd := wantHead_no h1 h2 h3
  have hj := JW.of (Decidable.of_not_not h2)
  have hrs := rowsFault_zero (Decidable.of_not_not h3)
  have hN8 : (j.To.length : Int) ≤ 8 := by omega
  refine wpF_skip ?_
  refine wpF_seq ?_
  refine wpF_cut (fun f H => f 1 = vl ∧ f 2 = PT g1 0 ∧ f 5 = PT g4 0 ∧ f 6 = I ((j.To.length : Int)) ∧ f 9 = (Value.slice none 0 0) ∧ H29 = H) ?_ ?_
  · refine wpF_region ?_
    refine wpL_q (U := NoB) rfl (q_assign (v := (Value.slice none 0 0)) rfl rfl) ?_
    exact ⟨a30_1, a30_2, a30_5, a30_6, rfl, rfl⟩
  rintro f35 _ ⟨a35_1, a35_2, a35_5, a35_6, a35_9, rfl⟩
  clear a30_1 a30_2 a30_37 a30_5 a30_6 a30_8
  have hS36 : St H0 NoB (fun b => S b ∧ b < H0.size) [rowE 34 (Value.slice none 0 0) ([] : List LRow), blkE g4 (.cells #[I (0), I (0)] 27), blkE g1 (.cells #[vw, vt] 25), rdE vw (j.When : List LRow), rdE vt (j.To : List (List Int)), rdE vl (l : List LRow)] H29 := hS29.row0 34
  refine wpF_seq ?_
  refine wpF_seq ?_
  refine wpF_cut (fun f H => f 2 = PT g1 0 ∧ f 5 = PT g4 0 ∧ f 6 = I ((j.To.length : Int)) ∧ f 9 = (Value.slice none 0 0) ∧ f 40 = vl ∧ f 41 = I ((l.length : Int)) ∧ f 42 = I (0) ∧ H29 = H) ?_ ?_
  · refine wpF_region ?_
    refine wpL_q (U := NoB) rfl (q_move (v := vl) rfl a35_1) ?_
    refine wpL_q (U := NoB) rfl (q_lenRd rfl Try.underlying22 rfl (hS36.rdl 5 rfl)) ?_
    refine wpL_q (U := NoB) rfl (q_move (v := I (0)) rfl rfl) ?_
    exact ⟨a35_2, a35_5, a35_6, a35_9, rfl, rfl, rfl, rfl⟩
  rintro f37 _ ⟨a37_2, a37_5, a37_6, a37_9, a37_40, a37_41, a37_42, rfl⟩
  clear a35_1 a35_2 a35_5 a35_6 a35_9
  refine wpF_block ?_
  refine wpF_loop (fun mz f H => ∃ (k : Nat), ∃ (vo : Value), mz = l.length - k ∧ (k ≤ l.length) ∧ (∀ i, i < k → ¬ wantBad j (nth l i)) ∧ f 2 = PT g1 0 ∧ f 5 = PT g4 0 ∧ f 6 = I ((j.To.length : Int)) ∧ f 9 = vo ∧ f 40 = vl ∧ f 41 = I ((l.length : Int)) ∧ f 42 = I ((k : Int)) ∧ St H0 NoB (fun b => S b ∧ b < H0.size) [rowE 34 vo ((l.take k).map (wantRow j) : List LRow), blkE g4 (.cells #[I (0), I (0)] 27), blkE g1 (.cells #[vw, vt] 25), rdE vw (j.When : List LRow), rdE vt (j.To : List (List Int)), rdE vl (l : List LRow)] H) (l.length - 0) ?_ ?_
  · exact ⟨0, (Value.slice none 0 0), rfl, Nat.zero_le _, (fun j hj => absurd hj (Nat.not_lt_zero j)), a37_2, a37_5, a37_6, a37_9, a37_40, a37_41, (Eq.trans a37_42 (congrArg I (by omega))), (show St H0 NoB (fun b => S b ∧ b < H0.size) [rowE 34 (Value.slice none 0 0) ((l.take 0).map (wantRow j) : List LRow), blkE g4 (.cells #[I (0), I (0)] 27), blkE g1 (.cells #[vw, vt] 25), rdE vw (j.When : List LRow), rdE vt (j.To : List (List Int)), rdE vl (l : List LRow)] H29 from hS36)⟩
  intro m38 f38 H38 hI38
  obtain ⟨k, vo, hm38, hk, hp, a38_2, a38_5, a38_6, a38_9, a38_40, a38_41, a38_42, hS38⟩ := hI38
  clear a37_2 a37_40 a37_41 a37_42 a37_5 a37_6 a37_9
  refine wpF_seq ?_
  refine wpF_cut (fun f H => f 2 = PT g1 0 ∧ f 5 = PT g4 0 ∧ f 6 = I ((j.To.length : Int)) ∧ f 9 = vo ∧ f 40 = vl ∧ f 41 = I ((l.length : Int)) ∧ f 42 = I ((k : Int)) ∧ f 43 = B (decide ((k : Int) < (l.length : Int))) ∧ H38 = H) ?_ ?_
  · refine wpF_region ?_
    refine wpL_q (U := NoB) rfl (q_lss rfl a38_42 a38_41) ?_
    exact ⟨a38_2, a38_5, a38_6, a38_9, a38_40, a38_41, a38_42, rfl, rfl⟩
  rintro f39 _ ⟨a39_2, a39_5, a39_6, a39_9, a39_40, a39_41, a39_42, a39_43, rfl⟩
  clear a38_2 a38_40 a38_41 a38_42 a38_5 a38_6 a38_9
  refine wpF_seq ?_
  refine wpF_condP a39_43 (fun hlt => ?t100) (fun hlt => ?e100)
  case e100 =>
    refine wpF_exit ?_
    refine atX_here ?_
    refine wpF_seq ?_
    refine wpF_cut (fun f H => f 4 = vo ∧ f 5 = PT g4 0 ∧ St H0 NoB (fun b => S b ∧ b < H0.size) [blkE g4 (.cells #[I (0), I (0)] 27), rowE 34 vo ((l.take k).map (wantRow j) : List LRow), blkE g1 (.cells #[vw, vt] 25), rdE vw (j.When : List LRow), rdE vt (j.To : List (List Int)), rdE vl (l : List LRow)] H) ?_ ?_
    · refine wpF_region ?_
      refine wpL_q (U := NoB) rfl (q_move (v := vo) rfl a39_9) ?_
      refine wpL_q (U := NoB) rfl (q_build (v := Value.agg #[I (0), I (0)]) rfl par0 (fun w => by kernel_rfl)) ?_
      refine wpL_q (U := NoB) rfl (q_assign (v := vo) rfl rfl) ?_
      refine wpL_o rfl ?_
      refine e_storeBlkA (cs' := #[I (0), I (0)]) rfl a39_5 rfl Try.sizeOf27 rfl rfl (List.forall_mem_cons.2 ⟨rfl, List.forall_mem_cons.2 ⟨rfl, List.forall_mem_nil _⟩⟩) (hS38.front 1 rfl) (fun H96 hS97 hxx => ?_)
      replace hS97 : St H0 NoB (fun b => S b ∧ b < H0.size) [blkE g4 (.cells #[I (0), I (0)] 27), rowE 34 vo ((l.take k).map (wantRow j) : List LRow), blkE g1 (.cells #[vw, vt] 25), rdE vw (j.When : List LRow), rdE vt (j.To : List (List Int)), rdE vl (l : List LRow)] H96 := hS97
      exact ⟨rfl, a39_5, hS97⟩
    rintro f98 H98 ⟨a98_4, a98_5, hS98⟩
    clear a39_2 a39_40 a39_41 a39_42 a39_43 a39_5 a39_6 a39_9
    refine wpF_ret ?_
    refine ⟨_, resT a98_4 (resC a98_5 (loadV_blkA Try.isAgg27 Try.sizeOf27 rfl (hS98.blk 0 rfl)) (resN)), hS98.frame, ?_⟩
    show ∃ w_, (Value.tuple #[vo, Value.agg #[I (0), I (0)]]) = Value.tuple #[w_, Value.agg #[I (wantFault j l).1, I (wantFault j l).2]] ∧ Rd (fun b => S b ∧ b < H0.size) H98 w_ (wantAll j l)
    have hS99 : St H0 NoB (fun b => S b ∧ b < H0.size) [rdE vo ((l.take k).map (wantRow j) : List LRow), blkE g4 (.cells #[I (0), I (0)] 27), blkE g1 (.cells #[vw, vt] 25), rdE vw (j.When : List LRow), rdE vt (j.To : List (List Int)), rdE vl (l : List LRow)] H98 := St.fin (hS98.front 1 rfl)
    have hq : wantFault j l = _ := wantFault_no hhd (fun i hi => hp i (by omega))
    have hq2 : ¬ (wantFault j l).1 ≠ 0 := by rw [hq]; decide
    have hq3 : (l.take k).map (wantRow j) = l.map (wantRow j) := by rw [List.take_of_length_le (by omega)]
    exact ⟨vo, by rw [hq], by rw [wantAll_ok hq2, ← hq3]; exact (hS99.result (hS99.rdS 0 rfl))⟩
  have hr := hrs.2 k (by omega)
  have hr1 := rowFault_zero hr
  refine wpF_skip ?_
  refine wpF_seq ?_
  refine wpF_block ?_
  refine wpF_seq ?_
  refine wpF_cut (fun f H => ∃ (u41n0 : Value), ∃ (g43 : Nat), (In64 (nth l k).Kind) ∧ (In64 (nth l k).To) ∧ f 2 = PT g1 0 ∧ f 5 = PT g4 0 ∧ f 6 = I ((j.To.length : Int)) ∧ f 9 = vo ∧ f 10 = I ((k : Int)) ∧ f 11 = PT g43 0 ∧ f 40 = vl ∧ f 41 = I ((l.length : Int)) ∧ f 42 = I ((k : Int)) ∧ St H0 NoB (fun b => S b ∧ b < H0.size) [blkE g43 (.cells #[u41n0, I ((nth l k).Kind), I ((nth l k).To)] 34), rdE u41n0 ((nth l k).Of : List Int), rowE 34 vo ((l.take k).map (wantRow j) : List LRow), blkE g4 (.cells #[I (0), I (0)] 27), blkE g1 (.cells #[vw, vt] 25), rdE vw (j.When : List LRow), rdE vt (j.To : List (List Int)), rdE vl (l : List LRow)] H) ?_ ?_
  · refine wpF_region ?_
    refine wpL_q (U := NoB) rfl (q_move (v := I ((k : Int))) rfl a39_42) ?_
    refine wpL_q (U := NoB) rfl (q_indexRd (k := k) rfl Try.underlying22 el_LRow_34_LoopW1 a39_40 a39_42 (hS38.rdl 5 rfl) (by omega) (by omega)) ?_
    obtain ⟨u41, huu41, hlu41⟩ := (Rd.list.1 (hS38.rdS 5 rfl)).elem k (by omega)
    obtain ⟨u41n0, rfl, hu410, hu411, hu412⟩ := Rd.lRow.1 huu41
    have hS42 : St H0 NoB (fun b => S b ∧ b < H0.size) [rdE u41n0 ((nth l k).Of : List Int), rowE 34 vo ((l.take k).map (wantRow j) : List LRow), blkE g4 (.cells #[I (0), I (0)] 27), blkE g1 (.cells #[vw, vt] 25), rdE vw (j.When : List LRow), rdE vt (j.To : List (List Int)), rdE vl (l : List LRow)] H38 := hS38.rd hu410
    refine wpL_q (U := NoB) rfl (q_loadE rfl rfl (hlu41 Try.prog 34 _ el_LRow_34_LoopW1 (fun _ h => False.elim h))) ?_
    refine wpL_o rfl ?_
    refine e_alloc rfl Try.zeroValue34 hS42 (fun g43 H44 hS45 hxx => ?_)
    replace hS45 : St H0 NoB (fun b => S b ∧ b < H0.size) [blkE g43 (.cells #[(Value.slice none 0 0), I (0), I (0)] 34), rdE u41n0 ((nth l k).Of : List Int), rowE 34 vo ((l.take k).map (wantRow j) : List LRow), blkE g4 (.cells #[I (0), I (0)] 27), blkE g1 (.cells #[vw, vt] 25), rdE vw (j.When : List LRow), rdE vt (j.To : List (List Int)), rdE vl (l : List LRow)] H44 := hS45
    refine wpL_q (U := NoB) rfl (q_assign (v := I ((k : Int))) rfl rfl) ?_
    refine wpL_o rfl ?_
    refine e_storeBlkA (cs' := #[u41n0, I ((nth l k).Kind), I ((nth l k).To)]) rfl rfl rfl Try.sizeOf34 rfl rfl (List.forall_mem_cons.2 ⟨(oneCell_rdL (hS45.rdl 1 rfl)), List.forall_mem_cons.2 ⟨rfl, List.forall_mem_cons.2 ⟨rfl, List.forall_mem_nil _⟩⟩⟩) hS45 (fun H46 hS47 hxx => ?_)
    replace hS47 : St H0 NoB (fun b => S b ∧ b < H0.size) [blkE g43 (.cells #[u41n0, I ((nth l k).Kind), I ((nth l k).To)] 34), rdE u41n0 ((nth l k).Of : List Int), rowE 34 vo ((l.take k).map (wantRow j) : List LRow), blkE g4 (.cells #[I (0), I (0)] 27), blkE g1 (.cells #[vw, vt] 25), rdE vw (j.When : List LRow), rdE vt (j.To : List (List Int)), rdE vl (l : List LRow)] H46 := hS47
    exact ⟨u41n0, g43, hu411, hu412, a39_2, a39_5, a39_6, a39_9, rfl, rfl, a39_40, a39_41, a39_42, hS47⟩
  rintro f48 H48 ⟨u41n0, g43, hu411, hu412, a48_2, a48_5, a48_6, a48_9, a48_10, a48_11, a48_40, a48_41, a48_42, hS48⟩
  clear a39_2 a39_40 a39_41 a39_42 a39_43 a39_5 a39_6 a39_9
  refine wpF_seq ?_
  refine wpF_cut (fun f H => ∃ (v49o1 : Value), ∃ (g49o7 : Nat), f 2 = PT g1 0 ∧ f 5 = PT g4 0 ∧ f 6 = I ((j.To.length : Int)) ∧ f 9 = vo ∧ f 10 = I ((k : Int)) ∧ f 11 = PT g43 0 ∧ f 12 = PT g49o7 0 ∧ f 40 = vl ∧ f 41 = I ((l.length : Int)) ∧ f 42 = I ((k : Int)) ∧ St H0 NoB (fun b => S b ∧ b < H0.size) [blkE g49o7 (.cells #[v49o1, I ((nth l k).Kind), I ((nth l k).To)] 34), rowE 3 v49o1 (List.replicate j.To.length (0 : Int) : List Int), blkE g43 (.cells #[u41n0, I ((nth l k).Kind), I ((nth l k).To)] 34), rdE u41n0 ((nth l k).Of : List Int), rowE 34 vo ((l.take k).map (wantRow j) : List LRow), blkE g4 (.cells #[I (0), I (0)] 27), blkE g1 (.cells #[vw, vt] 25), rdE vw (j.When : List LRow), rdE vt (j.To : List (List Int)), rdE vl (l : List LRow)] H) ?_ ?_
  · refine wpF_drawn [none, none, none, none, none, none, none, none, some 0] [[], [], [], [], [], [], [], [], []] (fun l b => match l with | 0 => True | _ => False) (by kernel_rfl) (by kernel_rfl) ?_
    refine wpR_q 0 (by kernel_rfl) rfl (quietAt rfl rfl (q_move (v := I ((j.To.length : Int))) rfl a48_6)) ?_
    refine wpR_q 2 (by kernel_rfl) rfl (quietAt rfl rfl (q_fieldAddr rfl Try.underlying34 rfl Try.sizeOf3 a48_11)) ?_
    refine wpR_q 3 (by kernel_rfl) rfl (quietAt rfl rfl (q_loadBlk rfl rfl Try.isAgg3 (hS48.blk 0 rfl) rfl (labU_not [] rfl (List.forall_mem_nil _)))) ?_
    refine wpR_q 4 (by kernel_rfl) rfl (quietAt rfl rfl (q_fieldAddr rfl Try.underlying34 rfl Try.sizeOf3 a48_11)) ?_
    refine wpR_q 5 (by kernel_rfl) rfl (quietAt rfl rfl (q_loadBlk rfl rfl Try.isAgg3 (hS48.blk 0 rfl) rfl (labU_not [] rfl (List.forall_mem_nil _)))) ?_
    refine wpR_n [1, 7] (by kernel_rfl) ?_
    refine List.forall_mem_cons.2 ⟨?_, List.forall_mem_cons.2 ⟨?_, List.forall_mem_nil _⟩⟩
    · refine exE rfl rfl ?_
      refine e_makeSlice (n := j.To.length) (x0 := ((0 : Int) : Int)) rfl Try.underlying32 Try.zeroValue3 em_Int_3_LoopW1 Try.sizeOf3 rfl rfl (by omega) (fun _ _ => Rd.int.2 ⟨rfl, by decide⟩) hS48 (by have hb : GoT.bytes Int = 8 := rfl; rw [hb]; omega) (by omega) (fun v49o1 H49o1 hS49o1 hxx => ?_)
      replace hS49o1 : St H0 NoB (fun b => S b ∧ b < H0.size) [rowE 3 v49o1 (List.replicate j.To.length (0 : Int) : List Int), blkE g43 (.cells #[u41n0, I ((nth l k).Kind), I ((nth l k).To)] 34), rdE u41n0 ((nth l k).Of : List Int), rowE 34 vo ((l.take k).map (wantRow j) : List LRow), blkE g4 (.cells #[I (0), I (0)] 27), blkE g1 (.cells #[vw, vt] 25), rdE vw (j.When : List LRow), rdE vt (j.To : List (List Int)), rdE vl (l : List LRow)] H49o1 := hS49o1
      refine ⟨Ext.mono hxx (fun _ h => h.elim), ?_⟩
      refine wpR_q 6 (by kernel_rfl) rfl (quietAt rfl rfl (q_build (v := Value.agg #[v49o1, I ((nth l k).Kind), I ((nth l k).To)]) rfl (par3 (v0 := v49o1) (v1 := I ((nth l k).Kind)) (v2 := I ((nth l k).To)) rfl rfl rfl) ((hS49o1.rowl 0 rfl).slc (fun zz0 => ∀ w, (Instr.build 34 #[(0, zz0), (1, I ((nth l k).Kind)), (2, I ((nth l k).To))]).run Try.prog w = .ok (Value.agg #[zz0, I ((nth l k).Kind), I ((nth l k).To)]) w) (fun a0 n0 c0 => (fun w => by kernel_rfl))))) ?_
      refine wpR_n [7] (by kernel_rfl) ?_
      refine List.forall_mem_cons.2 ⟨?_, List.forall_mem_nil _⟩
      refine exE rfl rfl ?_
      refine e_alloc rfl Try.zeroValue34 hS49o1 (fun g49o7 H49o7 hS49o7 hxx => ?_)
      replace hS49o7 : St H0 NoB (fun b => S b ∧ b < H0.size) [blkE g49o7 (.cells #[(Value.slice none 0 0), I (0), I (0)] 34), rowE 3 v49o1 (List.replicate j.To.length (0 : Int) : List Int), blkE g43 (.cells #[u41n0, I ((nth l k).Kind), I ((nth l k).To)] 34), rdE u41n0 ((nth l k).Of : List Int), rowE 34 vo ((l.take k).map (wantRow j) : List LRow), blkE g4 (.cells #[I (0), I (0)] 27), blkE g1 (.cells #[vw, vt] 25), rdE vw (j.When : List LRow), rdE vt (j.To : List (List Int)), rdE vl (l : List LRow)] H49o7 := hS49o7
      refine ⟨Ext.mono hxx (fun _ h => h.elim), ?_⟩
      refine wpR_n [8] (by kernel_rfl) ?_
      refine List.forall_mem_cons.2 ⟨?_, List.forall_mem_nil _⟩
      refine exE rfl rfl ?_
      refine e_storeBlkA (cs' := #[v49o1, I ((nth l k).Kind), I ((nth l k).To)]) rfl rfl rfl Try.sizeOf34 rfl rfl (List.forall_mem_cons.2 ⟨(oneCell_rdL (hS49o7.rowl 1 rfl)), List.forall_mem_cons.2 ⟨rfl, List.forall_mem_cons.2 ⟨rfl, List.forall_mem_nil _⟩⟩⟩) hS49o7 (fun H49o8 hS49o8 hxx => ?_)
      replace hS49o8 : St H0 NoB (fun b => S b ∧ b < H0.size) [blkE g49o7 (.cells #[v49o1, I ((nth l k).Kind), I ((nth l k).To)] 34), rowE 3 v49o1 (List.replicate j.To.length (0 : Int) : List Int), blkE g43 (.cells #[u41n0, I ((nth l k).Kind), I ((nth l k).To)] 34), rdE u41n0 ((nth l k).Of : List Int), rowE 34 vo ((l.take k).map (wantRow j) : List LRow), blkE g4 (.cells #[I (0), I (0)] 27), blkE g1 (.cells #[vw, vt] 25), rdE vw (j.When : List LRow), rdE vt (j.To : List (List Int)), rdE vl (l : List LRow)] H49o8 := hS49o8
      refine ⟨Ext.mono hxx (labS_of 0 rfl (fun _ _ => trivial)), ?_⟩
      refine wpR_end (by kernel_rfl) ?_
      exact ⟨v49o1, g49o7, a48_2, a48_5, a48_6, a48_9, a48_10, a48_11, rfl, a48_40, a48_41, a48_42, hS49o8⟩
    · refine exE rfl rfl ?_
      refine e_alloc rfl Try.zeroValue34 hS48 (fun g49o7 H49o7 hS49o7 hxx => ?_)
      replace hS49o7 : St H0 NoB (fun b => S b ∧ b < H0.size) [blkE g49o7 (.cells #[(Value.slice none 0 0), I (0), I (0)] 34), blkE g43 (.cells #[u41n0, I ((nth l k).Kind), I ((nth l k).To)] 34), rdE u41n0 ((nth l k).Of : List Int), rowE 34 vo ((l.take k).map (wantRow j) : List LRow), blkE g4 (.cells #[I (0), I (0)] 27), blkE g1 (.cells #[vw, vt] 25), rdE vw (j.When : List LRow), rdE vt (j.To : List (List Int)), rdE vl (l : List LRow)] H49o7 := hS49o7
      refine ⟨Ext.mono hxx (fun _ h => h.elim), ?_⟩
      refine wpR_n [1] (by kernel_rfl) ?_
      refine List.forall_mem_cons.2 ⟨?_, List.forall_mem_nil _⟩
      refine exE rfl rfl ?_
      refine e_makeSlice (n := j.To.length) (x0 := ((0 : Int) : Int)) rfl Try.underlying32 Try.zeroValue3 em_Int_3_LoopW1 Try.sizeOf3 rfl rfl (by omega) (fun _ _ => Rd.int.2 ⟨rfl, by decide⟩) hS49o7 (by have hb : GoT.bytes Int = 8 := rfl; rw [hb]; omega) (by omega) (fun v49o1 H49o1 hS49o1 hxx => ?_)
      replace hS49o1 : St H0 NoB (fun b => S b ∧ b < H0.size) [rowE 3 v49o1 (List.replicate j.To.length (0 : Int) : List Int), blkE g49o7 (.cells #[(Value.slice none 0 0), I (0), I (0)] 34), blkE g43 (.cells #[u41n0, I ((nth l k).Kind), I ((nth l k).To)] 34), rdE u41n0 ((nth l k).Of : List Int), rowE 34 vo ((l.take k).map (wantRow j) : List LRow), blkE g4 (.cells #[I (0), I (0)] 27), blkE g1 (.cells #[vw, vt] 25), rdE vw (j.When : List LRow), rdE vt (j.To : List (List Int)), rdE vl (l : List LRow)] H49o1 := hS49o1
      refine ⟨Ext.mono hxx (fun _ h => h.elim), ?_⟩
      refine wpR_q 6 (by kernel_rfl) rfl (quietAt rfl rfl (q_build (v := Value.agg #[v49o1, I ((nth l k).Kind), I ((nth l k).To)]) rfl (par3 (v0 := v49o1) (v1 := I ((nth l k).Kind)) (v2 := I ((nth l k).To)) rfl rfl rfl) ((hS49o1.rowl 0 rfl).slc (fun zz0 => ∀ w, (Instr.build 34 #[(0, zz0), (1, I ((nth l k).Kind)), (2, I ((nth l k).To))]).run Try.prog w = .ok (Value.agg #[zz0, I ((nth l k).Kind), I ((nth l k).To)]) w) (fun a0 n0 c0 => (fun w => by kernel_rfl))))) ?_
      refine wpR_n [8] (by kernel_rfl) ?_
      refine List.forall_mem_cons.2 ⟨?_, List.forall_mem_nil _⟩
      refine exE rfl rfl ?_
      refine e_storeBlkA (cs' := #[v49o1, I ((nth l k).Kind), I ((nth l k).To)]) rfl rfl rfl Try.sizeOf34 rfl rfl (List.forall_mem_cons.2 ⟨(oneCell_rdL (hS49o1.rowl 0 rfl)), List.forall_mem_cons.2 ⟨rfl, List.forall_mem_cons.2 ⟨rfl, List.forall_mem_nil _⟩⟩⟩) (hS49o1.front 1 rfl) (fun H49o8 hS49o8 hxx => ?_)
      replace hS49o8 : St H0 NoB (fun b => S b ∧ b < H0.size) [blkE g49o7 (.cells #[v49o1, I ((nth l k).Kind), I ((nth l k).To)] 34), rowE 3 v49o1 (List.replicate j.To.length (0 : Int) : List Int), blkE g43 (.cells #[u41n0, I ((nth l k).Kind), I ((nth l k).To)] 34), rdE u41n0 ((nth l k).Of : List Int), rowE 34 vo ((l.take k).map (wantRow j) : List LRow), blkE g4 (.cells #[I (0), I (0)] 27), blkE g1 (.cells #[vw, vt] 25), rdE vw (j.When : List LRow), rdE vt (j.To : List (List Int)), rdE vl (l : List LRow)] H49o8 := hS49o8
      refine ⟨Ext.mono hxx (labS_of 0 rfl (fun _ _ => trivial)), ?_⟩
      refine wpR_end (by kernel_rfl) ?_
      exact ⟨v49o1, g49o7, a48_2, a48_5, a48_6, a48_9, a48_10, a48_11, rfl, a48_40, a48_41, a48_42, hS49o8⟩
  rintro f50 H50 ⟨v49o1, g49o7, a50_2, a50_5, a50_6, a50_9, a50_10, a50_11, a50_12, a50_40, a50_41, a50_42, hS50⟩
  clear a48_10 a48_11 a48_2 a48_40 a48_41 a48_42 a48_5 a48_6 a48_9
  refine wpF_seq ?_
  refine wpF_seq ?_
  refine wpF_cut (fun f H => f 2 = PT g1 0 ∧ f 5 = PT g4 0 ∧ f 6 = I ((j.To.length : Int)) ∧ f 9 = vo ∧ f 10 = I ((k : Int)) ∧ f 12 = PT g49o7 0 ∧ f 40 = vl ∧ f 41 = I ((l.length : Int)) ∧ f 42 = I ((k : Int)) ∧ f 55 = u41n0 ∧ f 56 = I ((((nth l k).Of).length : Int)) ∧ f 57 = I (0) ∧ H50 = H) ?_ ?_
  · refine wpF_region ?_
    refine wpL_q (U := NoB) rfl (q_fieldAddr rfl Try.underlying34 rfl Try.sizeOf32 a50_11) ?_
    refine wpL_q (U := NoB) rfl (q_loadBlk rfl rfl Try.isAgg32 (hS50.blk 2 rfl) rfl (fun h => h)) ?_
    refine wpL_q (U := NoB) rfl (q_lenRd rfl Try.underlying32 rfl (hS50.rdl 3 rfl)) ?_
    refine wpL_q (U := NoB) rfl (q_move (v := I (0)) rfl rfl) ?_
    exact ⟨a50_2, a50_5, a50_6, a50_9, a50_10, a50_12, a50_40, a50_41, a50_42, rfl, rfl, rfl, rfl⟩
  rintro f51 _ ⟨a51_2, a51_5, a51_6, a51_9, a51_10, a51_12, a51_40, a51_41, a51_42, a51_55, a51_56, a51_57, rfl⟩
  clear a50_10 a50_11 a50_12 a50_2 a50_40 a50_41 a50_42 a50_5 a50_6 a50_9
  refine wpF_block ?_
  refine wpF_loop (fun mz f H => ∃ (i : Nat), mz = (nth l k).Of.length - i ∧ (i ≤ (nth l k).Of.length) ∧ f 2 = PT g1 0 ∧ f 5 = PT g4 0 ∧ f 6 = I ((j.To.length : Int)) ∧ f 9 = vo ∧ f 10 = I ((k : Int)) ∧ f 12 = PT g49o7 0 ∧ f 40 = vl ∧ f 41 = I ((l.length : Int)) ∧ f 42 = I ((k : Int)) ∧ f 55 = u41n0 ∧ f 56 = I ((((nth l k).Of).length : Int)) ∧ f 57 = I ((i : Int)) ∧ St H0 NoB (fun b => S b ∧ b < H0.size) [rowE 3 v49o1 (wantMid j (nth l k) j.To.length i 0 : List Int), blkE g49o7 (.cells #[v49o1, I ((nth l k).Kind), I (wantT j (nth l k) j.To.length i)] 34), blkE g43 (.cells #[u41n0, I ((nth l k).Kind), I ((nth l k).To)] 34), rdE u41n0 ((nth l k).Of : List Int), rowE 34 vo ((l.take k).map (wantRow j) : List LRow), blkE g4 (.cells #[I (0), I (0)] 27), blkE g1 (.cells #[vw, vt] 25), rdE vw (j.When : List LRow), rdE vt (j.To : List (List Int)), rdE vl (l : List LRow)] H) ((nth l k).Of.length - 0) ?_ ?_
  · exact ⟨0, rfl, Nat.zero_le _, a51_2, a51_5, a51_6, a51_9, a51_10, a51_12, a51_40, a51_41, a51_42, a51_55, a51_56, (Eq.trans a51_57 (congrArg I (by omega))), (show St H0 NoB (fun b => S b ∧ b < H0.size) [rowE 3 v49o1 (wantMid j (nth l k) j.To.length 0 0 : List Int), blkE g49o7 (.cells #[v49o1, I ((nth l k).Kind), I (wantT j (nth l k) j.To.length 0)] 34), blkE g43 (.cells #[u41n0, I ((nth l k).Kind), I ((nth l k).To)] 34), rdE u41n0 ((nth l k).Of : List Int), rowE 34 vo ((l.take k).map (wantRow j) : List LRow), blkE g4 (.cells #[I (0), I (0)] 27), blkE g1 (.cells #[vw, vt] 25), rdE vw (j.When : List LRow), rdE vt (j.To : List (List Int)), rdE vl (l : List LRow)] H50 from (by have h__ := (St.drop (show St H0 NoB (fun b => S b ∧ b < H0.size) [rowE 3 v49o1 (List.replicate j.To.length (0 : Int) : List Int), blkE g49o7 (.cells #[v49o1, I ((nth l k).Kind), I ((nth l k).To)] 34), blkE g43 (.cells #[u41n0, I ((nth l k).Kind), I ((nth l k).To)] 34), rdE u41n0 ((nth l k).Of : List Int), rowE 34 vo ((l.take k).map (wantRow j) : List LRow), blkE g4 (.cells #[I (0), I (0)] 27), blkE g1 (.cells #[vw, vt] 25), rdE vw (j.When : List LRow), rdE vt (j.To : List (List Int)), rdE vl (l : List LRow)] H50 from ((((((((((hS50.front 9 rfl).front 9 rfl).front 9 rfl).front 9 rfl).front 9 rfl).front 9 rfl).front 9 rfl).front 9 rfl).front 8 rfl).front 9 rfl)) (List.Sublist.cons_cons _ (List.Sublist.cons_cons _ (List.Sublist.cons_cons _ (List.Sublist.cons_cons _ (List.Sublist.cons_cons _ (List.Sublist.cons_cons _ (List.Sublist.cons_cons _ (List.Sublist.cons_cons _ (List.Sublist.cons_cons _ (List.Sublist.cons_cons _ (List.Sublist.slnil)))))))))))); rw [← wantMid_zero (j := j) (r := nth l k)] at h__; exact h__))⟩
  intro m52 f52 H52 hI52
  obtain ⟨i, hm52, hi, a52_2, a52_5, a52_6, a52_9, a52_10, a52_12, a52_40, a52_41, a52_42, a52_55, a52_56, a52_57, hS52⟩ := hI52
  clear a51_10 a51_12 a51_2 a51_40 a51_41 a51_42 a51_5 a51_55 a51_56 a51_57 a51_6 a51_9
  refine wpF_seq ?_
  refine wpF_cut (fun f H => f 2 = PT g1 0 ∧ f 5 = PT g4 0 ∧ f 6 = I ((j.To.length : Int)) ∧ f 9 = vo ∧ f 10 = I ((k : Int)) ∧ f 12 = PT g49o7 0 ∧ f 40 = vl ∧ f 41 = I ((l.length : Int)) ∧ f 42 = I ((k : Int)) ∧ f 55 = u41n0 ∧ f 56 = I ((((nth l k).Of).length : Int)) ∧ f 57 = I ((i : Int)) ∧ f 58 = B (decide ((i : Int) < (((nth l k).Of).length : Int))) ∧ H52 = H) ?_ ?_
  · refine wpF_region ?_
    refine wpL_q (U := NoB) rfl (q_lss rfl a52_57 a52_56) ?_
    exact ⟨a52_2, a52_5, a52_6, a52_9, a52_10, a52_12, a52_40, a52_41, a52_42, a52_55, a52_56, a52_57, rfl, rfl⟩
  rintro f53 _ ⟨a53_2, a53_5, a53_6, a53_9, a53_10, a53_12, a53_40, a53_41, a53_42, a53_55, a53_56, a53_57, a53_58, rfl⟩
  clear a52_10 a52_12 a52_2 a52_40 a52_41 a52_42 a52_5 a52_55 a52_56 a52_57 a52_6 a52_9
  refine wpF_seq ?_
  refine wpF_condP a53_58 (fun hlt2 => ?t95) (fun hlt2 => ?e95)
  case e95 =>
    have hie : i = (nth l k).Of.length := by omega
    have htb := wantT_bound (v := j.To.length) (i := i) hj hr hN8 (by omega) (by omega)
    refine wpF_exit ?_
    refine atX_here ?_
    refine wpF_seq ?_
    refine wpF_seq ?_
    refine wpF_cut (fun f H => f 2 = PT g1 0 ∧ f 5 = PT g4 0 ∧ f 6 = I ((j.To.length : Int)) ∧ f 9 = vo ∧ f 10 = I ((k : Int)) ∧ f 12 = PT g49o7 0 ∧ f 40 = vl ∧ f 41 = I ((l.length : Int)) ∧ f 42 = I ((k : Int)) ∧ f 107 = B (decide (((outs (wantMid j (nth l k) j.To.length i 0)) = true) ∨ ((!(whole (wantT j (nth l k) j.To.length i))) = true))) ∧ St H0 NoB (fun b => S b ∧ b < H0.size) [rdE v49o1 (wantMid j (nth l k) j.To.length i 0 : List Int), blkE g49o7 (.cells #[v49o1, I ((nth l k).Kind), I (wantT j (nth l k) j.To.length i)] 34), blkE g43 (.cells #[u41n0, I ((nth l k).Kind), I ((nth l k).To)] 34), rdE u41n0 ((nth l k).Of : List Int), rowE 34 vo ((l.take k).map (wantRow j) : List LRow), blkE g4 (.cells #[I (0), I (0)] 27), blkE g1 (.cells #[vw, vt] 25), rdE vw (j.When : List LRow), rdE vt (j.To : List (List Int)), rdE vl (l : List LRow)] H) ?_ ?_
    · refine wpF_region ?_
      refine wpL_q (U := NoB) rfl (q_fieldAddr rfl Try.underlying34 rfl Try.sizeOf32 a53_12) ?_
      refine wpL_q (U := NoB) rfl (q_loadBlk rfl rfl Try.isAgg32 (hS52.blk 1 rfl) rfl (fun h => h)) ?_
      have hS68 : St H0 NoB (fun b => S b ∧ b < H0.size) [rdE v49o1 (wantMid j (nth l k) j.To.length i 0 : List Int), blkE g49o7 (.cells #[v49o1, I ((nth l k).Kind), I (wantT j (nth l k) j.To.length i)] 34), blkE g43 (.cells #[u41n0, I ((nth l k).Kind), I ((nth l k).To)] 34), rdE u41n0 ((nth l k).Of : List Int), rowE 34 vo ((l.take k).map (wantRow j) : List LRow), blkE g4 (.cells #[I (0), I (0)] 27), blkE g1 (.cells #[vw, vt] 25), rdE vw (j.When : List LRow), rdE vt (j.To : List (List Int)), rdE vl (l : List LRow)] H52 := St.fin hS52
      refine wpL_o rfl ?_
      refine e_call rfl Try.call47 (arr1 (v0 := v49o1) rfl) (outside v49o1 (wantMid j (nth l k) j.To.length i 0) (hS68.rdN 0 rfl)) ?_
      rintro _ H69 ⟨hxx, rfl⟩
      have hS70 : St H0 NoB (fun b => S b ∧ b < H0.size) [rdE v49o1 (wantMid j (nth l k) j.To.length i 0 : List Int), blkE g49o7 (.cells #[v49o1, I ((nth l k).Kind), I (wantT j (nth l k) j.To.length i)] 34), blkE g43 (.cells #[u41n0, I ((nth l k).Kind), I ((nth l k).To)] 34), rdE u41n0 ((nth l k).Of : List Int), rowE 34 vo ((l.take k).map (wantRow j) : List LRow), blkE g4 (.cells #[I (0), I (0)] 27), blkE g1 (.cells #[vw, vt] 25), rdE vw (j.When : List LRow), rdE vt (j.To : List (List Int)), rdE vl (l : List LRow)] H69 := hS68.ext hxx
      refine wpL_q (U := NoB) rfl (q_move (v := B (outs (wantMid j (nth l k) j.To.length i 0))) rfl rfl) ?_
      by_cases hg72 : (outs (wantMid j (nth l k) j.To.length i 0)) = true
      · have hb73 := Eq.trans rfl (congrArg B hg72)
        refine wpL_gs rfl rfl rfl hb73 rfl ?_
        refine wpL_gs rfl rfl rfl hb73 rfl ?_
        refine wpL_gs rfl rfl rfl hb73 rfl ?_
        refine wpL_gs rfl rfl rfl hb73 rfl ?_
        refine wpL_q (U := NoB) rfl (q_pickT (v := B (true)) rfl hb73 rfl) ?_
        exact ⟨a53_2, a53_5, a53_6, a53_9, a53_10, a53_12, a53_40, a53_41, a53_42, (Eq.trans rfl (congrArg B ((decide_eq_true (Or.inl hg72)).symm))), hS70⟩
      · have hb74 := Eq.trans rfl (congrArg B (Bool.eq_false_iff.2 hg72))
        refine wpL_gq (U := NoB) rfl rfl rfl hb74 (q_fieldAddr rfl Try.underlying34 rfl Try.sizeOf3 a53_12) ?_
        refine wpL_gq (U := NoB) rfl rfl rfl hb74 (q_loadBlk rfl rfl Try.isAgg3 (hS70.blk 1 rfl) rfl (fun h => h)) ?_
        refine wpL_go rfl rfl rfl hb74 ?_
        refine e_call rfl Try.call48 (arr1 (v0 := I (wantT j (nth l k) j.To.length i)) rfl) (whole_L (wantT j (nth l k) j.To.length i)) ?_
        rintro _ H75 ⟨hxx, rfl⟩
        have hS76 : St H0 NoB (fun b => S b ∧ b < H0.size) [rdE v49o1 (wantMid j (nth l k) j.To.length i 0 : List Int), blkE g49o7 (.cells #[v49o1, I ((nth l k).Kind), I (wantT j (nth l k) j.To.length i)] 34), blkE g43 (.cells #[u41n0, I ((nth l k).Kind), I ((nth l k).To)] 34), rdE u41n0 ((nth l k).Of : List Int), rowE 34 vo ((l.take k).map (wantRow j) : List LRow), blkE g4 (.cells #[I (0), I (0)] 27), blkE g1 (.cells #[vw, vt] 25), rdE vw (j.When : List LRow), rdE vt (j.To : List (List Int)), rdE vl (l : List LRow)] H75 := hS70.ext hxx
        refine wpL_gq (U := NoB) rfl rfl rfl hb74 (q_not rfl rfl) ?_
        refine wpL_q (U := NoB) rfl (q_pickF (v := B (!(whole (wantT j (nth l k) j.To.length i)))) rfl hb74 rfl) ?_
        exact ⟨a53_2, a53_5, a53_6, a53_9, a53_10, a53_12, a53_40, a53_41, a53_42, (Eq.trans rfl (congrArg B (bool_congr_of ((Iff.rfl).trans (((or_iff_right hg72).trans Iff.rfl)).symm)))), hS76⟩
    rintro f78 H78 ⟨a78_2, a78_5, a78_6, a78_9, a78_10, a78_12, a78_40, a78_41, a78_42, a78_107, hS78⟩
    clear a53_10 a53_12 a53_2 a53_40 a53_41 a53_42 a53_5 a53_55 a53_56 a53_57 a53_58 a53_6 a53_9
    refine wpF_condP a78_107 (fun h4 => ?t94) (fun h4 => ?e94)
    case t94 =>
      refine wpF_seq ?_
      refine wpF_cut (fun f H => f 4 = (Value.slice none 0 0) ∧ f 5 = PT g4 0 ∧ St H0 NoB (fun b => S b ∧ b < H0.size) [blkE g4 (.cells #[I (10), I ((k : Int))] 27), rdE v49o1 (wantMid j (nth l k) j.To.length i 0 : List Int), blkE g49o7 (.cells #[v49o1, I ((nth l k).Kind), I (wantT j (nth l k) j.To.length i)] 34), blkE g43 (.cells #[u41n0, I ((nth l k).Kind), I ((nth l k).To)] 34), rdE u41n0 ((nth l k).Of : List Int), rowE 34 vo ((l.take k).map (wantRow j) : List LRow), blkE g1 (.cells #[vw, vt] 25), rdE vw (j.When : List LRow), rdE vt (j.To : List (List Int)), rdE vl (l : List LRow)] H) ?_ ?_
      · refine wpF_region ?_
        refine wpL_q (U := NoB) rfl (q_move (v := I ((k : Int))) rfl a78_10) ?_
        refine wpL_q (U := NoB) rfl (q_build (v := Value.agg #[I (10), I ((k : Int))]) rfl (par2 (v0 := I (10)) (v1 := I ((k : Int))) rfl rfl) (fun w => by kernel_rfl)) ?_
        refine wpL_q (U := NoB) rfl (q_assign (v := (Value.slice none 0 0)) rfl rfl) ?_
        refine wpL_o rfl ?_
        refine e_storeBlkA (cs' := #[I (10), I ((k : Int))]) rfl a78_5 rfl Try.sizeOf27 rfl rfl (List.forall_mem_cons.2 ⟨rfl, List.forall_mem_cons.2 ⟨rfl, List.forall_mem_nil _⟩⟩) (hS78.front 5 rfl) (fun H80 hS81 hxx => ?_)
        replace hS81 : St H0 NoB (fun b => S b ∧ b < H0.size) [blkE g4 (.cells #[I (10), I ((k : Int))] 27), rdE v49o1 (wantMid j (nth l k) j.To.length i 0 : List Int), blkE g49o7 (.cells #[v49o1, I ((nth l k).Kind), I (wantT j (nth l k) j.To.length i)] 34), blkE g43 (.cells #[u41n0, I ((nth l k).Kind), I ((nth l k).To)] 34), rdE u41n0 ((nth l k).Of : List Int), rowE 34 vo ((l.take k).map (wantRow j) : List LRow), blkE g1 (.cells #[vw, vt] 25), rdE vw (j.When : List LRow), rdE vt (j.To : List (List Int)), rdE vl (l : List LRow)] H80 := hS81
        exact ⟨rfl, a78_5, hS81⟩
      rintro f82 H82 ⟨a82_4, a82_5, hS82⟩
      clear a78_10 a78_107 a78_12 a78_2 a78_40 a78_41 a78_42 a78_5 a78_6 a78_9
      refine wpF_ret ?_
      refine ⟨_, resT a82_4 (resC a82_5 (loadV_blkA Try.isAgg27 Try.sizeOf27 rfl (hS82.blk 0 rfl)) (resN)), hS82.frame, ?_⟩
      show ∃ w_, (Value.tuple #[(Value.slice none 0 0), Value.agg #[I (10), I ((k : Int))]]) = Value.tuple #[w_, Value.agg #[I (wantFault j l).1, I (wantFault j l).2]] ∧ Rd (fun b => S b ∧ b < H0.size) H82 w_ (wantAll j l)
      have hq : wantFault j l = _ := wantFault_at hhd (by omega) hp (wantBad_of hie h4)
      have hq2 : (wantFault j l).1 ≠ 0 := by rw [hq]; exact (by decide : (10 : Int) ≠ 0)
      exact ⟨(Value.slice none 0 0), by rw [hq], by rw [wantAll_bad hq2]; exact rdNil⟩
    refine wpF_skip ?_
    refine wpF_cut (fun f H => ∃ (v88 : Value), f 2 = PT g1 0 ∧ f 5 = PT g4 0 ∧ f 6 = I ((j.To.length : Int)) ∧ f 9 = v88 ∧ f 40 = vl ∧ f 41 = I ((l.length : Int)) ∧ f 42 = I ((k : Int)) ∧ St H0 NoB (fun b => S b ∧ b < H0.size) [rowE 34 v88 ((l.take (k + 1)).map (wantRow j) : List LRow), rdE v49o1 (wantMid j (nth l k) j.To.length i 0 : List Int), blkE g49o7 (.cells #[v49o1, I ((nth l k).Kind), I (wantT j (nth l k) j.To.length i)] 34), blkE g43 (.cells #[u41n0, I ((nth l k).Kind), I ((nth l k).To)] 34), rdE u41n0 ((nth l k).Of : List Int), blkE g4 (.cells #[I (0), I (0)] 27), blkE g1 (.cells #[vw, vt] 25), rdE vw (j.When : List LRow), rdE vt (j.To : List (List Int)), rdE vl (l : List LRow)] H) ?_ ?_
    · refine wpF_region ?_
      refine wpL_q (U := NoB) rfl (q_move (v := vo) rfl a78_9) ?_
      refine wpL_q (U := NoB) rfl (q_loadBlkA rfl a78_12 Try.isAgg34 Try.sizeOf34 rfl (hS78.blk 1 rfl) (fun h => h)) ?_
      refine wpL_o rfl ?_
      refine e_buildSlice (vs := [Value.agg #[v49o1, I ((nth l k).Kind), I (wantT j (nth l k) j.To.length i)]]) (xs := ([(LRow.mk (wantMid j (nth l k) j.To.length i 0) ((nth l k).Kind) (wantT j (nth l k) j.To.length i))] : List LRow)) rfl Try.underlying22 Try.zeroValue34 rfl Try.sizeOf34 (par1 (v0 := Value.agg #[v49o1, I ((nth l k).Kind), I (wantT j (nth l k) j.To.length i)]) rfl) rfl hS78 (RdVs.cons (Rd.lRow.2 ⟨_, rfl, (hS78.rdS 0 rfl), (by first | assumption | (constructor <;> (dsimp only; omega)) | (constructor <;> omega)), (by first | assumption | (constructor <;> (dsimp only; omega)) | (constructor <;> omega))⟩) (RdVs.nil)) (by decide) (by decide) (fun v83 H84 hS85 hxx hvv83 => ?_)
      replace hS85 : St H0 NoB (fun b => S b ∧ b < H0.size) [rowE 34 v83 ([(LRow.mk (wantMid j (nth l k) j.To.length i 0) ((nth l k).Kind) (wantT j (nth l k) j.To.length i))] : List LRow), rdE v49o1 (wantMid j (nth l k) j.To.length i 0 : List Int), blkE g49o7 (.cells #[v49o1, I ((nth l k).Kind), I (wantT j (nth l k) j.To.length i)] 34), blkE g43 (.cells #[u41n0, I ((nth l k).Kind), I ((nth l k).To)] 34), rdE u41n0 ((nth l k).Of : List Int), rowE 34 vo ((l.take k).map (wantRow j) : List LRow), blkE g4 (.cells #[I (0), I (0)] 27), blkE g1 (.cells #[vw, vt] 25), rdE vw (j.When : List LRow), rdE vt (j.To : List (List Int)), rdE vl (l : List LRow)] H84 := hS85
      have hS86 : St H0 NoB (fun b => S b ∧ b < H0.size) [rdE v83 ([(LRow.mk (wantMid j (nth l k) j.To.length i 0) ((nth l k).Kind) (wantT j (nth l k) j.To.length i))] : List LRow), rdE v49o1 (wantMid j (nth l k) j.To.length i 0 : List Int), blkE g49o7 (.cells #[v49o1, I ((nth l k).Kind), I (wantT j (nth l k) j.To.length i)] 34), blkE g43 (.cells #[u41n0, I ((nth l k).Kind), I ((nth l k).To)] 34), rdE u41n0 ((nth l k).Of : List Int), rowE 34 vo ((l.take k).map (wantRow j) : List LRow), blkE g4 (.cells #[I (0), I (0)] 27), blkE g1 (.cells #[vw, vt] 25), rdE vw (j.When : List LRow), rdE vt (j.To : List (List Int)), rdE vl (l : List LRow)] H84 := St.fin hS85
      have hS87 : St H0 NoB (fun b => S b ∧ b < H0.size) [rowE 34 vo ((l.take k).map (wantRow j) : List LRow), rdE v83 ([(LRow.mk (wantMid j (nth l k) j.To.length i 0) ((nth l k).Kind) (wantT j (nth l k) j.To.length i))] : List LRow), rdE v49o1 (wantMid j (nth l k) j.To.length i 0 : List Int), blkE g49o7 (.cells #[v49o1, I ((nth l k).Kind), I (wantT j (nth l k) j.To.length i)] 34), blkE g43 (.cells #[u41n0, I ((nth l k).Kind), I ((nth l k).To)] 34), rdE u41n0 ((nth l k).Of : List Int), blkE g4 (.cells #[I (0), I (0)] 27), blkE g1 (.cells #[vw, vt] 25), rdE vw (j.When : List LRow), rdE vt (j.To : List (List Int)), rdE vl (l : List LRow)] H84 := (hS86.front 5 rfl)
      refine wpL_o rfl ?_
      refine e_append rfl Try.underlying22 em_LRow_34_LoopW1 rfl rfl hS87 (hS87.rdS 1 rfl) (fun _ h => h) (by have hb : GoT.bytes LRow = 40 := rfl; simp [hb]; omega) (by decide) (fun v88 H89 hS90 hxx => ?_)
      replace hS90 : St H0 NoB (fun b => S b ∧ b < H0.size) [rowE 34 v88 (((l.take k).map (wantRow j)) ++ ([(LRow.mk (wantMid j (nth l k) j.To.length i 0) ((nth l k).Kind) (wantT j (nth l k) j.To.length i))]) : List LRow), rdE v83 ([(LRow.mk (wantMid j (nth l k) j.To.length i 0) ((nth l k).Kind) (wantT j (nth l k) j.To.length i))] : List LRow), rdE v49o1 (wantMid j (nth l k) j.To.length i 0 : List Int), blkE g49o7 (.cells #[v49o1, I ((nth l k).Kind), I (wantT j (nth l k) j.To.length i)] 34), blkE g43 (.cells #[u41n0, I ((nth l k).Kind), I ((nth l k).To)] 34), rdE u41n0 ((nth l k).Of : List Int), blkE g4 (.cells #[I (0), I (0)] 27), blkE g1 (.cells #[vw, vt] 25), rdE vw (j.When : List LRow), rdE vt (j.To : List (List Int)), rdE vl (l : List LRow)] H89 := hS90
      have hS91 : St H0 NoB (fun b => S b ∧ b < H0.size) [rowE 34 v88 ((l.take (k + 1)).map (wantRow j) : List LRow), rdE v83 ([(LRow.mk (wantMid j (nth l k) j.To.length i 0) ((nth l k).Kind) (wantT j (nth l k) j.To.length i))] : List LRow), rdE v49o1 (wantMid j (nth l k) j.To.length i 0 : List Int), blkE g49o7 (.cells #[v49o1, I ((nth l k).Kind), I (wantT j (nth l k) j.To.length i)] 34), blkE g43 (.cells #[u41n0, I ((nth l k).Kind), I ((nth l k).To)] 34), rdE u41n0 ((nth l k).Of : List Int), blkE g4 (.cells #[I (0), I (0)] 27), blkE g1 (.cells #[vw, vt] 25), rdE vw (j.When : List LRow), rdE vt (j.To : List (List Int)), rdE vl (l : List LRow)] H89 := by rw [show ((l.take (k + 1)).map (wantRow j)) = (((l.take k).map (wantRow j)) ++ ([(LRow.mk (wantMid j (nth l k) j.To.length i 0) ((nth l k).Kind) (wantT j (nth l k) j.To.length i))])) from (by rw [hie, wantMid_all, take_succ_nth (by omega), List.map_append]; rfl)]; exact hS90
      refine wpL_q (U := NoB) rfl (q_assign (v := v88) rfl rfl) ?_
      exact ⟨v88, a78_2, a78_5, a78_6, rfl, a78_40, a78_41, a78_42, (hS91.drop (List.Sublist.cons_cons _ (List.Sublist.cons _ (List.Sublist.cons_cons _ (List.Sublist.cons_cons _ (List.Sublist.cons_cons _ (List.Sublist.cons_cons _ (List.Sublist.cons_cons _ (List.Sublist.cons_cons _ (List.Sublist.cons_cons _ (List.Sublist.cons_cons _ (List.Sublist.cons_cons _ (List.Sublist.slnil)))))))))))))⟩
    rintro f92 H92 ⟨v88, a92_2, a92_5, a92_6, a92_9, a92_40, a92_41, a92_42, hS92⟩
    clear a78_10 a78_107 a78_12 a78_2 a78_40 a78_41 a78_42 a78_5 a78_6 a78_9
    refine wpF_cut (fun f H => f 2 = PT g1 0 ∧ f 5 = PT g4 0 ∧ f 6 = I ((j.To.length : Int)) ∧ f 9 = v88 ∧ f 40 = vl ∧ f 41 = I ((l.length : Int)) ∧ f 42 = I ((k : Int) + 1) ∧ H92 = H) ?_ ?_
    · refine wpF_region ?_
      refine wpL_q (U := NoB) rfl (q_add rfl a92_42 rfl (by constructor <;> omega)) ?_
      refine wpL_q (U := NoB) rfl (q_move (v := I ((k : Int) + 1)) rfl rfl) ?_
      exact ⟨a92_2, a92_5, a92_6, a92_9, a92_40, a92_41, rfl, rfl⟩
    rintro f93 _ ⟨a93_2, a93_5, a93_6, a93_9, a93_40, a93_41, a93_42, rfl⟩
    clear a92_2 a92_40 a92_41 a92_42 a92_5 a92_6 a92_9
    refine ⟨_, ?_, k + 1, v88, rfl, (by omega), (all_succ hp (wantBad_not hie h4)), a93_2, a93_5, a93_6, a93_9, a93_40, a93_41, (Eq.trans a93_42 (congrArg I (by omega))), (hS92.drop (List.Sublist.cons_cons _ (List.Sublist.cons _ (List.Sublist.cons _ (List.Sublist.cons _ (List.Sublist.cons _ (List.Sublist.cons_cons _ (List.Sublist.cons_cons _ (List.Sublist.cons_cons _ (List.Sublist.cons_cons _ (List.Sublist.cons_cons _ (List.Sublist.slnil))))))))))))⟩
    omega
  have hat := hj.at_ (i := i) (v := j.To.length) (by omega) (by omega)
  have hmb : -1000000000000 ≤ nth (nth l k).Of i * nth (nth j.To i) j.To.length ∧ nth (nth l k).Of i * nth (nth j.To i) j.To.length ≤ 1000000000000 := wantG_bound hj hr hN8 (by omega) (by omega)
  have hsb := wantS_bound (v := j.To.length) (i := i) hj hr hN8 (by omega) (by omega)
  have htb := wantT_bound (v := j.To.length) (i := i) hj hr hN8 (by omega) (by omega)
  refine wpF_skip ?_
  refine wpF_seq ?_
  refine wpF_block ?_
  refine wpF_seq ?_
  refine wpF_cut (fun f H => f 2 = PT g1 0 ∧ f 5 = PT g4 0 ∧ f 6 = I ((j.To.length : Int)) ∧ f 9 = vo ∧ f 10 = I ((k : Int)) ∧ f 12 = PT g49o7 0 ∧ f 13 = I ((i : Int)) ∧ f 14 = I (nth ((nth l k).Of) i) ∧ f 40 = vl ∧ f 41 = I ((l.length : Int)) ∧ f 42 = I ((k : Int)) ∧ f 55 = u41n0 ∧ f 56 = I ((((nth l k).Of).length : Int)) ∧ f 57 = I ((i : Int)) ∧ H52 = H) ?_ ?_
  · refine wpF_region ?_
    refine wpL_q (U := NoB) rfl (q_move (v := I ((i : Int))) rfl a53_57) ?_
    refine wpL_q (U := NoB) rfl (q_indexRd (k := i) rfl Try.underlying32 el_Int_3_LoopW1 a53_55 a53_57 (hS52.rdl 3 rfl) (by omega) (by omega)) ?_
    refine wpL_q (U := NoB) rfl (q_loadInt (k := i) rfl rfl el_Int_3_LoopW1 (hS52.rdl 3 rfl) (by omega) (fun _ h => h)) ?_
    refine wpL_q (U := NoB) rfl (q_assign (v := I ((i : Int))) rfl rfl) ?_
    refine wpL_q (U := NoB) rfl (q_assign (v := I (nth ((nth l k).Of) i)) rfl rfl) ?_
    exact ⟨a53_2, a53_5, a53_6, a53_9, a53_10, a53_12, rfl, rfl, a53_40, a53_41, a53_42, a53_55, a53_56, a53_57, rfl⟩
  rintro f55 _ ⟨a55_2, a55_5, a55_6, a55_9, a55_10, a55_12, a55_13, a55_14, a55_40, a55_41, a55_42, a55_55, a55_56, a55_57, rfl⟩
  clear a53_10 a53_12 a53_2 a53_40 a53_41 a53_42 a53_5 a53_55 a53_56 a53_57 a53_58 a53_6 a53_9
  refine wpF_seq ?_
  refine wpF_seq ?_
  refine wpF_cut (fun f H => f 2 = PT g1 0 ∧ f 5 = PT g4 0 ∧ f 6 = I ((j.To.length : Int)) ∧ f 9 = vo ∧ f 10 = I ((k : Int)) ∧ f 12 = PT g49o7 0 ∧ f 13 = I ((i : Int)) ∧ f 14 = I (nth ((nth l k).Of) i) ∧ f 40 = vl ∧ f 41 = I ((l.length : Int)) ∧ f 42 = I ((k : Int)) ∧ f 55 = u41n0 ∧ f 56 = I ((((nth l k).Of).length : Int)) ∧ f 57 = I ((i : Int)) ∧ f 62 = I ((j.To.length : Int)) ∧ f 63 = I (0) ∧ H52 = H) ?_ ?_
  · refine wpF_region ?_
    refine wpL_q (U := NoB) rfl (q_move (v := I ((j.To.length : Int))) rfl a55_6) ?_
    refine wpL_q (U := NoB) rfl (q_move (v := I (0)) rfl rfl) ?_
    exact ⟨a55_2, a55_5, a55_6, a55_9, a55_10, a55_12, a55_13, a55_14, a55_40, a55_41, a55_42, a55_55, a55_56, a55_57, rfl, rfl, rfl⟩
  rintro f56 _ ⟨a56_2, a56_5, a56_6, a56_9, a56_10, a56_12, a56_13, a56_14, a56_40, a56_41, a56_42, a56_55, a56_56, a56_57, a56_62, a56_63, rfl⟩
  clear a55_10 a55_12 a55_13 a55_14 a55_2 a55_40 a55_41 a55_42 a55_5 a55_55 a55_56 a55_57 a55_6 a55_9
  refine wpF_block ?_
  refine wpF_loop (fun mz f H => ∃ (v : Nat), mz = j.To.length - v ∧ (v ≤ j.To.length) ∧ f 2 = PT g1 0 ∧ f 5 = PT g4 0 ∧ f 6 = I ((j.To.length : Int)) ∧ f 9 = vo ∧ f 10 = I ((k : Int)) ∧ f 12 = PT g49o7 0 ∧ f 13 = I ((i : Int)) ∧ f 14 = I (nth ((nth l k).Of) i) ∧ f 40 = vl ∧ f 41 = I ((l.length : Int)) ∧ f 42 = I ((k : Int)) ∧ f 55 = u41n0 ∧ f 56 = I ((((nth l k).Of).length : Int)) ∧ f 57 = I ((i : Int)) ∧ f 62 = I ((j.To.length : Int)) ∧ f 63 = I ((v : Int)) ∧ St H0 NoB (fun b => S b ∧ b < H0.size) [rowE 3 v49o1 (wantMid j (nth l k) j.To.length i v : List Int), blkE g49o7 (.cells #[v49o1, I ((nth l k).Kind), I (wantT j (nth l k) j.To.length i)] 34), blkE g43 (.cells #[u41n0, I ((nth l k).Kind), I ((nth l k).To)] 34), rdE u41n0 ((nth l k).Of : List Int), rowE 34 vo ((l.take k).map (wantRow j) : List LRow), blkE g4 (.cells #[I (0), I (0)] 27), blkE g1 (.cells #[vw, vt] 25), rdE vw (j.When : List LRow), rdE vt (j.To : List (List Int)), rdE vl (l : List LRow)] H) (j.To.length - 0) ?_ ?_
  · exact ⟨0, rfl, Nat.zero_le _, a56_2, a56_5, a56_6, a56_9, a56_10, a56_12, a56_13, a56_14, a56_40, a56_41, a56_42, a56_55, a56_56, a56_57, a56_62, (Eq.trans a56_63 (congrArg I (by omega))), hS52⟩
  intro m57 f57 H57 hI57
  obtain ⟨v, hm57, hv, a57_2, a57_5, a57_6, a57_9, a57_10, a57_12, a57_13, a57_14, a57_40, a57_41, a57_42, a57_55, a57_56, a57_57, a57_62, a57_63, hS57⟩ := hI57
  clear a56_10 a56_12 a56_13 a56_14 a56_2 a56_40 a56_41 a56_42 a56_5 a56_55 a56_56 a56_57 a56_6 a56_62 a56_63 a56_9
  refine wpF_seq ?_
  refine wpF_cut (fun f H => f 2 = PT g1 0 ∧ f 5 = PT g4 0 ∧ f 6 = I ((j.To.length : Int)) ∧ f 9 = vo ∧ f 10 = I ((k : Int)) ∧ f 12 = PT g49o7 0 ∧ f 13 = I ((i : Int)) ∧ f 14 = I (nth ((nth l k).Of) i) ∧ f 40 = vl ∧ f 41 = I ((l.length : Int)) ∧ f 42 = I ((k : Int)) ∧ f 55 = u41n0 ∧ f 56 = I ((((nth l k).Of).length : Int)) ∧ f 57 = I ((i : Int)) ∧ f 62 = I ((j.To.length : Int)) ∧ f 63 = I ((v : Int)) ∧ f 64 = B (decide ((v : Int) < (j.To.length : Int))) ∧ H57 = H) ?_ ?_
  · refine wpF_region ?_
    refine wpL_q (U := NoB) rfl (q_lss rfl a57_63 a57_62) ?_
    exact ⟨a57_2, a57_5, a57_6, a57_9, a57_10, a57_12, a57_13, a57_14, a57_40, a57_41, a57_42, a57_55, a57_56, a57_57, a57_62, a57_63, rfl, rfl⟩
  rintro f58 _ ⟨a58_2, a58_5, a58_6, a58_9, a58_10, a58_12, a58_13, a58_14, a58_40, a58_41, a58_42, a58_55, a58_56, a58_57, a58_62, a58_63, a58_64, rfl⟩
  clear a57_10 a57_12 a57_13 a57_14 a57_2 a57_40 a57_41 a57_42 a57_5 a57_55 a57_56 a57_57 a57_6 a57_62 a57_63 a57_9
  refine wpF_seq ?_
  refine wpF_condP a58_64 (fun hlt3 => ?t67) (fun hlt3 => ?e67)
  case e67 =>
    have hvn : v = j.To.length := by omega
    refine wpF_exit ?_
    refine atX_here ?_
    obtain ⟨u64o7, huu64o7, hlu64o7⟩ := (Rd.list.1 (hS57.rdS 8 rfl)).elem i (by omega)
    have hS64o7 : St H0 NoB (fun b => S b ∧ b < H0.size) [rdE u64o7 (nth j.To i : List Int), rowE 3 v49o1 (wantMid j (nth l k) j.To.length i v : List Int), blkE g49o7 (.cells #[v49o1, I ((nth l k).Kind), I (wantT j (nth l k) j.To.length i)] 34), blkE g43 (.cells #[u41n0, I ((nth l k).Kind), I ((nth l k).To)] 34), rdE u41n0 ((nth l k).Of : List Int), rowE 34 vo ((l.take k).map (wantRow j) : List LRow), blkE g4 (.cells #[I (0), I (0)] 27), blkE g1 (.cells #[vw, vt] 25), rdE vw (j.When : List LRow), rdE vt (j.To : List (List Int)), rdE vl (l : List LRow)] H57 := hS57.rd huu64o7
    refine wpF_cut (fun f H => f 2 = PT g1 0 ∧ f 5 = PT g4 0 ∧ f 6 = I ((j.To.length : Int)) ∧ f 9 = vo ∧ f 10 = I ((k : Int)) ∧ f 12 = PT g49o7 0 ∧ f 40 = vl ∧ f 41 = I ((l.length : Int)) ∧ f 42 = I ((k : Int)) ∧ f 55 = u41n0 ∧ f 56 = I ((((nth l k).Of).length : Int)) ∧ f 57 = I ((i : Int)) ∧ St H0 NoB (fun b => S b ∧ b < H0.size) [blkE g49o7 (.cells #[v49o1, I ((nth l k).Kind), I ((wantT j (nth l k) j.To.length i) - ((nth ((nth l k).Of) i) * (nth (nth j.To i) j.To.length)))] 34), rowE 3 v49o1 (wantMid j (nth l k) j.To.length i v : List Int), blkE g43 (.cells #[u41n0, I ((nth l k).Kind), I ((nth l k).To)] 34), rdE u41n0 ((nth l k).Of : List Int), rowE 34 vo ((l.take k).map (wantRow j) : List LRow), blkE g4 (.cells #[I (0), I (0)] 27), blkE g1 (.cells #[vw, vt] 25), rdE vw (j.When : List LRow), rdE vt (j.To : List (List Int)), rdE vl (l : List LRow)] H) ?_ ?_
    · refine wpF_drawn [none, none, none, none, none, none, none, none, none, none, none, none, none, none, some 0] [[], [], [], [], [], [], [], [], [], [], [], [], [], [], []] (fun l b => match l with | 0 => True | _ => False) (by kernel_rfl) (by kernel_rfl) ?_
      refine wpR_q 0 (by kernel_rfl) rfl (quietAt rfl rfl (q_fieldAddr rfl Try.underlying34 rfl Try.sizeOf3 a58_12)) ?_
      refine wpR_q 1 (by kernel_rfl) rfl (quietAt rfl rfl (q_loadBlk rfl rfl Try.isAgg3 (hS57.blk 1 rfl) rfl (labU_not [] rfl (List.forall_mem_nil _)))) ?_
      refine wpR_q 2 (by kernel_rfl) rfl (quietAt rfl rfl (q_move (v := I (nth ((nth l k).Of) i)) rfl a58_14)) ?_
      refine wpR_q 3 (by kernel_rfl) rfl (quietAt rfl rfl (q_fieldAddr rfl Try.underlying25 rfl Try.sizeOf23 a58_2)) ?_
      refine wpR_q 4 (by kernel_rfl) rfl (quietAt rfl rfl (q_loadBlk rfl rfl Try.isAgg23 (hS57.blk 6 rfl) rfl (labU_not [] rfl (List.forall_mem_nil _)))) ?_
      refine wpR_q 5 (by kernel_rfl) rfl (quietAt rfl rfl (q_move (v := I ((i : Int))) rfl a58_13)) ?_
      refine wpR_q 6 (by kernel_rfl) rfl (quietAt rfl rfl (q_indexRd (k := i) rfl Try.underlying23 el_LInt_32_LoopW1 rfl rfl (hS57.rdl 8 rfl) (by omega) (by omega))) ?_
      refine wpR_q 7 (by kernel_rfl) rfl (quietAt rfl rfl (q_loadE rfl rfl (hlu64o7 Try.prog 32 _ el_LInt_32_LoopW1 (labU_sub [] rfl (List.forall_mem_nil _))))) ?_
      refine wpR_q 8 (by kernel_rfl) rfl (quietAt rfl rfl (q_move (v := I ((j.To.length : Int))) rfl a58_6)) ?_
      refine wpR_q 9 (by kernel_rfl) rfl (quietAt rfl rfl (q_indexRd (k := j.To.length) rfl Try.underlying32 el_Int_3_LoopW1 rfl rfl (hS64o7.rdl 0 rfl) (by omega) (by omega))) ?_
      refine wpR_q 10 (by kernel_rfl) rfl (quietAt rfl rfl (q_loadInt (k := j.To.length) rfl rfl el_Int_3_LoopW1 (hS64o7.rdl 0 rfl) (by omega) (labU_sub [] rfl (List.forall_mem_nil _)))) ?_
      refine wpR_q 11 (by kernel_rfl) rfl (quietAt rfl rfl (q_mul rfl rfl rfl (by constructor <;> omega))) ?_
      refine wpR_q 12 (by kernel_rfl) rfl (quietAt rfl rfl (q_sub rfl rfl rfl (by constructor <;> omega))) ?_
      refine wpR_q 13 (by kernel_rfl) rfl (quietAt rfl rfl (q_fieldAddr rfl Try.underlying34 rfl Try.sizeOf3 a58_12)) ?_
      refine wpR_n [14] (by kernel_rfl) ?_
      refine List.forall_mem_cons.2 ⟨?_, List.forall_mem_nil _⟩
      refine exE rfl rfl ?_
      refine e_storeBlk (v := I ((wantT j (nth l k) j.To.length i) - ((nth ((nth l k).Of) i) * (nth (nth j.To i) j.To.length)))) rfl rfl rfl rfl Try.sizeOf3 (by show _ < 3; decide) (hS64o7.front 2 rfl) (fun H64o14 hS64o14 hxx => ?_)
      replace hS64o14 : St H0 NoB (fun b => S b ∧ b < H0.size) [blkE g49o7 (.cells #[v49o1, I ((nth l k).Kind), I ((wantT j (nth l k) j.To.length i) - ((nth ((nth l k).Of) i) * (nth (nth j.To i) j.To.length)))] 34), rdE u64o7 (nth j.To i : List Int), rowE 3 v49o1 (wantMid j (nth l k) j.To.length i v : List Int), blkE g43 (.cells #[u41n0, I ((nth l k).Kind), I ((nth l k).To)] 34), rdE u41n0 ((nth l k).Of : List Int), rowE 34 vo ((l.take k).map (wantRow j) : List LRow), blkE g4 (.cells #[I (0), I (0)] 27), blkE g1 (.cells #[vw, vt] 25), rdE vw (j.When : List LRow), rdE vt (j.To : List (List Int)), rdE vl (l : List LRow)] H64o14 := hS64o14
      refine ⟨Ext.mono hxx (labS_of 0 rfl (fun _ _ => trivial)), ?_⟩
      refine wpR_end (by kernel_rfl) ?_
      exact ⟨a58_2, a58_5, a58_6, a58_9, a58_10, a58_12, a58_40, a58_41, a58_42, a58_55, a58_56, a58_57, (hS64o14.drop (List.Sublist.cons_cons _ (List.Sublist.cons _ (List.Sublist.cons_cons _ (List.Sublist.cons_cons _ (List.Sublist.cons_cons _ (List.Sublist.cons_cons _ (List.Sublist.cons_cons _ (List.Sublist.cons_cons _ (List.Sublist.cons_cons _ (List.Sublist.cons_cons _ (List.Sublist.cons_cons _ (List.Sublist.slnil)))))))))))))⟩
    rintro f65 H65 ⟨a65_2, a65_5, a65_6, a65_9, a65_10, a65_12, a65_40, a65_41, a65_42, a65_55, a65_56, a65_57, hS65⟩
    clear a58_10 a58_12 a58_13 a58_14 a58_2 a58_40 a58_41 a58_42 a58_5 a58_55 a58_56 a58_57 a58_6 a58_62 a58_63 a58_64 a58_9
    refine wpF_cut (fun f H => f 2 = PT g1 0 ∧ f 5 = PT g4 0 ∧ f 6 = I ((j.To.length : Int)) ∧ f 9 = vo ∧ f 10 = I ((k : Int)) ∧ f 12 = PT g49o7 0 ∧ f 40 = vl ∧ f 41 = I ((l.length : Int)) ∧ f 42 = I ((k : Int)) ∧ f 55 = u41n0 ∧ f 56 = I ((((nth l k).Of).length : Int)) ∧ f 57 = I ((i : Int) + 1) ∧ H65 = H) ?_ ?_
    · refine wpF_region ?_
      refine wpL_q (U := NoB) rfl (q_add rfl a65_57 rfl (by constructor <;> omega)) ?_
      refine wpL_q (U := NoB) rfl (q_move (v := I ((i : Int) + 1)) rfl rfl) ?_
      exact ⟨a65_2, a65_5, a65_6, a65_9, a65_10, a65_12, a65_40, a65_41, a65_42, a65_55, a65_56, rfl, rfl⟩
    rintro f66 _ ⟨a66_2, a66_5, a66_6, a66_9, a66_10, a66_12, a66_40, a66_41, a66_42, a66_55, a66_56, a66_57, rfl⟩
    clear a65_10 a65_12 a65_2 a65_40 a65_41 a65_42 a65_5 a65_55 a65_56 a65_57 a65_6 a65_9
    refine ⟨_, ?_, i + 1, rfl, (by omega), a66_2, a66_5, a66_6, a66_9, a66_10, a66_12, a66_40, a66_41, a66_42, a66_55, a66_56, (Eq.trans a66_57 (congrArg I (by omega))), (show St H0 NoB (fun b => S b ∧ b < H0.size) [rowE 3 v49o1 (wantMid j (nth l k) j.To.length (i + 1) 0 : List Int), blkE g49o7 (.cells #[v49o1, I ((nth l k).Kind), I (wantT j (nth l k) j.To.length (i + 1))] 34), blkE g43 (.cells #[u41n0, I ((nth l k).Kind), I ((nth l k).To)] 34), rdE u41n0 ((nth l k).Of : List Int), rowE 34 vo ((l.take k).map (wantRow j) : List LRow), blkE g4 (.cells #[I (0), I (0)] 27), blkE g1 (.cells #[vw, vt] 25), rdE vw (j.When : List LRow), rdE vt (j.To : List (List Int)), rdE vl (l : List LRow)] H65 from (by have h__ := (St.drop (show St H0 NoB (fun b => S b ∧ b < H0.size) [rowE 3 v49o1 (wantMid j (nth l k) j.To.length i v : List Int), blkE g49o7 (.cells #[v49o1, I ((nth l k).Kind), I ((wantT j (nth l k) j.To.length i) - ((nth ((nth l k).Of) i) * (nth (nth j.To i) j.To.length)))] 34), blkE g43 (.cells #[u41n0, I ((nth l k).Kind), I ((nth l k).To)] 34), rdE u41n0 ((nth l k).Of : List Int), rowE 34 vo ((l.take k).map (wantRow j) : List LRow), blkE g4 (.cells #[I (0), I (0)] 27), blkE g1 (.cells #[vw, vt] 25), rdE vw (j.When : List LRow), rdE vt (j.To : List (List Int)), rdE vl (l : List LRow)] H65 from ((((((((((hS65.front 9 rfl).front 9 rfl).front 9 rfl).front 9 rfl).front 9 rfl).front 9 rfl).front 9 rfl).front 9 rfl).front 8 rfl).front 9 rfl)) (List.Sublist.cons_cons _ (List.Sublist.cons_cons _ (List.Sublist.cons_cons _ (List.Sublist.cons_cons _ (List.Sublist.cons_cons _ (List.Sublist.cons_cons _ (List.Sublist.cons_cons _ (List.Sublist.cons_cons _ (List.Sublist.cons_cons _ (List.Sublist.cons_cons _ (List.Sublist.slnil)))))))))))); rw [hvn, wantMid_end] at h__; exact h__))⟩
    omega
  have hvn : v < j.To.length := by omega
  have hat := hj.at_ (i := i) (v := v) (by omega) (by omega)
  have hmb : -1000000000000 ≤ nth (nth l k).Of i * nth (nth j.To i) v ∧ nth (nth l k).Of i * nth (nth j.To i) v ≤ 1000000000000 := wantG_bound hj hr hN8 (by omega) (by omega)
  have hsb := wantS_bound (v := v) (i := i) hj hr hN8 (by omega) (by omega)
  have htb := wantT_bound (v := v) (i := i) hj hr hN8 (by omega) (by omega)
  have hwn := wantMid_nth (j := j) (r := nth l k) (i := i) hvn
  have hwl := wantMid_len (j := j) (r := nth l k) (n := j.To.length) (i := i) (v := v)
  refine wpF_skip ?_
  refine wpF_seq ?_
  refine wpF_block ?_
  refine wpF_seq ?_
  refine wpF_cut (fun f H => f 2 = PT g1 0 ∧ f 5 = PT g4 0 ∧ f 6 = I ((j.To.length : Int)) ∧ f 9 = vo ∧ f 10 = I ((k : Int)) ∧ f 12 = PT g49o7 0 ∧ f 13 = I ((i : Int)) ∧ f 14 = I (nth ((nth l k).Of) i) ∧ f 15 = I ((v : Int)) ∧ f 40 = vl ∧ f 41 = I ((l.length : Int)) ∧ f 42 = I ((k : Int)) ∧ f 55 = u41n0 ∧ f 56 = I ((((nth l k).Of).length : Int)) ∧ f 57 = I ((i : Int)) ∧ f 62 = I ((j.To.length : Int)) ∧ f 63 = I ((v : Int)) ∧ H57 = H) ?_ ?_
  · refine wpF_region ?_
    refine wpL_q (U := NoB) rfl (q_move (v := I ((v : Int))) rfl a58_63) ?_
    refine wpL_q (U := NoB) rfl (q_assign (v := I ((v : Int))) rfl rfl) ?_
    exact ⟨a58_2, a58_5, a58_6, a58_9, a58_10, a58_12, a58_13, a58_14, rfl, a58_40, a58_41, a58_42, a58_55, a58_56, a58_57, a58_62, a58_63, rfl⟩
  rintro f60 _ ⟨a60_2, a60_5, a60_6, a60_9, a60_10, a60_12, a60_13, a60_14, a60_15, a60_40, a60_41, a60_42, a60_55, a60_56, a60_57, a60_62, a60_63, rfl⟩
  clear a58_10 a58_12 a58_13 a58_14 a58_2 a58_40 a58_41 a58_42 a58_5 a58_55 a58_56 a58_57 a58_6 a58_62 a58_63 a58_64 a58_9
  obtain ⟨u61o10, huu61o10, hlu61o10⟩ := (Rd.list.1 (hS57.rdS 8 rfl)).elem i (by omega)
  have hS61o10 : St H0 NoB (fun b => S b ∧ b < H0.size) [rdE u61o10 (nth j.To i : List Int), rowE 3 v49o1 (wantMid j (nth l k) j.To.length i v : List Int), blkE g49o7 (.cells #[v49o1, I ((nth l k).Kind), I (wantT j (nth l k) j.To.length i)] 34), blkE g43 (.cells #[u41n0, I ((nth l k).Kind), I ((nth l k).To)] 34), rdE u41n0 ((nth l k).Of : List Int), rowE 34 vo ((l.take k).map (wantRow j) : List LRow), blkE g4 (.cells #[I (0), I (0)] 27), blkE g1 (.cells #[vw, vt] 25), rdE vw (j.When : List LRow), rdE vt (j.To : List (List Int)), rdE vl (l : List LRow)] H57 := hS57.rd huu61o10
  refine wpF_cut (fun f H => f 2 = PT g1 0 ∧ f 5 = PT g4 0 ∧ f 6 = I ((j.To.length : Int)) ∧ f 9 = vo ∧ f 10 = I ((k : Int)) ∧ f 12 = PT g49o7 0 ∧ f 13 = I ((i : Int)) ∧ f 14 = I (nth ((nth l k).Of) i) ∧ f 40 = vl ∧ f 41 = I ((l.length : Int)) ∧ f 42 = I ((k : Int)) ∧ f 55 = u41n0 ∧ f 56 = I ((((nth l k).Of).length : Int)) ∧ f 57 = I ((i : Int)) ∧ f 62 = I ((j.To.length : Int)) ∧ f 63 = I ((v : Int)) ∧ St H0 NoB (fun b => S b ∧ b < H0.size) [rowE 3 v49o1 ((wantMid j (nth l k) j.To.length i v).set v ((nth (wantMid j (nth l k) j.To.length i v) v) + ((nth ((nth l k).Of) i) * (nth (nth j.To i) v))) : List Int), blkE g49o7 (.cells #[v49o1, I ((nth l k).Kind), I (wantT j (nth l k) j.To.length i)] 34), blkE g43 (.cells #[u41n0, I ((nth l k).Kind), I ((nth l k).To)] 34), rdE u41n0 ((nth l k).Of : List Int), rowE 34 vo ((l.take k).map (wantRow j) : List LRow), blkE g4 (.cells #[I (0), I (0)] 27), blkE g1 (.cells #[vw, vt] 25), rdE vw (j.When : List LRow), rdE vt (j.To : List (List Int)), rdE vl (l : List LRow)] H) ?_ ?_
  · refine wpF_drawn [none, none, none, none, none, none, none, none, none, none, none, none, none, none, none, none, none, some 0] [[], [], [], [], [], [], [], [], [], [], [], [], [], [], [], [], [], []] (fun l b => match l with | 0 => True | _ => False) (by kernel_rfl) (by kernel_rfl) ?_
    refine wpR_q 0 (by kernel_rfl) rfl (quietAt rfl rfl (q_fieldAddr rfl Try.underlying34 rfl Try.sizeOf32 a60_12)) ?_
    refine wpR_q 1 (by kernel_rfl) rfl (quietAt rfl rfl (q_loadBlk rfl rfl Try.isAgg32 (hS57.blk 1 rfl) rfl (labU_not [] rfl (List.forall_mem_nil _)))) ?_
    refine wpR_q 2 (by kernel_rfl) rfl (quietAt rfl rfl (q_move (v := I ((v : Int))) rfl a60_15)) ?_
    refine wpR_q 3 (by kernel_rfl) rfl (quietAt rfl rfl (q_indexRd (k := v) rfl Try.underlying32 el_Int_3_LoopW1 rfl rfl (hS57.rowl 0 rfl) (by omega) (by omega))) ?_
    refine wpR_q 4 (by kernel_rfl) rfl (quietAt rfl rfl (q_loadInt (k := v) rfl rfl el_Int_3_LoopW1 (hS57.rowl 0 rfl) (by omega) (labU_sub [] rfl (List.forall_mem_nil _)))) ?_
    refine wpR_q 5 (by kernel_rfl) rfl (quietAt rfl rfl (q_move (v := I (nth ((nth l k).Of) i)) rfl a60_14)) ?_
    refine wpR_q 6 (by kernel_rfl) rfl (quietAt rfl rfl (q_fieldAddr rfl Try.underlying25 rfl Try.sizeOf23 a60_2)) ?_
    refine wpR_q 7 (by kernel_rfl) rfl (quietAt rfl rfl (q_loadBlk rfl rfl Try.isAgg23 (hS57.blk 6 rfl) rfl (labU_not [] rfl (List.forall_mem_nil _)))) ?_
    refine wpR_q 8 (by kernel_rfl) rfl (quietAt rfl rfl (q_move (v := I ((i : Int))) rfl a60_13)) ?_
    refine wpR_q 9 (by kernel_rfl) rfl (quietAt rfl rfl (q_indexRd (k := i) rfl Try.underlying23 el_LInt_32_LoopW1 rfl rfl (hS57.rdl 8 rfl) (by omega) (by omega))) ?_
    refine wpR_q 10 (by kernel_rfl) rfl (quietAt rfl rfl (q_loadE rfl rfl (hlu61o10 Try.prog 32 _ el_LInt_32_LoopW1 (labU_sub [] rfl (List.forall_mem_nil _))))) ?_
    refine wpR_q 11 (by kernel_rfl) rfl (quietAt rfl rfl (q_move (v := I ((v : Int))) rfl a60_15)) ?_
    refine wpR_q 12 (by kernel_rfl) rfl (quietAt rfl rfl (q_indexRd (k := v) rfl Try.underlying32 el_Int_3_LoopW1 rfl rfl (hS61o10.rdl 0 rfl) (by omega) (by omega))) ?_
    refine wpR_q 13 (by kernel_rfl) rfl (quietAt rfl rfl (q_loadInt (k := v) rfl rfl el_Int_3_LoopW1 (hS61o10.rdl 0 rfl) (by omega) (labU_sub [] rfl (List.forall_mem_nil _)))) ?_
    refine wpR_q 14 (by kernel_rfl) rfl (quietAt rfl rfl (q_mul rfl rfl rfl (by constructor <;> omega))) ?_
    refine wpR_q 15 (by kernel_rfl) rfl (quietAt rfl rfl (q_add rfl rfl rfl (by constructor <;> omega))) ?_
    refine wpR_q 16 (by kernel_rfl) rfl (quietAt rfl rfl (q_indexRd (k := v) rfl Try.underlying32 el_Int_3_LoopW1 rfl rfl (hS61o10.rowl 1 rfl) (by omega) (by omega))) ?_
    refine wpR_n [17] (by kernel_rfl) ?_
    refine List.forall_mem_cons.2 ⟨?_, List.forall_mem_nil _⟩
    have hS61o17 : St H0 NoB (fun b => S b ∧ b < H0.size) [rowE 3 v49o1 (wantMid j (nth l k) j.To.length i v : List Int), rdE u61o10 (nth j.To i : List Int), blkE g49o7 (.cells #[v49o1, I ((nth l k).Kind), I (wantT j (nth l k) j.To.length i)] 34), blkE g43 (.cells #[u41n0, I ((nth l k).Kind), I ((nth l k).To)] 34), rdE u41n0 ((nth l k).Of : List Int), rowE 34 vo ((l.take k).map (wantRow j) : List LRow), blkE g4 (.cells #[I (0), I (0)] 27), blkE g1 (.cells #[vw, vt] 25), rdE vw (j.When : List LRow), rdE vt (j.To : List (List Int)), rdE vl (l : List LRow)] H57 := (hS61o10.front 1 rfl)
    refine exE rfl rfl ?_
    refine e_rowSet (k := v) (u := I ((nth (wantMid j (nth l k) j.To.length i v) v) + ((nth ((nth l k).Of) i) * (nth (nth j.To i) v)))) rfl rfl rfl rfl Try.sizeOf3 (by first | (simp; omega) | omega) hS61o17 (Rd.int.2 ⟨rfl, by constructor <;> omega⟩) (fun H61o17 hS61o17x2 hxx => ?_)
    replace hS61o17x2 : St H0 NoB (fun b => S b ∧ b < H0.size) [rowE 3 v49o1 ((wantMid j (nth l k) j.To.length i v).set v ((nth (wantMid j (nth l k) j.To.length i v) v) + ((nth ((nth l k).Of) i) * (nth (nth j.To i) v))) : List Int), rdE u61o10 (nth j.To i : List Int), blkE g49o7 (.cells #[v49o1, I ((nth l k).Kind), I (wantT j (nth l k) j.To.length i)] 34), blkE g43 (.cells #[u41n0, I ((nth l k).Kind), I ((nth l k).To)] 34), rdE u41n0 ((nth l k).Of : List Int), rowE 34 vo ((l.take k).map (wantRow j) : List LRow), blkE g4 (.cells #[I (0), I (0)] 27), blkE g1 (.cells #[vw, vt] 25), rdE vw (j.When : List LRow), rdE vt (j.To : List (List Int)), rdE vl (l : List LRow)] H61o17 := hS61o17x2
    refine ⟨Ext.mono hxx (labS_of 0 rfl (fun _ _ => trivial)), ?_⟩
    refine wpR_end (by kernel_rfl) ?_
    exact ⟨a60_2, a60_5, a60_6, a60_9, a60_10, a60_12, a60_13, a60_14, a60_40, a60_41, a60_42, a60_55, a60_56, a60_57, a60_62, a60_63, (hS61o17x2.drop (List.Sublist.cons_cons _ (List.Sublist.cons _ (List.Sublist.cons_cons _ (List.Sublist.cons_cons _ (List.Sublist.cons_cons _ (List.Sublist.cons_cons _ (List.Sublist.cons_cons _ (List.Sublist.cons_cons _ (List.Sublist.cons_cons _ (List.Sublist.cons_cons _ (List.Sublist.cons_cons _ (List.Sublist.slnil)))))))))))))⟩
  rintro f62 H62 ⟨a62_2, a62_5, a62_6, a62_9, a62_10, a62_12, a62_13, a62_14, a62_40, a62_41, a62_42, a62_55, a62_56, a62_57, a62_62, a62_63, hS62⟩
  clear a60_10 a60_12 a60_13 a60_14 a60_15 a60_2 a60_40 a60_41 a60_42 a60_5 a60_55 a60_56 a60_57 a60_6 a60_62 a60_63 a60_9
  refine wpF_cut (fun f H => f 2 = PT g1 0 ∧ f 5 = PT g4 0 ∧ f 6 = I ((j.To.length : Int)) ∧ f 9 = vo ∧ f 10 = I ((k : Int)) ∧ f 12 = PT g49o7 0 ∧ f 13 = I ((i : Int)) ∧ f 14 = I (nth ((nth l k).Of) i) ∧ f 40 = vl ∧ f 41 = I ((l.length : Int)) ∧ f 42 = I ((k : Int)) ∧ f 55 = u41n0 ∧ f 56 = I ((((nth l k).Of).length : Int)) ∧ f 57 = I ((i : Int)) ∧ f 62 = I ((j.To.length : Int)) ∧ f 63 = I ((v : Int) + 1) ∧ H62 = H) ?_ ?_
  · refine wpF_region ?_
    refine wpL_q (U := NoB) rfl (q_add rfl a62_63 rfl (by constructor <;> omega)) ?_
    refine wpL_q (U := NoB) rfl (q_move (v := I ((v : Int) + 1)) rfl rfl) ?_
    exact ⟨a62_2, a62_5, a62_6, a62_9, a62_10, a62_12, a62_13, a62_14, a62_40, a62_41, a62_42, a62_55, a62_56, a62_57, a62_62, rfl, rfl⟩
  rintro f63 _ ⟨a63_2, a63_5, a63_6, a63_9, a63_10, a63_12, a63_13, a63_14, a63_40, a63_41, a63_42, a63_55, a63_56, a63_57, a63_62, a63_63, rfl⟩
  clear a62_10 a62_12 a62_13 a62_14 a62_2 a62_40 a62_41 a62_42 a62_5 a62_55 a62_56 a62_57 a62_6 a62_62 a62_63 a62_9
  refine ⟨_, ?_, v + 1, rfl, (by omega), a63_2, a63_5, a63_6, a63_9, a63_10, a63_12, a63_13, a63_14, a63_40, a63_41, a63_42, a63_55, a63_56, a63_57, a63_62, (Eq.trans a63_63 (congrArg I (by omega))), (show St H0 NoB (fun b => S b ∧ b < H0.size) [rowE 3 v49o1 (wantMid j (nth l k) j.To.length i (v + 1) : List Int), blkE g49o7 (.cells #[v49o1, I ((nth l k).Kind), I (wantT j (nth l k) j.To.length i)] 34), blkE g43 (.cells #[u41n0, I ((nth l k).Kind), I ((nth l k).To)] 34), rdE u41n0 ((nth l k).Of : List Int), rowE 34 vo ((l.take k).map (wantRow j) : List LRow), blkE g4 (.cells #[I (0), I (0)] 27), blkE g1 (.cells #[vw, vt] 25), rdE vw (j.When : List LRow), rdE vt (j.To : List (List Int)), rdE vl (l : List LRow)] H62 from (by have h__ := hS62; rw [wantMid_set2 hvn] at h__; exact h__))⟩
  omega

end Go.Um
