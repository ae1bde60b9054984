import Derived.Test.YtkhpaklglggagaaProg
import Derived.Test.YtkhpaklglggagaaAutoP2
import Derived.Test.YtkhpaklglggagaaAutoProd
import Derived.Test.YtkhpaklglggagaaUmSub
namespace Go.Um
open Go.Proofs
open GoT (sz ag rdc)
open KeyT (kv)

theorem el_IntInt_87_AutoP3 : ElT Try.prog (Int × Int) 87 := ⟨Try.isAgg87, Try.sizeOf87⟩
theorem em_Bool_4_AutoP3 : ElemOk Try.prog Bool 4 := ⟨Try.t4, (.bool false), by kernel_rfl, by kernel_rfl, by kernel_rfl, by kernel_rfl, by kernel_rfl⟩
theorem em_Int_3_AutoP3 : ElemOk Try.prog Int 3 := ⟨Try.t3, (.int .i64 0), by kernel_rfl, by kernel_rfl, by kernel_rfl, by kernel_rfl, by kernel_rfl⟩
theorem em_LInt_22_AutoP3 : ElemOk Try.prog (List Int) 22 := ⟨Try.t22, (.slice none 0 0), by kernel_rfl, by kernel_rfl, by kernel_rfl, by kernel_rfl, by kernel_rfl⟩
theorem keyLaw_pair_87_AutoP3 : KeyLaw Try.prog 87 (Int × Int) := keyLaw_pair (i := Try.t3) Try.underlying87 Try.underlying3 Try.isAgg3 Try.sizeOf3 (by kernel_rfl) (by kernel_rfl)

set_option maxHeartbeats 1000000 in
set_option maxRecDepth 100000 in
theorem built_P {H0 : Heap} {S : Nat → Prop} (vf vk : Value) (s : Int × Int) (sg : Nat) (nx : Int × Int → Int → Int × Int) (tk : Int × Int → Bool) (inv : Int × Int → Prop) (h0 : inv s) (hin : ∀ (x : Int × Int) (c : Int), inv x → 0 ≤ c → c < (sg : Int) → inv (nx x c)) (h64 : ∀ x, inv x → In64 x.1 ∧ In64 x.2) (hfew : ∀ L : List (Int × Int), L.Nodup → (∀ x ∈ L, inv x) → L.length ≤ 2000) (hsg : sg ≤ 1000) (hf : ∀ (x : Int × Int) (c : Int), inv x → 0 ≤ c → c < (sg : Int) → ∀ H, Ext NoB H0 H → FnH Try.prog vf #[Value.agg #[I x.1, I x.2], I c] H (fun rv H' => Ext NoB H H' ∧ rv = Value.agg #[I (nx x c).1, I (nx x c).2])) (hk : ∀ x, inv x → ∀ H, Ext NoB H0 H → FnH Try.prog vk #[Value.agg #[I x.1, I x.2]] H (fun rv H' => Ext NoB H H' ∧ rv = B (tk x))) : CallsH Try.prog 74 #[Value.agg #[I (s.1), I (s.2)], I ((sg : Int)), vf, vk] H0 (fun rv_ H' => Ext NoB H0 H' ∧ ∃ w1_ w2_, rv_ = Value.agg #[I (sg : Int), w1_, w2_] ∧ Rd (fun b => S b ∧ b < H0.size) H' w1_ (builtA nx sg (endL nx sg s) tk).Next ∧ Rd (fun b => S b ∧ b < H0.size) H' w2_ (builtA nx sg (endL nx sg s) tk).Takes) := by
  have h6s := h64 _ h0
  have hS0 : St H0 NoB (fun b => S b ∧ b < H0.size) [] H0 := St.start (fun _ h => h.2)
  refine callsH_of_wpF (args := [Value.agg #[I (s.1), I (s.2)], I ((sg : Int)), vf, vk]) (rs := [.cell 8 36]) Try.func74 rfl Try.ntmps74 Try.results74 (by kernel_rfl) (Nat.le_of_ble_eq_true rfl) ?_
  have a0_0 : argF [Value.agg #[I (s.1), I (s.2)], I ((sg : Int)), vf, vk] 0 = Value.agg #[I (s.1), I (s.2)] := rfl
  have a0_1 : argF [Value.agg #[I (s.1), I (s.2)], I ((sg : Int)), vf, vk] 1 = I ((sg : Int)) := rfl
  have a0_2 : argF [Value.agg #[I (s.1), I (s.2)], I ((sg : Int)), vf, vk] 2 = vf := rfl
  have a0_3 : argF [Value.agg #[I (s.1), I (s.2)], I ((sg : Int)), vf, vk] 3 = vk := rfl
  generalize argF [Value.agg #[I (s.1), I (s.2)], I ((sg : Int)), vf, vk] = f0 at *
  refine wpF_seq ?_
  refine wpF_cut (fun f H => ∃ (g1 : Nat), ∃ (g4 : Nat), f 1 = I ((sg : Int)) ∧ f 2 = vf ∧ f 3 = vk ∧ f 4 = PT g1 0 ∧ f 8 = PT g4 0 ∧ St H0 NoB (fun b => S b ∧ b < H0.size) [blkE g4 (.cells #[I (0), (Value.slice none 0 0), (Value.slice none 0 0)] 36), blkE g1 (.cells #[I (s.1), I (s.2)] 87)] H) ?_ ?_
  · refine wpF_region ?_
    refine wpL_o rfl ?_
    refine e_box (v := Value.agg #[I (s.1), I (s.2)]) rfl a0_0 hS0 (fun g1 H2 hS3 hxx => ?_)
    replace hS3 : St H0 NoB (fun b => S b ∧ b < H0.size) [blkE g1 (.cells #[I (s.1), I (s.2)] 87)] H2 := hS3
    refine wpL_o rfl ?_
    refine e_alloc rfl Try.zeroValue36 hS3 (fun g4 H5 hS6 hxx => ?_)
    replace hS6 : St H0 NoB (fun b => S b ∧ b < H0.size) [blkE g4 (.cells #[I (0), (Value.slice none 0 0), (Value.slice none 0 0)] 36), blkE g1 (.cells #[I (s.1), I (s.2)] 87)] H5 := hS6
    exact ⟨g1, g4, a0_1, a0_2, a0_3, rfl, rfl, hS6⟩
  rintro f7 H7 ⟨g1, g4, a7_1, a7_2, a7_3, a7_4, a7_8, hS7⟩
  clear a0_0 a0_1 a0_2 a0_3
  refine wpF_seq ?_
  refine wpF_cut (fun f H => ∃ (v8 : Value), ∃ (r9 : Nat), ∃ (m10 : List ((Int × Int) × Int)), ∃ (i11 : Nat), (Ended nx sg s i11) ∧ (Nums (bfs nx sg s i11) (mget m10)) ∧ f 1 = I ((sg : Int)) ∧ f 2 = vf ∧ f 3 = vk ∧ f 8 = PT g4 0 ∧ f 9 = v8 ∧ f 10 = (Value.map (some r9)) ∧ St H0 NoB (fun b => S b ∧ b < H0.size) [rdE v8 (bfs nx sg s i11), mapE r9 (m10 : List ((Int × Int) × Int)), blkE g4 (.cells #[I (0), (Value.slice none 0 0), (Value.slice none 0 0)] 36), blkE g1 (.cells #[I (s.1), I (s.2)] 87)] H) ?_ ?_
  · refine wpF_region ?_
    refine wpL_q (U := NoB) rfl (q_loadBlkA rfl a7_4 Try.isAgg87 Try.sizeOf87 rfl (hS7.blk 1 rfl) (fun h => h)) ?_
    refine wpL_q (U := NoB) rfl (q_move (v := I ((sg : Int))) rfl a7_1) ?_
    refine wpL_q (U := NoB) rfl (q_move (v := vf) rfl a7_2) ?_
    refine wpL_o rfl ?_
    refine e_call rfl Try.call60 (arr3 (v0 := Value.agg #[I (s.1), I (s.2)]) (v1 := I ((sg : Int))) (v2 := vf) rfl rfl rfl) (found_Pw (S := SL (fun b => S b ∧ b < H0.size) [blkE g4 (.cells #[I (0), (Value.slice none 0 0), (Value.slice none 0 0)] 36), blkE g1 (.cells #[I (s.1), I (s.2)] 87)]) vf s sg nx inv (sg : Int) rfl h0 hin h64 hfew hsg (fun x c h1 h2 h3 H hE => hf x c h1 h2 h3 H (hS7.frame.trans hE))) ?_
    rintro _ H12 ⟨hxx, v8, r9, m10, i11, rfl, hEm10, hNm10, hok, hge⟩
    have hS13 : St H0 NoB (fun b => S b ∧ b < H0.size) [rdE v8 (bfs nx sg s i11), mapE r9 (m10 : List ((Int × Int) × Int)), blkE g4 (.cells #[I (0), (Value.slice none 0 0), (Value.slice none 0 0)] 36), blkE g1 (.cells #[I (s.1), I (s.2)] 87)] H12 := St.got (A' := [rdE v8 (bfs nx sg s i11), mapE r9 (m10 : List ((Int × Int) × Int))]) hS7 hxx hok hge (pw2 (fun b h1 h2 => h1.elim))
    refine wpL_q (U := NoB) rfl (q_move (v := Value.tuple #[v8, (Value.map (some r9))]) rfl rfl) ?_
    refine wpL_q (U := NoB) rfl (q_extract (vs := #[v8, (Value.map (some r9))]) (v := v8) rfl rfl rfl) ?_
    refine wpL_q (U := NoB) rfl (q_extract (vs := #[v8, (Value.map (some r9))]) (v := (Value.map (some r9))) rfl rfl rfl) ?_
    refine wpL_q (U := NoB) rfl (q_assign (v := v8) rfl rfl) ?_
    refine wpL_q (U := NoB) rfl (q_assign (v := (Value.map (some r9))) rfl rfl) ?_
    exact ⟨v8, r9, m10, i11, hEm10, hNm10, a7_1, a7_2, a7_3, a7_8, rfl, rfl, hS13⟩
  rintro f15 H15 ⟨v8, r9, m10, i11, hEm10, hNm10, a15_1, a15_2, a15_3, a15_8, a15_9, a15_10, hS15⟩
  clear a7_1 a7_2 a7_3 a7_4 a7_8
  have hLe : endL nx sg s = bfs nx sg s i11 := hEm10.endL
  have hnod : (bfs nx sg s i11).Nodup := bfs_nodup i11
  have hallL := hEm10.all h0 hin
  have hclo := fun x (hx : x ∈ bfs nx sg s i11) (c : Nat) (hc : c < sg) => hEm10.closed hx hc
  have hlenL := hfew _ hnod hallL
  have hnm := hNm10
  generalize bfs nx sg s i11 = L at *
  generalize m10 = mm at *
  refine wpF_seq ?_
  refine wpF_cut (fun f H => ∃ (g17 : Nat), f 1 = I ((sg : Int)) ∧ f 2 = vf ∧ f 3 = vk ∧ f 8 = PT g4 0 ∧ f 9 = v8 ∧ f 10 = (Value.map (some r9)) ∧ f 11 = PT g17 0 ∧ St H0 NoB (fun b => S b ∧ b < H0.size) [blkE g17 (.cells #[I ((sg : Int)), (Value.slice none 0 0), (Value.slice none 0 0)] 36), rdE v8 L, mapE r9 (mm : List ((Int × Int) × Int)), blkE g4 (.cells #[I (0), (Value.slice none 0 0), (Value.slice none 0 0)] 36), blkE g1 (.cells #[I (s.1), I (s.2)] 87)] H) ?_ ?_
  · refine wpF_region ?_
    refine wpL_q (U := NoB) rfl (q_move (v := I ((sg : Int))) rfl a15_1) ?_
    refine wpL_q (U := NoB) rfl (q_build (v := Value.agg #[I ((sg : Int)), (Value.slice none 0 0), (Value.slice none 0 0)]) rfl (par1 (v0 := I ((sg : Int))) rfl) (fun w => by kernel_rfl)) ?_
    refine wpL_o rfl ?_
    refine e_alloc rfl Try.zeroValue36 hS15 (fun g17 H18 hS19 hxx => ?_)
    replace hS19 : St H0 NoB (fun b => S b ∧ b < H0.size) [blkE g17 (.cells #[I (0), (Value.slice none 0 0), (Value.slice none 0 0)] 36), rdE v8 L, mapE r9 (mm : List ((Int × Int) × Int)), blkE g4 (.cells #[I (0), (Value.slice none 0 0), (Value.slice none 0 0)] 36), blkE g1 (.cells #[I (s.1), I (s.2)] 87)] H18 := hS19
    refine wpL_o rfl ?_
    refine e_storeBlkA (cs' := #[I ((sg : Int)), (Value.slice none 0 0), (Value.slice none 0 0)]) rfl rfl rfl Try.sizeOf36 rfl rfl (List.forall_mem_cons.2 ⟨rfl, List.forall_mem_cons.2 ⟨rfl, List.forall_mem_cons.2 ⟨rfl, List.forall_mem_nil _⟩⟩⟩) hS19 (fun H20 hS21 hxx => ?_)
    replace hS21 : St H0 NoB (fun b => S b ∧ b < H0.size) [blkE g17 (.cells #[I ((sg : Int)), (Value.slice none 0 0), (Value.slice none 0 0)] 36), rdE v8 L, mapE r9 (mm : List ((Int × Int) × Int)), blkE g4 (.cells #[I (0), (Value.slice none 0 0), (Value.slice none 0 0)] 36), blkE g1 (.cells #[I (s.1), I (s.2)] 87)] H20 := hS21
    exact ⟨g17, a15_1, a15_2, a15_3, a15_8, a15_9, a15_10, rfl, hS21⟩
  rintro f22 H22 ⟨g17, a22_1, a22_2, a22_3, a22_8, a22_9, a22_10, a22_11, hS22⟩
  clear a15_1 a15_10 a15_2 a15_3 a15_8 a15_9
  have hS23 : St H0 NoB (fun b => S b ∧ b < H0.size) [rowE 22 (Value.slice none 0 0) ([] : List (List Int)), blkE g17 (.cells #[I ((sg : Int)), (Value.slice none 0 0), (Value.slice none 0 0)] 36), rdE v8 L, mapE r9 (mm : List ((Int × Int) × Int)), blkE g4 (.cells #[I (0), (Value.slice none 0 0), (Value.slice none 0 0)] 36), blkE g1 (.cells #[I (s.1), I (s.2)] 87)] H22 := hS22.row0 22
  have hS24 : St H0 NoB (fun b => S b ∧ b < H0.size) [rowE 4 (Value.slice none 0 0) ([] : List Bool), rowE 22 (Value.slice none 0 0) ([] : List (List Int)), blkE g17 (.cells #[I ((sg : Int)), (Value.slice none 0 0), (Value.slice none 0 0)] 36), rdE v8 L, mapE r9 (mm : List ((Int × Int) × Int)), blkE g4 (.cells #[I (0), (Value.slice none 0 0), (Value.slice none 0 0)] 36), blkE g1 (.cells #[I (s.1), I (s.2)] 87)] H22 := hS23.row0 4
  refine wpF_seq ?_
  refine wpF_seq ?_
  refine wpF_cut (fun f H => f 1 = I ((sg : Int)) ∧ f 2 = vf ∧ f 3 = vk ∧ f 8 = PT g4 0 ∧ f 10 = (Value.map (some r9)) ∧ f 11 = PT g17 0 ∧ f 25 = v8 ∧ f 26 = I ((L.length : Int)) ∧ f 27 = I (0) ∧ H22 = H) ?_ ?_
  · refine wpF_region ?_
    refine wpL_q (U := NoB) rfl (q_move (v := v8) rfl a22_9) ?_
    refine wpL_q (U := NoB) rfl (q_lenRd rfl Try.underlying83 rfl (hS24.rdl 3 rfl)) ?_
    refine wpL_q (U := NoB) rfl (q_move (v := I (0)) rfl rfl) ?_
    exact ⟨a22_1, a22_2, a22_3, a22_8, a22_10, a22_11, rfl, rfl, rfl, rfl⟩
  rintro f25 _ ⟨a25_1, a25_2, a25_3, a25_8, a25_10, a25_11, a25_25, a25_26, a25_27, rfl⟩
  clear a22_1 a22_10 a22_11 a22_2 a22_3 a22_8 a22_9
  refine wpF_block ?_
  refine wpF_loop (fun mz f H => ∃ (i : Nat), ∃ (v1 : Value), ∃ (v2 : Value), mz = L.length - i ∧ (i ≤ L.length) ∧ f 1 = I ((sg : Int)) ∧ f 2 = vf ∧ f 3 = vk ∧ f 8 = PT g4 0 ∧ f 10 = (Value.map (some r9)) ∧ f 11 = PT g17 0 ∧ f 25 = v8 ∧ f 26 = I ((L.length : Int)) ∧ f 27 = I ((i : Int)) ∧ St H0 NoB (fun b => S b ∧ b < H0.size) [rowE 22 v1 ((L.take i).map fun x => rowM (mget mm) nx x sg : List (List Int)), rowE 4 v2 ((L.take i).map tk : List Bool), blkE g17 (.cells #[I ((sg : Int)), v1, v2] 36), rdE v8 L, mapE r9 (mm : List ((Int × Int) × Int)), blkE g4 (.cells #[I (0), (Value.slice none 0 0), (Value.slice none 0 0)] 36), blkE g1 (.cells #[I (s.1), I (s.2)] 87)] H) (L.length - 0) ?_ ?_
  · exact ⟨0, (Value.slice none 0 0), (Value.slice none 0 0), rfl, Nat.zero_le _, a25_1, a25_2, a25_3, a25_8, a25_10, a25_11, a25_25, a25_26, (Eq.trans a25_27 (congrArg I (by omega))), (show St H0 NoB (fun b => S b ∧ b < H0.size) [rowE 22 (Value.slice none 0 0) ((L.take 0).map fun x => rowM (mget mm) nx x sg : List (List Int)), rowE 4 (Value.slice none 0 0) ((L.take 0).map tk : List Bool), blkE g17 (.cells #[I ((sg : Int)), (Value.slice none 0 0), (Value.slice none 0 0)] 36), rdE v8 L, mapE r9 (mm : List ((Int × Int) × Int)), blkE g4 (.cells #[I (0), (Value.slice none 0 0), (Value.slice none 0 0)] 36), blkE g1 (.cells #[I (s.1), I (s.2)] 87)] H22 from (St.drop (show St H0 NoB (fun b => S b ∧ b < H0.size) [rowE 22 (Value.slice none 0 0) ([] : List (List Int)), rowE 4 (Value.slice none 0 0) ([] : List Bool), blkE g17 (.cells #[I ((sg : Int)), (Value.slice none 0 0), (Value.slice none 0 0)] 36), rdE v8 L, mapE r9 (mm : List ((Int × Int) × Int)), blkE g4 (.cells #[I (0), (Value.slice none 0 0), (Value.slice none 0 0)] 36), blkE g1 (.cells #[I (s.1), I (s.2)] 87)] H22 from (hS24.front 1 rfl)) (sk (sk (sk (sk (sk (sk (sk (List.Sublist.slnil))))))))))⟩
  intro m26 f26 H26 hI26
  obtain ⟨i, v1, v2, hm26, hi, a26_1, a26_2, a26_3, a26_8, a26_10, a26_11, a26_25, a26_26, a26_27, hS26⟩ := hI26
  clear a25_1 a25_10 a25_11 a25_2 a25_25 a25_26 a25_27 a25_3 a25_8
  refine wpF_seq ?_
  refine wpF_cut (fun f H => f 1 = I ((sg : Int)) ∧ f 2 = vf ∧ f 3 = vk ∧ f 8 = PT g4 0 ∧ f 10 = (Value.map (some r9)) ∧ f 11 = PT g17 0 ∧ f 25 = v8 ∧ f 26 = I ((L.length : Int)) ∧ f 27 = I ((i : Int)) ∧ f 28 = B (decide ((i : Int) < (L.length : Int))) ∧ H26 = H) ?_ ?_
  · refine wpF_region ?_
    refine wpL_q (U := NoB) rfl (q_lss rfl a26_27 a26_26) ?_
    exact ⟨a26_1, a26_2, a26_3, a26_8, a26_10, a26_11, a26_25, a26_26, a26_27, rfl, rfl⟩
  rintro f27 _ ⟨a27_1, a27_2, a27_3, a27_8, a27_10, a27_11, a27_25, a27_26, a27_27, a27_28, rfl⟩
  clear a26_1 a26_10 a26_11 a26_2 a26_25 a26_26 a26_27 a26_3 a26_8
  refine wpF_seq ?_
  refine wpF_condP a27_28 (fun hlt => ?t67) (fun hlt => ?e67)
  case e67 =>
    refine wpF_exit ?_
    refine atX_here ?_
    refine wpF_seq ?_
    refine wpF_cut (fun f H => f 8 = PT g4 0 ∧ St H0 NoB (fun b => S b ∧ b < H0.size) [blkE g4 (.cells #[I ((sg : Int)), v1, v2] 36), rowE 22 v1 ((L.take i).map fun x => rowM (mget mm) nx x sg : List (List Int)), rowE 4 v2 ((L.take i).map tk : List Bool), blkE g17 (.cells #[I ((sg : Int)), v1, v2] 36), mapE r9 (mm : List ((Int × Int) × Int)), blkE g1 (.cells #[I (s.1), I (s.2)] 87)] H) ?_ ?_
    · refine wpF_region ?_
      refine wpL_q (U := NoB) rfl (q_loadBlkA rfl a27_11 Try.isAgg36 Try.sizeOf36 rfl (hS26.blk 2 rfl) (fun h => h)) ?_
      refine wpL_o rfl ?_
      refine e_storeBlkA (cs' := #[I ((sg : Int)), v1, v2]) rfl a27_8 rfl Try.sizeOf36 rfl rfl (List.forall_mem_cons.2 ⟨rfl, List.forall_mem_cons.2 ⟨(oneCell_rdL (hS26.rowl 0 rfl)), List.forall_mem_cons.2 ⟨(oneCell_rdL (hS26.rowl 1 rfl)), List.forall_mem_nil _⟩⟩⟩) (hS26.front 5 rfl) (fun H62 hS63 hxx => ?_)
      replace hS63 : St H0 NoB (fun b => S b ∧ b < H0.size) [blkE g4 (.cells #[I ((sg : Int)), v1, v2] 36), rowE 22 v1 ((L.take i).map fun x => rowM (mget mm) nx x sg : List (List Int)), rowE 4 v2 ((L.take i).map tk : List Bool), blkE g17 (.cells #[I ((sg : Int)), v1, v2] 36), rdE v8 L, mapE r9 (mm : List ((Int × Int) × Int)), blkE g1 (.cells #[I (s.1), I (s.2)] 87)] H62 := hS63
      exact ⟨a27_8, (hS63.drop (sk (sk (sk (sk (sn (sk (sk (List.Sublist.slnil)))))))))⟩
    rintro f64 H64 ⟨a64_8, hS64⟩
    clear a27_1 a27_10 a27_11 a27_2 a27_25 a27_26 a27_27 a27_28 a27_3 a27_8
    refine wpF_ret ?_
    refine ⟨_, resC a64_8 (loadV_blkA Try.isAgg36 Try.sizeOf36 rfl (hS64.blk 0 rfl)) (resN), hS64.frame, ?_⟩
    show ∃ w1_ w2_, (Value.agg #[I ((sg : Int)), v1, v2]) = Value.agg #[I (sg : Int), w1_, w2_] ∧ Rd (fun b => S b ∧ b < H0.size) H64 w1_ (builtA nx sg (endL nx sg s) tk).Next ∧ Rd (fun b => S b ∧ b < H0.size) H64 w2_ (builtA nx sg (endL nx sg s) tk).Takes
    have hS65 : St H0 NoB (fun b => S b ∧ b < H0.size) [rdE v1 ((L.take i).map fun x => rowM (mget mm) nx x sg), blkE g4 (.cells #[I ((sg : Int)), v1, v2] 36), rowE 4 v2 ((L.take i).map tk : List Bool), blkE g17 (.cells #[I ((sg : Int)), v1, v2] 36), mapE r9 (mm : List ((Int × Int) × Int)), blkE g1 (.cells #[I (s.1), I (s.2)] 87)] H64 := St.fin (hS64.front 1 rfl)
    have hS66 : St H0 NoB (fun b => S b ∧ b < H0.size) [rdE v2 ((L.take i).map tk), rdE v1 ((L.take i).map fun x => rowM (mget mm) nx x sg), blkE g4 (.cells #[I ((sg : Int)), v1, v2] 36), blkE g17 (.cells #[I ((sg : Int)), v1, v2] 36), mapE r9 (mm : List ((Int × Int) × Int)), blkE g1 (.cells #[I (s.1), I (s.2)] 87)] H64 := St.fin (hS65.front 2 rfl)
    have hiL : i = L.length := by omega
    have hq1 : ((L.take i).map fun x => rowM (mget mm) nx x sg) = (builtA nx sg L tk).Next := by rw [List.take_of_length_le (by omega)]; exact List.map_congr_left fun x hx => rowM_eq hnm hnod (hclo x hx)
    have hq2 : ((L.take i).map tk) = (builtA nx sg L tk).Takes := by rw [List.take_of_length_le (by omega)]; rfl
    rw [hLe]
    exact ⟨v1, v2, rfl, by rw [← hq1]; exact (hS66.result (hS66.rdS 1 rfl)), by rw [← hq2]; exact (hS66.result (hS66.rdS 0 rfl))⟩
  have hil : i < L.length := by omega
  have hiX := hallL _ (nth_mem hil)
  have h6X := h64 _ hiX
  refine wpF_skip ?_
  refine wpF_seq ?_
  refine wpF_block ?_
  refine wpF_seq ?_
  refine wpF_cut (fun f H => ∃ (g30 : Nat), (In64 (nth L i).1) ∧ (In64 (nth L i).2) ∧ f 1 = I ((sg : Int)) ∧ f 2 = vf ∧ f 3 = vk ∧ f 8 = PT g4 0 ∧ f 10 = (Value.map (some r9)) ∧ f 11 = PT g17 0 ∧ f 13 = PT g30 0 ∧ f 25 = v8 ∧ f 26 = I ((L.length : Int)) ∧ f 27 = I ((i : Int)) ∧ St H0 NoB (fun b => S b ∧ b < H0.size) [blkE g30 (.cells #[I ((nth L i).1), I ((nth L i).2)] 87), rowE 22 v1 ((L.take i).map fun x => rowM (mget mm) nx x sg : List (List Int)), rowE 4 v2 ((L.take i).map tk : List Bool), blkE g17 (.cells #[I ((sg : Int)), v1, v2] 36), rdE v8 L, mapE r9 (mm : List ((Int × Int) × Int)), blkE g4 (.cells #[I (0), (Value.slice none 0 0), (Value.slice none 0 0)] 36), blkE g1 (.cells #[I (s.1), I (s.2)] 87)] H) ?_ ?_
  · refine wpF_region ?_
    refine wpL_q (U := NoB) rfl (q_indexRd (k := i) rfl Try.underlying83 el_IntInt_87_AutoP3 a27_25 a27_27 (hS26.rdl 3 rfl) (by omega) (by omega)) ?_
    obtain ⟨u29, huu29, hlu29⟩ := (Rd.list.1 (hS26.rdS 3 rfl)).elem i (by omega)
    obtain ⟨rfl, hu290, hu291⟩ := Rd.pair.1 huu29
    refine wpL_q (U := NoB) rfl (q_loadE rfl rfl (hlu29 Try.prog 87 _ el_IntInt_87_AutoP3 (fun _ h => False.elim h))) ?_
    refine wpL_o rfl ?_
    refine e_alloc rfl Try.zeroValue87 hS26 (fun g30 H31 hS32 hxx => ?_)
    replace hS32 : St H0 NoB (fun b => S b ∧ b < H0.size) [blkE g30 (.cells #[I (0), I (0)] 87), rowE 22 v1 ((L.take i).map fun x => rowM (mget mm) nx x sg : List (List Int)), rowE 4 v2 ((L.take i).map tk : List Bool), blkE g17 (.cells #[I ((sg : Int)), v1, v2] 36), rdE v8 L, mapE r9 (mm : List ((Int × Int) × Int)), blkE g4 (.cells #[I (0), (Value.slice none 0 0), (Value.slice none 0 0)] 36), blkE g1 (.cells #[I (s.1), I (s.2)] 87)] H31 := hS32
    refine wpL_o rfl ?_
    refine e_storeBlkA (cs' := #[I ((nth L i).1), I ((nth L i).2)]) rfl rfl rfl Try.sizeOf87 rfl rfl (List.forall_mem_cons.2 ⟨rfl, List.forall_mem_cons.2 ⟨rfl, List.forall_mem_nil _⟩⟩) hS32 (fun H33 hS34 hxx => ?_)
    replace hS34 : St H0 NoB (fun b => S b ∧ b < H0.size) [blkE g30 (.cells #[I ((nth L i).1), I ((nth L i).2)] 87), rowE 22 v1 ((L.take i).map fun x => rowM (mget mm) nx x sg : List (List Int)), rowE 4 v2 ((L.take i).map tk : List Bool), blkE g17 (.cells #[I ((sg : Int)), v1, v2] 36), rdE v8 L, mapE r9 (mm : List ((Int × Int) × Int)), blkE g4 (.cells #[I (0), (Value.slice none 0 0), (Value.slice none 0 0)] 36), blkE g1 (.cells #[I (s.1), I (s.2)] 87)] H33 := hS34
    exact ⟨g30, hu290, hu291, a27_1, a27_2, a27_3, a27_8, a27_10, a27_11, rfl, a27_25, a27_26, a27_27, hS34⟩
  rintro f35 H35 ⟨g30, hu290, hu291, a35_1, a35_2, a35_3, a35_8, a35_10, a35_11, a35_13, a35_25, a35_26, a35_27, hS35⟩
  clear a27_1 a27_10 a27_11 a27_2 a27_25 a27_26 a27_27 a27_28 a27_3 a27_8
  refine wpF_seq ?_
  refine wpF_cut (fun f H => f 1 = I ((sg : Int)) ∧ f 2 = vf ∧ f 3 = vk ∧ f 8 = PT g4 0 ∧ f 10 = (Value.map (some r9)) ∧ f 11 = PT g17 0 ∧ f 13 = PT g30 0 ∧ f 14 = (Value.slice none 0 0) ∧ f 25 = v8 ∧ f 26 = I ((L.length : Int)) ∧ f 27 = I ((i : Int)) ∧ H35 = H) ?_ ?_
  · refine wpF_region ?_
    refine wpL_q (U := NoB) rfl (q_assign (v := (Value.slice none 0 0)) rfl rfl) ?_
    exact ⟨a35_1, a35_2, a35_3, a35_8, a35_10, a35_11, a35_13, rfl, a35_25, a35_26, a35_27, rfl⟩
  rintro f36 _ ⟨a36_1, a36_2, a36_3, a36_8, a36_10, a36_11, a36_13, a36_14, a36_25, a36_26, a36_27, rfl⟩
  clear a35_1 a35_10 a35_11 a35_13 a35_2 a35_25 a35_26 a35_27 a35_3 a35_8
  have hS37 : St H0 NoB (fun b => S b ∧ b < H0.size) [rowE 3 (Value.slice none 0 0) ([] : List Int), blkE g30 (.cells #[I ((nth L i).1), I ((nth L i).2)] 87), rowE 22 v1 ((L.take i).map fun x => rowM (mget mm) nx x sg : List (List Int)), rowE 4 v2 ((L.take i).map tk : List Bool), blkE g17 (.cells #[I ((sg : Int)), v1, v2] 36), rdE v8 L, mapE r9 (mm : List ((Int × Int) × Int)), blkE g4 (.cells #[I (0), (Value.slice none 0 0), (Value.slice none 0 0)] 36), blkE g1 (.cells #[I (s.1), I (s.2)] 87)] H35 := hS35.row0 3
  refine wpF_seq ?_
  refine wpF_seq ?_
  refine wpF_cut (fun f H => f 1 = I ((sg : Int)) ∧ f 2 = vf ∧ f 3 = vk ∧ f 8 = PT g4 0 ∧ f 10 = (Value.map (some r9)) ∧ f 11 = PT g17 0 ∧ f 13 = PT g30 0 ∧ f 14 = (Value.slice none 0 0) ∧ f 25 = v8 ∧ f 26 = I ((L.length : Int)) ∧ f 27 = I ((i : Int)) ∧ f 31 = I ((sg : Int)) ∧ f 32 = I (0) ∧ H35 = H) ?_ ?_
  · refine wpF_region ?_
    refine wpL_q (U := NoB) rfl (q_move (v := I ((sg : Int))) rfl a36_1) ?_
    refine wpL_q (U := NoB) rfl (q_move (v := I (0)) rfl rfl) ?_
    exact ⟨a36_1, a36_2, a36_3, a36_8, a36_10, a36_11, a36_13, a36_14, a36_25, a36_26, a36_27, rfl, rfl, rfl⟩
  rintro f38 _ ⟨a38_1, a38_2, a38_3, a38_8, a38_10, a38_11, a38_13, a38_14, a38_25, a38_26, a38_27, a38_31, a38_32, rfl⟩
  clear a36_1 a36_10 a36_11 a36_13 a36_14 a36_2 a36_25 a36_26 a36_27 a36_3 a36_8
  refine wpF_block ?_
  refine wpF_loop (fun mz f H => ∃ (c : Nat), ∃ (vr : Value), mz = sg - c ∧ (c ≤ sg) ∧ f 1 = I ((sg : Int)) ∧ f 2 = vf ∧ f 3 = vk ∧ f 8 = PT g4 0 ∧ f 10 = (Value.map (some r9)) ∧ f 11 = PT g17 0 ∧ f 13 = PT g30 0 ∧ f 14 = vr ∧ f 25 = v8 ∧ f 26 = I ((L.length : Int)) ∧ f 27 = I ((i : Int)) ∧ f 31 = I ((sg : Int)) ∧ f 32 = I ((c : Int)) ∧ St H0 NoB (fun b => S b ∧ b < H0.size) [rowE 3 vr (rowM (mget mm) nx (nth L i) c : List Int), blkE g30 (.cells #[I ((nth L i).1), I ((nth L i).2)] 87), rowE 22 v1 ((L.take i).map fun x => rowM (mget mm) nx x sg : List (List Int)), rowE 4 v2 ((L.take i).map tk : List Bool), blkE g17 (.cells #[I ((sg : Int)), v1, v2] 36), rdE v8 L, mapE r9 (mm : List ((Int × Int) × Int)), blkE g4 (.cells #[I (0), (Value.slice none 0 0), (Value.slice none 0 0)] 36), blkE g1 (.cells #[I (s.1), I (s.2)] 87)] H) (sg - 0) ?_ ?_
  · exact ⟨0, (Value.slice none 0 0), rfl, Nat.zero_le _, a38_1, a38_2, a38_3, a38_8, a38_10, a38_11, a38_13, a38_14, a38_25, a38_26, a38_27, a38_31, (Eq.trans a38_32 (congrArg I (by omega))), (show St H0 NoB (fun b => S b ∧ b < H0.size) [rowE 3 (Value.slice none 0 0) (rowM (mget mm) nx (nth L i) 0 : List Int), blkE g30 (.cells #[I ((nth L i).1), I ((nth L i).2)] 87), rowE 22 v1 ((L.take i).map fun x => rowM (mget mm) nx x sg : List (List Int)), rowE 4 v2 ((L.take i).map tk : List Bool), blkE g17 (.cells #[I ((sg : Int)), v1, v2] 36), rdE v8 L, mapE r9 (mm : List ((Int × Int) × Int)), blkE g4 (.cells #[I (0), (Value.slice none 0 0), (Value.slice none 0 0)] 36), blkE g1 (.cells #[I (s.1), I (s.2)] 87)] H35 from hS37)⟩
  intro m39 f39 H39 hI39
  obtain ⟨c, vr, hm39, hc0, a39_1, a39_2, a39_3, a39_8, a39_10, a39_11, a39_13, a39_14, a39_25, a39_26, a39_27, a39_31, a39_32, hS39⟩ := hI39
  clear a38_1 a38_10 a38_11 a38_13 a38_14 a38_2 a38_25 a38_26 a38_27 a38_3 a38_31 a38_32 a38_8
  refine wpF_seq ?_
  refine wpF_cut (fun f H => f 1 = I ((sg : Int)) ∧ f 2 = vf ∧ f 3 = vk ∧ f 8 = PT g4 0 ∧ f 10 = (Value.map (some r9)) ∧ f 11 = PT g17 0 ∧ f 13 = PT g30 0 ∧ f 14 = vr ∧ f 25 = v8 ∧ f 26 = I ((L.length : Int)) ∧ f 27 = I ((i : Int)) ∧ f 31 = I ((sg : Int)) ∧ f 32 = I ((c : Int)) ∧ f 33 = B (decide ((c : Int) < (sg : Int))) ∧ H39 = H) ?_ ?_
  · refine wpF_region ?_
    refine wpL_q (U := NoB) rfl (q_lss rfl a39_32 a39_31) ?_
    exact ⟨a39_1, a39_2, a39_3, a39_8, a39_10, a39_11, a39_13, a39_14, a39_25, a39_26, a39_27, a39_31, a39_32, rfl, rfl⟩
  rintro f40 _ ⟨a40_1, a40_2, a40_3, a40_8, a40_10, a40_11, a40_13, a40_14, a40_25, a40_26, a40_27, a40_31, a40_32, a40_33, rfl⟩
  clear a39_1 a39_10 a39_11 a39_13 a39_14 a39_2 a39_25 a39_26 a39_27 a39_3 a39_31 a39_32 a39_8
  refine wpF_seq ?_
  refine wpF_condP a40_33 (fun hc => ?t61) (fun hc => ?e61)
  case t61 =>
    refine wpF_skip ?_
    refine wpF_seq ?_
    refine wpF_block ?_
    refine wpF_seq ?_
    refine wpF_cut (fun f H => f 1 = I ((sg : Int)) ∧ f 2 = vf ∧ f 3 = vk ∧ f 8 = PT g4 0 ∧ f 10 = (Value.map (some r9)) ∧ f 11 = PT g17 0 ∧ f 13 = PT g30 0 ∧ f 14 = vr ∧ f 15 = I ((c : Int)) ∧ f 25 = v8 ∧ f 26 = I ((L.length : Int)) ∧ f 27 = I ((i : Int)) ∧ f 31 = I ((sg : Int)) ∧ f 32 = I ((c : Int)) ∧ H39 = H) ?_ ?_
    · refine wpF_region ?_
      refine wpL_q (U := NoB) rfl (q_move (v := I ((c : Int))) rfl a40_32) ?_
      refine wpL_q (U := NoB) rfl (q_assign (v := I ((c : Int))) rfl rfl) ?_
      exact ⟨a40_1, a40_2, a40_3, a40_8, a40_10, a40_11, a40_13, a40_14, rfl, a40_25, a40_26, a40_27, a40_31, a40_32, rfl⟩
    rintro f42 _ ⟨a42_1, a42_2, a42_3, a42_8, a42_10, a42_11, a42_13, a42_14, a42_15, a42_25, a42_26, a42_27, a42_31, a42_32, rfl⟩
    clear a40_1 a40_10 a40_11 a40_13 a40_14 a40_2 a40_25 a40_26 a40_27 a40_3 a40_31 a40_32 a40_33 a40_8
    refine wpF_cut (fun f H => ∃ (v52 : Value), f 1 = I ((sg : Int)) ∧ f 2 = vf ∧ f 3 = vk ∧ f 8 = PT g4 0 ∧ f 10 = (Value.map (some r9)) ∧ f 11 = PT g17 0 ∧ f 13 = PT g30 0 ∧ f 14 = v52 ∧ f 25 = v8 ∧ f 26 = I ((L.length : Int)) ∧ f 27 = I ((i : Int)) ∧ f 31 = I ((sg : Int)) ∧ f 32 = I ((c : Int)) ∧ St H0 NoB (fun b => S b ∧ b < H0.size) [rowE 3 v52 (rowM (mget mm) nx (nth L i) (c + 1) : List Int), blkE g30 (.cells #[I ((nth L i).1), I ((nth L i).2)] 87), rowE 22 v1 ((L.take i).map fun x => rowM (mget mm) nx x sg : List (List Int)), rowE 4 v2 ((L.take i).map tk : List Bool), blkE g17 (.cells #[I ((sg : Int)), v1, v2] 36), rdE v8 L, mapE r9 (mm : List ((Int × Int) × Int)), blkE g4 (.cells #[I (0), (Value.slice none 0 0), (Value.slice none 0 0)] 36), blkE g1 (.cells #[I (s.1), I (s.2)] 87)] H) ?_ ?_
    · refine wpF_region ?_
      refine wpL_q (U := NoB) rfl (q_move (v := vr) rfl a42_14) ?_
      refine wpL_q (U := NoB) rfl (q_move (v := (Value.map (some r9))) rfl a42_10) ?_
      refine wpL_q (U := NoB) rfl (q_move (v := vf) rfl a42_2) ?_
      refine wpL_q (U := NoB) rfl (q_loadBlkA rfl a42_13 Try.isAgg87 Try.sizeOf87 rfl (hS39.blk 1 rfl) (fun h => h)) ?_
      refine wpL_q (U := NoB) rfl (q_move (v := I ((c : Int))) rfl a42_15) ?_
      refine wpL_o rfl ?_
      refine e_callF rfl rfl (arr2 (v0 := Value.agg #[I ((nth L i).1), I ((nth L i).2)]) (v1 := I ((c : Int))) rfl rfl) (hf _ _ hiX (by omega) (by omega) _ hS39.frame) ?_
      rintro _ H43 ⟨hxx, rfl⟩
      have hS44 : St H0 NoB (fun b => S b ∧ b < H0.size) [rowE 3 vr (rowM (mget mm) nx (nth L i) c : List Int), blkE g30 (.cells #[I ((nth L i).1), I ((nth L i).2)] 87), rowE 22 v1 ((L.take i).map fun x => rowM (mget mm) nx x sg : List (List Int)), rowE 4 v2 ((L.take i).map tk : List Bool), blkE g17 (.cells #[I ((sg : Int)), v1, v2] 36), rdE v8 L, mapE r9 (mm : List ((Int × Int) × Int)), blkE g4 (.cells #[I (0), (Value.slice none 0 0), (Value.slice none 0 0)] 36), blkE g1 (.cells #[I (s.1), I (s.2)] 87)] H43 := hS39.ext hxx
      obtain ⟨u46, hlu46, hru46⟩ := lookD (t := 84) (d := (0 : Int)) Try.underlying84 (keyLaw_pair_87_AutoP3) Try.zeroValue3 (fun _ _ => Rd.int.2 ⟨rfl, by decide⟩) ((nx (nth L i) (c : Int)).1, (nx (nth L i) (c : Int)).2) (hS44.get 6 rfl)
      obtain ⟨rfl, hiu46⟩ := Rd.int.1 hru46
      refine wpL_q (U := NoB) rfl (q_lookup0 rfl rfl rfl (hlu46 _ (fun h => h))) ?_
      refine wpL_o rfl ?_
      refine e_buildSlice (vs := [I ((mget mm ((nx (nth L i) (c : Int)).1, (nx (nth L i) (c : Int)).2)).getD 0)]) (xs := ([(mget mm ((nx (nth L i) (c : Int)).1, (nx (nth L i) (c : Int)).2)).getD 0] : List Int)) rfl Try.underlying22 Try.zeroValue3 rfl Try.sizeOf3 (par1 (v0 := I ((mget mm ((nx (nth L i) (c : Int)).1, (nx (nth L i) (c : Int)).2)).getD 0)) rfl) rfl hS44 (RdVs.cons (Rd.int.2 ⟨rfl, by constructor <;> omega⟩) (RdVs.nil)) (by decide) (by decide) (fun v47 H48 hS49 hxx hvv47 => ?_)
      replace hS49 : St H0 NoB (fun b => S b ∧ b < H0.size) [rowE 3 v47 ([(mget mm ((nx (nth L i) (c : Int)).1, (nx (nth L i) (c : Int)).2)).getD 0] : List Int), rowE 3 vr (rowM (mget mm) nx (nth L i) c : List Int), blkE g30 (.cells #[I ((nth L i).1), I ((nth L i).2)] 87), rowE 22 v1 ((L.take i).map fun x => rowM (mget mm) nx x sg : List (List Int)), rowE 4 v2 ((L.take i).map tk : List Bool), blkE g17 (.cells #[I ((sg : Int)), v1, v2] 36), rdE v8 L, mapE r9 (mm : List ((Int × Int) × Int)), blkE g4 (.cells #[I (0), (Value.slice none 0 0), (Value.slice none 0 0)] 36), blkE g1 (.cells #[I (s.1), I (s.2)] 87)] H48 := hS49
      have hS50 : St H0 NoB (fun b => S b ∧ b < H0.size) [rdE v47 ([(mget mm ((nx (nth L i) (c : Int)).1, (nx (nth L i) (c : Int)).2)).getD 0] : List Int), rowE 3 vr (rowM (mget mm) nx (nth L i) c : List Int), blkE g30 (.cells #[I ((nth L i).1), I ((nth L i).2)] 87), rowE 22 v1 ((L.take i).map fun x => rowM (mget mm) nx x sg : List (List Int)), rowE 4 v2 ((L.take i).map tk : List Bool), blkE g17 (.cells #[I ((sg : Int)), v1, v2] 36), rdE v8 L, mapE r9 (mm : List ((Int × Int) × Int)), blkE g4 (.cells #[I (0), (Value.slice none 0 0), (Value.slice none 0 0)] 36), blkE g1 (.cells #[I (s.1), I (s.2)] 87)] H48 := St.fin hS49
      have hS51 : St H0 NoB (fun b => S b ∧ b < H0.size) [rowE 3 vr (rowM (mget mm) nx (nth L i) c : List Int), rdE v47 ([(mget mm ((nx (nth L i) (c : Int)).1, (nx (nth L i) (c : Int)).2)).getD 0] : List Int), blkE g30 (.cells #[I ((nth L i).1), I ((nth L i).2)] 87), rowE 22 v1 ((L.take i).map fun x => rowM (mget mm) nx x sg : List (List Int)), rowE 4 v2 ((L.take i).map tk : List Bool), blkE g17 (.cells #[I ((sg : Int)), v1, v2] 36), rdE v8 L, mapE r9 (mm : List ((Int × Int) × Int)), blkE g4 (.cells #[I (0), (Value.slice none 0 0), (Value.slice none 0 0)] 36), blkE g1 (.cells #[I (s.1), I (s.2)] 87)] H48 := (hS50.front 1 rfl)
      refine wpL_o rfl ?_
      refine e_append rfl Try.underlying22 em_Int_3_AutoP3 rfl rfl hS51 (hS51.rdS 1 rfl) (fun _ h => h) (by have hb : GoT.bytes Int = 8 := rfl; simp [rowM_len, hb]; omega) (by decide) (fun v52 H53 hS54 hxx => ?_)
      replace hS54 : St H0 NoB (fun b => S b ∧ b < H0.size) [rowE 3 v52 ((rowM (mget mm) nx (nth L i) c) ++ ([(mget mm ((nx (nth L i) (c : Int)).1, (nx (nth L i) (c : Int)).2)).getD 0]) : List Int), rdE v47 ([(mget mm ((nx (nth L i) (c : Int)).1, (nx (nth L i) (c : Int)).2)).getD 0] : List Int), blkE g30 (.cells #[I ((nth L i).1), I ((nth L i).2)] 87), rowE 22 v1 ((L.take i).map fun x => rowM (mget mm) nx x sg : List (List Int)), rowE 4 v2 ((L.take i).map tk : List Bool), blkE g17 (.cells #[I ((sg : Int)), v1, v2] 36), rdE v8 L, mapE r9 (mm : List ((Int × Int) × Int)), blkE g4 (.cells #[I (0), (Value.slice none 0 0), (Value.slice none 0 0)] 36), blkE g1 (.cells #[I (s.1), I (s.2)] 87)] H53 := hS54
      have hS55 : St H0 NoB (fun b => S b ∧ b < H0.size) [rowE 3 v52 (rowM (mget mm) nx (nth L i) (c + 1) : List Int), rdE v47 ([(mget mm ((nx (nth L i) (c : Int)).1, (nx (nth L i) (c : Int)).2)).getD 0] : List Int), blkE g30 (.cells #[I ((nth L i).1), I ((nth L i).2)] 87), rowE 22 v1 ((L.take i).map fun x => rowM (mget mm) nx x sg : List (List Int)), rowE 4 v2 ((L.take i).map tk : List Bool), blkE g17 (.cells #[I ((sg : Int)), v1, v2] 36), rdE v8 L, mapE r9 (mm : List ((Int × Int) × Int)), blkE g4 (.cells #[I (0), (Value.slice none 0 0), (Value.slice none 0 0)] 36), blkE g1 (.cells #[I (s.1), I (s.2)] 87)] H53 := by rw [show (rowM (mget mm) nx (nth L i) (c + 1)) = ((rowM (mget mm) nx (nth L i) c) ++ ([(mget mm ((nx (nth L i) (c : Int)).1, (nx (nth L i) (c : Int)).2)).getD 0])) from rowM_next]; exact hS54
      refine wpL_q (U := NoB) rfl (q_assign (v := v52) rfl rfl) ?_
      exact ⟨v52, a42_1, a42_2, a42_3, a42_8, a42_10, a42_11, a42_13, rfl, a42_25, a42_26, a42_27, a42_31, a42_32, (hS55.drop (sk (sn (sk (sk (sk (sk (sk (sk (sk (sk (List.Sublist.slnil))))))))))))⟩
    rintro f56 H56 ⟨v52, a56_1, a56_2, a56_3, a56_8, a56_10, a56_11, a56_13, a56_14, a56_25, a56_26, a56_27, a56_31, a56_32, hS56⟩
    clear a42_1 a42_10 a42_11 a42_13 a42_14 a42_15 a42_2 a42_25 a42_26 a42_27 a42_3 a42_31 a42_32 a42_8
    refine wpF_cut (fun f H => f 1 = I ((sg : Int)) ∧ f 2 = vf ∧ f 3 = vk ∧ f 8 = PT g4 0 ∧ f 10 = (Value.map (some r9)) ∧ f 11 = PT g17 0 ∧ f 13 = PT g30 0 ∧ f 14 = v52 ∧ f 25 = v8 ∧ f 26 = I ((L.length : Int)) ∧ f 27 = I ((i : Int)) ∧ f 31 = I ((sg : Int)) ∧ f 32 = I ((c : Int) + 1) ∧ H56 = H) ?_ ?_
    · refine wpF_region ?_
      refine wpL_q (U := NoB) rfl (q_add rfl a56_32 rfl (by constructor <;> omega)) ?_
      refine wpL_q (U := NoB) rfl (q_move (v := I ((c : Int) + 1)) rfl rfl) ?_
      exact ⟨a56_1, a56_2, a56_3, a56_8, a56_10, a56_11, a56_13, a56_14, a56_25, a56_26, a56_27, a56_31, rfl, rfl⟩
    rintro f57 _ ⟨a57_1, a57_2, a57_3, a57_8, a57_10, a57_11, a57_13, a57_14, a57_25, a57_26, a57_27, a57_31, a57_32, rfl⟩
    clear a56_1 a56_10 a56_11 a56_13 a56_14 a56_2 a56_25 a56_26 a56_27 a56_3 a56_31 a56_32 a56_8
    refine ⟨_, ?_, c + 1, v52, rfl, (by omega), a57_1, a57_2, a57_3, a57_8, a57_10, a57_11, a57_13, a57_14, a57_25, a57_26, a57_27, a57_31, (Eq.trans a57_32 (congrArg I (by omega))), hS56⟩
    omega
  have hce : c = sg := by omega
  refine wpF_exit ?_
  refine atX_here ?_
  refine wpF_cut (fun f H => ∃ (v58o4 : Value), ∃ (v58o11 : Value), f 1 = I ((sg : Int)) ∧ f 2 = vf ∧ f 3 = vk ∧ f 8 = PT g4 0 ∧ f 10 = (Value.map (some r9)) ∧ f 11 = PT g17 0 ∧ f 25 = v8 ∧ f 26 = I ((L.length : Int)) ∧ f 27 = I ((i : Int)) ∧ St H0 NoB (fun b => S b ∧ b < H0.size) [blkE g17 (.cells #[I ((sg : Int)), v58o4, v58o11] 36), rowE 4 v58o11 ((L.take (i + 1)).map tk : List Bool), rowE 22 v58o4 ((L.take (i + 1)).map fun x => rowM (mget mm) nx x sg : List (List Int)), blkE g30 (.cells #[I ((nth L i).1), I ((nth L i).2)] 87), rdE v8 L, mapE r9 (mm : List ((Int × Int) × Int)), blkE g4 (.cells #[I (0), (Value.slice none 0 0), (Value.slice none 0 0)] 36), blkE g1 (.cells #[I (s.1), I (s.2)] 87)] H) ?_ ?_
  · refine wpF_drawn [none, none, none, none, some 0, none, none, none, none, none, none, some 1, none, some 2, none, some 3] [[], [], [], [], [], [0], [0], [0], [0], [], [], [], [1], [], [], []] (fun l b => match l with | 0 => rowB v1 b | 1 => rowB v2 b | 2 => True | 3 => True | _ => False) (by kernel_rfl) (by kernel_rfl) ?_
    refine wpR_q 0 (by kernel_rfl) rfl (quietAt rfl rfl (q_fieldAddr rfl Try.underlying36 rfl Try.sizeOf27 a40_11)) ?_
    refine wpR_q 1 (by kernel_rfl) rfl (quietAt rfl rfl (q_loadBlk rfl rfl Try.isAgg27 (hS39.blk 4 rfl) rfl (labU_not [] rfl (List.forall_mem_nil _)))) ?_
    refine wpR_q 2 (by kernel_rfl) rfl (quietAt rfl rfl (q_move (v := vr) rfl a40_14)) ?_
    refine wpR_q 5 (by kernel_rfl) rfl (quietAt rfl rfl (q_fieldAddr rfl Try.underlying36 rfl Try.sizeOf32 a40_11)) ?_
    refine wpR_q 6 (by kernel_rfl) rfl (quietAt rfl rfl (q_loadBlk rfl rfl Try.isAgg32 (hS39.blk 4 rfl) rfl (labU_not [0] rfl (List.forall_mem_cons.2 ⟨fun hb => hS39.dis 2 4 (by decide) rfl rfl _ hb rfl, List.forall_mem_nil _⟩)))) ?_
    refine wpR_q 7 (by kernel_rfl) rfl (quietAt rfl rfl (q_move (v := vk) rfl a40_3)) ?_
    refine wpR_q 8 (by kernel_rfl) rfl (quietAt rfl rfl (q_loadBlkA rfl a40_13 Try.isAgg87 Try.sizeOf87 rfl (hS39.blk 1 rfl) (labU_not [0] rfl (List.forall_mem_cons.2 ⟨fun hb => hS39.dis 1 2 (by decide) rfl rfl _ rfl hb, List.forall_mem_nil _⟩)))) ?_
    refine wpR_n [3] (by kernel_rfl) ?_
    refine List.forall_mem_cons.2 ⟨?_, List.forall_mem_nil _⟩
    have hS58o3 : St H0 NoB (fun b => S b ∧ b < H0.size) [rdE vr (rowM (mget mm) nx (nth L i) c), blkE g30 (.cells #[I ((nth L i).1), I ((nth L i).2)] 87), rowE 22 v1 ((L.take i).map fun x => rowM (mget mm) nx x sg : List (List Int)), rowE 4 v2 ((L.take i).map tk : List Bool), blkE g17 (.cells #[I ((sg : Int)), v1, v2] 36), rdE v8 L, mapE r9 (mm : List ((Int × Int) × Int)), blkE g4 (.cells #[I (0), (Value.slice none 0 0), (Value.slice none 0 0)] 36), blkE g1 (.cells #[I (s.1), I (s.2)] 87)] H39 := St.fin hS39
    refine exE rfl rfl ?_
    refine e_buildSlice (vs := [vr]) (xs := ([rowM (mget mm) nx (nth L i) c] : List (List Int))) rfl Try.underlying27 Try.zeroValue22 rfl Try.sizeOf22 (par1 (v0 := vr) rfl) rfl hS58o3 (RdVs.cons (hS58o3.rdS 0 rfl) (RdVs.nil)) (by decide) (by decide) (fun v58o3 H58o3 hS58o3x2 hxx hvv58o3 => ?_)
    replace hS58o3x2 : St H0 NoB (fun b => S b ∧ b < H0.size) [rowE 22 v58o3 ([rowM (mget mm) nx (nth L i) c] : List (List Int)), rdE vr (rowM (mget mm) nx (nth L i) c), blkE g30 (.cells #[I ((nth L i).1), I ((nth L i).2)] 87), rowE 22 v1 ((L.take i).map fun x => rowM (mget mm) nx x sg : List (List Int)), rowE 4 v2 ((L.take i).map tk : List Bool), blkE g17 (.cells #[I ((sg : Int)), v1, v2] 36), rdE v8 L, mapE r9 (mm : List ((Int × Int) × Int)), blkE g4 (.cells #[I (0), (Value.slice none 0 0), (Value.slice none 0 0)] 36), blkE g1 (.cells #[I (s.1), I (s.2)] 87)] H58o3 := hS58o3x2
    refine ⟨Ext.mono hxx (fun _ h => h.elim), ?_⟩
    refine wpR_n [4] (by kernel_rfl) ?_
    refine List.forall_mem_cons.2 ⟨?_, List.forall_mem_nil _⟩
    have hS58o4 : St H0 NoB (fun b => S b ∧ b < H0.size) [rdE v58o3 ([rowM (mget mm) nx (nth L i) c] : List (List Int)), rdE vr (rowM (mget mm) nx (nth L i) c), blkE g30 (.cells #[I ((nth L i).1), I ((nth L i).2)] 87), rowE 22 v1 ((L.take i).map fun x => rowM (mget mm) nx x sg : List (List Int)), rowE 4 v2 ((L.take i).map tk : List Bool), blkE g17 (.cells #[I ((sg : Int)), v1, v2] 36), rdE v8 L, mapE r9 (mm : List ((Int × Int) × Int)), blkE g4 (.cells #[I (0), (Value.slice none 0 0), (Value.slice none 0 0)] 36), blkE g1 (.cells #[I (s.1), I (s.2)] 87)] H58o3 := St.fin hS58o3x2
    have hS58o4x2 : St H0 NoB (fun b => S b ∧ b < H0.size) [rowE 22 v1 ((L.take i).map fun x => rowM (mget mm) nx x sg : List (List Int)), rdE v58o3 ([rowM (mget mm) nx (nth L i) c] : List (List Int)), rdE vr (rowM (mget mm) nx (nth L i) c), blkE g30 (.cells #[I ((nth L i).1), I ((nth L i).2)] 87), rowE 4 v2 ((L.take i).map tk : List Bool), blkE g17 (.cells #[I ((sg : Int)), v1, v2] 36), rdE v8 L, mapE r9 (mm : List ((Int × Int) × Int)), blkE g4 (.cells #[I (0), (Value.slice none 0 0), (Value.slice none 0 0)] 36), blkE g1 (.cells #[I (s.1), I (s.2)] 87)] H58o3 := (hS58o4.front 3 rfl)
    refine exE rfl rfl ?_
    refine e_append rfl Try.underlying27 em_LInt_22_AutoP3 rfl rfl hS58o4x2 (hS58o4x2.rdS 1 rfl) (fun _ h => h) (by have hb : GoT.bytes (List Int) = 24 := rfl; simp [hb]; omega) (by decide) (fun v58o4 H58o4 hS58o4x3 hxx => ?_)
    replace hS58o4x3 : St H0 NoB (fun b => S b ∧ b < H0.size) [rowE 22 v58o4 (((L.take i).map fun x => rowM (mget mm) nx x sg) ++ ([rowM (mget mm) nx (nth L i) c]) : List (List Int)), rdE v58o3 ([rowM (mget mm) nx (nth L i) c] : List (List Int)), rdE vr (rowM (mget mm) nx (nth L i) c), blkE g30 (.cells #[I ((nth L i).1), I ((nth L i).2)] 87), rowE 4 v2 ((L.take i).map tk : List Bool), blkE g17 (.cells #[I ((sg : Int)), v1, v2] 36), rdE v8 L, mapE r9 (mm : List ((Int × Int) × Int)), blkE g4 (.cells #[I (0), (Value.slice none 0 0), (Value.slice none 0 0)] 36), blkE g1 (.cells #[I (s.1), I (s.2)] 87)] H58o4 := hS58o4x3
    have hS58o4x4 : St H0 NoB (fun b => S b ∧ b < H0.size) [rowE 22 v58o4 ((L.take (i + 1)).map fun x => rowM (mget mm) nx x sg : List (List Int)), rdE v58o3 ([rowM (mget mm) nx (nth L i) c] : List (List Int)), rdE vr (rowM (mget mm) nx (nth L i) c), blkE g30 (.cells #[I ((nth L i).1), I ((nth L i).2)] 87), rowE 4 v2 ((L.take i).map tk : List Bool), blkE g17 (.cells #[I ((sg : Int)), v1, v2] 36), rdE v8 L, mapE r9 (mm : List ((Int × Int) × Int)), blkE g4 (.cells #[I (0), (Value.slice none 0 0), (Value.slice none 0 0)] 36), blkE g1 (.cells #[I (s.1), I (s.2)] 87)] H58o4 := by rw [show ((L.take (i + 1)).map fun x => rowM (mget mm) nx x sg) = (((L.take i).map fun x => rowM (mget mm) nx x sg) ++ ([rowM (mget mm) nx (nth L i) c])) from (by rw [hce, take_succ_nth (by omega), List.map_append]; rfl)]; exact hS58o4x3
    refine ⟨Ext.mono hxx (labS_of 0 rfl (fun b hb => hb)), ?_⟩
    refine wpR_q 12 (by kernel_rfl) rfl (quietAt rfl rfl (q_fieldAddr rfl Try.underlying36 rfl Try.sizeOf27 a40_11)) ?_
    refine wpR_n [9] (by kernel_rfl) ?_
    refine List.forall_mem_cons.2 ⟨?_, List.forall_mem_nil _⟩
    refine exE rfl rfl ?_
    refine e_callF rfl rfl (arr1 (v0 := Value.agg #[I ((nth L i).1), I ((nth L i).2)]) rfl) (hk _ hiX _ hS58o4x4.frame) ?_
    rintro _ H58o9 ⟨hxx, rfl⟩
    have hS58o9 : St H0 NoB (fun b => S b ∧ b < H0.size) [rowE 22 v58o4 ((L.take (i + 1)).map fun x => rowM (mget mm) nx x sg : List (List Int)), rdE v58o3 ([rowM (mget mm) nx (nth L i) c] : List (List Int)), rdE vr (rowM (mget mm) nx (nth L i) c), blkE g30 (.cells #[I ((nth L i).1), I ((nth L i).2)] 87), rowE 4 v2 ((L.take i).map tk : List Bool), blkE g17 (.cells #[I ((sg : Int)), v1, v2] 36), rdE v8 L, mapE r9 (mm : List ((Int × Int) × Int)), blkE g4 (.cells #[I (0), (Value.slice none 0 0), (Value.slice none 0 0)] 36), blkE g1 (.cells #[I (s.1), I (s.2)] 87)] H58o9 := hS58o4x4.ext hxx
    refine ⟨Ext.mono hxx (fun _ h => h.elim), ?_⟩
    refine wpR_n [10] (by kernel_rfl) ?_
    refine List.forall_mem_cons.2 ⟨?_, List.forall_mem_nil _⟩
    refine exE rfl rfl ?_
    refine e_buildSlice (vs := [B (tk (nth L i))]) (xs := ([tk (nth L i)] : List Bool)) rfl Try.underlying32 Try.zeroValue4 rfl Try.sizeOf4 (par1 (v0 := B (tk (nth L i))) rfl) rfl hS58o9 (RdVs.cons (Rd.bool.2 rfl) (RdVs.nil)) (by decide) (by decide) (fun v58o10 H58o10 hS58o10 hxx hvv58o10 => ?_)
    replace hS58o10 : St H0 NoB (fun b => S b ∧ b < H0.size) [rowE 4 v58o10 ([tk (nth L i)] : List Bool), rowE 22 v58o4 ((L.take (i + 1)).map fun x => rowM (mget mm) nx x sg : List (List Int)), rdE v58o3 ([rowM (mget mm) nx (nth L i) c] : List (List Int)), rdE vr (rowM (mget mm) nx (nth L i) c), blkE g30 (.cells #[I ((nth L i).1), I ((nth L i).2)] 87), rowE 4 v2 ((L.take i).map tk : List Bool), blkE g17 (.cells #[I ((sg : Int)), v1, v2] 36), rdE v8 L, mapE r9 (mm : List ((Int × Int) × Int)), blkE g4 (.cells #[I (0), (Value.slice none 0 0), (Value.slice none 0 0)] 36), blkE g1 (.cells #[I (s.1), I (s.2)] 87)] H58o10 := hS58o10
    refine ⟨Ext.mono hxx (fun _ h => h.elim), ?_⟩
    refine wpR_n [11] (by kernel_rfl) ?_
    refine List.forall_mem_cons.2 ⟨?_, List.forall_mem_nil _⟩
    have hS58o11 : St H0 NoB (fun b => S b ∧ b < H0.size) [rdE v58o10 ([tk (nth L i)] : List Bool), rowE 22 v58o4 ((L.take (i + 1)).map fun x => rowM (mget mm) nx x sg : List (List Int)), rdE v58o3 ([rowM (mget mm) nx (nth L i) c] : List (List Int)), rdE vr (rowM (mget mm) nx (nth L i) c), blkE g30 (.cells #[I ((nth L i).1), I ((nth L i).2)] 87), rowE 4 v2 ((L.take i).map tk : List Bool), blkE g17 (.cells #[I ((sg : Int)), v1, v2] 36), rdE v8 L, mapE r9 (mm : List ((Int × Int) × Int)), blkE g4 (.cells #[I (0), (Value.slice none 0 0), (Value.slice none 0 0)] 36), blkE g1 (.cells #[I (s.1), I (s.2)] 87)] H58o10 := St.fin hS58o10
    have hS58o11x2 : St H0 NoB (fun b => S b ∧ b < H0.size) [rowE 4 v2 ((L.take i).map tk : List Bool), rdE v58o10 ([tk (nth L i)] : List Bool), rowE 22 v58o4 ((L.take (i + 1)).map fun x => rowM (mget mm) nx x sg : List (List Int)), rdE v58o3 ([rowM (mget mm) nx (nth L i) c] : List (List Int)), rdE vr (rowM (mget mm) nx (nth L i) c), blkE g30 (.cells #[I ((nth L i).1), I ((nth L i).2)] 87), blkE g17 (.cells #[I ((sg : Int)), v1, v2] 36), rdE v8 L, mapE r9 (mm : List ((Int × Int) × Int)), blkE g4 (.cells #[I (0), (Value.slice none 0 0), (Value.slice none 0 0)] 36), blkE g1 (.cells #[I (s.1), I (s.2)] 87)] H58o10 := (hS58o11.front 5 rfl)
    refine exE rfl rfl ?_
    refine e_append rfl Try.underlying32 em_Bool_4_AutoP3 rfl rfl hS58o11x2 (hS58o11x2.rdS 1 rfl) (fun _ h => h) (by have hb : GoT.bytes Bool = 1 := rfl; simp [hb]; omega) (by decide) (fun v58o11 H58o11 hS58o11x3 hxx => ?_)
    replace hS58o11x3 : St H0 NoB (fun b => S b ∧ b < H0.size) [rowE 4 v58o11 (((L.take i).map tk) ++ ([tk (nth L i)]) : List Bool), rdE v58o10 ([tk (nth L i)] : List Bool), rowE 22 v58o4 ((L.take (i + 1)).map fun x => rowM (mget mm) nx x sg : List (List Int)), rdE v58o3 ([rowM (mget mm) nx (nth L i) c] : List (List Int)), rdE vr (rowM (mget mm) nx (nth L i) c), blkE g30 (.cells #[I ((nth L i).1), I ((nth L i).2)] 87), blkE g17 (.cells #[I ((sg : Int)), v1, v2] 36), rdE v8 L, mapE r9 (mm : List ((Int × Int) × Int)), blkE g4 (.cells #[I (0), (Value.slice none 0 0), (Value.slice none 0 0)] 36), blkE g1 (.cells #[I (s.1), I (s.2)] 87)] H58o11 := hS58o11x3
    have hS58o11x4 : St H0 NoB (fun b => S b ∧ b < H0.size) [rowE 4 v58o11 ((L.take (i + 1)).map tk : List Bool), rdE v58o10 ([tk (nth L i)] : List Bool), rowE 22 v58o4 ((L.take (i + 1)).map fun x => rowM (mget mm) nx x sg : List (List Int)), rdE v58o3 ([rowM (mget mm) nx (nth L i) c] : List (List Int)), rdE vr (rowM (mget mm) nx (nth L i) c), blkE g30 (.cells #[I ((nth L i).1), I ((nth L i).2)] 87), blkE g17 (.cells #[I ((sg : Int)), v1, v2] 36), rdE v8 L, mapE r9 (mm : List ((Int × Int) × Int)), blkE g4 (.cells #[I (0), (Value.slice none 0 0), (Value.slice none 0 0)] 36), blkE g1 (.cells #[I (s.1), I (s.2)] 87)] H58o11 := by rw [show ((L.take (i + 1)).map tk) = (((L.take i).map tk) ++ ([tk (nth L i)])) from (by rw [take_succ_nth (by omega), List.map_append]; rfl)]; exact hS58o11x3
    refine ⟨Ext.mono hxx (labS_of 1 rfl (fun b hb => hb)), ?_⟩
    refine wpR_n [13] (by kernel_rfl) ?_
    refine List.forall_mem_cons.2 ⟨?_, List.forall_mem_nil _⟩
    refine exE rfl rfl ?_
    refine e_storeBlk (v := v58o4) rfl rfl rfl (oneCell_rdL (hS58o11x4.rowl 2 rfl)) Try.sizeOf27 (by show _ < 3; decide) (hS58o11x4.front 6 rfl) (fun H58o13 hS58o13 hxx => ?_)
    replace hS58o13 : St H0 NoB (fun b => S b ∧ b < H0.size) [blkE g17 (.cells #[I ((sg : Int)), v58o4, v2] 36), rowE 4 v58o11 ((L.take (i + 1)).map tk : List Bool), rdE v58o10 ([tk (nth L i)] : List Bool), rowE 22 v58o4 ((L.take (i + 1)).map fun x => rowM (mget mm) nx x sg : List (List Int)), rdE v58o3 ([rowM (mget mm) nx (nth L i) c] : List (List Int)), rdE vr (rowM (mget mm) nx (nth L i) c), blkE g30 (.cells #[I ((nth L i).1), I ((nth L i).2)] 87), rdE v8 L, mapE r9 (mm : List ((Int × Int) × Int)), blkE g4 (.cells #[I (0), (Value.slice none 0 0), (Value.slice none 0 0)] 36), blkE g1 (.cells #[I (s.1), I (s.2)] 87)] H58o13 := hS58o13
    refine ⟨Ext.mono hxx (labS_of 2 rfl (fun _ _ => trivial)), ?_⟩
    refine wpR_q 14 (by kernel_rfl) rfl (quietAt rfl rfl (q_fieldAddr rfl Try.underlying36 rfl Try.sizeOf32 a40_11)) ?_
    refine wpR_n [15] (by kernel_rfl) ?_
    refine List.forall_mem_cons.2 ⟨?_, List.forall_mem_nil _⟩
    refine exE rfl rfl ?_
    refine e_storeBlk (v := v58o11) rfl rfl rfl (oneCell_rdL (hS58o13.rowl 1 rfl)) Try.sizeOf32 (by show _ < 3; decide) hS58o13 (fun H58o15 hS58o15 hxx => ?_)
    replace hS58o15 : St H0 NoB (fun b => S b ∧ b < H0.size) [blkE g17 (.cells #[I ((sg : Int)), v58o4, v58o11] 36), rowE 4 v58o11 ((L.take (i + 1)).map tk : List Bool), rdE v58o10 ([tk (nth L i)] : List Bool), rowE 22 v58o4 ((L.take (i + 1)).map fun x => rowM (mget mm) nx x sg : List (List Int)), rdE v58o3 ([rowM (mget mm) nx (nth L i) c] : List (List Int)), rdE vr (rowM (mget mm) nx (nth L i) c), blkE g30 (.cells #[I ((nth L i).1), I ((nth L i).2)] 87), rdE v8 L, mapE r9 (mm : List ((Int × Int) × Int)), blkE g4 (.cells #[I (0), (Value.slice none 0 0), (Value.slice none 0 0)] 36), blkE g1 (.cells #[I (s.1), I (s.2)] 87)] H58o15 := hS58o15
    refine ⟨Ext.mono hxx (labS_of 3 rfl (fun _ _ => trivial)), ?_⟩
    refine wpR_end (by kernel_rfl) ?_
    exact ⟨v58o4, v58o11, a40_1, a40_2, a40_3, a40_8, a40_10, a40_11, a40_25, a40_26, a40_27, (hS58o15.drop (sk (sk (sn (sk (sn (sn (sk (sk (sk (sk (sk (List.Sublist.slnil)))))))))))))⟩
  rintro f59 H59 ⟨v58o4, v58o11, a59_1, a59_2, a59_3, a59_8, a59_10, a59_11, a59_25, a59_26, a59_27, hS59⟩
  clear a40_1 a40_10 a40_11 a40_13 a40_14 a40_2 a40_25 a40_26 a40_27 a40_3 a40_31 a40_32 a40_33 a40_8
  refine wpF_cut (fun f H => f 1 = I ((sg : Int)) ∧ f 2 = vf ∧ f 3 = vk ∧ f 8 = PT g4 0 ∧ f 10 = (Value.map (some r9)) ∧ f 11 = PT g17 0 ∧ f 25 = v8 ∧ f 26 = I ((L.length : Int)) ∧ f 27 = I ((i : Int) + 1) ∧ H59 = H) ?_ ?_
  · refine wpF_region ?_
    refine wpL_q (U := NoB) rfl (q_add rfl a59_27 rfl (by constructor <;> omega)) ?_
    refine wpL_q (U := NoB) rfl (q_move (v := I ((i : Int) + 1)) rfl rfl) ?_
    exact ⟨a59_1, a59_2, a59_3, a59_8, a59_10, a59_11, a59_25, a59_26, rfl, rfl⟩
  rintro f60 _ ⟨a60_1, a60_2, a60_3, a60_8, a60_10, a60_11, a60_25, a60_26, a60_27, rfl⟩
  clear a59_1 a59_10 a59_11 a59_2 a59_25 a59_26 a59_27 a59_3 a59_8
  refine ⟨_, ?_, i + 1, v58o4, v58o11, rfl, (by omega), a60_1, a60_2, a60_3, a60_8, a60_10, a60_11, a60_25, a60_26, (Eq.trans a60_27 (congrArg I (by omega))), (St.drop (show St H0 NoB (fun b => S b ∧ b < H0.size) [rowE 22 v58o4 ((L.take (i + 1)).map fun x => rowM (mget mm) nx x sg : List (List Int)), rowE 4 v58o11 ((L.take (i + 1)).map tk : List Bool), blkE g17 (.cells #[I ((sg : Int)), v58o4, v58o11] 36), blkE g30 (.cells #[I ((nth L i).1), I ((nth L i).2)] 87), rdE v8 L, mapE r9 (mm : List ((Int × Int) × Int)), blkE g4 (.cells #[I (0), (Value.slice none 0 0), (Value.slice none 0 0)] 36), blkE g1 (.cells #[I (s.1), I (s.2)] 87)] H59 from ((hS59.front 1 rfl).front 2 rfl)) (sk (sk (sk (sn (sk (sk (sk (sk (List.Sublist.slnil))))))))))⟩
  omega

theorem built_Pw {H0 : Heap} {S : Nat → Prop} (vf vk : Value) (s : Int × Int) (sg : Nat) (nx : Int × Int → Int → Int × Int) (tk : Int × Int → Bool) (inv : Int × Int → Prop) (sgI : Int) (hI : sgI = (sg : Int)) (h0 : inv s) (hin : ∀ (x : Int × Int) (c : Int), inv x → 0 ≤ c → c < (sg : Int) → inv (nx x c)) (h64 : ∀ x, inv x → In64 x.1 ∧ In64 x.2) (hfew : ∀ L : List (Int × Int), L.Nodup → (∀ x ∈ L, inv x) → L.length ≤ 2000) (hsg : sg ≤ 1000) (hf : ∀ (x : Int × Int) (c : Int), inv x → 0 ≤ c → c < (sg : Int) → ∀ H, Ext NoB H0 H → FnH Try.prog vf #[Value.agg #[I x.1, I x.2], I c] H (fun rv H' => Ext NoB H H' ∧ rv = Value.agg #[I (nx x c).1, I (nx x c).2])) (hk : ∀ x, inv x → ∀ H, Ext NoB H0 H → FnH Try.prog vk #[Value.agg #[I x.1, I x.2]] H (fun rv H' => Ext NoB H H' ∧ rv = B (tk x))) : CallsH Try.prog 74 #[Value.agg #[I (s.1), I (s.2)], I sgI, vf, vk] H0 (fun rv_ H' => Ext NoB H0 H' ∧ ∃ w1_ w2_, rv_ = Value.agg #[I (sg : Int), w1_, w2_] ∧ Rd (fun b => S b ∧ b < H0.size) H' w1_ (builtA nx sg (endL nx sg s) tk).Next ∧ Rd (fun b => S b ∧ b < H0.size) H' w2_ (builtA nx sg (endL nx sg s) tk).Takes) := by
  subst hI; exact built_P vf vk s sg nx tk inv h0 hin h64 hfew hsg hf hk

end Go.Um
