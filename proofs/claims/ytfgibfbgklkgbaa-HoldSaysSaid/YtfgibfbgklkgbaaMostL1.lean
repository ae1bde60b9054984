import Derived.Test.YtfgibfbgklkgbaaProg
import Derived.Test.YtfgibfbgklkgbaaHoldC2
import Derived.Test.YtfgibfbgklkgbaaMostPlain
import Derived.Test.YtfgibfbgklkgbaaUmSub
namespace Go.Um
open Go.Proofs
open GoT (sz ag rdc)
open KeyT (kv)

theorem el_Int_3_MostL1 : ElT Try.prog Int 3 := ⟨Try.isAgg3, Try.sizeOf3⟩
theorem el_LRow_34_MostL1 : ElT Try.prog LRow 34 := ⟨Try.isAgg34, Try.sizeOf34⟩

set_option maxRecDepth 100000 in
theorem note_L {H0 : Heap} (S : Nat → Prop) (vs : Value) (g7 g3 g12 r : Nat) (vl vr : Value) (s left : List Int) (rows : List LRow) (m : List (Int × Bool)) (gq : Int → Bool) (hA : ∀ e ∈ [mapE r (m : List (Int × Bool)), blkE g7 (.cells #[vl] 32), blkE g3 (.cells #[vr] 22), blkE g12 (.cells #[(Value.map (some r))] 85), rowE 3 vl (left : List Int)], e.ok S H0) (hdj : List.Pairwise (fun e e' => ∀ b, e.blocks b → ¬ e'.blocks b) [mapE r (m : List (Int × Bool)), blkE g7 (.cells #[vl] 32), blkE g3 (.cells #[vr] 22), blkE g12 (.cells #[(Value.map (some r))] 85), rowE 3 vl (left : List Int)]) (hsb : ∀ b, S b → b < H0.size) (hin : ∀ b, own [mapE r (m : List (Int × Bool)), blkE g7 (.cells #[vl] 32), blkE g3 (.cells #[vr] 22), blkE g12 (.cells #[(Value.map (some r))] 85), rowE 3 vl (left : List Int)] b → S b) (rs : Rd S H0 vs s) (rr : Rd S H0 vr rows) (hM : Marks m left gq) (hir : InR rows left) (hok : HoldOk rows s) : CallsH Try.prog 67 #[vs, PT g7 0, PT g3 0, PT g12 0] H0 (fun rv_ H' => Ext (own [mapE r (m : List (Int × Bool)), blkE g7 (.cells #[vl] 32), blkE g3 (.cells #[vr] 22), blkE g12 (.cells #[(Value.map (some r))] 85), rowE 3 vl (left : List Int)]) H0 H' ∧ rv_ = Value.tuple #[] ∧ ∃ m', (∀ e ∈ [mapE r (m' : List (Int × Bool)), blkE g7 (.cells #[vl] 32), blkE g3 (.cells #[vr] 22), blkE g12 (.cells #[(Value.map (some r))] 85), rowE 3 vl (left : List Int)], e.ok (lv S [mapE r (m : List (Int × Bool)), blkE g7 (.cells #[vl] 32), blkE g3 (.cells #[vr] 22), blkE g12 (.cells #[(Value.map (some r))] 85), rowE 3 vl (left : List Int)] [mapE r (m' : List (Int × Bool)), blkE g7 (.cells #[vl] 32), blkE g3 (.cells #[vr] 22), blkE g12 (.cells #[(Value.map (some r))] 85), rowE 3 vl (left : List Int)]) H') ∧ Marks m' left (fun i => gq i || (fun i => !holdB [nth rows i.toNat] s) i)) := by
  have hS0 : St H0 (own [mapE r (m : List (Int × Bool)), blkE g7 (.cells #[vl] 32), blkE g3 (.cells #[vr] 22), blkE g12 (.cells #[(Value.map (some r))] 85), rowE 3 vl (left : List Int)]) (fun b => S b ∧ ¬ own [mapE r (m : List (Int × Bool)), blkE g7 (.cells #[vl] 32), blkE g3 (.cells #[vr] 22), blkE g12 (.cells #[(Value.map (some r))] 85), rowE 3 vl (left : List Int)] b) [rdE vs s, rdE vr rows, mapE r (m : List (Int × Bool)), blkE g7 (.cells #[vl] 32), blkE g3 (.cells #[vr] 22), blkE g12 (.cells #[(Value.map (some r))] 85), rowE 3 vl (left : List Int)] H0 := ((St.handed hA hdj hsb hin).rd (rr.sub fun b hb => handed_sub hin hb)).rd (rs.sub fun b hb => handed_sub hin (SL_rd hb))
  have hsr := (Rd.list.1 rr).small
  have hsl := (Rd.list.1 (hS0.rowN 6 rfl)).small
  refine callsH_of_wpF (args := [vs, PT g7 0, PT g3 0, PT g12 0]) (rs := []) Try.func67 rfl Try.ntmps67 Try.results67 (by kernel_rfl) (Nat.le_of_ble_eq_true rfl) ?_
  have a0_0 : argF [vs, PT g7 0, PT g3 0, PT g12 0] 0 = vs := rfl
  have a0_1 : argF [vs, PT g7 0, PT g3 0, PT g12 0] 1 = PT g7 0 := rfl
  have a0_2 : argF [vs, PT g7 0, PT g3 0, PT g12 0] 2 = PT g3 0 := rfl
  have a0_3 : argF [vs, PT g7 0, PT g3 0, PT g12 0] 3 = PT g12 0 := rfl
  generalize argF [vs, PT g7 0, PT g3 0, PT g12 0] = f0 at *
  refine wpF_seq ?_
  refine wpF_cut (fun f H => f 0 = vs ∧ f 2 = PT g3 0 ∧ f 3 = PT g12 0 ∧ f 7 = vl ∧ f 8 = I ((left.length : Int)) ∧ f 9 = I (0) ∧ H0 = H) ?_ ?_
  · refine wpF_region ?_
    refine wpL_q (U := NoB) rfl (q_loadBlk rfl a0_1 Try.isAgg32 (hS0.blk 3 rfl) rfl (fun h => h)) ?_
    refine wpL_q (U := NoB) rfl (q_lenRd rfl Try.underlying32 rfl (hS0.rowl 6 rfl)) ?_
    refine wpL_q (U := NoB) rfl (q_move (v := I (0)) rfl rfl) ?_
    exact ⟨a0_0, a0_2, a0_3, rfl, rfl, rfl, rfl⟩
  rintro f1 _ ⟨a1_0, a1_2, a1_3, a1_7, a1_8, a1_9, rfl⟩
  clear a0_0 a0_1 a0_2 a0_3
  refine wpF_block ?_
  refine wpF_loop (fun mz f H => ∃ (k : Nat), ∃ (mk : List (Int × Bool)), mz = left.length - k ∧ (k ≤ left.length) ∧ (Marks mk left (fun i => gq i || (decide (i ∈ left.take k) && (fun i => !holdB [nth rows i.toNat] s) i))) ∧ f 0 = vs ∧ f 2 = PT g3 0 ∧ f 3 = PT g12 0 ∧ f 7 = vl ∧ f 8 = I ((left.length : Int)) ∧ f 9 = I ((k : Int)) ∧ St H0 (own [mapE r (m : List (Int × Bool)), blkE g7 (.cells #[vl] 32), blkE g3 (.cells #[vr] 22), blkE g12 (.cells #[(Value.map (some r))] 85), rowE 3 vl (left : List Int)]) (fun b => S b ∧ ¬ own [mapE r (m : List (Int × Bool)), blkE g7 (.cells #[vl] 32), blkE g3 (.cells #[vr] 22), blkE g12 (.cells #[(Value.map (some r))] 85), rowE 3 vl (left : List Int)] b) [rdE vs s, rdE vr rows, mapE r (mk : List (Int × Bool)), blkE g7 (.cells #[vl] 32), blkE g3 (.cells #[vr] 22), blkE g12 (.cells #[(Value.map (some r))] 85), rowE 3 vl (left : List Int)] H) (left.length - 0) ?_ ?_
  · exact ⟨0, m, rfl, Nat.zero_le _, (note_start hM), a1_0, a1_2, a1_3, a1_7, a1_8, (Eq.trans a1_9 (congrArg I (by omega))), hS0⟩
  intro m2 f2 H2 hI2
  obtain ⟨k, mk, hm2, hk, hMk, a2_0, a2_2, a2_3, a2_7, a2_8, a2_9, hS2⟩ := hI2
  clear a1_0 a1_2 a1_3 a1_7 a1_8 a1_9
  refine wpF_seq ?_
  refine wpF_cut (fun f H => f 0 = vs ∧ f 2 = PT g3 0 ∧ f 3 = PT g12 0 ∧ f 7 = vl ∧ f 8 = I ((left.length : Int)) ∧ f 9 = I ((k : Int)) ∧ f 10 = B (decide ((k : Int) < (left.length : Int))) ∧ H2 = H) ?_ ?_
  · refine wpF_region ?_
    refine wpL_q (U := NoB) rfl (q_lss rfl a2_9 a2_8) ?_
    exact ⟨a2_0, a2_2, a2_3, a2_7, a2_8, a2_9, rfl, rfl⟩
  rintro f3 _ ⟨a3_0, a3_2, a3_3, a3_7, a3_8, a3_9, a3_10, rfl⟩
  clear a2_0 a2_2 a2_3 a2_7 a2_8 a2_9
  refine wpF_seq ?_
  refine wpF_condP a3_10 (fun hlt => ?t19) (fun hlt => ?e19)
  case e19 =>
    refine wpF_exit ?_
    refine atX_here ?_
    refine ⟨_, resN, hS2.frameM, ?_⟩
    show (Value.tuple #[]) = Value.tuple #[] ∧ ∃ m', (∀ e ∈ [mapE r (m' : List (Int × Bool)), blkE g7 (.cells #[vl] 32), blkE g3 (.cells #[vr] 22), blkE g12 (.cells #[(Value.map (some r))] 85), rowE 3 vl (left : List Int)], e.ok (lv S [mapE r (m : List (Int × Bool)), blkE g7 (.cells #[vl] 32), blkE g3 (.cells #[vr] 22), blkE g12 (.cells #[(Value.map (some r))] 85), rowE 3 vl (left : List Int)] [mapE r (m' : List (Int × Bool)), blkE g7 (.cells #[vl] 32), blkE g3 (.cells #[vr] 22), blkE g12 (.cells #[(Value.map (some r))] 85), rowE 3 vl (left : List Int)]) H2) ∧ Marks m' left (fun i => gq i || (fun i => !holdB [nth rows i.toNat] s) i)
    exact ⟨rfl, mk, St.leave (hS2.drop (sn (sn (sk (sk (sk (sk (sk (List.Sublist.slnil))))))))), note_end hMk (by omega)⟩
  have hir1 := hir _ (nth_mem (l := left) (k := k) (by omega))
  have hsl1 : (rows.take (nth left k + 1).toNat).drop (nth left k).toNat = [nth rows (nth left k).toNat] := slice_one hir1
  refine wpF_skip ?_
  refine wpF_seq ?_
  refine wpF_block ?_
  refine wpF_seq ?_
  refine wpF_cut (fun f H => f 0 = vs ∧ f 2 = PT g3 0 ∧ f 3 = PT g12 0 ∧ f 6 = I (nth left k) ∧ f 7 = vl ∧ f 8 = I ((left.length : Int)) ∧ f 9 = I ((k : Int)) ∧ H2 = H) ?_ ?_
  · refine wpF_region ?_
    refine wpL_q (U := NoB) rfl (q_indexRd (k := k) rfl Try.underlying32 el_Int_3_MostL1 a3_7 a3_9 (hS2.rowl 6 rfl) (by omega) (by omega)) ?_
    refine wpL_q (U := NoB) rfl (q_loadInt (k := k) rfl rfl el_Int_3_MostL1 (hS2.rowl 6 rfl) (by omega) (fun _ h => h)) ?_
    refine wpL_q (U := NoB) rfl (q_assign (v := I (nth left k)) rfl rfl) ?_
    exact ⟨a3_0, a3_2, a3_3, rfl, a3_7, a3_8, a3_9, rfl⟩
  rintro f5 _ ⟨a5_0, a5_2, a5_3, a5_6, a5_7, a5_8, a5_9, rfl⟩
  clear a3_0 a3_10 a3_2 a3_3 a3_7 a3_8 a3_9
  refine wpF_seq ?_
  refine wpF_cut (fun f H => f 0 = vs ∧ f 2 = PT g3 0 ∧ f 3 = PT g12 0 ∧ f 6 = I (nth left k) ∧ f 7 = vl ∧ f 8 = I ((left.length : Int)) ∧ f 9 = I ((k : Int)) ∧ f 20 = B (!(holdB ((rows.take (((nth left k) + 1).toNat)).drop ((nth left k).toNat)) s)) ∧ St H0 (own [mapE r (m : List (Int × Bool)), blkE g7 (.cells #[vl] 32), blkE g3 (.cells #[vr] 22), blkE g12 (.cells #[(Value.map (some r))] 85), rowE 3 vl (left : List Int)]) (fun b => S b ∧ ¬ own [mapE r (m : List (Int × Bool)), blkE g7 (.cells #[vl] 32), blkE g3 (.cells #[vr] 22), blkE g12 (.cells #[(Value.map (some r))] 85), rowE 3 vl (left : List Int)] b) [rdE vs s, rdE vr rows, mapE r (mk : List (Int × Bool)), blkE g7 (.cells #[vl] 32), blkE g3 (.cells #[vr] 22), blkE g12 (.cells #[(Value.map (some r))] 85), rowE 3 vl (left : List Int)] H) ?_ ?_
  · refine wpF_region ?_
    refine wpL_q (U := NoB) rfl (q_loadBlk rfl a5_2 Try.isAgg22 (hS2.blk 4 rfl) rfl (fun h => h)) ?_
    refine wpL_q (U := NoB) rfl (q_move (v := I (nth left k)) rfl a5_6) ?_
    refine wpL_q (U := NoB) rfl (q_move (v := I (nth left k)) rfl a5_6) ?_
    refine wpL_q (U := NoB) rfl (q_add rfl rfl rfl (by constructor <;> omega)) ?_
    have hS6 : St H0 (own [mapE r (m : List (Int × Bool)), blkE g7 (.cells #[vl] 32), blkE g3 (.cells #[vr] 22), blkE g12 (.cells #[(Value.map (some r))] 85), rowE 3 vl (left : List Int)]) (fun b => S b ∧ ¬ own [mapE r (m : List (Int × Bool)), blkE g7 (.cells #[vl] 32), blkE g3 (.cells #[vr] 22), blkE g12 (.cells #[(Value.map (some r))] 85), rowE 3 vl (left : List Int)] b) [rdE (sliceV 3 vr ((nth left k).toNat) (((nth left k) + 1).toNat)) ((rows.take (((nth left k) + 1).toNat)).drop ((nth left k).toNat) : List LRow), rdE vs s, rdE vr rows, mapE r (mk : List (Int × Bool)), blkE g7 (.cells #[vl] 32), blkE g3 (.cells #[vr] 22), blkE g12 (.cells #[(Value.map (some r))] 85), rowE 3 vl (left : List Int)] H2 := hS2.rd (Rd.list.2 (sliceV_rd (k := (nth left k).toNat) (m := ((nth left k) + 1).toNat) (Rd.list.1 (hS2.rdS 1 rfl)) (by omega) (by omega)))
    refine wpL_q (U := NoB) rfl (q_sliceRd (k := (nth left k).toNat) (m := ((nth left k) + 1).toNat) rfl Try.underlying22 el_LRow_34_MostL1 rfl (hS2.rdl 1 rfl) (lo1 rfl (by omega)) (lo1 rfl (by omega)) (by omega) (by omega)) ?_
    refine wpL_q (U := NoB) rfl (q_move (v := vs) rfl a5_0) ?_
    refine wpL_o rfl ?_
    refine e_call rfl Try.call52 (arr2 (v0 := (sliceV 3 vr ((nth left k).toNat) (((nth left k) + 1).toNat))) (v1 := vs) rfl rfl) (Hold_L ((sliceV 3 vr ((nth left k).toNat) (((nth left k) + 1).toNat))) vs ((rows.take (((nth left k) + 1).toNat)).drop ((nth left k).toNat)) s (hS6.rdN 0 rfl) (hS6.rdN 1 rfl) (hsl1 ▸ hok.one (by omega))) ?_
    rintro _ H7 ⟨hxx, rfl⟩
    have hS8 : St H0 (own [mapE r (m : List (Int × Bool)), blkE g7 (.cells #[vl] 32), blkE g3 (.cells #[vr] 22), blkE g12 (.cells #[(Value.map (some r))] 85), rowE 3 vl (left : List Int)]) (fun b => S b ∧ ¬ own [mapE r (m : List (Int × Bool)), blkE g7 (.cells #[vl] 32), blkE g3 (.cells #[vr] 22), blkE g12 (.cells #[(Value.map (some r))] 85), rowE 3 vl (left : List Int)] b) [rdE (sliceV 3 vr ((nth left k).toNat) (((nth left k) + 1).toNat)) ((rows.take (((nth left k) + 1).toNat)).drop ((nth left k).toNat) : List LRow), rdE vs s, rdE vr rows, mapE r (mk : List (Int × Bool)), blkE g7 (.cells #[vl] 32), blkE g3 (.cells #[vr] 22), blkE g12 (.cells #[(Value.map (some r))] 85), rowE 3 vl (left : List Int)] H7 := hS6.ext hxx
    refine wpL_q (U := NoB) rfl (q_not rfl rfl) ?_
    exact ⟨a5_0, a5_2, a5_3, a5_6, a5_7, a5_8, a5_9, rfl, (hS8.drop (sn (sk (sk (sk (sk (sk (sk (sk (List.Sublist.slnil))))))))))⟩
  rintro f10 H10 ⟨a10_0, a10_2, a10_3, a10_6, a10_7, a10_8, a10_9, a10_20, hS10⟩
  clear a5_0 a5_2 a5_3 a5_6 a5_7 a5_8 a5_9
  refine wpF_cond a10_20 (fun h20 => ?t18) (fun h20 => ?e18)
  case e18 =>
    refine wpF_skip ?_
    refine wpF_cut (fun f H => f 0 = vs ∧ f 2 = PT g3 0 ∧ f 3 = PT g12 0 ∧ f 7 = vl ∧ f 8 = I ((left.length : Int)) ∧ f 9 = I ((k : Int) + 1) ∧ H10 = H) ?_ ?_
    · refine wpF_region ?_
      refine wpL_q (U := NoB) rfl (q_add rfl a10_9 rfl (by constructor <;> omega)) ?_
      refine wpL_q (U := NoB) rfl (q_move (v := I ((k : Int) + 1)) rfl rfl) ?_
      exact ⟨a10_0, a10_2, a10_3, a10_7, a10_8, rfl, rfl⟩
    rintro f17 _ ⟨a17_0, a17_2, a17_3, a17_7, a17_8, a17_9, rfl⟩
    clear a10_0 a10_2 a10_20 a10_3 a10_6 a10_7 a10_8 a10_9
    refine ⟨_, ?_, k + 1, mk, rfl, (by omega), (note_no hMk (by omega) (by simpa [hsl1] using h20)), a17_0, a17_2, a17_3, a17_7, a17_8, (Eq.trans a17_9 (congrArg I (by omega))), hS10⟩
    omega
  refine wpF_cut (fun f H => f 0 = vs ∧ f 2 = PT g3 0 ∧ f 3 = PT g12 0 ∧ f 7 = vl ∧ f 8 = I ((left.length : Int)) ∧ f 9 = I ((k : Int)) ∧ St H0 (own [mapE r (m : List (Int × Bool)), blkE g7 (.cells #[vl] 32), blkE g3 (.cells #[vr] 22), blkE g12 (.cells #[(Value.map (some r))] 85), rowE 3 vl (left : List Int)]) (fun b => S b ∧ ¬ own [mapE r (m : List (Int × Bool)), blkE g7 (.cells #[vl] 32), blkE g3 (.cells #[vr] 22), blkE g12 (.cells #[(Value.map (some r))] 85), rowE 3 vl (left : List Int)] b) [mapE r (mset mk (nth left k) true : List (Int × Bool)), rdE vs s, rdE vr rows, blkE g7 (.cells #[vl] 32), blkE g3 (.cells #[vr] 22), blkE g12 (.cells #[(Value.map (some r))] 85), rowE 3 vl (left : List Int)] H) ?_ ?_
  · refine wpF_region ?_
    refine wpL_q (U := NoB) rfl (q_loadBlk rfl a10_3 Try.isAgg85 (hS10.blk 5 rfl) rfl (fun h => h)) ?_
    refine wpL_q (U := NoB) rfl (q_move (v := I (nth left k)) rfl a10_6) ?_
    have hS12 : St H0 (own [mapE r (m : List (Int × Bool)), blkE g7 (.cells #[vl] 32), blkE g3 (.cells #[vr] 22), blkE g12 (.cells #[(Value.map (some r))] 85), rowE 3 vl (left : List Int)]) (fun b => S b ∧ ¬ own [mapE r (m : List (Int × Bool)), blkE g7 (.cells #[vl] 32), blkE g3 (.cells #[vr] 22), blkE g12 (.cells #[(Value.map (some r))] 85), rowE 3 vl (left : List Int)] b) [mapE r (mk : List (Int × Bool)), rdE vs s, rdE vr rows, blkE g7 (.cells #[vl] 32), blkE g3 (.cells #[vr] 22), blkE g12 (.cells #[(Value.map (some r))] 85), rowE 3 vl (left : List Int)] H10 := (hS10.front 2 rfl)
    refine wpL_o rfl ?_
    refine e_mapUpdate (k := (nth left k)) (.inl rfl) Try.underlying85 (keyLaw_int Try.underlying3) rfl rfl rfl hS12 (Rd.bool.2 rfl) (fun H13 hS14 hxx => ?_)
    replace hS14 : St H0 (own [mapE r (m : List (Int × Bool)), blkE g7 (.cells #[vl] 32), blkE g3 (.cells #[vr] 22), blkE g12 (.cells #[(Value.map (some r))] 85), rowE 3 vl (left : List Int)]) (fun b => S b ∧ ¬ own [mapE r (m : List (Int × Bool)), blkE g7 (.cells #[vl] 32), blkE g3 (.cells #[vr] 22), blkE g12 (.cells #[(Value.map (some r))] 85), rowE 3 vl (left : List Int)] b) [mapE r (mset mk (nth left k) true : List (Int × Bool)), rdE vs s, rdE vr rows, blkE g7 (.cells #[vl] 32), blkE g3 (.cells #[vr] 22), blkE g12 (.cells #[(Value.map (some r))] 85), rowE 3 vl (left : List Int)] H13 := hS14
    exact ⟨a10_0, a10_2, a10_3, a10_7, a10_8, a10_9, hS14⟩
  rintro f15 H15 ⟨a15_0, a15_2, a15_3, a15_7, a15_8, a15_9, hS15⟩
  clear a10_0 a10_2 a10_20 a10_3 a10_6 a10_7 a10_8 a10_9
  refine wpF_cut (fun f H => f 0 = vs ∧ f 2 = PT g3 0 ∧ f 3 = PT g12 0 ∧ f 7 = vl ∧ f 8 = I ((left.length : Int)) ∧ f 9 = I ((k : Int) + 1) ∧ H15 = H) ?_ ?_
  · refine wpF_region ?_
    refine wpL_q (U := NoB) rfl (q_add rfl a15_9 rfl (by constructor <;> omega)) ?_
    refine wpL_q (U := NoB) rfl (q_move (v := I ((k : Int) + 1)) rfl rfl) ?_
    exact ⟨a15_0, a15_2, a15_3, a15_7, a15_8, rfl, rfl⟩
  rintro f16 _ ⟨a16_0, a16_2, a16_3, a16_7, a16_8, a16_9, rfl⟩
  clear a15_0 a15_2 a15_3 a15_7 a15_8 a15_9
  refine ⟨_, ?_, k + 1, mset mk (nth left k) true, rfl, (by omega), (note_yes hMk (by omega) (by simpa [hsl1] using h20)), a16_0, a16_2, a16_3, a16_7, a16_8, (Eq.trans a16_9 (congrArg I (by omega))), (show St H0 (own [mapE r (m : List (Int × Bool)), blkE g7 (.cells #[vl] 32), blkE g3 (.cells #[vr] 22), blkE g12 (.cells #[(Value.map (some r))] 85), rowE 3 vl (left : List Int)]) (fun b => S b ∧ ¬ own [mapE r (m : List (Int × Bool)), blkE g7 (.cells #[vl] 32), blkE g3 (.cells #[vr] 22), blkE g12 (.cells #[(Value.map (some r))] 85), rowE 3 vl (left : List Int)] b) [rdE vs s, rdE vr rows, mapE r ((mset mk (nth left k) true) : List (Int × Bool)), blkE g7 (.cells #[vl] 32), blkE g3 (.cells #[vr] 22), blkE g12 (.cells #[(Value.map (some r))] 85), rowE 3 vl (left : List Int)] H15 from (St.drop (show St H0 (own [mapE r (m : List (Int × Bool)), blkE g7 (.cells #[vl] 32), blkE g3 (.cells #[vr] 22), blkE g12 (.cells #[(Value.map (some r))] 85), rowE 3 vl (left : List Int)]) (fun b => S b ∧ ¬ own [mapE r (m : List (Int × Bool)), blkE g7 (.cells #[vl] 32), blkE g3 (.cells #[vr] 22), blkE g12 (.cells #[(Value.map (some r))] 85), rowE 3 vl (left : List Int)] b) [rdE vs s, rdE vr rows, mapE r (mset mk (nth left k) true : List (Int × Bool)), blkE g7 (.cells #[vl] 32), blkE g3 (.cells #[vr] 22), blkE g12 (.cells #[(Value.map (some r))] 85), rowE 3 vl (left : List Int)] H15 from ((hS15.front 2 rfl).front 2 rfl)) (sk (sk (sk (sk (sk (sk (sk (List.Sublist.slnil))))))))))⟩
  omega

set_option maxRecDepth 100000 in
theorem Most_2 {H0 : Heap} (x : Int) (g12 r : Nat) (m : List (Int × Bool)) (hb : H0[g12]? = some (.cells #[.map (some r)] 85)) (hm : (mapE r m).ok NoB H0) : CallsH Try.prog 69 #[I (x), PT g12 0] H0 (fun rv_ H' => Ext NoB H0 H' ∧ rv_ = B ((mget m x).getD false)) := by
  have hS0 : St H0 NoB NoB [fixE g12 (.cells #[(Value.map (some r))] 85), fixM r (m : List (Int × Bool))] H0 := St.argFix (St.argMap (St.start (fun _ h => h.elim)) (Bl0.nil) hm (fun h => h) (fun _ h => h)) (Bl0.consM (Bl0.nil)) hb (fun h => h)
  refine callsH_of_wpF (args := [I (x), PT g12 0]) (rs := [.tmp 3]) Try.func69 rfl Try.ntmps69 Try.results69 (by kernel_rfl) (Nat.le_of_ble_eq_true rfl) ?_
  have a0_0 : argF [I (x), PT g12 0] 0 = I (x) := rfl
  have a0_1 : argF [I (x), PT g12 0] 1 = PT g12 0 := rfl
  generalize argF [I (x), PT g12 0] = f0 at *
  refine wpF_seq ?_
  refine wpF_cut (fun f H => f 0 = I (x) ∧ f 1 = PT g12 0 ∧ H0 = H) ?_ ?_
  · refine wpF_region ?_
    refine wpL_q (U := NoB) rfl (q_assign (v := B (false)) rfl rfl) ?_
    exact ⟨a0_0, a0_1, rfl⟩
  rintro f1 _ ⟨a1_0, a1_1, rfl⟩
  clear a0_0 a0_1
  refine wpF_seq ?_
  refine wpF_cut (fun f H => f 3 = B ((mget m x).getD false) ∧ H0 = H) ?_ ?_
  · refine wpF_region ?_
    refine wpL_q (U := NoB) rfl (q_loadBlk rfl a1_1 Try.isAgg85 (hS0.fixd 0 rfl) rfl (fun h => h)) ?_
    refine wpL_q (U := NoB) rfl (q_move (v := I (x)) rfl a1_0) ?_
    obtain ⟨u2, hlu2, hru2⟩ := lookD (t := 85) (d := (false : Bool)) Try.underlying85 (keyLaw_int Try.underlying3) Try.zeroValue4 (fun _ _ => Rd.bool.2 rfl) x (hS0.get 1 rfl).2
    obtain rfl := Rd.bool.1 hru2
    refine wpL_q (U := NoB) rfl (q_lookup0 rfl rfl rfl (hlu2 _ (fun h => h))) ?_
    refine wpL_q (U := NoB) rfl (q_assign (v := B ((mget m x).getD false)) rfl rfl) ?_
    exact ⟨rfl, rfl⟩
  rintro f3 _ ⟨a3_3, rfl⟩
  clear a1_0 a1_1
  refine wpF_ret ?_
  refine ⟨_, resT a3_3 resN, hS0.frame, ?_⟩
  show (B ((mget m x).getD false)) = B ((mget m x).getD false)
  rfl

set_option maxRecDepth 100000 in
theorem DeleteFunc {H0 : Heap} (S : Nat → Prop) (vx vf : Value) (xs : List Int) (gp : Int → Bool) (hA : ∀ e ∈ [rowE 3 vx (xs : List Int)], e.ok S H0) (hsb : ∀ b, S b → b < H0.size) (hin : ∀ b, own [rowE 3 vx (xs : List Int)] b → S b) (hf : ∀ x, x ∈ xs → ∀ H, Ext (own [rowE 3 vx (xs : List Int)]) H0 H → FnH Try.prog vf #[I x] H (fun rv H' => Ext NoB H H' ∧ rv = B (gp x))) : CallsH Try.prog 68 #[vx, vf] H0 (fun rv_ H' => Ext (own [rowE 3 vx (xs : List Int)]) H0 H' ∧ (∀ e ∈ [rowE 3 rv_ (xs.filter fun x => !gp x : List Int)], e.ok (lv S [rowE 3 vx (xs : List Int)] [rowE 3 rv_ (xs.filter fun x => !gp x : List Int)]) H') ∧ ∀ b, rowB rv_ b → rowB vx b) := by
  have hS0 : St H0 (own [rowE 3 vx (xs : List Int)]) (fun b => S b ∧ ¬ own [rowE 3 vx (xs : List Int)] b) [rowE 3 vx (xs : List Int)] H0 := St.handed hA pw1 hsb hin
  have hsm : xs.length * 8 ≤ 140737488355328 := (hA _ (List.mem_singleton.2 rfl)).1
  refine callsH_of_wpF (args := [vx, vf]) (rs := [.tmp 4]) Try.func68 rfl Try.ntmps68 Try.results68 (by kernel_rfl) (Nat.le_of_ble_eq_true rfl) ?_
  have a0_0 : argF [vx, vf] 0 = vx := rfl
  have a0_1 : argF [vx, vf] 1 = vf := rfl
  generalize argF [vx, vf] = f0 at *
  refine wpF_seq ?_
  refine wpF_cut (fun f H => f 0 = vx ∧ f 1 = vf ∧ H0 = H) ?_ ?_
  · refine wpF_region ?_
    refine wpL_q (U := NoB) rfl (q_assign (v := (Value.slice none 0 0)) rfl rfl) ?_
    exact ⟨a0_0, a0_1, rfl⟩
  rintro f1 _ ⟨a1_0, a1_1, rfl⟩
  clear a0_0 a0_1
  refine wpF_seq ?_
  refine wpF_cut (fun f H => f 0 = vx ∧ f 1 = vf ∧ f 5 = I (idxOf gp xs) ∧ St H0 (own [rowE 3 vx (xs : List Int)]) (fun b => S b ∧ ¬ own [rowE 3 vx (xs : List Int)] b) [rowE 3 vx (xs : List Int)] H) ?_ ?_
  · refine wpF_region ?_
    refine wpL_q (U := NoB) rfl (q_move (v := vx) rfl a1_0) ?_
    refine wpL_q (U := NoB) rfl (q_move (v := vf) rfl a1_1) ?_
    refine wpL_o rfl ?_
    refine e_call rfl Try.call75 (arr2 (v0 := vx) (v1 := vf) rfl rfl) (IndexFunc vx vf xs gp (hS0.rowN 0 rfl) (fun x hx H hE => hf x hx H (hS0.frameM.trans (hE.mono fun _ h => h.elim)))) ?_
    rintro _ H2 ⟨hxx, rfl⟩
    have hS3 : St H0 (own [rowE 3 vx (xs : List Int)]) (fun b => S b ∧ ¬ own [rowE 3 vx (xs : List Int)] b) [rowE 3 vx (xs : List Int)] H2 := hS0.ext hxx
    refine wpL_q (U := NoB) rfl (q_assign (v := I (idxOf gp xs)) rfl rfl) ?_
    exact ⟨a1_0, a1_1, rfl, hS3⟩
  rintro f5 H5 ⟨a5_0, a5_1, a5_5, hS5⟩
  clear a1_0 a1_1
  refine wpF_seq ?_
  refine wpF_seq ?_
  refine wpF_cut (fun f H => f 0 = vx ∧ f 1 = vf ∧ f 5 = I (idxOf gp xs) ∧ f 12 = B (decide ((idxOf gp xs) = (-1))) ∧ H5 = H) ?_ ?_
  · refine wpF_region ?_
    refine wpL_q (U := NoB) rfl (q_move (v := I (idxOf gp xs)) rfl a5_5) ?_
    refine wpL_q (U := NoB) rfl (q_eql rfl rfl rfl) ?_
    exact ⟨a5_0, a5_1, a5_5, rfl, rfl⟩
  rintro f6 _ ⟨a6_0, a6_1, a6_5, a6_12, rfl⟩
  clear a5_0 a5_1 a5_5
  refine wpF_condP a6_12 (fun h12 => ?t34) (fun h12 => ?e34)
  case t34 =>
    refine wpF_seq ?_
    refine wpF_cut (fun f H => f 4 = vx ∧ H5 = H) ?_ ?_
    · refine wpF_region ?_
      refine wpL_q (U := NoB) rfl (q_move (v := vx) rfl a6_0) ?_
      refine wpL_q (U := NoB) rfl (q_assign (v := vx) rfl rfl) ?_
      exact ⟨rfl, rfl⟩
    rintro f8 _ ⟨a8_4, rfl⟩
    clear a6_0 a6_1 a6_12 a6_5
    refine wpF_ret ?_
    refine ⟨_, resT a8_4 resN, hS5.frameM, ?_⟩
    show (∀ e ∈ [rowE 3 vx (xs.filter fun x => !gp x : List Int)], e.ok (lv S [rowE 3 vx (xs : List Int)] [rowE 3 vx (xs.filter fun x => !gp x : List Int)]) H5) ∧ ∀ b, rowB vx b → rowB vx b
    have hL := hS5
    rw [← del_none h12] at hL
    rw [del_none h12] at hL
    refine ⟨?_, fun b hb => hb⟩
    rw [del_none h12]
    exact St.leave hL
  obtain ⟨i0, hd0, hd1, hd2, hd3⟩ := del_first h12
  refine wpF_skip ?_
  refine wpF_seq ?_
  refine wpF_seq ?_
  refine wpF_cut (fun f H => f 0 = vx ∧ f 1 = vf ∧ f 5 = I (idxOf gp xs) ∧ f 6 = I ((idxOf gp xs) + 1) ∧ H5 = H) ?_ ?_
  · refine wpF_region ?_
    refine wpL_q (U := NoB) rfl (q_move (v := I (idxOf gp xs)) rfl a6_5) ?_
    refine wpL_q (U := NoB) rfl (q_add rfl rfl rfl (by constructor <;> omega)) ?_
    refine wpL_q (U := NoB) rfl (q_assign (v := I ((idxOf gp xs) + 1)) rfl rfl) ?_
    exact ⟨a6_0, a6_1, a6_5, rfl, rfl⟩
  rintro f9 _ ⟨a9_0, a9_1, a9_5, a9_6, rfl⟩
  clear a6_0 a6_1 a6_12 a6_5
  refine wpF_block ?_
  refine wpF_loop (fun mz f H => ∃ (i : Nat), ∃ (j : Nat), ∃ (C : List Int), mz = xs.length - j ∧ (i < j) ∧ (j ≤ xs.length) ∧ (C.length = xs.length) ∧ (C.take i = (xs.take j).filter fun x => !gp x) ∧ (∀ m, j ≤ m → m < xs.length → nth C m = nth xs m) ∧ f 0 = vx ∧ f 1 = vf ∧ f 5 = I ((i : Int)) ∧ f 6 = I ((j : Int)) ∧ St H0 (own [rowE 3 vx (xs : List Int)]) (fun b => S b ∧ ¬ own [rowE 3 vx (xs : List Int)] b) [rowE 3 vx (C : List Int)] H) (xs.length - (i0 + 1)) ?_ ?_
  · exact ⟨i0, i0 + 1, xs, rfl, Nat.lt_succ_self _, hd1, rfl, (del_start hd2 hd1 hd3), (fun _ _ _ => rfl), a9_0, a9_1, (Eq.trans a9_5 (congrArg I (by omega))), (Eq.trans a9_6 (congrArg I (by omega))), hS5⟩
  intro m10 f10 H10 hI10
  obtain ⟨i, j, C, hm10, hij, hj, hCl, hCt, hCr, a10_0, a10_1, a10_5, a10_6, hS10⟩ := hI10
  clear a9_0 a9_1 a9_5 a9_6
  refine wpF_seq ?_
  refine wpF_seq ?_
  refine wpF_cut (fun f H => f 0 = vx ∧ f 1 = vf ∧ f 5 = I ((i : Int)) ∧ f 6 = I ((j : Int)) ∧ f 19 = B (decide ((j : Int) < (C.length : Int))) ∧ H10 = H) ?_ ?_
  · refine wpF_region ?_
    refine wpL_q (U := NoB) rfl (q_move (v := I ((j : Int))) rfl a10_6) ?_
    refine wpL_q (U := NoB) rfl (q_move (v := vx) rfl a10_0) ?_
    refine wpL_q (U := NoB) rfl (q_lenRd rfl Try.underlying32 rfl (hS10.rowl 0 rfl)) ?_
    refine wpL_q (U := NoB) rfl (q_lss rfl rfl rfl) ?_
    exact ⟨a10_0, a10_1, a10_5, a10_6, rfl, rfl⟩
  rintro f11 _ ⟨a11_0, a11_1, a11_5, a11_6, a11_19, rfl⟩
  clear a10_0 a10_1 a10_5 a10_6
  refine wpF_condP a11_19 (fun hlt => ?t33) (fun hlt => ?e33)
  case e33 =>
    refine wpF_exit ?_
    refine atX_here ?_
    refine wpF_seq ?_
    refine wpF_cut (fun f H => f 0 = vx ∧ f 5 = I ((i : Int)) ∧ St H0 (own [rowE 3 vx (xs : List Int)]) (fun b => S b ∧ ¬ own [rowE 3 vx (xs : List Int)] b) [rowE 3 vx (C.take i ++ List.replicate (C.length - i) 0 : List Int)] H) ?_ ?_
    · refine wpF_region ?_
      refine wpL_q (U := NoB) rfl (q_move (v := vx) rfl a11_0) ?_
      refine wpL_q (U := NoB) rfl (q_move (v := I ((i : Int))) rfl a11_5) ?_
      refine wpL_q (U := NoB) rfl (q_sliceRd (k := i) (m := C.length) rfl Try.underlying32 el_Int_3_MostL1 rfl (hS10.rowl 0 rfl) (lo1 rfl (by omega)) hi0 (by omega) (by omega)) ?_
      have hS27 : St H0 (own [rowE 3 vx (xs : List Int)]) (fun b => S b ∧ ¬ own [rowE 3 vx (xs : List Int)] b) [rowE 3 vx (C : List Int)] H10 := hS10
      refine wpL_o rfl ?_
      refine e_clearInt (k := i) rfl Try.underlying32 Try.zeroValue3 rfl (by omega) hS27 (fun H29 hS28 hxx => ?_)
      replace hS28 : St H0 (own [rowE 3 vx (xs : List Int)]) (fun b => S b ∧ ¬ own [rowE 3 vx (xs : List Int)] b) [rowE 3 vx (C.take i ++ List.replicate (C.length - i) 0 : List Int)] H29 := hS28
      exact ⟨a11_0, a11_5, hS28⟩
    rintro f30 H30 ⟨a30_0, a30_5, hS30⟩
    clear a11_0 a11_1 a11_19 a11_5 a11_6
    refine wpF_seq ?_
    refine wpF_cut (fun f H => f 4 = (sliceV 1 vx 0 i) ∧ St H0 (own [rowE 3 vx (xs : List Int)]) (fun b => S b ∧ ¬ own [rowE 3 vx (xs : List Int)] b) [rowE 3 (sliceV 1 vx 0 i) ((C.take i ++ List.replicate (C.length - i) 0).take i : List Int)] H) ?_ ?_
    · refine wpF_region ?_
      refine wpL_q (U := NoB) rfl (q_move (v := vx) rfl a30_0) ?_
      refine wpL_q (U := NoB) rfl (q_move (v := I ((i : Int))) rfl a30_5) ?_
      have hS31 : St H0 (own [rowE 3 vx (xs : List Int)]) (fun b => S b ∧ ¬ own [rowE 3 vx (xs : List Int)] b) [rowE 3 (sliceV 1 vx 0 i) ((C.take i ++ List.replicate (C.length - i) 0).take i : List Int)] H30 := St.trunc hS30 (by first | omega | (simp; omega))
      refine wpL_q (U := NoB) rfl (q_sliceRd (k := 0) (m := i) rfl Try.underlying32 el_Int_3_MostL1 rfl (hS30.rowl 0 rfl) lo0 (lo1 rfl (by omega)) (by first | omega | (simp; omega)) (by first | omega | (simp; omega))) ?_
      refine wpL_q (U := NoB) rfl (q_assign (v := (sliceV 1 vx 0 i)) rfl rfl) ?_
      exact ⟨rfl, hS31⟩
    rintro f32 H32 ⟨a32_4, hS32⟩
    clear a30_0 a30_5
    refine wpF_ret ?_
    refine ⟨_, resT a32_4 resN, hS32.frameM, ?_⟩
    show (∀ e ∈ [rowE 3 (sliceV 1 vx 0 i) (xs.filter fun x => !gp x : List Int)], e.ok (lv S [rowE 3 vx (xs : List Int)] [rowE 3 (sliceV 1 vx 0 i) (xs.filter fun x => !gp x : List Int)]) H32) ∧ ∀ b, rowB (sliceV 1 vx 0 i) b → rowB vx b
    have hL := hS32
    rw [del_end hCl (by omega) hCt (by omega)] at hL
    exact ⟨St.leave hL, fun b hb => row_sub (hA _ (List.mem_singleton.2 rfl)) hb⟩
  have hjx : j < xs.length := by omega
  refine wpF_skip ?_
  refine wpF_seq ?_
  refine wpF_block ?_
  refine wpF_seq ?_
  refine wpF_cut (fun f H => f 0 = vx ∧ f 1 = vf ∧ f 5 = I ((i : Int)) ∧ f 6 = I ((j : Int)) ∧ f 7 = I (nth C j) ∧ H10 = H) ?_ ?_
  · refine wpF_region ?_
    refine wpL_q (U := NoB) rfl (q_move (v := vx) rfl a11_0) ?_
    refine wpL_q (U := NoB) rfl (q_move (v := I ((j : Int))) rfl a11_6) ?_
    refine wpL_q (U := NoB) rfl (q_indexRd (k := j) rfl Try.underlying32 el_Int_3_MostL1 rfl rfl (hS10.rowl 0 rfl) (by omega) (by omega)) ?_
    refine wpL_q (U := NoB) rfl (q_loadInt (k := j) rfl rfl el_Int_3_MostL1 (hS10.rowl 0 rfl) (by omega) (fun _ h => h)) ?_
    refine wpL_q (U := NoB) rfl (q_assign (v := I (nth C j)) rfl rfl) ?_
    exact ⟨a11_0, a11_1, a11_5, a11_6, rfl, rfl⟩
  rintro f13 _ ⟨a13_0, a13_1, a13_5, a13_6, a13_7, rfl⟩
  clear a11_0 a11_1 a11_19 a11_5 a11_6
  refine wpF_seq ?_
  refine wpF_cut (fun f H => f 0 = vx ∧ f 1 = vf ∧ f 5 = I ((i : Int)) ∧ f 6 = I ((j : Int)) ∧ f 7 = I (nth C j) ∧ f 29 = B (!(gp (nth C j))) ∧ St H0 (own [rowE 3 vx (xs : List Int)]) (fun b => S b ∧ ¬ own [rowE 3 vx (xs : List Int)] b) [rowE 3 vx (C : List Int)] H) ?_ ?_
  · refine wpF_region ?_
    refine wpL_q (U := NoB) rfl (q_move (v := vf) rfl a13_1) ?_
    refine wpL_q (U := NoB) rfl (q_move (v := I (nth C j)) rfl a13_7) ?_
    refine wpL_o rfl ?_
    refine e_callF rfl rfl (arr1 (v0 := I (nth C j)) rfl) (hf _ (by rw [hCr j (Nat.le_refl _) (by omega)]; exact nth_mem (by omega)) _ hS10.frameM) ?_
    rintro _ H14 ⟨hxx, rfl⟩
    have hS15 : St H0 (own [rowE 3 vx (xs : List Int)]) (fun b => S b ∧ ¬ own [rowE 3 vx (xs : List Int)] b) [rowE 3 vx (C : List Int)] H14 := hS10.ext hxx
    refine wpL_q (U := NoB) rfl (q_not rfl rfl) ?_
    exact ⟨a13_0, a13_1, a13_5, a13_6, a13_7, rfl, hS15⟩
  rintro f17 H17 ⟨a17_0, a17_1, a17_5, a17_6, a17_7, a17_29, hS17⟩
  clear a13_0 a13_1 a13_5 a13_6 a13_7
  refine wpF_cond a17_29 (fun h29 => ?t26) (fun h29 => ?e26)
  case e26 =>
    refine wpF_skip ?_
    refine wpF_cut (fun f H => f 0 = vx ∧ f 1 = vf ∧ f 5 = I ((i : Int)) ∧ f 6 = I ((j : Int) + 1) ∧ H17 = H) ?_ ?_
    · refine wpF_region ?_
      refine wpL_q (U := NoB) rfl (q_move (v := I ((j : Int))) rfl a17_6) ?_
      refine wpL_q (U := NoB) rfl (q_add rfl rfl rfl (by constructor <;> omega)) ?_
      refine wpL_q (U := NoB) rfl (q_assign (v := I ((j : Int) + 1)) rfl rfl) ?_
      exact ⟨a17_0, a17_1, a17_5, rfl, rfl⟩
    rintro f25 _ ⟨a25_0, a25_1, a25_5, a25_6, rfl⟩
    clear a17_0 a17_1 a17_29 a17_5 a17_6 a17_7
    refine ⟨_, ?_, i, j + 1, C, rfl, (by omega), (by omega), hCl, (del_drop hjx hCt hCr (by rw [h29]; exact Bool.false_ne_true)), (fun m h1 h2 => hCr m (by omega) h2), a25_0, a25_1, a25_5, (Eq.trans a25_6 (congrArg I (by omega))), hS17⟩
    omega
  refine wpF_seq ?_
  have hcin := (hS17.rowl 0 rfl).in64 (k := j) (by omega)
  refine wpF_cut (fun f H => f 0 = vx ∧ f 1 = vf ∧ f 5 = I ((i : Int)) ∧ f 6 = I ((j : Int)) ∧ St H0 (own [rowE 3 vx (xs : List Int)]) (fun b => S b ∧ ¬ own [rowE 3 vx (xs : List Int)] b) [rowE 3 vx (C.set i (nth C j) : List Int)] H) ?_ ?_
  · refine wpF_region ?_
    refine wpL_q (U := NoB) rfl (q_move (v := vx) rfl a17_0) ?_
    refine wpL_q (U := NoB) rfl (q_move (v := I ((i : Int))) rfl a17_5) ?_
    refine wpL_q (U := NoB) rfl (q_move (v := I (nth C j)) rfl a17_7) ?_
    refine wpL_q (U := NoB) rfl (q_indexRd (k := i) rfl Try.underlying32 el_Int_3_MostL1 rfl rfl (hS17.rowl 0 rfl) (by omega) (by omega)) ?_
    have hS19 : St H0 (own [rowE 3 vx (xs : List Int)]) (fun b => S b ∧ ¬ own [rowE 3 vx (xs : List Int)] b) [rowE 3 vx (C : List Int)] H17 := hS17
    refine wpL_o rfl ?_
    refine e_rowSet (k := i) (u := I (nth C j)) rfl rfl rfl rfl Try.sizeOf3 (by first | (simp; omega) | omega) hS19 (Rd.int.2 ⟨rfl, by first | assumption | (constructor <;> omega)⟩) (fun H20 hS21 hxx => ?_)
    replace hS21 : St H0 (own [rowE 3 vx (xs : List Int)]) (fun b => S b ∧ ¬ own [rowE 3 vx (xs : List Int)] b) [rowE 3 vx (C.set i (nth C j) : List Int)] H20 := hS21
    exact ⟨a17_0, a17_1, a17_5, a17_6, hS21⟩
  rintro f22 H22 ⟨a22_0, a22_1, a22_5, a22_6, hS22⟩
  clear a17_0 a17_1 a17_29 a17_5 a17_6 a17_7
  refine wpF_cut (fun f H => f 0 = vx ∧ f 1 = vf ∧ f 5 = I ((i : Int) + 1) ∧ f 6 = I ((j : Int)) ∧ H22 = H) ?_ ?_
  · refine wpF_region ?_
    refine wpL_q (U := NoB) rfl (q_move (v := I ((i : Int))) rfl a22_5) ?_
    refine wpL_q (U := NoB) rfl (q_add rfl rfl rfl (by constructor <;> omega)) ?_
    refine wpL_q (U := NoB) rfl (q_assign (v := I ((i : Int) + 1)) rfl rfl) ?_
    exact ⟨a22_0, a22_1, rfl, a22_6, rfl⟩
  rintro f23 _ ⟨a23_0, a23_1, a23_5, a23_6, rfl⟩
  clear a22_0 a22_1 a22_5 a22_6
  refine wpF_cut (fun f H => f 0 = vx ∧ f 1 = vf ∧ f 5 = I ((i : Int) + 1) ∧ f 6 = I ((j : Int) + 1) ∧ H22 = H) ?_ ?_
  · refine wpF_region ?_
    refine wpL_q (U := NoB) rfl (q_move (v := I ((j : Int))) rfl a23_6) ?_
    refine wpL_q (U := NoB) rfl (q_add rfl rfl rfl (by constructor <;> omega)) ?_
    refine wpL_q (U := NoB) rfl (q_assign (v := I ((j : Int) + 1)) rfl rfl) ?_
    exact ⟨a23_0, a23_1, a23_5, rfl, rfl⟩
  rintro f24 _ ⟨a24_0, a24_1, a24_5, a24_6, rfl⟩
  clear a23_0 a23_1 a23_5 a23_6
  refine ⟨_, ?_, i + 1, j + 1, C.set i (nth C j), rfl, (by omega), (by omega), (by rw [List.length_set]; exact hCl), (del_keep hij hjx hCl hCt hCr h29), (del_keepr hij hCl hCr), a24_0, a24_1, (Eq.trans a24_5 (congrArg I (by omega))), (Eq.trans a24_6 (congrArg I (by omega))), (show St H0 (own [rowE 3 vx (xs : List Int)]) (fun b => S b ∧ ¬ own [rowE 3 vx (xs : List Int)] b) [rowE 3 vx ((C.set i (nth C j)) : List Int)] H22 from hS22)⟩
  omega

end Go.Um
