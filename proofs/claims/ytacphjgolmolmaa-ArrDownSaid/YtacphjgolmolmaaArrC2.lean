import Derived.Test.YtacphjgolmolmaaProg
import Derived.Test.YtacphjgolmolmaaArrC1
import Derived.Test.YtacphjgolmolmaaUmArrDownB
namespace Go.Um
open Go.Proofs
open GoT (sz ag rdc)
open KeyT (kv)
theorem el_Decl_43_ArrC2 : ElT Try.prog Decl 43 := ⟨Try.isAgg43, Try.sizeOf43⟩
theorem el_Int_3_ArrC2 : ElT Try.prog Int 3 := ⟨Try.isAgg3, Try.sizeOf3⟩
theorem el_Node_37_ArrC2 : ElT Try.prog Node 37 := ⟨Try.isAgg37, Try.sizeOf37⟩
theorem em_Decl_43_ArrC2 : ElemOk Try.prog Decl 43 := ⟨Try.t43, (.agg #[(.string (ByteArray.mk #[])), (.slice none 0 0), (.int .i64 0)]), by kernel_rfl, by kernel_rfl, by kernel_rfl, by kernel_rfl, by kernel_rfl⟩
theorem em_Int_3_ArrC2 : ElemOk Try.prog Int 3 := ⟨Try.t3, (.int .i64 0), by kernel_rfl, by kernel_rfl, by kernel_rfl, by kernel_rfl, by kernel_rfl⟩
set_option maxHeartbeats 8000000 in
set_option maxRecDepth 100000 in
theorem Do_L {H0 : Heap} {S : Nat → Prop} (vD vN vH : Value) (a : Ask) (rvD : Rd S H0 vD a.Decls) (rvN : Rd S H0 vN a.Nodes) (rvH : Rd S H0 vH a.Hold) : CallsH Try.prog 6 #[Vg #[vD, vN, vH]] H0 (fun rv_ H' => Ext NoB H0 H' ∧ ∃ w0_ w1_ w2_, rv_ = Value.tuple #[Vg #[w0_, w1_, w2_], Vg #[I (doF a).1, I (doF a).2]] ∧ Rd (SZ S H0) H' w0_ (doA a).Decls ∧ Rd (SZ S H0) H' w1_ (doA a).Nodes ∧ Rd (SZ S H0) H' w2_ (doA a).Hold) := by
 have hsN : a.Nodes.length * 64 ≤ 140737488355328 := (Rd.list.1 rvN).bound
 have hS0 : St H0 NoB (SZ S H0) [rdE vD a.Decls, rdE vN a.Nodes, rdE vH a.Hold] H0 := St.arg (St.arg (St.arg (St.start (fun _ h => h.2)) (Bl0.nil) rvH (fun _ h => h.1)) (Bl0.cons (Bl0.nil)) rvN (fun _ h => h.1)) (Bl0.cons (Bl0.cons (Bl0.nil))) rvD (fun _ h => h.1)
 refine callsH_of_wpF (args := [Vg #[vD, vN, vH]]) (rs := [.cell 2 26, .cell 3 28]) Try.func6 rfl Try.ntmps6 Try.results6 (by kernel_rfl) (Nat.le_of_ble_eq_true rfl) ?_
 have y0 : argF [Vg #[vD, vN, vH]] 0 = Vg #[vD, vN, vH] := rfl
 generalize argF [Vg #[vD, vN, vH]] = f0 at *
 refine fcr (fun f H => ∃ (g1 : Nat), ∃ (g4 : Nat), ∃ (g7 : Nat), f 1 = PT g1 0 ∧ f 2 = PT g4 0 ∧ f 3 = PT g7 0 ∧ St H0 NoB (SZ S H0) [bE g7 #[I (0), I (0)] 28, bE g4 #[nS, nS, nS] 26, bE g1 #[vD, vN, vH] 26, rdE vD a.Decls, rdE vN a.Nodes, rdE vH a.Hold] H) ?_ ?_
 ·refine lo rfl ?_
  refine e_box (v := Vg #[vD, vN, vH]) rfl y0 hS0 (fun g1 H2 hS3 hxx => ?_)
  refine lo rfl ?_
  refine e_alloc rfl Try.zeroValue26 hS3 (fun g4 H5 hS6 hxx => ?_)
  refine lo rfl ?_
  refine e_alloc rfl Try.zeroValue28 hS6 (fun g7 H8 hS9 hxx => ?_)
  exact ⟨g1, g4, g7, rfl, rfl, rfl, hS9⟩
 clear y0
 rintro f10 H10 ⟨g1, g4, g7, y1, y2, y3, hS10⟩
 refine fcr (fun f H => ∃ (r11 : Value), ∃ (g15 : Nat), f 1 = PT g1 0 ∧ f 2 = PT g4 0 ∧ f 3 = PT g7 0 ∧ f 4 = r11 ∧ f 5 = PT g15 0 ∧ St H0 NoB (SZ S H0) [bE g15 #[I (((sortsF a)).1), I (((sortsF a)).2)] 28, rdE r11 (sortsL a), bE g7 #[I (0), I (0)] 28, bE g4 #[nS, nS, nS] 26, bE g1 #[vD, vN, vH] 26, rdE vD a.Decls, rdE vN a.Nodes, rdE vH a.Hold] H) ?_ ?_
 ·refine lq rfl (q_loadBlkA rfl y1 Try.isAgg26 Try.sizeOf26 rfl (hS10.blk 2 rfl) (fun h => h)) ?_
  refine lo rfl ?_
  refine e_call rfl Try.call7 (arr1 (v0 := Vg #[vD, vN, vH]) rfl) (Sorts_L vD vN vH a (hS10.rdS 3 rfl) (hS10.rdS 4 rfl) (hS10.rdS 5 rfl) ) ?_
  rintro _ H12 ⟨hxx, r11, rfl, hrr11⟩
  have hS13 := hS10.res hxx hrr11
  refine lm (v := Value.tuple #[r11, Vg #[I (((sortsF a)).1), I (((sortsF a)).2)]]) rfl rfl rfl ?_
  refine lq rfl (q_extract (vs := #[r11, Vg #[I (((sortsF a)).1), I (((sortsF a)).2)]]) (v := r11) rfl rfl rfl) ?_
  refine lq rfl (q_extract (vs := #[r11, Vg #[I (((sortsF a)).1), I (((sortsF a)).2)]]) (v := Vg #[I (((sortsF a)).1), I (((sortsF a)).2)]) rfl rfl rfl) ?_
  refine lo rfl ?_
  refine e_alloc rfl Try.zeroValue28 hS13 (fun g15 H16 hS17 hxx => ?_)
  refine la (v := r11) rfl rfl rfl ?_
  refine lo rfl ?_
  refine e_storeBlkA (cs' := #[I (((sortsF a)).1), I (((sortsF a)).2)]) rfl rfl rfl Try.sizeOf28 rfl rfl (fa rfl (fa rfl fe)) hS17 (fun H18 hS19 hxx => ?_)
  exact ⟨r11, g15, y1, y2, y3, rfl, rfl, hS19⟩
 clear y1 y2 y3
 rintro f20 H20 ⟨r11, g15, y1, y2, y3, y4, y5, hS20⟩
 refine wpF_seq ?_
 refine fcr (fun f H => f 1 = PT g1 0 ∧ f 2 = PT g4 0 ∧ f 3 = PT g7 0 ∧ f 4 = r11 ∧ f 5 = PT g15 0 ∧ f 25 = B (decide ((((sortsF a)).1) ≠ 0)) ∧ H20 = H) ?_ ?_
 ·refine lq rfl (q_fieldAddr rfl Try.underlying28 rfl Try.sizeOf3 y5) ?_
  refine lq rfl (q_loadBlk rfl rfl Try.isAgg3 (hS20.blk 0 rfl) rfl (fun h => h)) ?_
  refine lq rfl (q_neq rfl rfl rfl) ?_
  exact ⟨y1, y2, y3, y4, y5, rfl, rfl⟩
 clear y1 y2 y3 y4 y5
 rintro f21 _ ⟨y1, y2, y3, y4, y5, y25, rfl⟩
 refine wpF_condP y25 (fun h25 => ?t170) (fun h25 => ?e170)
 case t170 =>
  refine sc (fun f H => f 2 = PT g4 0 ∧ f 3 = PT g7 0 ∧ St H0 NoB (SZ S H0) [bE g7 #[I (((sortsF a)).1), I (((sortsF a)).2)] 28, bE g4 #[nS, nS, nS] 26, bE g15 #[I (((sortsF a)).1), I (((sortsF a)).2)] 28, bE g1 #[vD, vN, vH] 26, rdE vD a.Decls, rdE vN a.Nodes, rdE vH a.Hold] H) ?_ ?_
  ·refine wpF_drawn [none, none, some 0, some 1] [[], [0], [], []] (fun l b => match l with | 0 => b = g4 | 1 => True | _ => False) (by kernel_rfl) (by kernel_rfl) ?_
   refine rq 0 (by kernel_rfl) rfl rfl (q_build (v := Vg #[nS, nS, nS]) rfl par0 (fun w__ => by kernel_rfl)) ?_
   refine rq 1 (by kernel_rfl) rfl rfl (q_loadBlkA rfl y5 Try.isAgg28 Try.sizeOf28 rfl (hS20.blk 0 rfl) (labU_not [0] rfl (fa (fun hb => hS20.dis 0 3 (by decide) rfl rfl _ rfl hb) fe))) ?_
   refine wpR_n [2] (by kernel_rfl) ?_
   refine fa ?_ fe
   refine exE rfl rfl ?_
   refine e_storeBlkA (cs' := #[nS, nS, nS]) rfl y2 rfl Try.sizeOf26 rfl rfl (fa rfl (fa rfl (fa rfl fe))) (hS20.front 3 rfl) (fun H24o2 hS24o2 hxx => ?_)
   refine ⟨Ext.mono hxx (labS_of 0 rfl (fun b hb => hb)), ?_⟩
   refine wpR_n [3] (by kernel_rfl) ?_
   refine fa ?_ fe
   refine exE rfl rfl ?_
   refine e_storeBlkA (cs' := #[I (((sortsF a)).1), I (((sortsF a)).2)]) rfl y3 rfl Try.sizeOf28 rfl rfl (fa rfl (fa rfl fe)) (hS24o2.front 3 rfl) (fun H24o3 hS24o3 hxx => ?_)
   refine ⟨Ext.mono hxx (labS_of 1 rfl (fun _ _ => trivial)), ?_⟩
   refine wpR_end (by kernel_rfl) ?_
   exact ⟨y2, y3, (hS24o3.drop (sk (sk (sk (sn (sk (sk (sk (sk (List.Sublist.slnil))))))))))⟩
  clear y1 y2 y25 y3 y4 y5
  rintro f25 H25 ⟨y2, y3, hS25⟩
  refine wpF_ret ?_
  refine ⟨_, resC y2 (loadV_blkA Try.isAgg26 Try.sizeOf26 rfl (hS25.blk 1 rfl)) (resC y3 (loadV_blkA Try.isAgg28 Try.sizeOf28 rfl (hS25.blk 0 rfl)) (resN)), hS25.frame, ?_⟩
  show ∃ w0_ w1_ w2_, (Value.tuple #[Vg #[nS, nS, nS], Vg #[I (((sortsF a)).1), I (((sortsF a)).2)]]) = Value.tuple #[Vg #[w0_, w1_, w2_], Vg #[I (doF a).1, I (doF a).2]] ∧ Rd (SZ S H0) H25 w0_ (doA a).Decls ∧ Rd (SZ S H0) H25 w1_ (doA a).Nodes ∧ Rd (SZ S H0) H25 w2_ (doA a).Hold
  have hq_ : doF a = _ := doF_bad h25
  have hd_ := doA_bad (a := a) (by rw [hq_]; exact h25)
  exact ⟨_, _, _, by rw [hq_], by rw [hd_]; exact rdNil, by rw [hd_]; exact rdNil, by rw [hd_]; exact rdNil⟩
 have hA : AskOk a := askOk (Decidable.of_not_not h25)
 have hfew := hA.few
 have hmany := hA.many
 have hholds := hA.holds
 have hS23 : St H0 NoB (SZ S H0) [bE g15 #[I (((sortsF a)).1), I (((sortsF a)).2)] 28, rdE r11 (sorts a), bE g7 #[I (0), I (0)] 28, bE g4 #[nS, nS, nS] 26, bE g1 #[vD, vN, vH] 26, rdE vD a.Decls, rdE vN a.Nodes, rdE vH a.Hold] H20 := by have h__ := hS20; rw [sortsL_eq h25] at h__; exact h__
 refine wpF_skip ?_
 refine fcr (fun f H => ∃ (g26 : Nat), f 1 = PT g1 0 ∧ f 2 = PT g4 0 ∧ f 3 = PT g7 0 ∧ f 4 = r11 ∧ f 6 = PT g26 0 ∧ St H0 NoB (SZ S H0) [bE g26 #[nS, nS, nS] 26, bE g15 #[I (((sortsF a)).1), I (((sortsF a)).2)] 28, rdE r11 (sorts a), bE g7 #[I (0), I (0)] 28, bE g4 #[nS, nS, nS] 26, bE g1 #[vD, vN, vH] 26, rdE vD a.Decls, rdE vN a.Nodes, rdE vH a.Hold] H) ?_ ?_
 ·refine lo rfl ?_
  refine e_alloc rfl Try.zeroValue26 hS23 (fun g26 H27 hS28 hxx => ?_)
  exact ⟨g26, y1, y2, y3, y4, rfl, hS28⟩
 clear y1 y2 y25 y3 y4 y5
 rintro f29 H29 ⟨g26, y1, y2, y3, y4, y6, hS29⟩
 have hS30 : St H0 NoB (SZ S H0) [rowE 43 nS ([] : List Decl), bE g26 #[nS, nS, nS] 26, bE g15 #[I (((sortsF a)).1), I (((sortsF a)).2)] 28, rdE r11 (sorts a), bE g7 #[I (0), I (0)] 28, bE g4 #[nS, nS, nS] 26, bE g1 #[vD, vN, vH] 26, rdE vD a.Decls, rdE vN a.Nodes, rdE vH a.Hold] H29 := hS29.row0 43
 refine wpF_seq ?_
 refine fcr (fun f H => f 1 = PT g1 0 ∧ f 2 = PT g4 0 ∧ f 3 = PT g7 0 ∧ f 4 = r11 ∧ f 6 = PT g26 0 ∧ f 29 = vD ∧ f 30 = I ((a.Decls.length : Int)) ∧ f 31 = I (0) ∧ H29 = H) ?_ ?_
 ·refine lq rfl (q_fieldAddr rfl Try.underlying26 rfl Try.sizeOf22 y1) ?_
  refine lq rfl (q_loadBlk rfl rfl Try.isAgg22 (hS30.blk 6 rfl) rfl (fun h => h)) ?_
  refine lq rfl (q_lenRd rfl Try.underlying22 rfl (hS30.rdl 7 rfl)) ?_
  refine lm (v := I (0)) rfl rfl rfl ?_
  exact ⟨y1, y2, y3, y4, y6, rfl, rfl, rfl, rfl⟩
 clear y1 y2 y3 y4 y6
 rintro f31 _ ⟨y1, y2, y3, y4, y6, y29, y30, y31, rfl⟩
 refine wpF_block ?_
 refine wpF_loop (fun mz f H => ∃ (k : Nat), ∃ (vo : Value), mz = a.Decls.length - k ∧ (k ≤ a.Decls.length) ∧ f 1 = PT g1 0 ∧ f 2 = PT g4 0 ∧ f 3 = PT g7 0 ∧ f 4 = r11 ∧ f 6 = PT g26 0 ∧ f 29 = vD ∧ f 30 = I ((a.Decls.length : Int)) ∧ f 31 = I ((k : Int)) ∧ St H0 NoB (SZ S H0) [rowE 43 vo ((a.Decls.take k).map declA : List Decl), bE g26 #[vo, nS, nS] 26, bE g15 #[I (((sortsF a)).1), I (((sortsF a)).2)] 28, rdE r11 (sorts a), bE g7 #[I (0), I (0)] 28, bE g4 #[nS, nS, nS] 26, bE g1 #[vD, vN, vH] 26, rdE vD a.Decls, rdE vN a.Nodes, rdE vH a.Hold] H) (a.Decls.length - 0) ?_ ?_
 ·exact ⟨0, nS, rfl, Nat.zero_le _, y1, y2, y3, y4, y6, y29, y30, (Eq.trans y31 (congrArg I (by omega))), (show St H0 NoB (SZ S H0) [rowE 43 nS ((a.Decls.take 0).map declA : List Decl), bE g26 #[nS, nS, nS] 26, bE g15 #[I (((sortsF a)).1), I (((sortsF a)).2)] 28, rdE r11 (sorts a), bE g7 #[I (0), I (0)] 28, bE g4 #[nS, nS, nS] 26, bE g1 #[vD, vN, vH] 26, rdE vD a.Decls, rdE vN a.Nodes, rdE vH a.Hold] H29 from hS30)⟩
 intro m32 f32 H32 hI32
 clear y1 y2 y29 y3 y30 y31 y4 y6
 obtain ⟨k, vo, hm32, hk, y1, y2, y3, y4, y6, y29, y30, y31, hS32⟩ := hI32
 refine fcr (fun f H => f 1 = PT g1 0 ∧ f 2 = PT g4 0 ∧ f 3 = PT g7 0 ∧ f 4 = r11 ∧ f 6 = PT g26 0 ∧ f 29 = vD ∧ f 30 = I ((a.Decls.length : Int)) ∧ f 31 = I ((k : Int)) ∧ f 32 = B (decide ((k : Int) < (a.Decls.length : Int))) ∧ H32 = H) ?_ ?_
 ·refine lq rfl (q_lss rfl y31 y30) ?_
  exact ⟨y1, y2, y3, y4, y6, y29, y30, y31, rfl, rfl⟩
 clear y1 y2 y29 y3 y30 y31 y4 y6
 rintro f33 _ ⟨y1, y2, y3, y4, y6, y29, y30, y31, y32, rfl⟩
 refine wpF_seq ?_
 refine wpF_condP y32 (fun hlt => ?t169) (fun hlt => ?e169)
 case t169 =>
  refine wpF_skip ?_
  refine wpF_seq ?_
  refine wpF_block ?_
  refine fcr (fun f H => ∃ (u36n1 : Value), ∃ (g38 : Nat), ((nth a.Decls k).Name.size ≤ maxLen) ∧ (In64 (nth a.Decls k).Srt) ∧ f 1 = PT g1 0 ∧ f 2 = PT g4 0 ∧ f 3 = PT g7 0 ∧ f 4 = r11 ∧ f 6 = PT g26 0 ∧ f 8 = PT g38 0 ∧ f 29 = vD ∧ f 30 = I ((a.Decls.length : Int)) ∧ f 31 = I ((k : Int)) ∧ St H0 NoB (SZ S H0) [bE g38 #[SB ((nth a.Decls k).Name), u36n1, I ((nth a.Decls k).Srt)] 43, rdE u36n1 ((nth a.Decls k).Args), rowE 43 vo ((a.Decls.take k).map declA : List Decl), bE g26 #[vo, nS, nS] 26, bE g15 #[I (((sortsF a)).1), I (((sortsF a)).2)] 28, rdE r11 (sorts a), bE g7 #[I (0), I (0)] 28, bE g4 #[nS, nS, nS] 26, bE g1 #[vD, vN, vH] 26, rdE vD a.Decls, rdE vN a.Nodes, rdE vH a.Hold] H) ?_ ?_
  ·refine lq rfl (q_indexRd (k := k) rfl Try.underlying22 el_Decl_43_ArrC2 y29 y31 (hS32.rdl 7 rfl) (by omega) (by omega)) ?_
   obtain ⟨u36, huu36, hlu36⟩ := (Rd.list.1 (hS32.rdS 7 rfl)).elem k (by omega)
   obtain ⟨u36n1, rfl, hu360, hu361, hu362⟩ := Rd.decl.1 huu36
   have hS37 := hS32.rd hu361
   refine lq rfl (q_loadE rfl rfl (hlu36 Try.prog 43 _ el_Decl_43_ArrC2 (fun _ h => False.elim h))) ?_
   refine lo rfl ?_
   refine e_alloc rfl Try.zeroValue43 hS37 (fun g38 H39 hS40 hxx => ?_)
   refine lo rfl ?_
   refine e_storeBlkA (cs' := #[SB ((nth a.Decls k).Name), u36n1, I ((nth a.Decls k).Srt)]) rfl rfl rfl Try.sizeOf43 rfl rfl (fa rfl (fa ((oneCell_rdL (hS40.rdl 1 rfl))) (fa rfl fe))) hS40 (fun H41 hS42 hxx => ?_)
   exact ⟨u36n1, g38, hu360, hu362, y1, y2, y3, y4, y6, rfl, y29, y30, y31, hS42⟩
  clear y1 y2 y29 y3 y30 y31 y32 y4 y6
  rintro f43 H43 ⟨u36n1, g38, hu360, hu362, y1, y2, y3, y4, y6, y8, y29, y30, y31, hS43⟩
  refine fcr (fun f H => ∃ (r44 : Value), f 1 = PT g1 0 ∧ f 2 = PT g4 0 ∧ f 3 = PT g7 0 ∧ f 4 = r11 ∧ f 6 = PT g26 0 ∧ f 8 = PT g38 0 ∧ f 29 = vD ∧ f 30 = I ((a.Decls.length : Int)) ∧ f 31 = I ((k : Int)) ∧ St H0 NoB (SZ S H0) [bE g38 #[SB ((nth a.Decls k).Name), r44, I ((nth a.Decls k).Srt)] 43, rdE r44 (((nth a.Decls k).Args)), rowE 43 vo ((a.Decls.take k).map declA : List Decl), bE g26 #[vo, nS, nS] 26, bE g15 #[I (((sortsF a)).1), I (((sortsF a)).2)] 28, rdE r11 (sorts a), bE g7 #[I (0), I (0)] 28, bE g4 #[nS, nS, nS] 26, bE g1 #[vD, vN, vH] 26, rdE vD a.Decls, rdE vN a.Nodes, rdE vH a.Hold] H) ?_ ?_
  ·refine lq rfl (q_fieldAddr rfl Try.underlying43 rfl Try.sizeOf24 y8) ?_
   refine lq rfl (q_loadBlk rfl rfl Try.isAgg24 (hS43.blk 0 rfl) rfl (fun h => h)) ?_
   refine lo rfl ?_
   refine e_call rfl Try.call17 (arr1 (v0 := u36n1) rfl) (Clone u36n1 _ (hS43.rdS 1 rfl)) ?_
   rintro r44 H45 ⟨hxx, hrr44⟩
   have hS46 := hS43.res hxx hrr44
   refine lq rfl (q_fieldAddr rfl Try.underlying43 rfl Try.sizeOf24 y8) ?_
   refine lo rfl ?_
   refine e_storeBlk (v := r44) rfl rfl rfl (oneCell_rdL (hS46.rdl 0 rfl)) Try.sizeOf24 (by show _ < 3; decide) (hS46.front 1 rfl) (fun H48 hS49 hxx => ?_)
   exact ⟨r44, y1, y2, y3, y4, y6, y8, y29, y30, y31, (hS49.drop (sk (sk (sn (sk (sk (sk (sk (sk (sk (sk (sk (sk (sk (List.Sublist.slnil)))))))))))))))⟩
  clear y1 y2 y29 y3 y30 y31 y4 y6 y8
  rintro f50 H50 ⟨r44, y1, y2, y3, y4, y6, y8, y29, y30, y31, hS50⟩
  refine wpF_seq ?_
  refine fcr (fun f H => f 1 = PT g1 0 ∧ f 2 = PT g4 0 ∧ f 3 = PT g7 0 ∧ f 4 = r11 ∧ f 6 = PT g26 0 ∧ f 8 = PT g38 0 ∧ f 29 = vD ∧ f 30 = I ((a.Decls.length : Int)) ∧ f 31 = I ((k : Int)) ∧ f 41 = B (decide (((nth a.Decls k).Srt) = 5)) ∧ H50 = H) ?_ ?_
  ·refine lq rfl (q_fieldAddr rfl Try.underlying43 rfl Try.sizeOf3 y8) ?_
   refine lq rfl (q_loadBlk rfl rfl Try.isAgg3 (hS50.blk 0 rfl) rfl (fun h => h)) ?_
   refine lq rfl (q_eql rfl rfl rfl) ?_
   exact ⟨y1, y2, y3, y4, y6, y8, y29, y30, y31, rfl, rfl⟩
  clear y1 y2 y29 y3 y30 y31 y4 y6 y8
  rintro f51 _ ⟨y1, y2, y3, y4, y6, y8, y29, y30, y31, y41, rfl⟩
  refine wpF_cut (fun f H => ∃ (vA : Value), ((declA (nth a.Decls k)).Name.size ≤ maxLen) ∧ (In64 (declA (nth a.Decls k)).Srt) ∧ f 1 = PT g1 0 ∧ f 2 = PT g4 0 ∧ f 3 = PT g7 0 ∧ f 4 = r11 ∧ f 6 = PT g26 0 ∧ f 8 = PT g38 0 ∧ f 29 = vD ∧ f 30 = I ((a.Decls.length : Int)) ∧ f 31 = I ((k : Int)) ∧ St H0 NoB (SZ S H0) [rdE vA ((declA (nth a.Decls k)).Args), bE g38 #[SB ((declA (nth a.Decls k)).Name), vA, I ((declA (nth a.Decls k)).Srt)] 43, rowE 43 vo ((a.Decls.take k).map declA : List Decl), bE g26 #[vo, nS, nS] 26, bE g15 #[I (((sortsF a)).1), I (((sortsF a)).2)] 28, rdE r11 (sorts a), bE g7 #[I (0), I (0)] 28, bE g4 #[nS, nS, nS] 26, bE g1 #[vD, vN, vH] 26, rdE vD a.Decls, rdE vN a.Nodes, rdE vH a.Hold] H) ?_ ?_
  ·refine wpF_condP y41 (fun h41 => ?t61) (fun h41 => ?e61)
   case e61 =>
    refine wpF_skip ?_
    exact ⟨r44, (by rw [declA_no h41]; assumption), (by rw [declA_no h41]; assumption), y1, y2, y3, y4, y6, y8, y29, y30, y31, (by have h__ := (St.drop (show St H0 NoB (SZ S H0) [rdE r44 (((nth a.Decls k).Args)), bE g38 #[SB ((nth a.Decls k).Name), r44, I ((nth a.Decls k).Srt)] 43, rowE 43 vo ((a.Decls.take k).map declA : List Decl), bE g26 #[vo, nS, nS] 26, bE g15 #[I (((sortsF a)).1), I (((sortsF a)).2)] 28, rdE r11 (sorts a), bE g7 #[I (0), I (0)] 28, bE g4 #[nS, nS, nS] 26, bE g1 #[vD, vN, vH] 26, rdE vD a.Decls, rdE vN a.Nodes, rdE vH a.Hold] H50 from (hS50.front 1 rfl)) (sk (sk (sk (sk (sk (sk (sk (sk (sk (sk (sk (sk (List.Sublist.slnil)))))))))))))); rw [declA_no h41]; exact h__)⟩
   refine wpF_cut (fun f H => ∃ (v54 : Value), f 1 = PT g1 0 ∧ f 2 = PT g4 0 ∧ f 3 = PT g7 0 ∧ f 4 = r11 ∧ f 6 = PT g26 0 ∧ f 8 = PT g38 0 ∧ f 29 = vD ∧ f 30 = I ((a.Decls.length : Int)) ∧ f 31 = I ((k : Int)) ∧ St H0 NoB (SZ S H0) [bE g38 #[SB ((nth a.Decls k).Name), v54, I (4)] 43, rowE 3 v54 ([4] : List Int), rowE 43 vo ((a.Decls.take k).map declA : List Decl), bE g26 #[vo, nS, nS] 26, bE g15 #[I (((sortsF a)).1), I (((sortsF a)).2)] 28, rdE r11 (sorts a), bE g7 #[I (0), I (0)] 28, bE g4 #[nS, nS, nS] 26, bE g1 #[vD, vN, vH] 26, rdE vD a.Decls, rdE vN a.Nodes, rdE vH a.Hold] H) ?_ ?_
   ·refine wpF_region ?_
    refine lq rfl (q_fieldAddr rfl Try.underlying43 rfl Try.sizeOf9 y8) ?_
    refine lq rfl (q_loadBlk rfl rfl Try.isAgg9 (hS50.blk 0 rfl) rfl (fun h => h)) ?_
    refine lo rfl ?_
    refine e_buildSlice (vs := [I (4)]) (xs := ([4] : List Int)) rfl Try.underlying24 Try.zeroValue3 rfl Try.sizeOf3 (par1 (v0 := I (4)) rfl) rfl hS50 (RdVs.cons (Rd.int.2 ⟨rfl, by first | assumption | (constructor <;> omega)⟩) (RdVs.nil)) (by decide) (by decide) (fun v54 H55 hS56 hxx hvv54 => ?_)
    refine lq rfl (q_build (v := Vg #[SB ((nth a.Decls k).Name), v54, I (4)]) rfl (par3 (v0 := SB ((nth a.Decls k).Name)) (v1 := v54) (v2 := I (4)) rfl rfl rfl) ((hS56.rowl 0 rfl).slc (fun zz0 => ∀ w__, (Instr.build 43 #[(0, SB ((nth a.Decls k).Name)), (1, zz0), (2, I (4))]).run Try.prog w__ = .ok (Vg #[SB ((nth a.Decls k).Name), zz0, I (4)]) w__) (fun a0 n0 c0 => (fun w__ => by kernel_rfl)))) ?_
    refine lo rfl ?_
    refine e_storeBlkA (cs' := #[SB ((nth a.Decls k).Name), v54, I (4)]) rfl y8 rfl Try.sizeOf43 rfl rfl (fa rfl (fa ((oneCell_rdL (hS56.rowl 0 rfl))) (fa rfl fe))) (hS56.front 1 rfl) (fun H57 hS58 hxx => ?_)
    exact ⟨v54, y1, y2, y3, y4, y6, y8, y29, y30, y31, (hS58.drop (sk (sk (sn (sk (sk (sk (sk (sk (sk (sk (sk (sk (sk (List.Sublist.slnil)))))))))))))))⟩
   clear y1 y2 y29 y3 y30 y31 y4 y41 y6 y8
   rintro f59 H59 ⟨v54, y1, y2, y3, y4, y6, y8, y29, y30, y31, hS59⟩
   have hS60 : St H0 NoB (SZ S H0) [rdE v54 ([4] : List Int), bE g38 #[SB ((nth a.Decls k).Name), v54, I (4)] 43, rowE 43 vo ((a.Decls.take k).map declA : List Decl), bE g26 #[vo, nS, nS] 26, bE g15 #[I (((sortsF a)).1), I (((sortsF a)).2)] 28, rdE r11 (sorts a), bE g7 #[I (0), I (0)] 28, bE g4 #[nS, nS, nS] 26, bE g1 #[vD, vN, vH] 26, rdE vD a.Decls, rdE vN a.Nodes, rdE vH a.Hold] H59 := St.fin (hS59.front 1 rfl)
   exact ⟨v54, (by rw [declA_yes h41]; assumption), (by rw [declA_yes h41]; exact (by constructor <;> decide : In64 4)), y1, y2, y3, y4, y6, y8, y29, y30, y31, (by have h__ := hS60; rw [declA_yes h41]; exact h__)⟩
  clear y1 y2 y29 y3 y30 y31 y4 y41 y6 y8
  rintro f52 H52 ⟨vA, hds, hdi, y1, y2, y3, y4, y6, y8, y29, y30, y31, hS52⟩
  refine wpF_cut (fun f H => ∃ (v67 : Value), f 1 = PT g1 0 ∧ f 2 = PT g4 0 ∧ f 3 = PT g7 0 ∧ f 4 = r11 ∧ f 6 = PT g26 0 ∧ f 29 = vD ∧ f 30 = I ((a.Decls.length : Int)) ∧ f 31 = I ((k : Int)) ∧ St H0 NoB (SZ S H0) [bE g26 #[v67, nS, nS] 26, rowE 43 v67 ((a.Decls.take (k + 1)).map declA : List Decl), rdE vA ((declA (nth a.Decls k)).Args), bE g38 #[SB ((declA (nth a.Decls k)).Name), vA, I ((declA (nth a.Decls k)).Srt)] 43, bE g15 #[I (((sortsF a)).1), I (((sortsF a)).2)] 28, rdE r11 (sorts a), bE g7 #[I (0), I (0)] 28, bE g4 #[nS, nS, nS] 26, bE g1 #[vD, vN, vH] 26, rdE vD a.Decls, rdE vN a.Nodes, rdE vH a.Hold] H) ?_ ?_
  ·refine wpF_region ?_
   refine lq rfl (q_fieldAddr rfl Try.underlying26 rfl Try.sizeOf22 y6) ?_
   refine lq rfl (q_loadBlk rfl rfl Try.isAgg22 (hS52.blk 3 rfl) rfl (fun h => h)) ?_
   refine lq rfl (q_loadBlkA rfl y8 Try.isAgg43 Try.sizeOf43 rfl (hS52.blk 1 rfl) (fun h => h)) ?_
   refine lo rfl ?_
   refine e_buildSlice (vs := [Vg #[SB ((declA (nth a.Decls k)).Name), vA, I ((declA (nth a.Decls k)).Srt)]]) (xs := ([(declA (nth a.Decls k))] : List Decl)) rfl Try.underlying22 Try.zeroValue43 rfl Try.sizeOf43 (par1 (v0 := Vg #[SB ((declA (nth a.Decls k)).Name), vA, I ((declA (nth a.Decls k)).Srt)]) rfl) rfl hS52 (RdVs.cons (Rd.decl.2 ⟨_, rfl, (by first | assumption | exact Nat.zero_le _ | exact Nat.le_of_ble_eq_true rfl), (hS52.rdS 0 rfl), (by first | assumption | (constructor <;> (try dsimp only) <;> omega))⟩) (RdVs.nil)) (by decide) (by decide) (fun v62 H63 hS64 hxx hvv62 => ?_)
   have hS65 : St H0 NoB (SZ S H0) [rdE v62 ([(declA (nth a.Decls k))] : List Decl), rdE vA ((declA (nth a.Decls k)).Args), bE g38 #[SB ((declA (nth a.Decls k)).Name), vA, I ((declA (nth a.Decls k)).Srt)] 43, rowE 43 vo ((a.Decls.take k).map declA : List Decl), bE g26 #[vo, nS, nS] 26, bE g15 #[I (((sortsF a)).1), I (((sortsF a)).2)] 28, rdE r11 (sorts a), bE g7 #[I (0), I (0)] 28, bE g4 #[nS, nS, nS] 26, bE g1 #[vD, vN, vH] 26, rdE vD a.Decls, rdE vN a.Nodes, rdE vH a.Hold] H63 := St.fin hS64
   have hS66 := (hS65.front 3 rfl)
   refine lo rfl ?_
   refine e_append rfl Try.underlying22 em_Decl_43_ArrC2 rfl rfl hS66 (hS66.rdS 1 rfl) (fun _ h => h) (by have hb : GoT.bytes Decl = 48 := rfl; rw [hb]; simp only [List.length_append, List.length_map, List.length_take, List.length_cons, List.length_nil]; omega) (by decide) (fun v67 H68 hS69 hxx => ?_)
   have hS70 : St H0 NoB (SZ S H0) [rowE 43 v67 ((a.Decls.take (k + 1)).map declA : List Decl), rdE v62 ([(declA (nth a.Decls k))] : List Decl), rdE vA ((declA (nth a.Decls k)).Args), bE g38 #[SB ((declA (nth a.Decls k)).Name), vA, I ((declA (nth a.Decls k)).Srt)] 43, bE g26 #[vo, nS, nS] 26, bE g15 #[I (((sortsF a)).1), I (((sortsF a)).2)] 28, rdE r11 (sorts a), bE g7 #[I (0), I (0)] 28, bE g4 #[nS, nS, nS] 26, bE g1 #[vD, vN, vH] 26, rdE vD a.Decls, rdE vN a.Nodes, rdE vH a.Hold] H68 := by rw [show ((a.Decls.take (k + 1)).map declA) = (((a.Decls.take k).map declA) ++ ([(declA (nth a.Decls k))])) from (map_next (by omega)).symm]; exact hS69
   refine lq rfl (q_fieldAddr rfl Try.underlying26 rfl Try.sizeOf22 y6) ?_
   refine lo rfl ?_
   refine e_storeBlk (v := v67) rfl rfl rfl (oneCell_rdL (hS70.rowl 0 rfl)) Try.sizeOf22 (by show _ < 3; decide) (hS70.front 4 rfl) (fun H71 hS72 hxx => ?_)
   exact ⟨v67, y1, y2, y3, y4, y6, y29, y30, y31, (hS72.drop (sk (sk (sn (sk (sk (sk (sk (sk (sk (sk (sk (sk (sk (List.Sublist.slnil)))))))))))))))⟩
  clear y1 y2 y29 y3 y30 y31 y4 y6 y8
  rintro f73 H73 ⟨v67, y1, y2, y3, y4, y6, y29, y30, y31, hS73⟩
  refine wpF_cut (fun f H => f 1 = PT g1 0 ∧ f 2 = PT g4 0 ∧ f 3 = PT g7 0 ∧ f 4 = r11 ∧ f 6 = PT g26 0 ∧ f 29 = vD ∧ f 30 = I ((a.Decls.length : Int)) ∧ f 31 = I ((k : Int) + 1) ∧ H73 = H) ?_ ?_
  ·refine wpF_region ?_
   refine lq rfl (q_add rfl y31 rfl (by constructor <;> omega)) ?_
   refine lm (v := I ((k : Int) + 1)) rfl rfl rfl ?_
   exact ⟨y1, y2, y3, y4, y6, y29, y30, rfl, rfl⟩
  clear y1 y2 y29 y3 y30 y31 y4 y6
  rintro f74 _ ⟨y1, y2, y3, y4, y6, y29, y30, y31, rfl⟩
  refine ⟨_, ?_, k + 1, v67, rfl, (by omega), y1, y2, y3, y4, y6, y29, y30, (Eq.trans y31 (congrArg I (by omega))), (St.drop (show St H0 NoB (SZ S H0) [rowE 43 v67 ((a.Decls.take (k + 1)).map declA : List Decl), bE g26 #[v67, nS, nS] 26, rdE vA ((declA (nth a.Decls k)).Args), bE g38 #[SB ((declA (nth a.Decls k)).Name), vA, I ((declA (nth a.Decls k)).Srt)] 43, bE g15 #[I (((sortsF a)).1), I (((sortsF a)).2)] 28, rdE r11 (sorts a), bE g7 #[I (0), I (0)] 28, bE g4 #[nS, nS, nS] 26, bE g1 #[vD, vN, vH] 26, rdE vD a.Decls, rdE vN a.Nodes, rdE vH a.Hold] H73 from (hS73.front 1 rfl)) (sk (sk (sn (sn (sk (sk (sk (sk (sk (sk (sk (sk (List.Sublist.slnil))))))))))))))⟩
  omega
 have hS35 : St H0 NoB (SZ S H0) [rowE 43 vo (a.Decls.map declA : List Decl), bE g26 #[vo, nS, nS] 26, bE g15 #[I (((sortsF a)).1), I (((sortsF a)).2)] 28, rdE r11 (sorts a), bE g7 #[I (0), I (0)] 28, bE g4 #[nS, nS, nS] 26, bE g1 #[vD, vN, vH] 26, rdE vD a.Decls, rdE vN a.Nodes, rdE vH a.Hold] H32 := by have h__ := hS32; rw [List.take_of_length_le (show a.Decls.length ≤ k by omega)] at h__; exact h__
 refine wpF_exit ?_
 refine atX_here ?_
 refine fcr (fun f H => ∃ (g75 : Nat), f 1 = PT g1 0 ∧ f 2 = PT g4 0 ∧ f 3 = PT g7 0 ∧ f 4 = r11 ∧ f 6 = PT g26 0 ∧ f 9 = PT g75 0 ∧ St H0 NoB (SZ S H0) [bE g75 #[vD, vN, vH, nS, nS] 57, rowE 43 vo (a.Decls.map declA : List Decl), bE g26 #[vo, nS, nS] 26, bE g15 #[I (((sortsF a)).1), I (((sortsF a)).2)] 28, rdE r11 (sorts a), bE g7 #[I (0), I (0)] 28, bE g4 #[nS, nS, nS] 26, bE g1 #[vD, vN, vH] 26, rdE vD a.Decls, rdE vN a.Nodes, rdE vH a.Hold] H) ?_ ?_
 ·refine lq rfl (q_loadBlkA rfl y1 Try.isAgg26 Try.sizeOf26 rfl (hS35.blk 6 rfl) (fun h => h)) ?_
  refine lq rfl (q_build (v := Vg #[vD, vN, vH, nS, nS]) rfl (par1 (v0 := Vg #[vD, vN, vH]) rfl) (fun w__ => by kernel_rfl)) ?_
  refine lo rfl ?_
  refine e_box (v := Vg #[vD, vN, vH, nS, nS]) rfl rfl hS35 (fun g75 H76 hS77 hxx => ?_)
  refine la (v := PT g75 0) rfl rfl rfl ?_
  exact ⟨g75, y1, y2, y3, y4, y6, rfl, hS77⟩
 clear y1 y2 y29 y3 y30 y31 y32 y4 y6
 rintro f78 H78 ⟨g75, y1, y2, y3, y4, y6, y9, hS78⟩
 have hS79 : St H0 NoB (SZ S H0) [rowE 37 nS ([] : List Node), bE g75 #[vD, vN, vH, nS, nS] 57, rowE 43 vo (a.Decls.map declA : List Decl), bE g26 #[vo, nS, nS] 26, bE g15 #[I (((sortsF a)).1), I (((sortsF a)).2)] 28, rdE r11 (sorts a), bE g7 #[I (0), I (0)] 28, bE g4 #[nS, nS, nS] 26, bE g1 #[vD, vN, vH] 26, rdE vD a.Decls, rdE vN a.Nodes, rdE vH a.Hold] H78 := hS78.row0 37
 have hS80 : St H0 NoB (SZ S H0) [rowE 3 nS ([] : List Int), rowE 37 nS ([] : List Node), bE g75 #[vD, vN, vH, nS, nS] 57, rowE 43 vo (a.Decls.map declA : List Decl), bE g26 #[vo, nS, nS] 26, bE g15 #[I (((sortsF a)).1), I (((sortsF a)).2)] 28, rdE r11 (sorts a), bE g7 #[I (0), I (0)] 28, bE g4 #[nS, nS, nS] 26, bE g1 #[vD, vN, vH] 26, rdE vD a.Decls, rdE vN a.Nodes, rdE vH a.Hold] H78 := hS79.row0 3
 refine wpF_seq ?_
 refine fcr (fun f H => f 1 = PT g1 0 ∧ f 2 = PT g4 0 ∧ f 3 = PT g7 0 ∧ f 4 = r11 ∧ f 6 = PT g26 0 ∧ f 9 = PT g75 0 ∧ f 57 = vN ∧ f 58 = I ((a.Nodes.length : Int)) ∧ f 59 = I (0) ∧ H78 = H) ?_ ?_
 ·refine lq rfl (q_fieldAddr rfl Try.underlying26 rfl Try.sizeOf23 y1) ?_
  refine lq rfl (q_loadBlk rfl rfl Try.isAgg23 (hS80.blk 9 rfl) rfl (fun h => h)) ?_
  refine lq rfl (q_lenRd rfl Try.underlying23 rfl (hS80.rdl 11 rfl)) ?_
  refine lm (v := I (0)) rfl rfl rfl ?_
  exact ⟨y1, y2, y3, y4, y6, y9, rfl, rfl, rfl, rfl⟩
 clear y1 y2 y3 y4 y6 y9
 rintro f81 _ ⟨y1, y2, y3, y4, y6, y9, y57, y58, y59, rfl⟩
 refine wpF_block ?_
 refine wpF_loop (fun mz f H => ∃ (k : Nat), ∃ (vn : Value), ∃ (vt : Value), mz = a.Nodes.length - k ∧ (k ≤ a.Nodes.length) ∧ ((turnTo a k).Nodes.length ≤ 200) ∧ f 1 = PT g1 0 ∧ f 2 = PT g4 0 ∧ f 3 = PT g7 0 ∧ f 4 = r11 ∧ f 6 = PT g26 0 ∧ f 9 = PT g75 0 ∧ f 57 = vN ∧ f 58 = I ((a.Nodes.length : Int)) ∧ f 59 = I ((k : Int)) ∧ St H0 NoB (SZ S H0) [rowE 37 vn ((turnTo a k).Nodes : List Node), rowE 3 vt ((turnTo a k).To : List Int), bE g75 #[vD, vN, vH, vn, vt] 57, rowE 43 vo (a.Decls.map declA : List Decl), bE g26 #[vo, nS, nS] 26, bE g15 #[I (((sortsF a)).1), I (((sortsF a)).2)] 28, rdE r11 (sorts a), bE g7 #[I (0), I (0)] 28, bE g4 #[nS, nS, nS] 26, bE g1 #[vD, vN, vH] 26, rdE vD a.Decls, rdE vN a.Nodes, rdE vH a.Hold] H) (a.Nodes.length - 0) ?_ ?_
 ·exact ⟨0, nS, nS, rfl, Nat.zero_le _, Nat.zero_le _, y1, y2, y3, y4, y6, y9, y57, y58, (Eq.trans y59 (congrArg I (by omega))), (show St H0 NoB (SZ S H0) [rowE 37 nS ((turnTo a 0).Nodes : List Node), rowE 3 nS ((turnTo a 0).To : List Int), bE g75 #[vD, vN, vH, nS, nS] 57, rowE 43 vo (a.Decls.map declA : List Decl), bE g26 #[vo, nS, nS] 26, bE g15 #[I (((sortsF a)).1), I (((sortsF a)).2)] 28, rdE r11 (sorts a), bE g7 #[I (0), I (0)] 28, bE g4 #[nS, nS, nS] 26, bE g1 #[vD, vN, vH] 26, rdE vD a.Decls, rdE vN a.Nodes, rdE vH a.Hold] H78 from (St.drop (show St H0 NoB (SZ S H0) [rowE 37 nS ([] : List Node), rowE 3 nS ([] : List Int), bE g75 #[vD, vN, vH, nS, nS] 57, rowE 43 vo (a.Decls.map declA : List Decl), bE g26 #[vo, nS, nS] 26, bE g15 #[I (((sortsF a)).1), I (((sortsF a)).2)] 28, rdE r11 (sorts a), bE g7 #[I (0), I (0)] 28, bE g4 #[nS, nS, nS] 26, bE g1 #[vD, vN, vH] 26, rdE vD a.Decls, rdE vN a.Nodes, rdE vH a.Hold] H78 from (hS80.front 1 rfl)) (sk (sk (sk (sk (sk (sk (sk (sk (sk (sk (sk (sk (sk (List.Sublist.slnil))))))))))))))))⟩
 intro m82 f82 H82 hI82
 clear y1 y2 y3 y4 y57 y58 y59 y6 y9
 obtain ⟨k, vn, vt, hm82, hk, hN, y1, y2, y3, y4, y6, y9, y57, y58, y59, hS82⟩ := hI82
 refine fcr (fun f H => f 1 = PT g1 0 ∧ f 2 = PT g4 0 ∧ f 3 = PT g7 0 ∧ f 4 = r11 ∧ f 6 = PT g26 0 ∧ f 9 = PT g75 0 ∧ f 57 = vN ∧ f 58 = I ((a.Nodes.length : Int)) ∧ f 59 = I ((k : Int)) ∧ f 60 = B (decide ((k : Int) < (a.Nodes.length : Int))) ∧ H82 = H) ?_ ?_
 ·refine lq rfl (q_lss rfl y59 y58) ?_
  exact ⟨y1, y2, y3, y4, y6, y9, y57, y58, y59, rfl, rfl⟩
 clear y1 y2 y3 y4 y57 y58 y59 y6 y9
 rintro f83 _ ⟨y1, y2, y3, y4, y6, y9, y57, y58, y59, y60, rfl⟩
 refine wpF_seq ?_
 refine wpF_condP y60 (fun hlt2 => ?t168) (fun hlt2 => ?e168)
 case e168 =>
  obtain rfl : k = a.Nodes.length := by omega
  have htl := turnTo_to (a := a) a.Nodes.length
  refine wpF_exit ?_
  refine atX_here ?_
  refine fcr (fun f H => f 1 = PT g1 0 ∧ f 2 = PT g4 0 ∧ f 3 = PT g7 0 ∧ f 6 = PT g26 0 ∧ f 9 = PT g75 0 ∧ St H0 NoB (SZ S H0) [bE g26 #[vo, vn, nS] 26, rowE 37 vn ((turnTo a a.Nodes.length).Nodes : List Node), rowE 3 vt ((turnTo a a.Nodes.length).To : List Int), bE g75 #[vD, vN, vH, vn, vt] 57, rowE 43 vo (a.Decls.map declA : List Decl), bE g15 #[I (((sortsF a)).1), I (((sortsF a)).2)] 28, bE g7 #[I (0), I (0)] 28, bE g4 #[nS, nS, nS] 26, bE g1 #[vD, vN, vH] 26, rdE vD a.Decls, rdE vN a.Nodes, rdE vH a.Hold] H) ?_ ?_
  ·refine lm (v := PT g75 0) rfl rfl y9 ?_
   refine lq rfl (q_nilCheck rfl rfl) ?_
   refine lq rfl (q_fieldAddr rfl Try.underlying57 rfl Try.sizeOf23 rfl) ?_
   refine lq rfl (q_loadBlk rfl rfl Try.isAgg23 (hS82.blk 2 rfl) rfl (fun h => h)) ?_
   refine lq rfl (q_fieldAddr rfl Try.underlying26 rfl Try.sizeOf23 y6) ?_
   refine lo rfl ?_
   refine e_storeBlk (v := vn) rfl rfl rfl (oneCell_rdL (hS82.rowl 0 rfl)) Try.sizeOf23 (by show _ < 3; decide) (hS82.front 4 rfl) (fun H146 hS147 hxx => ?_)
   exact ⟨y1, y2, y3, y6, y9, (hS147.drop (sk (sk (sk (sk (sk (sk (sn (sk (sk (sk (sk (sk (sk (List.Sublist.slnil)))))))))))))))⟩
  clear y1 y2 y3 y4 y57 y58 y59 y6 y60 y9
  rintro f148 H148 ⟨y1, y2, y3, y6, y9, hS148⟩
  have hS149 : St H0 NoB (SZ S H0) [rowE 3 nS ([] : List Int), bE g26 #[vo, vn, nS] 26, rowE 37 vn ((turnTo a a.Nodes.length).Nodes : List Node), rowE 3 vt ((turnTo a a.Nodes.length).To : List Int), bE g75 #[vD, vN, vH, vn, vt] 57, rowE 43 vo (a.Decls.map declA : List Decl), bE g15 #[I (((sortsF a)).1), I (((sortsF a)).2)] 28, bE g7 #[I (0), I (0)] 28, bE g4 #[nS, nS, nS] 26, bE g1 #[vD, vN, vH] 26, rdE vD a.Decls, rdE vN a.Nodes, rdE vH a.Hold] H148 := hS148.row0 3
  refine wpF_seq ?_
  refine fcr (fun f H => f 2 = PT g4 0 ∧ f 3 = PT g7 0 ∧ f 6 = PT g26 0 ∧ f 9 = PT g75 0 ∧ f 140 = vH ∧ f 141 = I ((a.Hold.length : Int)) ∧ f 142 = I (0) ∧ H148 = H) ?_ ?_
  ·refine lq rfl (q_fieldAddr rfl Try.underlying26 rfl Try.sizeOf24 y1) ?_
   refine lq rfl (q_loadBlk rfl rfl Try.isAgg24 (hS149.blk 9 rfl) rfl (fun h => h)) ?_
   refine lq rfl (q_lenRd rfl Try.underlying24 rfl (hS149.rdl 12 rfl)) ?_
   refine lm (v := I (0)) rfl rfl rfl ?_
   exact ⟨y2, y3, y6, y9, rfl, rfl, rfl, rfl⟩
  clear y1 y2 y3 y6 y9
  rintro f150 _ ⟨y2, y3, y6, y9, y140, y141, y142, rfl⟩
  refine wpF_block ?_
  refine wpF_loop (fun mz f H => ∃ (u : Nat), ∃ (vh : Value), mz = a.Hold.length - u ∧ (u ≤ a.Hold.length) ∧ f 2 = PT g4 0 ∧ f 3 = PT g7 0 ∧ f 6 = PT g26 0 ∧ f 9 = PT g75 0 ∧ f 140 = vH ∧ f 141 = I ((a.Hold.length : Int)) ∧ f 142 = I ((u : Int)) ∧ St H0 NoB (SZ S H0) [rowE 3 vh (kidS (turned a).To (a.Hold.take u) : List Int), bE g26 #[vo, vn, vh] 26, rowE 37 vn ((turnTo a a.Nodes.length).Nodes : List Node), rowE 3 vt ((turnTo a a.Nodes.length).To : List Int), bE g75 #[vD, vN, vH, vn, vt] 57, rowE 43 vo (a.Decls.map declA : List Decl), bE g15 #[I (((sortsF a)).1), I (((sortsF a)).2)] 28, bE g7 #[I (0), I (0)] 28, bE g4 #[nS, nS, nS] 26, bE g1 #[vD, vN, vH] 26, rdE vD a.Decls, rdE vN a.Nodes, rdE vH a.Hold] H) (a.Hold.length - 0) ?_ ?_
  ·exact ⟨0, nS, rfl, Nat.zero_le _, y2, y3, y6, y9, y140, y141, (Eq.trans y142 (congrArg I (by omega))), (show St H0 NoB (SZ S H0) [rowE 3 nS (kidS (turned a).To (a.Hold.take 0) : List Int), bE g26 #[vo, vn, nS] 26, rowE 37 vn ((turnTo a a.Nodes.length).Nodes : List Node), rowE 3 vt ((turnTo a a.Nodes.length).To : List Int), bE g75 #[vD, vN, vH, vn, vt] 57, rowE 43 vo (a.Decls.map declA : List Decl), bE g15 #[I (((sortsF a)).1), I (((sortsF a)).2)] 28, bE g7 #[I (0), I (0)] 28, bE g4 #[nS, nS, nS] 26, bE g1 #[vD, vN, vH] 26, rdE vD a.Decls, rdE vN a.Nodes, rdE vH a.Hold] H148 from hS149)⟩
  intro m151 f151 H151 hI151
  clear y140 y141 y142 y2 y3 y6 y9
  obtain ⟨u, vh, hm151, hu, y2, y3, y6, y9, y140, y141, y142, hS151⟩ := hI151
  refine fcr (fun f H => f 2 = PT g4 0 ∧ f 3 = PT g7 0 ∧ f 6 = PT g26 0 ∧ f 9 = PT g75 0 ∧ f 140 = vH ∧ f 141 = I ((a.Hold.length : Int)) ∧ f 142 = I ((u : Int)) ∧ f 143 = B (decide ((u : Int) < (a.Hold.length : Int))) ∧ H151 = H) ?_ ?_
  ·refine lq rfl (q_lss rfl y142 y141) ?_
   exact ⟨y2, y3, y6, y9, y140, y141, y142, rfl, rfl⟩
  clear y140 y141 y142 y2 y3 y6 y9
  rintro f152 _ ⟨y2, y3, y6, y9, y140, y141, y142, y143, rfl⟩
  refine wpF_seq ?_
  refine wpF_condP y143 (fun hlt7 => ?t167) (fun hlt7 => ?e167)
  case e167 =>
   have hS154 : St H0 NoB (SZ S H0) [rowE 3 vh (kidS (turned a).To a.Hold : List Int), bE g26 #[vo, vn, vh] 26, rowE 37 vn ((turnTo a a.Nodes.length).Nodes : List Node), rowE 3 vt ((turnTo a a.Nodes.length).To : List Int), bE g75 #[vD, vN, vH, vn, vt] 57, rowE 43 vo (a.Decls.map declA : List Decl), bE g15 #[I (((sortsF a)).1), I (((sortsF a)).2)] 28, bE g7 #[I (0), I (0)] 28, bE g4 #[nS, nS, nS] 26, bE g1 #[vD, vN, vH] 26, rdE vD a.Decls, rdE vN a.Nodes, rdE vH a.Hold] H151 := by have h__ := hS151; rw [List.take_of_length_le (show a.Hold.length ≤ u by omega)] at h__; exact h__
   refine wpF_exit ?_
   refine atX_here ?_
   refine fcr (fun f H => f 2 = PT g4 0 ∧ f 3 = PT g7 0 ∧ St H0 NoB (SZ S H0) [bE g7 #[I (0), I (0)] 28, bE g4 #[vo, vn, vh] 26, rowE 3 vh (kidS (turned a).To a.Hold : List Int), bE g26 #[vo, vn, vh] 26, rowE 37 vn ((turnTo a a.Nodes.length).Nodes : List Node), rowE 3 vt ((turnTo a a.Nodes.length).To : List Int), bE g75 #[vD, vN, vH, vn, vt] 57, rowE 43 vo (a.Decls.map declA : List Decl), bE g15 #[I (((sortsF a)).1), I (((sortsF a)).2)] 28, bE g1 #[vD, vN, vH] 26, rdE vD a.Decls, rdE vN a.Nodes, rdE vH a.Hold] H) ?_ ?_
   ·refine lq rfl (q_loadBlkA rfl y6 Try.isAgg26 Try.sizeOf26 rfl (hS154.blk 1 rfl) (fun h => h)) ?_
    refine lq rfl (q_build (v := Vg #[I (0), I (0)]) rfl par0 (fun w__ => by kernel_rfl)) ?_
    refine lo rfl ?_
    refine e_storeBlkA (cs' := #[vo, vn, vh]) rfl y2 rfl Try.sizeOf26 rfl rfl (fa ((oneCell_rdL (hS154.rowl 5 rfl))) (fa ((oneCell_rdL (hS154.rowl 2 rfl))) (fa ((oneCell_rdL (hS154.rowl 0 rfl))) fe))) (hS154.front 8 rfl) (fun H159 hS160 hxx => ?_)
    refine lo rfl ?_
    refine e_storeBlkA (cs' := #[I (0), I (0)]) rfl y3 rfl Try.sizeOf28 rfl rfl (fa rfl (fa rfl fe)) (hS160.front 8 rfl) (fun H161 hS162 hxx => ?_)
    exact ⟨y2, y3, hS162⟩
   clear y140 y141 y142 y143 y2 y3 y6 y9
   rintro f163 H163 ⟨y2, y3, hS163⟩
   refine wpF_ret ?_
   refine ⟨_, resC y2 (loadV_blkA Try.isAgg26 Try.sizeOf26 rfl (hS163.blk 1 rfl)) (resC y3 (loadV_blkA Try.isAgg28 Try.sizeOf28 rfl (hS163.blk 0 rfl)) (resN)), hS163.frame, ?_⟩
   show ∃ w0_ w1_ w2_, (Value.tuple #[Vg #[vo, vn, vh], Vg #[I (0), I (0)]]) = Value.tuple #[Vg #[w0_, w1_, w2_], Vg #[I (doF a).1, I (doF a).2]] ∧ Rd (SZ S H0) H163 w0_ (doA a).Decls ∧ Rd (SZ S H0) H163 w1_ (doA a).Nodes ∧ Rd (SZ S H0) H163 w2_ (doA a).Hold
   have hS164 : St H0 NoB (SZ S H0) [rdE vo (a.Decls.map declA), bE g7 #[I (0), I (0)] 28, bE g4 #[vo, vn, vh] 26, rowE 3 vh (kidS (turned a).To a.Hold : List Int), bE g26 #[vo, vn, vh] 26, rowE 37 vn ((turnTo a a.Nodes.length).Nodes : List Node), rowE 3 vt ((turnTo a a.Nodes.length).To : List Int), bE g75 #[vD, vN, vH, vn, vt] 57, bE g15 #[I (((sortsF a)).1), I (((sortsF a)).2)] 28, bE g1 #[vD, vN, vH] 26, rdE vD a.Decls, rdE vN a.Nodes, rdE vH a.Hold] H163 := St.fin (hS163.front 7 rfl)
   have hS165 : St H0 NoB (SZ S H0) [rdE vn ((turnTo a a.Nodes.length).Nodes), rdE vo (a.Decls.map declA), bE g7 #[I (0), I (0)] 28, bE g4 #[vo, vn, vh] 26, rowE 3 vh (kidS (turned a).To a.Hold : List Int), bE g26 #[vo, vn, vh] 26, rowE 3 vt ((turnTo a a.Nodes.length).To : List Int), bE g75 #[vD, vN, vH, vn, vt] 57, bE g15 #[I (((sortsF a)).1), I (((sortsF a)).2)] 28, bE g1 #[vD, vN, vH] 26, rdE vD a.Decls, rdE vN a.Nodes, rdE vH a.Hold] H163 := St.fin (hS164.front 5 rfl)
   have hS166 : St H0 NoB (SZ S H0) [rdE vh (kidS (turned a).To a.Hold), rdE vn ((turnTo a a.Nodes.length).Nodes), rdE vo (a.Decls.map declA), bE g7 #[I (0), I (0)] 28, bE g4 #[vo, vn, vh] 26, bE g26 #[vo, vn, vh] 26, rowE 3 vt ((turnTo a a.Nodes.length).To : List Int), bE g75 #[vD, vN, vH, vn, vt] 57, bE g15 #[I (((sortsF a)).1), I (((sortsF a)).2)] 28, bE g1 #[vD, vN, vH] 26, rdE vD a.Decls, rdE vN a.Nodes, rdE vH a.Hold] H163 := St.fin (hS165.front 4 rfl)
   have hq_ : doF a = _ := doF_ok h25 (by unfold turned; omega)
   have hd_ := doA_ok (a := a) (by rw [hq_])
   exact ⟨_, _, _, by rw [hq_], by rw [hd_]; exact (hS166.result (hS166.rdS 2 rfl)), by rw [hd_]; exact (hS166.result (hS166.rdS 1 rfl)), by rw [hd_]; exact (hS166.result (hS166.rdS 0 rfl))⟩
  have hhu := hA.hold u (by omega)
  refine wpF_skip ?_
  refine wpF_seq ?_
  refine wpF_block ?_
  refine fcr (fun f H => f 2 = PT g4 0 ∧ f 3 = PT g7 0 ∧ f 6 = PT g26 0 ∧ f 9 = PT g75 0 ∧ f 17 = I (nth a.Hold u) ∧ f 140 = vH ∧ f 141 = I ((a.Hold.length : Int)) ∧ f 142 = I ((u : Int)) ∧ H151 = H) ?_ ?_
  ·refine lq rfl (q_indexRd (k := u) rfl Try.underlying24 el_Int_3_ArrC2 y140 y142 (hS151.rdl 12 rfl) (by omega) (by omega)) ?_
   refine lq rfl (q_loadInt (k := u) rfl rfl el_Int_3_ArrC2 (hS151.rdl 12 rfl) (by omega) (fun _ h => h)) ?_
   refine la (v := I (nth a.Hold u)) rfl rfl rfl ?_
   exact ⟨y2, y3, y6, y9, rfl, y140, y141, y142, rfl⟩
  clear y140 y141 y142 y143 y2 y3 y6 y9
  rintro f155 _ ⟨y2, y3, y6, y9, y17, y140, y141, y142, rfl⟩
  have h6u := (hS151.rowl 3 rfl).in64 (k := (nth a.Hold u).toNat) (by omega)
  refine wpF_cut (fun f H => ∃ (v156o10 : Value), f 2 = PT g4 0 ∧ f 3 = PT g7 0 ∧ f 6 = PT g26 0 ∧ f 9 = PT g75 0 ∧ f 140 = vH ∧ f 141 = I ((a.Hold.length : Int)) ∧ f 142 = I ((u : Int)) ∧ St H0 NoB (SZ S H0) [bE g26 #[vo, vn, v156o10] 26, rowE 3 v156o10 (kidS (turned a).To (a.Hold.take (u + 1)) : List Int), rowE 37 vn ((turnTo a a.Nodes.length).Nodes : List Node), rowE 3 vt ((turnTo a a.Nodes.length).To : List Int), bE g75 #[vD, vN, vH, vn, vt] 57, rowE 43 vo (a.Decls.map declA : List Decl), bE g15 #[I (((sortsF a)).1), I (((sortsF a)).2)] 28, bE g7 #[I (0), I (0)] 28, bE g4 #[nS, nS, nS] 26, bE g1 #[vD, vN, vH] 26, rdE vD a.Decls, rdE vN a.Nodes, rdE vH a.Hold] H) ?_ ?_
  ·refine wpF_drawn [none, none, none, none, none, none, none, none, none, none, some 0, none, some 1] [[], [], [], [], [], [], [], [], [], [], [], [], []] (fun l b => match l with | 0 => True | 1 => True | _ => False) (by kernel_rfl) (by kernel_rfl) ?_
   refine rq 0 (by kernel_rfl) rfl rfl (q_fieldAddr rfl Try.underlying26 rfl Try.sizeOf24 y6) ?_
   refine rq 1 (by kernel_rfl) rfl rfl (q_loadBlk rfl rfl Try.isAgg24 (hS151.blk 1 rfl) rfl (labU_not [] rfl (fe))) ?_
   refine rq 2 (by kernel_rfl) rfl rfl (q_move (v := PT g75 0) rfl y9) ?_
   refine rq 3 (by kernel_rfl) rfl rfl (q_nilCheck rfl rfl) ?_
   refine rq 4 (by kernel_rfl) rfl rfl (q_fieldAddr rfl Try.underlying57 rfl Try.sizeOf24 rfl) ?_
   refine rq 5 (by kernel_rfl) rfl rfl (q_loadBlk rfl rfl Try.isAgg24 (hS151.blk 4 rfl) rfl (labU_not [] rfl (fe))) ?_
   refine rq 6 (by kernel_rfl) rfl rfl (q_move (v := I (nth a.Hold u)) rfl y17) ?_
   refine rq 7 (by kernel_rfl) rfl rfl (q_indexRd (k := (nth a.Hold u).toNat) rfl Try.underlying24 el_Int_3_ArrC2 rfl rfl (hS151.rowl 3 rfl) (by omega) (by omega)) ?_
   refine rq 8 (by kernel_rfl) rfl rfl (q_loadInt (k := (nth a.Hold u).toNat) rfl rfl el_Int_3_ArrC2 (hS151.rowl 3 rfl) (by omega) (labU_sub [] rfl (fe))) ?_
   refine wpR_n [9] (by kernel_rfl) ?_
   refine fa ?_ fe
   refine exE rfl rfl ?_
   refine e_buildSlice (vs := [I (nth ((turnTo a a.Nodes.length).To) ((nth a.Hold u).toNat))]) (xs := ([nth ((turnTo a a.Nodes.length).To) ((nth a.Hold u).toNat)] : List Int)) rfl Try.underlying24 Try.zeroValue3 rfl Try.sizeOf3 (par1 (v0 := I (nth ((turnTo a a.Nodes.length).To) ((nth a.Hold u).toNat))) rfl) rfl hS151 (RdVs.cons (Rd.int.2 ⟨rfl, by first | assumption | (constructor <;> omega)⟩) (RdVs.nil)) (by decide) (by decide) (fun v156o9 H156o9 hS156o9 hxx hvv156o9 => ?_)
   refine ⟨Ext.mono hxx (fun _ h => h.elim), ?_⟩
   refine wpR_n [10] (by kernel_rfl) ?_
   refine fa ?_ fe
   have hS156o10 : St H0 NoB (SZ S H0) [rdE v156o9 ([nth ((turnTo a a.Nodes.length).To) ((nth a.Hold u).toNat)] : List Int), rowE 3 vh (kidS (turned a).To (a.Hold.take u) : List Int), bE g26 #[vo, vn, vh] 26, rowE 37 vn ((turnTo a a.Nodes.length).Nodes : List Node), rowE 3 vt ((turnTo a a.Nodes.length).To : List Int), bE g75 #[vD, vN, vH, vn, vt] 57, rowE 43 vo (a.Decls.map declA : List Decl), bE g15 #[I (((sortsF a)).1), I (((sortsF a)).2)] 28, bE g7 #[I (0), I (0)] 28, bE g4 #[nS, nS, nS] 26, bE g1 #[vD, vN, vH] 26, rdE vD a.Decls, rdE vN a.Nodes, rdE vH a.Hold] H156o9 := St.fin hS156o9
   have hS156o10x2 := (hS156o10.front 1 rfl)
   refine exE rfl rfl ?_
   refine e_append rfl Try.underlying24 em_Int_3_ArrC2 rfl rfl hS156o10x2 (hS156o10x2.rdS 1 rfl) (fun _ h => h) (by have hb : GoT.bytes Int = 8 := rfl; rw [hb]; simp only [List.length_append, kidS_len, List.length_take, List.length_cons, List.length_nil]; omega) (by decide) (fun v156o10 H156o10 hS156o10x3 hxx => ?_)
   have hS156o10x4 : St H0 NoB (SZ S H0) [rowE 3 v156o10 (kidS (turned a).To (a.Hold.take (u + 1)) : List Int), rdE v156o9 ([nth ((turnTo a a.Nodes.length).To) ((nth a.Hold u).toNat)] : List Int), bE g26 #[vo, vn, vh] 26, rowE 37 vn ((turnTo a a.Nodes.length).Nodes : List Node), rowE 3 vt ((turnTo a a.Nodes.length).To : List Int), bE g75 #[vD, vN, vH, vn, vt] 57, rowE 43 vo (a.Decls.map declA : List Decl), bE g15 #[I (((sortsF a)).1), I (((sortsF a)).2)] 28, bE g7 #[I (0), I (0)] 28, bE g4 #[nS, nS, nS] 26, bE g1 #[vD, vN, vH] 26, rdE vD a.Decls, rdE vN a.Nodes, rdE vH a.Hold] H156o10 := by rw [show (kidS (turned a).To (a.Hold.take (u + 1))) = ((kidS (turned a).To (a.Hold.take u)) ++ ([nth ((turnTo a a.Nodes.length).To) ((nth a.Hold u).toNat)])) from (kidS_next (by omega)).symm]; exact hS156o10x3
   refine ⟨Ext.mono hxx (labS_of 0 rfl (fun _ _ => trivial)), ?_⟩
   refine rq 11 (by kernel_rfl) rfl rfl (q_fieldAddr rfl Try.underlying26 rfl Try.sizeOf24 y6) ?_
   refine wpR_n [12] (by kernel_rfl) ?_
   refine fa ?_ fe
   refine exE rfl rfl ?_
   refine e_storeBlk (v := v156o10) rfl rfl rfl (oneCell_rdL (hS156o10x4.rowl 0 rfl)) Try.sizeOf24 (by show _ < 3; decide) (hS156o10x4.front 2 rfl) (fun H156o12 hS156o12 hxx => ?_)
   refine ⟨Ext.mono hxx (labS_of 1 rfl (fun _ _ => trivial)), ?_⟩
   refine wpR_end (by kernel_rfl) ?_
   exact ⟨v156o10, y2, y3, y6, y9, y140, y141, y142, (hS156o12.drop (sk (sk (sn (sk (sk (sk (sk (sk (sk (sk (sk (sk (sk (sk (List.Sublist.slnil))))))))))))))))⟩
  clear y140 y141 y142 y17 y2 y3 y6 y9
  rintro f157 H157 ⟨v156o10, y2, y3, y6, y9, y140, y141, y142, hS157⟩
  refine wpF_cut (fun f H => f 2 = PT g4 0 ∧ f 3 = PT g7 0 ∧ f 6 = PT g26 0 ∧ f 9 = PT g75 0 ∧ f 140 = vH ∧ f 141 = I ((a.Hold.length : Int)) ∧ f 142 = I ((u : Int) + 1) ∧ H157 = H) ?_ ?_
  ·refine wpF_region ?_
   refine lq rfl (q_add rfl y142 rfl (by constructor <;> omega)) ?_
   refine lm (v := I ((u : Int) + 1)) rfl rfl rfl ?_
   exact ⟨y2, y3, y6, y9, y140, y141, rfl, rfl⟩
  clear y140 y141 y142 y2 y3 y6 y9
  rintro f158 _ ⟨y2, y3, y6, y9, y140, y141, y142, rfl⟩
  refine ⟨_, ?_, u + 1, v156o10, rfl, (by omega), y2, y3, y6, y9, y140, y141, (Eq.trans y142 (congrArg I (by omega))), (St.drop (show St H0 NoB (SZ S H0) [rowE 3 v156o10 (kidS (turned a).To (a.Hold.take (u + 1)) : List Int), bE g26 #[vo, vn, v156o10] 26, rowE 37 vn ((turnTo a a.Nodes.length).Nodes : List Node), rowE 3 vt ((turnTo a a.Nodes.length).To : List Int), bE g75 #[vD, vN, vH, vn, vt] 57, rowE 43 vo (a.Decls.map declA : List Decl), bE g15 #[I (((sortsF a)).1), I (((sortsF a)).2)] 28, bE g7 #[I (0), I (0)] 28, bE g4 #[nS, nS, nS] 26, bE g1 #[vD, vN, vH] 26, rdE vD a.Decls, rdE vN a.Nodes, rdE vH a.Hold] H157 from (hS157.front 1 rfl)) (sk (sk (sk (sk (sk (sk (sk (sk (sk (sk (sk (sk (sk (List.Sublist.slnil)))))))))))))))⟩
  omega
 have hkf := (hA.nodes k (by omega)).few
 have htl := turnTo_to (a := a) k
 have hsl : (sorts a).length = a.Nodes.length := sortsTo_len _
 refine wpF_skip ?_
 refine wpF_seq ?_
 refine wpF_block ?_
 refine fcr (fun f H => ∃ (u85n1 : Value), ∃ (g87 : Nat), (In64 (nth a.Nodes k).Op) ∧ (In64 (nth a.Nodes k).N) ∧ (In64 (nth a.Nodes k).D) ∧ ((nth a.Nodes k).Name.size ≤ maxLen) ∧ f 1 = PT g1 0 ∧ f 2 = PT g4 0 ∧ f 3 = PT g7 0 ∧ f 4 = r11 ∧ f 6 = PT g26 0 ∧ f 9 = PT g75 0 ∧ f 10 = I ((k : Int)) ∧ f 11 = PT g87 0 ∧ f 57 = vN ∧ f 58 = I ((a.Nodes.length : Int)) ∧ f 59 = I ((k : Int)) ∧ St H0 NoB (SZ S H0) [bE g87 #[I ((nth a.Nodes k).Op), u85n1, I ((nth a.Nodes k).N), I ((nth a.Nodes k).D), SB ((nth a.Nodes k).Name)] 37, rdE u85n1 ((nth a.Nodes k).Kids), rowE 37 vn ((turnTo a k).Nodes : List Node), rowE 3 vt ((turnTo a k).To : List Int), bE g75 #[vD, vN, vH, vn, vt] 57, rowE 43 vo (a.Decls.map declA : List Decl), bE g26 #[vo, nS, nS] 26, bE g15 #[I (((sortsF a)).1), I (((sortsF a)).2)] 28, rdE r11 (sorts a), bE g7 #[I (0), I (0)] 28, bE g4 #[nS, nS, nS] 26, bE g1 #[vD, vN, vH] 26, rdE vD a.Decls, rdE vN a.Nodes, rdE vH a.Hold] H) ?_ ?_
 ·refine lm (v := I ((k : Int))) rfl rfl y59 ?_
  refine lq rfl (q_indexRd (k := k) rfl Try.underlying23 el_Node_37_ArrC2 y57 y59 (hS82.rdl 11 rfl) (by omega) (by omega)) ?_
  obtain ⟨u85, huu85, hlu85⟩ := (Rd.list.1 (hS82.rdS 11 rfl)).elem k (by omega)
  obtain ⟨u85n1, rfl, hu850, hu851, hu852, hu853, hu854⟩ := Rd.node.1 huu85
  have hS86 := hS82.rd hu851
  refine lq rfl (q_loadE rfl rfl (hlu85 Try.prog 37 _ el_Node_37_ArrC2 (fun _ h => False.elim h))) ?_
  refine lo rfl ?_
  refine e_alloc rfl Try.zeroValue37 hS86 (fun g87 H88 hS89 hxx => ?_)
  refine la (v := I ((k : Int))) rfl rfl rfl ?_
  refine lo rfl ?_
  refine e_storeBlkA (cs' := #[I ((nth a.Nodes k).Op), u85n1, I ((nth a.Nodes k).N), I ((nth a.Nodes k).D), SB ((nth a.Nodes k).Name)]) rfl rfl rfl Try.sizeOf37 rfl rfl (fa rfl (fa ((oneCell_rdL (hS89.rdl 1 rfl))) (fa rfl (fa rfl (fa rfl fe))))) hS89 (fun H90 hS91 hxx => ?_)
  exact ⟨u85n1, g87, hu850, hu852, hu853, hu854, y1, y2, y3, y4, y6, y9, rfl, rfl, y57, y58, y59, hS91⟩
 clear y1 y2 y3 y4 y57 y58 y59 y6 y60 y9
 rintro f92 H92 ⟨u85n1, g87, hu850, hu852, hu853, hu854, y1, y2, y3, y4, y6, y9, y10, y11, y57, y58, y59, hS92⟩
 refine fcr (fun f H => f 1 = PT g1 0 ∧ f 2 = PT g4 0 ∧ f 3 = PT g7 0 ∧ f 4 = r11 ∧ f 6 = PT g26 0 ∧ f 9 = PT g75 0 ∧ f 10 = I ((k : Int)) ∧ f 11 = PT g87 0 ∧ f 12 = I (0) ∧ f 57 = vN ∧ f 58 = I ((a.Nodes.length : Int)) ∧ f 59 = I ((k : Int)) ∧ H92 = H) ?_ ?_
 ·refine la (v := I (0)) rfl rfl rfl ?_
  exact ⟨y1, y2, y3, y4, y6, y9, y10, y11, rfl, y57, y58, y59, rfl⟩
 clear y1 y10 y11 y2 y3 y4 y57 y58 y59 y6 y9
 rintro f93 _ ⟨y1, y2, y3, y4, y6, y9, y10, y11, y12, y57, y58, y59, rfl⟩
 refine sc (fun f H => ∃ (vN2 : Value), ∃ (kk : Int), ((turnTo a (k + 1)).To = (turnTo a k).To ++ [kk]) ∧ (In64 kk) ∧ f 1 = PT g1 0 ∧ f 2 = PT g4 0 ∧ f 3 = PT g7 0 ∧ f 4 = r11 ∧ f 6 = PT g26 0 ∧ f 9 = PT g75 0 ∧ f 12 = I (kk) ∧ f 57 = vN ∧ f 58 = I ((a.Nodes.length : Int)) ∧ f 59 = I ((k : Int)) ∧ St H0 NoB (SZ S H0) [rowE 37 vN2 ((turnTo a (k + 1)).Nodes : List Node), bE g75 #[vD, vN, vH, vN2, vt] 57, rowE 3 vt ((turnTo a k).To : List Int), rowE 43 vo (a.Decls.map declA : List Decl), bE g26 #[vo, nS, nS] 26, bE g15 #[I (((sortsF a)).1), I (((sortsF a)).2)] 28, rdE r11 (sorts a), bE g7 #[I (0), I (0)] 28, bE g4 #[nS, nS, nS] 26, bE g1 #[vD, vN, vH] 26, rdE vD a.Decls, rdE vN a.Nodes, rdE vH a.Hold] H) ?_ ?_
 ·refine wpF_block ?_
  refine fcr (fun f H => f 1 = PT g1 0 ∧ f 2 = PT g4 0 ∧ f 3 = PT g7 0 ∧ f 4 = r11 ∧ f 6 = PT g26 0 ∧ f 9 = PT g75 0 ∧ f 11 = PT g87 0 ∧ f 12 = I (0) ∧ f 57 = vN ∧ f 58 = I ((a.Nodes.length : Int)) ∧ f 59 = I ((k : Int)) ∧ f 89 = B (decide ((nth (sorts a) k) = 5)) ∧ H92 = H) ?_ ?_
  ·refine lm (v := r11) rfl rfl y4 ?_
   refine lm (v := I ((k : Int))) rfl rfl y10 ?_
   refine lq rfl (q_indexRd (k := k) rfl Try.underlying24 el_Int_3_ArrC2 rfl rfl (hS92.rdl 8 rfl) (by omega) (by omega)) ?_
   refine lq rfl (q_loadInt (k := k) rfl rfl el_Int_3_ArrC2 (hS92.rdl 8 rfl) (by omega) (fun _ h => h)) ?_
   refine lq rfl (q_eql rfl rfl rfl) ?_
   refine la (v := B (decide ((nth (sorts a) k) = 5))) rfl rfl rfl ?_
   exact ⟨y1, y2, y3, y4, y6, y9, y11, y12, y57, y58, y59, rfl, rfl⟩
  clear y1 y10 y11 y12 y2 y3 y4 y57 y58 y59 y6 y9
  rintro f95 _ ⟨y1, y2, y3, y4, y6, y9, y11, y12, y57, y58, y59, y89, rfl⟩
  refine wpF_condP y89 (fun h89 => ?t124) (fun h89 => ?e124)
  case t124 =>
   refine wpF_skip ?_
   exact ⟨vn, (0 : Int), (turn_arr h89).2, (by constructor <;> omega), y1, y2, y3, y4, y6, y9, (Eq.trans y12 (congrArg I (by omega))), y57, y58, y59, (show St H0 NoB (SZ S H0) [rowE 37 vn ((turnTo a (k + 1)).Nodes : List Node), bE g75 #[vD, vN, vH, vn, vt] 57, rowE 3 vt ((turnTo a k).To : List Int), rowE 43 vo (a.Decls.map declA : List Decl), bE g26 #[vo, nS, nS] 26, bE g15 #[I (((sortsF a)).1), I (((sortsF a)).2)] 28, rdE r11 (sorts a), bE g7 #[I (0), I (0)] 28, bE g4 #[nS, nS, nS] 26, bE g1 #[vD, vN, vH] 26, rdE vD a.Decls, rdE vN a.Nodes, rdE vH a.Hold] H92 from (by have h__ := (St.drop (show St H0 NoB (SZ S H0) [rowE 37 vn ((turnTo a k).Nodes : List Node), bE g75 #[vD, vN, vH, vn, vt] 57, bE g87 #[I ((nth a.Nodes k).Op), u85n1, I ((nth a.Nodes k).N), I ((nth a.Nodes k).D), SB ((nth a.Nodes k).Name)] 37, rdE u85n1 ((nth a.Nodes k).Kids), rowE 3 vt ((turnTo a k).To : List Int), rowE 43 vo (a.Decls.map declA : List Decl), bE g26 #[vo, nS, nS] 26, bE g15 #[I (((sortsF a)).1), I (((sortsF a)).2)] 28, rdE r11 (sorts a), bE g7 #[I (0), I (0)] 28, bE g4 #[nS, nS, nS] 26, bE g1 #[vD, vN, vH] 26, rdE vD a.Decls, rdE vN a.Nodes, rdE vH a.Hold] H92 from ((hS92.front 4 rfl).front 3 rfl)) (sk (sk (sn (sn (sk (sk (sk (sk (sk (sk (sk (sk (sk (sk (sk (List.Sublist.slnil))))))))))))))))); rw [← (turn_arr h89).1] at h__; exact h__))⟩
  refine fcr (fun f H => f 1 = PT g1 0 ∧ f 2 = PT g4 0 ∧ f 3 = PT g7 0 ∧ f 4 = r11 ∧ f 6 = PT g26 0 ∧ f 9 = PT g75 0 ∧ f 11 = PT g87 0 ∧ f 57 = vN ∧ f 58 = I ((a.Nodes.length : Int)) ∧ f 59 = I ((k : Int)) ∧ f 95 = B (decide (((nth a.Nodes k).Op) = 24)) ∧ H92 = H) ?_ ?_
  ·refine lq rfl (q_fieldAddr rfl Try.underlying37 rfl Try.sizeOf3 y11) ?_
   refine lq rfl (q_loadBlk rfl rfl Try.isAgg3 (hS92.blk 0 rfl) rfl (fun h => h)) ?_
   refine lq rfl (q_eql rfl rfl rfl) ?_
   refine la (v := B (decide (((nth a.Nodes k).Op) = 24))) rfl rfl rfl ?_
   exact ⟨y1, y2, y3, y4, y6, y9, y11, y57, y58, y59, rfl, rfl⟩
  clear y1 y11 y12 y2 y3 y4 y57 y58 y59 y6 y89 y9
  rintro f97 _ ⟨y1, y2, y3, y4, y6, y9, y11, y57, y58, y59, y95, rfl⟩
  refine wpF_condP y95 (fun h95 => ?t123) (fun h95 => ?e123)
  case t123 =>
   have hgk := got_kids hA (k := k) (by omega) h95
   have hg0 := kid_lt hA (k := k) (by omega) (j := 0) (by omega)
   have hg1 := kid_lt hA (k := k) (by omega) (j := 1) (by omega)
   have hgc := got_chain hA (k := k) (m := k) (by omega) h95 (Nat.le_refl _)
   unfold kidN at hg0 hg1 hgc
   have hgl := getL_len (a := a) (to := (turnTo a k).To) (x := nth (turnTo a k).To (nth (nth a.Nodes k).Kids 1).toNat) (N := (turnTo a k).Nodes) (nth (nth a.Nodes k).Kids 0).toNat
   have h6g := (hS92.rowl 3 rfl).in64 (k := (nth (nth a.Nodes k).Kids 1).toNat) (by omega)
   refine wpF_cut (fun f H => ∃ (r99o15 : Value), f 1 = PT g1 0 ∧ f 2 = PT g4 0 ∧ f 3 = PT g7 0 ∧ f 4 = r11 ∧ f 6 = PT g26 0 ∧ f 9 = PT g75 0 ∧ f 12 = I (((getL a ((turnTo a k).To) (nth ((turnTo a k).To) ((nth ((nth a.Nodes k).Kids) 1).toNat)) ((turnTo a k).Nodes) (nth ((nth a.Nodes k).Kids) 0).toNat).length : Int) - 1) ∧ f 57 = vN ∧ f 58 = I ((a.Nodes.length : Int)) ∧ f 59 = I ((k : Int)) ∧ St H0 NoB (SZ S H0) [rowE 37 r99o15 (getL a ((turnTo a k).To) (nth ((turnTo a k).To) ((nth ((nth a.Nodes k).Kids) 1).toNat)) ((turnTo a k).Nodes) (nth ((nth a.Nodes k).Kids) 0).toNat : List Node), rowE 3 vt ((turnTo a k).To : List Int), bE g75 #[vD, vN, vH, r99o15, vt] 57, bE g87 #[I ((nth a.Nodes k).Op), u85n1, I ((nth a.Nodes k).N), I ((nth a.Nodes k).D), SB ((nth a.Nodes k).Name)] 37, rdE u85n1 ((nth a.Nodes k).Kids), rowE 43 vo (a.Decls.map declA : List Decl), bE g26 #[vo, nS, nS] 26, bE g15 #[I (((sortsF a)).1), I (((sortsF a)).2)] 28, rdE r11 (sorts a), bE g7 #[I (0), I (0)] 28, bE g4 #[nS, nS, nS] 26, bE g1 #[vD, vN, vH] 26, rdE vD a.Decls, rdE vN a.Nodes, rdE vH a.Hold] H) ?_ ?_
   ·refine wpF_drawn [none, none, none, none, none, none, none, none, none, none, none, none, none, none, none, some 0, none] [[], [], [], [], [], [], [], [], [], [], [], [], [], [], [], [], []] (fun l b => match l with | 0 => True | _ => False) (by kernel_rfl) (by kernel_rfl) ?_
    refine rq 0 (by kernel_rfl) rfl rfl (q_move (v := PT g75 0) rfl y9) ?_
    refine rq 1 (by kernel_rfl) rfl rfl (q_fieldAddr rfl Try.underlying37 rfl Try.sizeOf24 y11) ?_
    refine rq 2 (by kernel_rfl) rfl rfl (q_loadBlk rfl rfl Try.isAgg24 (hS92.blk 0 rfl) rfl (labU_not [] rfl (fe))) ?_
    refine rq 3 (by kernel_rfl) rfl rfl (q_indexRd (k := 0) rfl Try.underlying24 el_Int_3_ArrC2 rfl rfl (hS92.rdl 1 rfl) (by omega) (by omega)) ?_
    refine rq 4 (by kernel_rfl) rfl rfl (q_loadInt (k := 0) rfl rfl el_Int_3_ArrC2 (hS92.rdl 1 rfl) (by omega) (labU_sub [] rfl (fe))) ?_
    refine rq 5 (by kernel_rfl) rfl rfl (q_move (v := PT g75 0) rfl y9) ?_
    refine rq 6 (by kernel_rfl) rfl rfl (q_nilCheck rfl rfl) ?_
    refine rq 7 (by kernel_rfl) rfl rfl (q_fieldAddr rfl Try.underlying57 rfl Try.sizeOf24 rfl) ?_
    refine rq 8 (by kernel_rfl) rfl rfl (q_loadBlk rfl rfl Try.isAgg24 (hS92.blk 4 rfl) rfl (labU_not [] rfl (fe))) ?_
    refine rq 9 (by kernel_rfl) rfl rfl (q_fieldAddr rfl Try.underlying37 rfl Try.sizeOf24 y11) ?_
    refine rq 10 (by kernel_rfl) rfl rfl (q_loadBlk rfl rfl Try.isAgg24 (hS92.blk 0 rfl) rfl (labU_not [] rfl (fe))) ?_
    refine rq 11 (by kernel_rfl) rfl rfl (q_indexRd (k := 1) rfl Try.underlying24 el_Int_3_ArrC2 rfl rfl (hS92.rdl 1 rfl) (by omega) (by omega)) ?_
    refine rq 12 (by kernel_rfl) rfl rfl (q_loadInt (k := 1) rfl rfl el_Int_3_ArrC2 (hS92.rdl 1 rfl) (by omega) (labU_sub [] rfl (fe))) ?_
    refine rq 13 (by kernel_rfl) rfl rfl (q_indexRd (k := (nth ((nth a.Nodes k).Kids) 1).toNat) rfl Try.underlying24 el_Int_3_ArrC2 rfl rfl (hS92.rowl 3 rfl) (by omega) (by omega)) ?_
    refine rq 14 (by kernel_rfl) rfl rfl (q_loadInt (k := (nth ((nth a.Nodes k).Kids) 1).toNat) rfl rfl el_Int_3_ArrC2 (hS92.rowl 3 rfl) (by omega) (labU_sub [] rfl (fe))) ?_
    refine wpR_n [15] (by kernel_rfl) ?_
    refine fa ?_ fe
    have hS99o15 := (St.drop (show St H0 NoB (SZ S H0) [rowE 37 vn ((turnTo a k).Nodes : List Node), rowE 3 vt ((turnTo a k).To : List Int), bE g75 #[vD, vN, vH, vn, vt] 57, bE g87 #[I ((nth a.Nodes k).Op), u85n1, I ((nth a.Nodes k).N), I ((nth a.Nodes k).D), SB ((nth a.Nodes k).Name)] 37, rdE u85n1 ((nth a.Nodes k).Kids), rowE 43 vo (a.Decls.map declA : List Decl), bE g26 #[vo, nS, nS] 26, bE g15 #[I (((sortsF a)).1), I (((sortsF a)).2)] 28, rdE r11 (sorts a), bE g7 #[I (0), I (0)] 28, bE g4 #[nS, nS, nS] 26, bE g1 #[vD, vN, vH] 26, rdE vD a.Decls, rdE vN a.Nodes, rdE vH a.Hold] H92 from (((hS92.front 4 rfl).front 4 rfl).front 4 rfl)) (sk (sk (sk (sk (sk (sk (sk (sk (sk (sk (sk (sk (sk (sk (sk (List.Sublist.slnil)))))))))))))))))
    refine exE rfl rfl ?_
    refine e_call rfl Try.call18 (arr3 (v0 := PT g75 0) (v1 := I (nth ((nth a.Nodes k).Kids) 0)) (v2 := I (nth ((turnTo a k).To) ((nth ((nth a.Nodes k).Kids) 1).toNat))) rfl rfl rfl) (read_M _ _ g75 vD vN vH vn vt a ((turnTo a k).Nodes) ((turnTo a k).To) (nth ((nth a.Nodes k).Kids) 0) (nth ((turnTo a k).To) ((nth ((nth a.Nodes k).Kids) 1).toNat)) (St.give (A := [rowE 37 vn ((turnTo a k).Nodes : List Node), rowE 3 vt ((turnTo a k).To : List Int), bE g75 #[vD, vN, vH, vn, vt] 57]) (L := [bE g87 #[I ((nth a.Nodes k).Op), u85n1, I ((nth a.Nodes k).N), I ((nth a.Nodes k).D), SB ((nth a.Nodes k).Name)] 37, rdE u85n1 ((nth a.Nodes k).Kids), rowE 43 vo (a.Decls.map declA : List Decl), bE g26 #[vo, nS, nS] 26, bE g15 #[I (((sortsF a)).1), I (((sortsF a)).2)] 28, rdE r11 (sorts a), bE g7 #[I (0), I (0)] 28, bE g4 #[nS, nS, nS] 26, bE g1 #[vD, vN, vH] 26, rdE vD a.Decls, rdE vN a.Nodes, rdE vH a.Hold]) hS99o15) (hS99o15.rdS 13 rfl) hg0.1 (by rw [htl]; exact hgc) h6g (by omega) (by omega) rfl) ?_
    rintro _ H99o15 ⟨hxx, r99o15, rfl, hgo⟩
    have hS99o15x2 : St H0 NoB (SZ S H0) [rowE 37 r99o15 (getL a ((turnTo a k).To) (nth ((turnTo a k).To) ((nth ((nth a.Nodes k).Kids) 1).toNat)) ((turnTo a k).Nodes) (nth ((nth a.Nodes k).Kids) 0).toNat : List Node), rowE 3 vt ((turnTo a k).To : List Int), bE g75 #[vD, vN, vH, r99o15, vt] 57, bE g87 #[I ((nth a.Nodes k).Op), u85n1, I ((nth a.Nodes k).N), I ((nth a.Nodes k).D), SB ((nth a.Nodes k).Name)] 37, rdE u85n1 ((nth a.Nodes k).Kids), rowE 43 vo (a.Decls.map declA : List Decl), bE g26 #[vo, nS, nS] 26, bE g15 #[I (((sortsF a)).1), I (((sortsF a)).2)] 28, rdE r11 (sorts a), bE g7 #[I (0), I (0)] 28, bE g4 #[nS, nS, nS] 26, bE g1 #[vD, vN, vH] 26, rdE vD a.Decls, rdE vN a.Nodes, rdE vH a.Hold] H99o15 := St.back3 (A := [rowE 37 vn ((turnTo a k).Nodes : List Node), rowE 3 vt ((turnTo a k).To : List Int), bE g75 #[vD, vN, vH, vn, vt] 57]) (A' := [rowE 37 r99o15 (getL a ((turnTo a k).To) (nth ((turnTo a k).To) ((nth ((nth a.Nodes k).Kids) 1).toNat)) ((turnTo a k).Nodes) (nth ((nth a.Nodes k).Kids) 0).toNat : List Node), rowE 3 vt ((turnTo a k).To : List Int), bE g75 #[vD, vN, vH, r99o15, vt] 57]) (L := [bE g87 #[I ((nth a.Nodes k).Op), u85n1, I ((nth a.Nodes k).N), I ((nth a.Nodes k).D), SB ((nth a.Nodes k).Name)] 37, rdE u85n1 ((nth a.Nodes k).Kids), rowE 43 vo (a.Decls.map declA : List Decl), bE g26 #[vo, nS, nS] 26, bE g15 #[I (((sortsF a)).1), I (((sortsF a)).2)] 28, rdE r11 (sorts a), bE g7 #[I (0), I (0)] 28, bE g4 #[nS, nS, nS] 26, bE g1 #[vD, vN, vH] 26, rdE vD a.Decls, rdE vN a.Nodes, rdE vH a.Hold]) hS99o15 hxx hgo
    refine ⟨Ext.mono hxx (labS_of 0 rfl (fun _ _ => trivial)), ?_⟩
    refine rq 16 (by kernel_rfl) rfl rfl (q_assign (v := I (((getL a ((turnTo a k).To) (nth ((turnTo a k).To) ((nth ((nth a.Nodes k).Kids) 1).toNat)) ((turnTo a k).Nodes) (nth ((nth a.Nodes k).Kids) 0).toNat).length : Int) - 1)) rfl rfl) ?_
    refine wpR_end (by kernel_rfl) ?_
    exact ⟨r99o15, y1, y2, y3, y4, y6, y9, rfl, y57, y58, y59, hS99o15x2⟩
   clear y1 y11 y2 y3 y4 y57 y58 y59 y6 y9 y95
   rintro f100 H100 ⟨r99o15, y1, y2, y3, y4, y6, y9, y12, y57, y58, y59, hS100⟩
   exact ⟨r99o15, ((getL a ((turnTo a k).To) (nth ((turnTo a k).To) ((nth ((nth a.Nodes k).Kids) 1).toNat)) ((turnTo a k).Nodes) (nth ((nth a.Nodes k).Kids) 0).toNat).length : Int) - 1, (turn_get h89 h95).2, (by constructor <;> omega), y1, y2, y3, y4, y6, y9, (Eq.trans y12 (congrArg I (by omega))), y57, y58, y59, (by have h__ := (St.drop (show St H0 NoB (SZ S H0) [rowE 37 r99o15 (getL a ((turnTo a k).To) (nth ((turnTo a k).To) ((nth ((nth a.Nodes k).Kids) 1).toNat)) ((turnTo a k).Nodes) (nth ((nth a.Nodes k).Kids) 0).toNat : List Node), bE g75 #[vD, vN, vH, r99o15, vt] 57, rowE 3 vt ((turnTo a k).To : List Int), bE g87 #[I ((nth a.Nodes k).Op), u85n1, I ((nth a.Nodes k).N), I ((nth a.Nodes k).D), SB ((nth a.Nodes k).Name)] 37, rdE u85n1 ((nth a.Nodes k).Kids), rowE 43 vo (a.Decls.map declA : List Decl), bE g26 #[vo, nS, nS] 26, bE g15 #[I (((sortsF a)).1), I (((sortsF a)).2)] 28, rdE r11 (sorts a), bE g7 #[I (0), I (0)] 28, bE g4 #[nS, nS, nS] 26, bE g1 #[vD, vN, vH] 26, rdE vD a.Decls, rdE vN a.Nodes, rdE vH a.Hold] H100 from ((hS100.front 2 rfl).front 1 rfl)) (sk (sk (sk (sn (sn (sk (sk (sk (sk (sk (sk (sk (sk (sk (sk (List.Sublist.slnil))))))))))))))))); rw [(turn_get h89 h95).1]; exact h__)⟩
  refine fcr (fun f H => f 1 = PT g1 0 ∧ f 2 = PT g4 0 ∧ f 3 = PT g7 0 ∧ f 4 = r11 ∧ f 6 = PT g26 0 ∧ f 9 = PT g75 0 ∧ f 11 = PT g87 0 ∧ f 13 = u85n1 ∧ f 57 = vN ∧ f 58 = I ((a.Nodes.length : Int)) ∧ f 59 = I ((k : Int)) ∧ H92 = H) ?_ ?_
  ·refine lq rfl (q_fieldAddr rfl Try.underlying37 rfl Try.sizeOf24 y11) ?_
   refine lq rfl (q_loadBlk rfl rfl Try.isAgg24 (hS92.blk 0 rfl) rfl (fun h => h)) ?_
   refine la (v := u85n1) rfl rfl rfl ?_
   exact ⟨y1, y2, y3, y4, y6, y9, y11, rfl, y57, y58, y59, rfl⟩
  clear y1 y11 y2 y3 y4 y57 y58 y59 y6 y9 y95
  rintro f101 _ ⟨y1, y2, y3, y4, y6, y9, y11, y13, y57, y58, y59, rfl⟩
  refine fcr (fun f H => f 1 = PT g1 0 ∧ f 2 = PT g4 0 ∧ f 3 = PT g7 0 ∧ f 4 = r11 ∧ f 6 = PT g26 0 ∧ f 9 = PT g75 0 ∧ f 11 = PT g87 0 ∧ f 13 = u85n1 ∧ f 57 = vN ∧ f 58 = I ((a.Nodes.length : Int)) ∧ f 59 = I ((k : Int)) ∧ St H0 NoB (SZ S H0) [bE g87 #[I ((nth a.Nodes k).Op), nS, I ((nth a.Nodes k).N), I ((nth a.Nodes k).D), SB ((nth a.Nodes k).Name)] 37, rdE u85n1 ((nth a.Nodes k).Kids), rowE 37 vn ((turnTo a k).Nodes : List Node), rowE 3 vt ((turnTo a k).To : List Int), bE g75 #[vD, vN, vH, vn, vt] 57, rowE 43 vo (a.Decls.map declA : List Decl), bE g26 #[vo, nS, nS] 26, bE g15 #[I (((sortsF a)).1), I (((sortsF a)).2)] 28, rdE r11 (sorts a), bE g7 #[I (0), I (0)] 28, bE g4 #[nS, nS, nS] 26, bE g1 #[vD, vN, vH] 26, rdE vD a.Decls, rdE vN a.Nodes, rdE vH a.Hold] H) ?_ ?_
  ·refine lq rfl (q_fieldAddr rfl Try.underlying37 rfl Try.sizeOf24 y11) ?_
   refine lo rfl ?_
   refine e_storeBlk (v := nS) rfl rfl rfl rfl Try.sizeOf24 (by show _ < 5; decide) hS92 (fun H102 hS103 hxx => ?_)
   exact ⟨y1, y2, y3, y4, y6, y9, y11, y13, y57, y58, y59, hS103⟩
  clear y1 y11 y13 y2 y3 y4 y57 y58 y59 y6 y9
  rintro f104 H104 ⟨y1, y2, y3, y4, y6, y9, y11, y13, y57, y58, y59, hS104⟩
  have hS105 : St H0 NoB (SZ S H0) [rowE 3 nS ([] : List Int), bE g87 #[I ((nth a.Nodes k).Op), nS, I ((nth a.Nodes k).N), I ((nth a.Nodes k).D), SB ((nth a.Nodes k).Name)] 37, rdE u85n1 ((nth a.Nodes k).Kids), rowE 37 vn ((turnTo a k).Nodes : List Node), rowE 3 vt ((turnTo a k).To : List Int), bE g75 #[vD, vN, vH, vn, vt] 57, rowE 43 vo (a.Decls.map declA : List Decl), bE g26 #[vo, nS, nS] 26, bE g15 #[I (((sortsF a)).1), I (((sortsF a)).2)] 28, rdE r11 (sorts a), bE g7 #[I (0), I (0)] 28, bE g4 #[nS, nS, nS] 26, bE g1 #[vD, vN, vH] 26, rdE vD a.Decls, rdE vN a.Nodes, rdE vH a.Hold] H104 := hS104.row0 3
  refine wpF_seq ?_
  refine fcr (fun f H => f 1 = PT g1 0 ∧ f 2 = PT g4 0 ∧ f 3 = PT g7 0 ∧ f 4 = r11 ∧ f 6 = PT g26 0 ∧ f 9 = PT g75 0 ∧ f 11 = PT g87 0 ∧ f 57 = vN ∧ f 58 = I ((a.Nodes.length : Int)) ∧ f 59 = I ((k : Int)) ∧ f 67 = u85n1 ∧ f 68 = I ((((nth a.Nodes k).Kids).length : Int)) ∧ f 69 = I (0) ∧ H104 = H) ?_ ?_
  ·refine lm (v := u85n1) rfl rfl y13 ?_
   refine lq rfl (q_lenRd rfl Try.underlying24 rfl (hS105.rdl 2 rfl)) ?_
   refine lm (v := I (0)) rfl rfl rfl ?_
   exact ⟨y1, y2, y3, y4, y6, y9, y11, y57, y58, y59, rfl, rfl, rfl, rfl⟩
  clear y1 y11 y13 y2 y3 y4 y57 y58 y59 y6 y9
  rintro f106 _ ⟨y1, y2, y3, y4, y6, y9, y11, y57, y58, y59, y67, y68, y69, rfl⟩
  refine wpF_block ?_
  refine wpF_loop (fun mz f H => ∃ (j : Nat), ∃ (vK : Value), mz = (nth a.Nodes k).Kids.length - j ∧ (j ≤ (nth a.Nodes k).Kids.length) ∧ f 1 = PT g1 0 ∧ f 2 = PT g4 0 ∧ f 3 = PT g7 0 ∧ f 4 = r11 ∧ f 6 = PT g26 0 ∧ f 9 = PT g75 0 ∧ f 11 = PT g87 0 ∧ f 57 = vN ∧ f 58 = I ((a.Nodes.length : Int)) ∧ f 59 = I ((k : Int)) ∧ f 67 = u85n1 ∧ f 68 = I ((((nth a.Nodes k).Kids).length : Int)) ∧ f 69 = I ((j : Int)) ∧ St H0 NoB (SZ S H0) [rowE 3 vK (kidS (turnTo a k).To ((nth a.Nodes k).Kids.take j) : List Int), bE g87 #[I ((nth a.Nodes k).Op), vK, I ((nth a.Nodes k).N), I ((nth a.Nodes k).D), SB ((nth a.Nodes k).Name)] 37, rdE u85n1 ((nth a.Nodes k).Kids), rowE 37 vn ((turnTo a k).Nodes : List Node), rowE 3 vt ((turnTo a k).To : List Int), bE g75 #[vD, vN, vH, vn, vt] 57, rowE 43 vo (a.Decls.map declA : List Decl), bE g26 #[vo, nS, nS] 26, bE g15 #[I (((sortsF a)).1), I (((sortsF a)).2)] 28, rdE r11 (sorts a), bE g7 #[I (0), I (0)] 28, bE g4 #[nS, nS, nS] 26, bE g1 #[vD, vN, vH] 26, rdE vD a.Decls, rdE vN a.Nodes, rdE vH a.Hold] H) ((nth a.Nodes k).Kids.length - 0) ?_ ?_
  ·exact ⟨0, nS, rfl, Nat.zero_le _, y1, y2, y3, y4, y6, y9, y11, y57, y58, y59, y67, y68, (Eq.trans y69 (congrArg I (by omega))), (show St H0 NoB (SZ S H0) [rowE 3 nS (kidS (turnTo a k).To ((nth a.Nodes k).Kids.take 0) : List Int), bE g87 #[I ((nth a.Nodes k).Op), nS, I ((nth a.Nodes k).N), I ((nth a.Nodes k).D), SB ((nth a.Nodes k).Name)] 37, rdE u85n1 ((nth a.Nodes k).Kids), rowE 37 vn ((turnTo a k).Nodes : List Node), rowE 3 vt ((turnTo a k).To : List Int), bE g75 #[vD, vN, vH, vn, vt] 57, rowE 43 vo (a.Decls.map declA : List Decl), bE g26 #[vo, nS, nS] 26, bE g15 #[I (((sortsF a)).1), I (((sortsF a)).2)] 28, rdE r11 (sorts a), bE g7 #[I (0), I (0)] 28, bE g4 #[nS, nS, nS] 26, bE g1 #[vD, vN, vH] 26, rdE vD a.Decls, rdE vN a.Nodes, rdE vH a.Hold] H104 from hS105)⟩
  intro m107 f107 H107 hI107
  clear y1 y11 y2 y3 y4 y57 y58 y59 y6 y67 y68 y69 y9
  obtain ⟨j, vK, hm107, hj, y1, y2, y3, y4, y6, y9, y11, y57, y58, y59, y67, y68, y69, hS107⟩ := hI107
  refine fcr (fun f H => f 1 = PT g1 0 ∧ f 2 = PT g4 0 ∧ f 3 = PT g7 0 ∧ f 4 = r11 ∧ f 6 = PT g26 0 ∧ f 9 = PT g75 0 ∧ f 11 = PT g87 0 ∧ f 57 = vN ∧ f 58 = I ((a.Nodes.length : Int)) ∧ f 59 = I ((k : Int)) ∧ f 67 = u85n1 ∧ f 68 = I ((((nth a.Nodes k).Kids).length : Int)) ∧ f 69 = I ((j : Int)) ∧ f 70 = B (decide ((j : Int) < (((nth a.Nodes k).Kids).length : Int))) ∧ H107 = H) ?_ ?_
  ·refine lq rfl (q_lss rfl y69 y68) ?_
   exact ⟨y1, y2, y3, y4, y6, y9, y11, y57, y58, y59, y67, y68, y69, rfl, rfl⟩
  clear y1 y11 y2 y3 y4 y57 y58 y59 y6 y67 y68 y69 y9
  rintro f108 _ ⟨y1, y2, y3, y4, y6, y9, y11, y57, y58, y59, y67, y68, y69, y70, rfl⟩
  refine wpF_seq ?_
  refine wpF_condP y70 (fun hlt5 => ?t122) (fun hlt5 => ?e122)
  case e122 =>
   have hS110 : St H0 NoB (SZ S H0) [rowE 3 vK (kidS (turnTo a k).To (nth a.Nodes k).Kids : List Int), bE g87 #[I ((nth a.Nodes k).Op), vK, I ((nth a.Nodes k).N), I ((nth a.Nodes k).D), SB ((nth a.Nodes k).Name)] 37, rdE u85n1 ((nth a.Nodes k).Kids), rowE 37 vn ((turnTo a k).Nodes : List Node), rowE 3 vt ((turnTo a k).To : List Int), bE g75 #[vD, vN, vH, vn, vt] 57, rowE 43 vo (a.Decls.map declA : List Decl), bE g26 #[vo, nS, nS] 26, bE g15 #[I (((sortsF a)).1), I (((sortsF a)).2)] 28, rdE r11 (sorts a), bE g7 #[I (0), I (0)] 28, bE g4 #[nS, nS, nS] 26, bE g1 #[vD, vN, vH] 26, rdE vD a.Decls, rdE vN a.Nodes, rdE vH a.Hold] H107 := by have h__ := hS107; rw [List.take_of_length_le (show (nth a.Nodes k).Kids.length ≤ j by omega)] at h__; exact h__
   refine wpF_exit ?_
   refine atX_here ?_
   refine wpF_cut (fun f H => ∃ (r117 : Value), f 1 = PT g1 0 ∧ f 2 = PT g4 0 ∧ f 3 = PT g7 0 ∧ f 4 = r11 ∧ f 6 = PT g26 0 ∧ f 9 = PT g75 0 ∧ f 12 = I ((((turnTo a k).Nodes).length : Int)) ∧ f 57 = vN ∧ f 58 = I ((a.Nodes.length : Int)) ∧ f 59 = I ((k : Int)) ∧ St H0 NoB (SZ S H0) [rowE 37 r117 (((turnTo a k).Nodes) ++ [(Node.mk ((nth a.Nodes k).Op) (kidS (turnTo a k).To (nth a.Nodes k).Kids) ((nth a.Nodes k).N) ((nth a.Nodes k).D) ((nth a.Nodes k).Name))] : List Node), bE g75 #[vD, vN, vH, r117, vt] 57, rdE vK (kidS (turnTo a k).To (nth a.Nodes k).Kids), bE g87 #[I ((nth a.Nodes k).Op), vK, I ((nth a.Nodes k).N), I ((nth a.Nodes k).D), SB ((nth a.Nodes k).Name)] 37, rowE 3 vt ((turnTo a k).To : List Int), rowE 43 vo (a.Decls.map declA : List Decl), bE g26 #[vo, nS, nS] 26, bE g15 #[I (((sortsF a)).1), I (((sortsF a)).2)] 28, rdE r11 (sorts a), bE g7 #[I (0), I (0)] 28, bE g4 #[nS, nS, nS] 26, bE g1 #[vD, vN, vH] 26, rdE vD a.Decls, rdE vN a.Nodes, rdE vH a.Hold] H) ?_ ?_
   ·refine wpF_region ?_
    refine lm (v := PT g75 0) rfl rfl y9 ?_
    refine lq rfl (q_loadBlkA rfl y11 Try.isAgg37 Try.sizeOf37 rfl (hS110.blk 1 rfl) (fun h => h)) ?_
    have hS115 : St H0 NoB (SZ S H0) [rdE vK (kidS (turnTo a k).To (nth a.Nodes k).Kids), bE g87 #[I ((nth a.Nodes k).Op), vK, I ((nth a.Nodes k).N), I ((nth a.Nodes k).D), SB ((nth a.Nodes k).Name)] 37, rdE u85n1 ((nth a.Nodes k).Kids), rowE 37 vn ((turnTo a k).Nodes : List Node), rowE 3 vt ((turnTo a k).To : List Int), bE g75 #[vD, vN, vH, vn, vt] 57, rowE 43 vo (a.Decls.map declA : List Decl), bE g26 #[vo, nS, nS] 26, bE g15 #[I (((sortsF a)).1), I (((sortsF a)).2)] 28, rdE r11 (sorts a), bE g7 #[I (0), I (0)] 28, bE g4 #[nS, nS, nS] 26, bE g1 #[vD, vN, vH] 26, rdE vD a.Decls, rdE vN a.Nodes, rdE vH a.Hold] H107 := St.fin hS110
    have hS116 := (St.drop (show St H0 NoB (SZ S H0) [rowE 37 vn ((turnTo a k).Nodes : List Node), bE g75 #[vD, vN, vH, vn, vt] 57, rdE vK (kidS (turnTo a k).To (nth a.Nodes k).Kids), bE g87 #[I ((nth a.Nodes k).Op), vK, I ((nth a.Nodes k).N), I ((nth a.Nodes k).D), SB ((nth a.Nodes k).Name)] 37, rdE u85n1 ((nth a.Nodes k).Kids), rowE 3 vt ((turnTo a k).To : List Int), rowE 43 vo (a.Decls.map declA : List Decl), bE g26 #[vo, nS, nS] 26, bE g15 #[I (((sortsF a)).1), I (((sortsF a)).2)] 28, rdE r11 (sorts a), bE g7 #[I (0), I (0)] 28, bE g4 #[nS, nS, nS] 26, bE g1 #[vD, vN, vH] 26, rdE vD a.Decls, rdE vN a.Nodes, rdE vH a.Hold] H107 from ((hS115.front 5 rfl).front 4 rfl)) (sk (sk (sk (sk (sk (sk (sk (sk (sk (sk (sk (sk (sk (sk (sk (sk (List.Sublist.slnil))))))))))))))))))
    refine lo rfl ?_
    refine e_call rfl Try.call19 (arr2 (v0 := PT g75 0) (v1 := Vg #[I ((nth a.Nodes k).Op), vK, I ((nth a.Nodes k).N), I ((nth a.Nodes k).D), SB ((nth a.Nodes k).Name)]) rfl rfl) (put_M _ g75 vD vN vH vn vt vK ((turnTo a k).Nodes) (Node.mk ((nth a.Nodes k).Op) (kidS (turnTo a k).To (nth a.Nodes k).Kids) ((nth a.Nodes k).N) ((nth a.Nodes k).D) ((nth a.Nodes k).Name)) (St.give (A := [rowE 37 vn ((turnTo a k).Nodes : List Node), bE g75 #[vD, vN, vH, vn, vt] 57]) (L := [rdE vK (kidS (turnTo a k).To (nth a.Nodes k).Kids), bE g87 #[I ((nth a.Nodes k).Op), vK, I ((nth a.Nodes k).N), I ((nth a.Nodes k).D), SB ((nth a.Nodes k).Name)] 37, rdE u85n1 ((nth a.Nodes k).Kids), rowE 3 vt ((turnTo a k).To : List Int), rowE 43 vo (a.Decls.map declA : List Decl), bE g26 #[vo, nS, nS] 26, bE g15 #[I (((sortsF a)).1), I (((sortsF a)).2)] 28, rdE r11 (sorts a), bE g7 #[I (0), I (0)] 28, bE g4 #[nS, nS, nS] 26, bE g1 #[vD, vN, vH] 26, rdE vD a.Decls, rdE vN a.Nodes, rdE vH a.Hold]) hS116) (by first | assumption | (constructor <;> (dsimp only; omega))) (hS116.rdS 2 rfl) (by first | assumption | (constructor <;> (dsimp only; omega))) (by first | assumption | (constructor <;> (dsimp only; omega))) (by first | assumption | exact Nat.zero_le _)  (by first | omega | (simp only [List.length_append, List.length_cons, List.length_nil]; omega))) ?_
    rintro _ H118 ⟨hxx, r117, rfl, hgo⟩
    have hS119 : St H0 NoB (SZ S H0) [rowE 37 r117 (((turnTo a k).Nodes) ++ [(Node.mk ((nth a.Nodes k).Op) (kidS (turnTo a k).To (nth a.Nodes k).Kids) ((nth a.Nodes k).N) ((nth a.Nodes k).D) ((nth a.Nodes k).Name))] : List Node), bE g75 #[vD, vN, vH, r117, vt] 57, rdE vK (kidS (turnTo a k).To (nth a.Nodes k).Kids), bE g87 #[I ((nth a.Nodes k).Op), vK, I ((nth a.Nodes k).N), I ((nth a.Nodes k).D), SB ((nth a.Nodes k).Name)] 37, rdE u85n1 ((nth a.Nodes k).Kids), rowE 3 vt ((turnTo a k).To : List Int), rowE 43 vo (a.Decls.map declA : List Decl), bE g26 #[vo, nS, nS] 26, bE g15 #[I (((sortsF a)).1), I (((sortsF a)).2)] 28, rdE r11 (sorts a), bE g7 #[I (0), I (0)] 28, bE g4 #[nS, nS, nS] 26, bE g1 #[vD, vN, vH] 26, rdE vD a.Decls, rdE vN a.Nodes, rdE vH a.Hold] H118 := St.back3 (A := [rowE 37 vn ((turnTo a k).Nodes : List Node), bE g75 #[vD, vN, vH, vn, vt] 57]) (A' := [rowE 37 r117 (((turnTo a k).Nodes) ++ [(Node.mk ((nth a.Nodes k).Op) (kidS (turnTo a k).To (nth a.Nodes k).Kids) ((nth a.Nodes k).N) ((nth a.Nodes k).D) ((nth a.Nodes k).Name))] : List Node), bE g75 #[vD, vN, vH, r117, vt] 57]) (L := [rdE vK (kidS (turnTo a k).To (nth a.Nodes k).Kids), bE g87 #[I ((nth a.Nodes k).Op), vK, I ((nth a.Nodes k).N), I ((nth a.Nodes k).D), SB ((nth a.Nodes k).Name)] 37, rdE u85n1 ((nth a.Nodes k).Kids), rowE 3 vt ((turnTo a k).To : List Int), rowE 43 vo (a.Decls.map declA : List Decl), bE g26 #[vo, nS, nS] 26, bE g15 #[I (((sortsF a)).1), I (((sortsF a)).2)] 28, rdE r11 (sorts a), bE g7 #[I (0), I (0)] 28, bE g4 #[nS, nS, nS] 26, bE g1 #[vD, vN, vH] 26, rdE vD a.Decls, rdE vN a.Nodes, rdE vH a.Hold]) hS116 hxx hgo
    refine la (v := I ((((turnTo a k).Nodes).length : Int))) rfl rfl rfl ?_
    exact ⟨r117, y1, y2, y3, y4, y6, y9, rfl, y57, y58, y59, (hS119.drop (sk (sk (sk (sk (sn (sk (sk (sk (sk (sk (sk (sk (sk (sk (sk (sk (List.Sublist.slnil))))))))))))))))))⟩
   clear y1 y11 y2 y3 y4 y57 y58 y59 y6 y67 y68 y69 y70 y9
   rintro f121 H121 ⟨r117, y1, y2, y3, y4, y6, y9, y12, y57, y58, y59, hS121⟩
   exact ⟨r117, (((turnTo a k).Nodes).length : Int), (turn_flat h89 h95).2, (by constructor <;> omega), y1, y2, y3, y4, y6, y9, y12, y57, y58, y59, (by have h__ := (hS121.drop (sk (sk (sn (sn (sk (sk (sk (sk (sk (sk (sk (sk (sk (sk (sk (List.Sublist.slnil))))))))))))))))); rw [(turn_flat h89 h95).1]; exact h__)⟩
  have hkj := kid_lt hA (k := k) (by omega) (j := j) (by omega)
  unfold kidN at hkj
  refine wpF_skip ?_
  refine wpF_seq ?_
  refine wpF_block ?_
  refine fcr (fun f H => f 1 = PT g1 0 ∧ f 2 = PT g4 0 ∧ f 3 = PT g7 0 ∧ f 4 = r11 ∧ f 6 = PT g26 0 ∧ f 9 = PT g75 0 ∧ f 11 = PT g87 0 ∧ f 15 = I (nth ((nth a.Nodes k).Kids) j) ∧ f 57 = vN ∧ f 58 = I ((a.Nodes.length : Int)) ∧ f 59 = I ((k : Int)) ∧ f 67 = u85n1 ∧ f 68 = I ((((nth a.Nodes k).Kids).length : Int)) ∧ f 69 = I ((j : Int)) ∧ H107 = H) ?_ ?_
  ·refine lq rfl (q_indexRd (k := j) rfl Try.underlying24 el_Int_3_ArrC2 y67 y69 (hS107.rdl 2 rfl) (by omega) (by omega)) ?_
   refine lq rfl (q_loadInt (k := j) rfl rfl el_Int_3_ArrC2 (hS107.rdl 2 rfl) (by omega) (fun _ h => h)) ?_
   refine la (v := I (nth ((nth a.Nodes k).Kids) j)) rfl rfl rfl ?_
   exact ⟨y1, y2, y3, y4, y6, y9, y11, rfl, y57, y58, y59, y67, y68, y69, rfl⟩
  clear y1 y11 y2 y3 y4 y57 y58 y59 y6 y67 y68 y69 y70 y9
  rintro f111 _ ⟨y1, y2, y3, y4, y6, y9, y11, y15, y57, y58, y59, y67, y68, y69, rfl⟩
  have h6j := (hS107.rowl 4 rfl).in64 (k := (nth (nth a.Nodes k).Kids j).toNat) (by omega)
  refine wpF_cut (fun f H => ∃ (v112o10 : Value), f 1 = PT g1 0 ∧ f 2 = PT g4 0 ∧ f 3 = PT g7 0 ∧ f 4 = r11 ∧ f 6 = PT g26 0 ∧ f 9 = PT g75 0 ∧ f 11 = PT g87 0 ∧ f 57 = vN ∧ f 58 = I ((a.Nodes.length : Int)) ∧ f 59 = I ((k : Int)) ∧ f 67 = u85n1 ∧ f 68 = I ((((nth a.Nodes k).Kids).length : Int)) ∧ f 69 = I ((j : Int)) ∧ St H0 NoB (SZ S H0) [bE g87 #[I ((nth a.Nodes k).Op), v112o10, I ((nth a.Nodes k).N), I ((nth a.Nodes k).D), SB ((nth a.Nodes k).Name)] 37, rowE 3 v112o10 (kidS (turnTo a k).To ((nth a.Nodes k).Kids.take (j + 1)) : List Int), rdE u85n1 ((nth a.Nodes k).Kids), rowE 37 vn ((turnTo a k).Nodes : List Node), rowE 3 vt ((turnTo a k).To : List Int), bE g75 #[vD, vN, vH, vn, vt] 57, rowE 43 vo (a.Decls.map declA : List Decl), bE g26 #[vo, nS, nS] 26, bE g15 #[I (((sortsF a)).1), I (((sortsF a)).2)] 28, rdE r11 (sorts a), bE g7 #[I (0), I (0)] 28, bE g4 #[nS, nS, nS] 26, bE g1 #[vD, vN, vH] 26, rdE vD a.Decls, rdE vN a.Nodes, rdE vH a.Hold] H) ?_ ?_
  ·refine wpF_drawn [none, none, none, none, none, none, none, none, none, none, some 0, none, some 1] [[], [], [], [], [], [], [], [], [], [], [], [], []] (fun l b => match l with | 0 => True | 1 => True | _ => False) (by kernel_rfl) (by kernel_rfl) ?_
   refine rq 0 (by kernel_rfl) rfl rfl (q_fieldAddr rfl Try.underlying37 rfl Try.sizeOf24 y11) ?_
   refine rq 1 (by kernel_rfl) rfl rfl (q_loadBlk rfl rfl Try.isAgg24 (hS107.blk 1 rfl) rfl (labU_not [] rfl (fe))) ?_
   refine rq 2 (by kernel_rfl) rfl rfl (q_move (v := PT g75 0) rfl y9) ?_
   refine rq 3 (by kernel_rfl) rfl rfl (q_nilCheck rfl rfl) ?_
   refine rq 4 (by kernel_rfl) rfl rfl (q_fieldAddr rfl Try.underlying57 rfl Try.sizeOf24 rfl) ?_
   refine rq 5 (by kernel_rfl) rfl rfl (q_loadBlk rfl rfl Try.isAgg24 (hS107.blk 5 rfl) rfl (labU_not [] rfl (fe))) ?_
   refine rq 6 (by kernel_rfl) rfl rfl (q_move (v := I (nth ((nth a.Nodes k).Kids) j)) rfl y15) ?_
   refine rq 7 (by kernel_rfl) rfl rfl (q_indexRd (k := (nth ((nth a.Nodes k).Kids) j).toNat) rfl Try.underlying24 el_Int_3_ArrC2 rfl rfl (hS107.rowl 4 rfl) (by omega) (by omega)) ?_
   refine rq 8 (by kernel_rfl) rfl rfl (q_loadInt (k := (nth ((nth a.Nodes k).Kids) j).toNat) rfl rfl el_Int_3_ArrC2 (hS107.rowl 4 rfl) (by omega) (labU_sub [] rfl (fe))) ?_
   refine wpR_n [9] (by kernel_rfl) ?_
   refine fa ?_ fe
   refine exE rfl rfl ?_
   refine e_buildSlice (vs := [I (nth ((turnTo a k).To) ((nth ((nth a.Nodes k).Kids) j).toNat))]) (xs := ([nth ((turnTo a k).To) ((nth ((nth a.Nodes k).Kids) j).toNat)] : List Int)) rfl Try.underlying24 Try.zeroValue3 rfl Try.sizeOf3 (par1 (v0 := I (nth ((turnTo a k).To) ((nth ((nth a.Nodes k).Kids) j).toNat))) rfl) rfl hS107 (RdVs.cons (Rd.int.2 ⟨rfl, by first | assumption | (constructor <;> omega)⟩) (RdVs.nil)) (by decide) (by decide) (fun v112o9 H112o9 hS112o9 hxx hvv112o9 => ?_)
   refine ⟨Ext.mono hxx (fun _ h => h.elim), ?_⟩
   refine wpR_n [10] (by kernel_rfl) ?_
   refine fa ?_ fe
   have hS112o10 : St H0 NoB (SZ S H0) [rdE v112o9 ([nth ((turnTo a k).To) ((nth ((nth a.Nodes k).Kids) j).toNat)] : List Int), rowE 3 vK (kidS (turnTo a k).To ((nth a.Nodes k).Kids.take j) : List Int), bE g87 #[I ((nth a.Nodes k).Op), vK, I ((nth a.Nodes k).N), I ((nth a.Nodes k).D), SB ((nth a.Nodes k).Name)] 37, rdE u85n1 ((nth a.Nodes k).Kids), rowE 37 vn ((turnTo a k).Nodes : List Node), rowE 3 vt ((turnTo a k).To : List Int), bE g75 #[vD, vN, vH, vn, vt] 57, rowE 43 vo (a.Decls.map declA : List Decl), bE g26 #[vo, nS, nS] 26, bE g15 #[I (((sortsF a)).1), I (((sortsF a)).2)] 28, rdE r11 (sorts a), bE g7 #[I (0), I (0)] 28, bE g4 #[nS, nS, nS] 26, bE g1 #[vD, vN, vH] 26, rdE vD a.Decls, rdE vN a.Nodes, rdE vH a.Hold] H112o9 := St.fin hS112o9
   have hS112o10x2 := (hS112o10.front 1 rfl)
   refine exE rfl rfl ?_
   refine e_append rfl Try.underlying24 em_Int_3_ArrC2 rfl rfl hS112o10x2 (hS112o10x2.rdS 1 rfl) (fun _ h => h) (by have hb : GoT.bytes Int = 8 := rfl; rw [hb]; simp only [List.length_append, kidS_len, List.length_take, List.length_cons, List.length_nil]; omega) (by decide) (fun v112o10 H112o10 hS112o10x3 hxx => ?_)
   have hS112o10x4 : St H0 NoB (SZ S H0) [rowE 3 v112o10 (kidS (turnTo a k).To ((nth a.Nodes k).Kids.take (j + 1)) : List Int), rdE v112o9 ([nth ((turnTo a k).To) ((nth ((nth a.Nodes k).Kids) j).toNat)] : List Int), bE g87 #[I ((nth a.Nodes k).Op), vK, I ((nth a.Nodes k).N), I ((nth a.Nodes k).D), SB ((nth a.Nodes k).Name)] 37, rdE u85n1 ((nth a.Nodes k).Kids), rowE 37 vn ((turnTo a k).Nodes : List Node), rowE 3 vt ((turnTo a k).To : List Int), bE g75 #[vD, vN, vH, vn, vt] 57, rowE 43 vo (a.Decls.map declA : List Decl), bE g26 #[vo, nS, nS] 26, bE g15 #[I (((sortsF a)).1), I (((sortsF a)).2)] 28, rdE r11 (sorts a), bE g7 #[I (0), I (0)] 28, bE g4 #[nS, nS, nS] 26, bE g1 #[vD, vN, vH] 26, rdE vD a.Decls, rdE vN a.Nodes, rdE vH a.Hold] H112o10 := by rw [show (kidS (turnTo a k).To ((nth a.Nodes k).Kids.take (j + 1))) = ((kidS (turnTo a k).To ((nth a.Nodes k).Kids.take j)) ++ ([nth ((turnTo a k).To) ((nth ((nth a.Nodes k).Kids) j).toNat)])) from (kidS_next (by omega)).symm]; exact hS112o10x3
   refine ⟨Ext.mono hxx (labS_of 0 rfl (fun _ _ => trivial)), ?_⟩
   refine rq 11 (by kernel_rfl) rfl rfl (q_fieldAddr rfl Try.underlying37 rfl Try.sizeOf24 y11) ?_
   refine wpR_n [12] (by kernel_rfl) ?_
   refine fa ?_ fe
   refine exE rfl rfl ?_
   refine e_storeBlk (v := v112o10) rfl rfl rfl (oneCell_rdL (hS112o10x4.rowl 0 rfl)) Try.sizeOf24 (by show _ < 5; decide) (hS112o10x4.front 2 rfl) (fun H112o12 hS112o12 hxx => ?_)
   refine ⟨Ext.mono hxx (labS_of 1 rfl (fun _ _ => trivial)), ?_⟩
   refine wpR_end (by kernel_rfl) ?_
   exact ⟨v112o10, y1, y2, y3, y4, y6, y9, y11, y57, y58, y59, y67, y68, y69, (hS112o12.drop (sk (sk (sn (sk (sk (sk (sk (sk (sk (sk (sk (sk (sk (sk (sk (sk (sk (List.Sublist.slnil)))))))))))))))))))⟩
  clear y1 y11 y15 y2 y3 y4 y57 y58 y59 y6 y67 y68 y69 y9
  rintro f113 H113 ⟨v112o10, y1, y2, y3, y4, y6, y9, y11, y57, y58, y59, y67, y68, y69, hS113⟩
  refine wpF_cut (fun f H => f 1 = PT g1 0 ∧ f 2 = PT g4 0 ∧ f 3 = PT g7 0 ∧ f 4 = r11 ∧ f 6 = PT g26 0 ∧ f 9 = PT g75 0 ∧ f 11 = PT g87 0 ∧ f 57 = vN ∧ f 58 = I ((a.Nodes.length : Int)) ∧ f 59 = I ((k : Int)) ∧ f 67 = u85n1 ∧ f 68 = I ((((nth a.Nodes k).Kids).length : Int)) ∧ f 69 = I ((j : Int) + 1) ∧ H113 = H) ?_ ?_
  ·refine wpF_region ?_
   refine lq rfl (q_add rfl y69 rfl (by constructor <;> omega)) ?_
   refine lm (v := I ((j : Int) + 1)) rfl rfl rfl ?_
   exact ⟨y1, y2, y3, y4, y6, y9, y11, y57, y58, y59, y67, y68, rfl, rfl⟩
  clear y1 y11 y2 y3 y4 y57 y58 y59 y6 y67 y68 y69 y9
  rintro f114 _ ⟨y1, y2, y3, y4, y6, y9, y11, y57, y58, y59, y67, y68, y69, rfl⟩
  refine ⟨_, ?_, j + 1, v112o10, rfl, (by omega), y1, y2, y3, y4, y6, y9, y11, y57, y58, y59, y67, y68, (Eq.trans y69 (congrArg I (by omega))), (St.drop (show St H0 NoB (SZ S H0) [rowE 3 v112o10 (kidS (turnTo a k).To ((nth a.Nodes k).Kids.take (j + 1)) : List Int), bE g87 #[I ((nth a.Nodes k).Op), v112o10, I ((nth a.Nodes k).N), I ((nth a.Nodes k).D), SB ((nth a.Nodes k).Name)] 37, rdE u85n1 ((nth a.Nodes k).Kids), rowE 37 vn ((turnTo a k).Nodes : List Node), rowE 3 vt ((turnTo a k).To : List Int), bE g75 #[vD, vN, vH, vn, vt] 57, rowE 43 vo (a.Decls.map declA : List Decl), bE g26 #[vo, nS, nS] 26, bE g15 #[I (((sortsF a)).1), I (((sortsF a)).2)] 28, rdE r11 (sorts a), bE g7 #[I (0), I (0)] 28, bE g4 #[nS, nS, nS] 26, bE g1 #[vD, vN, vH] 26, rdE vD a.Decls, rdE vN a.Nodes, rdE vH a.Hold] H113 from (hS113.front 1 rfl)) (sk (sk (sk (sk (sk (sk (sk (sk (sk (sk (sk (sk (sk (sk (sk (sk (List.Sublist.slnil))))))))))))))))))⟩
  omega
 clear y1 y10 y11 y12 y2 y3 y4 y57 y58 y59 y6 y9
 rintro f94 H94 ⟨vN2, kk, hto, h6k, y1, y2, y3, y4, y6, y9, y12, y57, y58, y59, hS94⟩
 refine fcr (fun f H => ∃ (v130 : Value), f 1 = PT g1 0 ∧ f 2 = PT g4 0 ∧ f 3 = PT g7 0 ∧ f 4 = r11 ∧ f 6 = PT g26 0 ∧ f 9 = PT g75 0 ∧ f 57 = vN ∧ f 58 = I ((a.Nodes.length : Int)) ∧ f 59 = I ((k : Int)) ∧ St H0 NoB (SZ S H0) [bE g75 #[vD, vN, vH, vN2, v130] 57, rowE 3 v130 ((turnTo a (k + 1)).To : List Int), rowE 37 vN2 ((turnTo a (k + 1)).Nodes : List Node), rowE 43 vo (a.Decls.map declA : List Decl), bE g26 #[vo, nS, nS] 26, bE g15 #[I (((sortsF a)).1), I (((sortsF a)).2)] 28, rdE r11 (sorts a), bE g7 #[I (0), I (0)] 28, bE g4 #[nS, nS, nS] 26, bE g1 #[vD, vN, vH] 26, rdE vD a.Decls, rdE vN a.Nodes, rdE vH a.Hold] H) ?_ ?_
 ·refine lm (v := PT g75 0) rfl rfl y9 ?_
  refine lm (v := PT g75 0) rfl rfl y9 ?_
  refine lq rfl (q_nilCheck rfl rfl) ?_
  refine lq rfl (q_fieldAddr rfl Try.underlying57 rfl Try.sizeOf24 rfl) ?_
  refine lq rfl (q_loadBlk rfl rfl Try.isAgg24 (hS94.blk 1 rfl) rfl (fun h => h)) ?_
  refine lm (v := I (kk)) rfl rfl y12 ?_
  refine lo rfl ?_
  refine e_buildSlice (vs := [I (kk)]) (xs := ([kk] : List Int)) rfl Try.underlying24 Try.zeroValue3 rfl Try.sizeOf3 (par1 (v0 := I (kk)) rfl) rfl hS94 (RdVs.cons (Rd.int.2 ⟨rfl, by first | assumption | (constructor <;> omega)⟩) (RdVs.nil)) (by decide) (by decide) (fun v125 H126 hS127 hxx hvv125 => ?_)
  have hS128 : St H0 NoB (SZ S H0) [rdE v125 ([kk] : List Int), rowE 37 vN2 ((turnTo a (k + 1)).Nodes : List Node), bE g75 #[vD, vN, vH, vN2, vt] 57, rowE 3 vt ((turnTo a k).To : List Int), rowE 43 vo (a.Decls.map declA : List Decl), bE g26 #[vo, nS, nS] 26, bE g15 #[I (((sortsF a)).1), I (((sortsF a)).2)] 28, rdE r11 (sorts a), bE g7 #[I (0), I (0)] 28, bE g4 #[nS, nS, nS] 26, bE g1 #[vD, vN, vH] 26, rdE vD a.Decls, rdE vN a.Nodes, rdE vH a.Hold] H126 := St.fin hS127
  have hS129 := (hS128.front 3 rfl)
  refine lo rfl ?_
  refine e_append rfl Try.underlying24 em_Int_3_ArrC2 rfl rfl hS129 (hS129.rdS 1 rfl) (fun _ h => h) (by have hb : GoT.bytes Int = 8 := rfl; rw [hb]; simp only [List.length_append, kidS_len, List.length_take, List.length_cons, List.length_nil]; omega) (by decide) (fun v130 H131 hS132 hxx => ?_)
  have hS133 : St H0 NoB (SZ S H0) [rowE 3 v130 ((turnTo a (k + 1)).To : List Int), rdE v125 ([kk] : List Int), rowE 37 vN2 ((turnTo a (k + 1)).Nodes : List Node), bE g75 #[vD, vN, vH, vN2, vt] 57, rowE 43 vo (a.Decls.map declA : List Decl), bE g26 #[vo, nS, nS] 26, bE g15 #[I (((sortsF a)).1), I (((sortsF a)).2)] 28, rdE r11 (sorts a), bE g7 #[I (0), I (0)] 28, bE g4 #[nS, nS, nS] 26, bE g1 #[vD, vN, vH] 26, rdE vD a.Decls, rdE vN a.Nodes, rdE vH a.Hold] H131 := by rw [show ((turnTo a (k + 1)).To) = (((turnTo a k).To) ++ ([kk])) from hto]; exact hS132
  refine lq rfl (q_nilCheck rfl rfl) ?_
  refine lq rfl (q_fieldAddr rfl Try.underlying57 rfl Try.sizeOf24 rfl) ?_
  refine lo rfl ?_
  refine e_storeBlk (v := v130) rfl rfl rfl (oneCell_rdL (hS133.rowl 0 rfl)) Try.sizeOf24 (by show _ < 5; decide) (hS133.front 3 rfl) (fun H134 hS135 hxx => ?_)
  exact ⟨v130, y1, y2, y3, y4, y6, y9, y57, y58, y59, (hS135.drop (sk (sk (sn (sk (sk (sk (sk (sk (sk (sk (sk (sk (sk (sk (List.Sublist.slnil))))))))))))))))⟩
 clear y1 y12 y2 y3 y4 y57 y58 y59 y6 y9
 rintro f136 H136 ⟨v130, y1, y2, y3, y4, y6, y9, y57, y58, y59, hS136⟩
 refine fcr (fun f H => f 1 = PT g1 0 ∧ f 2 = PT g4 0 ∧ f 3 = PT g7 0 ∧ f 4 = r11 ∧ f 6 = PT g26 0 ∧ f 9 = PT g75 0 ∧ f 57 = vN ∧ f 58 = I ((a.Nodes.length : Int)) ∧ f 59 = I ((k : Int)) ∧ f 130 = B (decide (200 < (((turnTo a (k + 1)).Nodes).length : Int))) ∧ H136 = H) ?_ ?_
 ·refine lm (v := PT g75 0) rfl rfl y9 ?_
  refine lq rfl (q_nilCheck rfl rfl) ?_
  refine lq rfl (q_fieldAddr rfl Try.underlying57 rfl Try.sizeOf23 rfl) ?_
  refine lq rfl (q_loadBlk rfl rfl Try.isAgg23 (hS136.blk 0 rfl) rfl (fun h => h)) ?_
  refine lq rfl (q_lenRd rfl Try.underlying23 rfl (hS136.rowl 2 rfl)) ?_
  refine lq rfl (q_gtr rfl rfl rfl) ?_
  exact ⟨y1, y2, y3, y4, y6, y9, y57, y58, y59, rfl, rfl⟩
 clear y1 y2 y3 y4 y57 y58 y59 y6 y9
 rintro f137 _ ⟨y1, y2, y3, y4, y6, y9, y57, y58, y59, y130, rfl⟩
 refine wpF_condP y130 (fun h130 => ?t145) (fun h130 => ?e145)
 case e145 =>
  refine wpF_skip ?_
  refine wpF_cut (fun f H => f 1 = PT g1 0 ∧ f 2 = PT g4 0 ∧ f 3 = PT g7 0 ∧ f 4 = r11 ∧ f 6 = PT g26 0 ∧ f 9 = PT g75 0 ∧ f 57 = vN ∧ f 58 = I ((a.Nodes.length : Int)) ∧ f 59 = I ((k : Int) + 1) ∧ H136 = H) ?_ ?_
  ·refine wpF_region ?_
   refine lq rfl (q_add rfl y59 rfl (by constructor <;> omega)) ?_
   refine lm (v := I ((k : Int) + 1)) rfl rfl rfl ?_
   exact ⟨y1, y2, y3, y4, y6, y9, y57, y58, rfl, rfl⟩
  clear y1 y130 y2 y3 y4 y57 y58 y59 y6 y9
  rintro f144 _ ⟨y1, y2, y3, y4, y6, y9, y57, y58, y59, rfl⟩
  refine ⟨_, ?_, k + 1, vN2, v130, rfl, (by omega), (by omega), y1, y2, y3, y4, y6, y9, y57, y58, (Eq.trans y59 (congrArg I (by omega))), (St.drop (show St H0 NoB (SZ S H0) [rowE 37 vN2 ((turnTo a (k + 1)).Nodes : List Node), rowE 3 v130 ((turnTo a (k + 1)).To : List Int), bE g75 #[vD, vN, vH, vN2, v130] 57, rowE 43 vo (a.Decls.map declA : List Decl), bE g26 #[vo, nS, nS] 26, bE g15 #[I (((sortsF a)).1), I (((sortsF a)).2)] 28, rdE r11 (sorts a), bE g7 #[I (0), I (0)] 28, bE g4 #[nS, nS, nS] 26, bE g1 #[vD, vN, vH] 26, rdE vD a.Decls, rdE vN a.Nodes, rdE vH a.Hold] H136 from ((hS136.front 1 rfl).front 2 rfl)) (sk (sk (sk (sk (sk (sk (sk (sk (sk (sk (sk (sk (sk (List.Sublist.slnil)))))))))))))))⟩
  omega
 refine fcr (fun f H => f 2 = PT g4 0 ∧ f 3 = PT g7 0 ∧ St H0 NoB (SZ S H0) [bE g7 #[I (10), I (0)] 28, bE g4 #[nS, nS, nS] 26, bE g75 #[vD, vN, vH, vN2, v130] 57, rowE 3 v130 ((turnTo a (k + 1)).To : List Int), rowE 37 vN2 ((turnTo a (k + 1)).Nodes : List Node), rowE 43 vo (a.Decls.map declA : List Decl), bE g26 #[vo, nS, nS] 26, bE g15 #[I (((sortsF a)).1), I (((sortsF a)).2)] 28, bE g1 #[vD, vN, vH] 26, rdE vD a.Decls, rdE vN a.Nodes, rdE vH a.Hold] H) ?_ ?_
 ·refine lq rfl (q_build (v := Vg #[nS, nS, nS]) rfl par0 (fun w__ => by kernel_rfl)) ?_
  refine lq rfl (q_build (v := Vg #[I (10), I (0)]) rfl (par1 (v0 := I (10)) rfl) (fun w__ => by kernel_rfl)) ?_
  refine lo rfl ?_
  refine e_storeBlkA (cs' := #[nS, nS, nS]) rfl y2 rfl Try.sizeOf26 rfl rfl (fa rfl (fa rfl (fa rfl fe))) (hS136.front 8 rfl) (fun H139 hS140 hxx => ?_)
  refine lo rfl ?_
  refine e_storeBlkA (cs' := #[I (10), I (0)]) rfl y3 rfl Try.sizeOf28 rfl rfl (fa rfl (fa rfl fe)) (hS140.front 8 rfl) (fun H141 hS142 hxx => ?_)
  exact ⟨y2, y3, (hS142.drop (sk (sk (sk (sk (sk (sk (sk (sk (sn (sk (sk (sk (sk (List.Sublist.slnil)))))))))))))))⟩
 clear y1 y130 y2 y3 y4 y57 y58 y59 y6 y9
 rintro f143 H143 ⟨y2, y3, hS143⟩
 refine wpF_ret ?_
 refine ⟨_, resC y2 (loadV_blkA Try.isAgg26 Try.sizeOf26 rfl (hS143.blk 1 rfl)) (resC y3 (loadV_blkA Try.isAgg28 Try.sizeOf28 rfl (hS143.blk 0 rfl)) (resN)), hS143.frame, ?_⟩
 show ∃ w0_ w1_ w2_, (Value.tuple #[Vg #[nS, nS, nS], Vg #[I (10), I (0)]]) = Value.tuple #[Vg #[w0_, w1_, w2_], Vg #[I (doF a).1, I (doF a).2]] ∧ Rd (SZ S H0) H143 w0_ (doA a).Decls ∧ Rd (SZ S H0) H143 w1_ (doA a).Nodes ∧ Rd (SZ S H0) H143 w2_ (doA a).Hold
 have hq_ : doF a = _ := doF_much h25 (k := k + 1) (by omega) h130
 have hd_ := doA_bad (a := a) (by rw [hq_]; exact (by decide : (10 : Int) ≠ 0))
 exact ⟨_, _, _, by rw [hq_], by rw [hd_]; exact rdNil, by rw [hd_]; exact rdNil, by rw [hd_]; exact rdNil⟩
end Go.Um
