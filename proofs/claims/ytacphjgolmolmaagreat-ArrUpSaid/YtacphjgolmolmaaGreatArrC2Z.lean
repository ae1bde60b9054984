import Derived.Test.YtacphjgolmolmaaGreatProg
import Derived.Test.YtacphjgolmolmaaGreatArrC1Z
import Derived.Test.YtacphjgolmolmaaGreatUmArrUpB
namespace Go.Um
open Go.Proofs
open GoT (sz ag rdc)
open KeyT (kv)
theorem el_Decl_43_ArrC2 : ElT Tryz.prog Decl 43 := ⟨Tryz.isAgg43, Tryz.sizeOf43⟩
theorem el_Int_3_ArrC2 : ElT Tryz.prog Int 3 := ⟨Tryz.isAgg3, Tryz.sizeOf3⟩
theorem el_Node_52_ArrC2 : ElT Tryz.prog Node 52 := ⟨Tryz.isAgg52, Tryz.sizeOf52⟩
theorem em_Decl_43_ArrC2 : ElemOk Tryz.prog Decl 43 := ⟨Tryz.t43, (.agg #[(.string (ByteArray.mk #[])), (.slice none 0 0), (.int .i64 0)]), by kernel_rfl, by kernel_rfl, by kernel_rfl, by kernel_rfl, by kernel_rfl⟩
theorem em_Int_3_ArrC2 : ElemOk Tryz.prog Int 3 := ⟨Tryz.t3, (.int .i64 0), by kernel_rfl, by kernel_rfl, by kernel_rfl, by kernel_rfl, by kernel_rfl⟩
set_option maxHeartbeats 8000000 in
set_option maxRecDepth 100000 in
theorem Do_L {H0 : Heap} {S : Nat → Prop} (vD vN vH : Value) (a : Ask) (rvD : Rd S H0 vD a.Decls) (rvN : Rd S H0 vN a.Nodes) (rvH : Rd S H0 vH a.Hold) : CallsH Tryz.prog 5 #[Vg #[vD, vN, vH]] H0 (fun rv_ H' => Ext NoB H0 H' ∧ ∃ w0_ w1_ w2_, rv_ = Value.tuple #[Vg #[w0_, w1_, w2_], Vg #[I (doF a).1, I (doF a).2]] ∧ Rd (SZ S H0) H' w0_ (doA a).Decls ∧ Rd (SZ S H0) H' w1_ (doA a).Nodes ∧ Rd (SZ S H0) H' w2_ (doA a).Hold) := by
 have hsN : a.Nodes.length * 64 ≤ 140737488355328 := (Rd.list.1 rvN).bound
 have hS0 : St H0 NoB (SZ S H0) [rdE vD a.Decls, rdE vN a.Nodes, rdE vH a.Hold] H0 := St.arg (St.arg (St.arg (St.start (fun _ h => h.2)) (Bl0.nil) rvH (fun _ h => h.1)) (Bl0.cons (Bl0.nil)) rvN (fun _ h => h.1)) (Bl0.cons (Bl0.cons (Bl0.nil))) rvD (fun _ h => h.1)
 refine callsH_of_wpF (args := [Vg #[vD, vN, vH]]) (rs := [.cell 2 26, .cell 3 32]) Tryz.func5 rfl Tryz.ntmps5 Tryz.results5 (by kernel_rfl) (Nat.le_of_ble_eq_true rfl) ?_
 have y0 : argF [Vg #[vD, vN, vH]] 0 = Vg #[vD, vN, vH] := rfl
 generalize argF [Vg #[vD, vN, vH]] = f0 at *
 refine wpF_seq ?_
 refine wpF_region ?_
 refine lo rfl ?_
 refine e_box (v := Vg #[vD, vN, vH]) rfl y0 hS0 (fun g1 H2 hS3 hxx => ?_)
 refine lo rfl ?_
 refine e_alloc rfl Tryz.zeroValue26 hS3 (fun g4 H5 hS6 hxx => ?_)
 refine lo rfl ?_
 refine e_alloc rfl Tryz.zeroValue32 hS6 (fun g7 H8 hS9 hxx => ?_)
 refine wpL_nil ?_
 refine wpF_seq ?_
 refine wpF_region ?_
 refine lq rfl (q_loadBlkA rfl rfl Tryz.isAgg26 Tryz.sizeOf26 rfl (hS9.blk 2 rfl) (fun h => h)) ?_
 refine lo rfl ?_
 refine e_call rfl Tryz.call12 (arr1 (v0 := Vg #[vD, vN, vH]) rfl) (Sorts_L vD vN vH a (hS9.rdS 3 rfl) (hS9.rdS 4 rfl) (hS9.rdS 5 rfl) ) ?_
 rintro _ H11 ⟨hxx, r10, rfl, hrr10⟩
 have hS12 := hS9.res hxx hrr10
 refine lm (v := Value.tuple #[r10, Vg #[I (((sortsF a)).1), I (((sortsF a)).2)]]) rfl rfl rfl ?_
 refine lq rfl (q_extract (vs := #[r10, Vg #[I (((sortsF a)).1), I (((sortsF a)).2)]]) (v := r10) rfl rfl rfl) ?_
 refine lq rfl (q_extract (vs := #[r10, Vg #[I (((sortsF a)).1), I (((sortsF a)).2)]]) (v := Vg #[I (((sortsF a)).1), I (((sortsF a)).2)]) rfl rfl rfl) ?_
 refine lo rfl ?_
 refine e_alloc rfl Tryz.zeroValue32 hS12 (fun g14 H15 hS16 hxx => ?_)
 refine la (v := r10) rfl rfl rfl ?_
 refine lo rfl ?_
 refine e_storeBlkA (cs' := #[I (((sortsF a)).1), I (((sortsF a)).2)]) rfl rfl rfl Tryz.sizeOf32 rfl rfl (fa rfl (fa rfl fe)) hS16 (fun H17 hS18 hxx => ?_)
 refine wpL_nil ?_
 refine wpF_seq ?_
 refine wpF_seq ?_
 refine wpF_region ?_
 refine lq rfl (q_fieldAddr rfl Tryz.underlying32 rfl Tryz.sizeOf3 rfl) ?_
 refine lq rfl (q_loadBlk rfl rfl Tryz.isAgg3 (hS18.blk 0 rfl) rfl (fun h => h)) ?_
 refine lq rfl (q_neq rfl rfl rfl) ?_
 refine wpL_nil ?_
 refine wpF_condP rfl (fun h25 => ?t130) (fun h25 => ?e130)
 case t130 =>
  refine wpF_seq ?_
  refine wpF_drawn [none, none, some 0, some 1] [[], [0], [], []] (fun l b => match l with | 0 => b = g4 | 1 => True | _ => False) (by kernel_rfl) (by kernel_rfl) ?_
  refine rq 0 (by kernel_rfl) rfl rfl (q_build (v := Vg #[nS, nS, nS]) rfl par0 (fun w__ => by kernel_rfl)) ?_
  refine rq 1 (by kernel_rfl) rfl rfl (q_loadBlkA rfl rfl Tryz.isAgg32 Tryz.sizeOf32 rfl (hS18.blk 0 rfl) (labU_not [0] rfl (fa (fun hb => hS18.dis 0 3 (by decide) rfl rfl _ rfl hb) fe))) ?_
  refine wpR_n [2] (by kernel_rfl) ?_
  refine fa ?_ fe
  refine exE rfl rfl ?_
  refine e_storeBlkA (cs' := #[nS, nS, nS]) rfl rfl rfl Tryz.sizeOf26 rfl rfl (fa rfl (fa rfl (fa rfl fe))) (hS18.front 3 rfl) (fun H21o2 hS21o2 hxx => ?_)
  refine ⟨Ext.mono hxx (labS_of 0 rfl (fun b hb => hb)), ?_⟩
  refine wpR_n [3] (by kernel_rfl) ?_
  refine fa ?_ fe
  refine exE rfl rfl ?_
  refine e_storeBlkA (cs' := #[I (((sortsF a)).1), I (((sortsF a)).2)]) rfl rfl rfl Tryz.sizeOf32 rfl rfl (fa rfl (fa rfl fe)) (hS21o2.front 3 rfl) (fun H21o3 hS21o3 hxx => ?_)
  refine ⟨Ext.mono hxx (labS_of 1 rfl (fun _ _ => trivial)), ?_⟩
  refine wpR_end (by kernel_rfl) ?_
  skip
  refine wpF_ret ?_
  refine ⟨_, resC rfl (loadV_blkA Tryz.isAgg26 Tryz.sizeOf26 rfl (hS21o3.blk 1 rfl)) (resC rfl (loadV_blkA Tryz.isAgg32 Tryz.sizeOf32 rfl (hS21o3.blk 0 rfl)) (resN)), hS21o3.frame, ?_⟩
  show ∃ w0_ w1_ w2_, (Value.tuple #[Vg #[nS, nS, nS], Vg #[I (((sortsF a)).1), I (((sortsF a)).2)]]) = Value.tuple #[Vg #[w0_, w1_, w2_], Vg #[I (doF a).1, I (doF a).2]] ∧ Rd (SZ S H0) H21o3 w0_ (doA a).Decls ∧ Rd (SZ S H0) H21o3 w1_ (doA a).Nodes ∧ Rd (SZ S H0) H21o3 w2_ (doA a).Hold
  have hq_ : doF a = _ := doF_bad h25
  have hd_ := doA_bad (a := a) (by rw [hq_]; exact h25)
  exact ⟨_, _, _, by rw [hq_], by rw [hd_]; exact rdNil, by rw [hd_]; exact rdNil, by rw [hd_]; exact rdNil⟩
 have hA : AskOk a := askOk (Decidable.of_not_not h25)
 have hfew := hA.few
 have hmany := hA.many
 have hholds := hA.holds
 have hS20 : St H0 NoB (SZ S H0) [bE g14 #[I (((sortsF a)).1), I (((sortsF a)).2)] 32, rdE r10 (sorts a), bE g7 #[I (0), I (0)] 32, bE g4 #[nS, nS, nS] 26, bE g1 #[vD, vN, vH] 26, rdE vD a.Decls, rdE vN a.Nodes, rdE vH a.Hold] H17 := by have h__ := hS18; rw [sortsL_eq h25] at h__; exact h__
 refine wpF_skip ?_
 refine wpF_seq ?_
 refine wpF_region ?_
 refine lo rfl ?_
 refine e_alloc rfl Tryz.zeroValue26 hS20 (fun g22 H23 hS24 hxx => ?_)
 refine wpL_nil ?_
 have hS25 : St H0 NoB (SZ S H0) [rowE 43 nS ([] : List Decl), bE g22 #[nS, nS, nS] 26, bE g14 #[I (((sortsF a)).1), I (((sortsF a)).2)] 32, rdE r10 (sorts a), bE g7 #[I (0), I (0)] 32, bE g4 #[nS, nS, nS] 26, bE g1 #[vD, vN, vH] 26, rdE vD a.Decls, rdE vN a.Nodes, rdE vH a.Hold] H23 := hS24.row0 43
 refine wpF_seq ?_
 refine wpF_seq ?_
 refine wpF_region ?_
 refine lq rfl (q_fieldAddr rfl Tryz.underlying26 rfl Tryz.sizeOf22 rfl) ?_
 refine lq rfl (q_loadBlk rfl rfl Tryz.isAgg22 (hS25.blk 6 rfl) rfl (fun h => h)) ?_
 refine lq rfl (q_lenRd rfl Tryz.underlying22 rfl (hS25.rdl 7 rfl)) ?_
 refine lm (v := I (0)) rfl rfl rfl ?_
 refine wpL_nil ?_
 refine wpF_block ?_
 refine wpF_loop (fun mz f H => ∃ (k : Nat), ∃ (vo : Value), mz = a.Decls.length - k ∧ (k ≤ a.Decls.length) ∧ f 1 = PT g1 0 ∧ f 2 = PT g4 0 ∧ f 3 = PT g7 0 ∧ f 4 = r10 ∧ f 6 = PT g22 0 ∧ f 29 = vD ∧ f 30 = I ((a.Decls.length : Int)) ∧ f 31 = I ((k : Int)) ∧ St H0 NoB (SZ S H0) [rowE 43 vo ((a.Decls.take k).map declA : List Decl), bE g22 #[vo, nS, nS] 26, bE g14 #[I (((sortsF a)).1), I (((sortsF a)).2)] 32, rdE r10 (sorts a), bE g7 #[I (0), I (0)] 32, bE g4 #[nS, nS, nS] 26, bE g1 #[vD, vN, vH] 26, rdE vD a.Decls, rdE vN a.Nodes, rdE vH a.Hold] H) (a.Decls.length - 0) ?_ ?_
 ·exact ⟨0, nS, rfl, Nat.zero_le _, rfl, rfl, rfl, rfl, rfl, rfl, rfl, (Eq.trans rfl (congrArg I (by omega))), (show St H0 NoB (SZ S H0) [rowE 43 nS ((a.Decls.take 0).map declA : List Decl), bE g22 #[nS, nS, nS] 26, bE g14 #[I (((sortsF a)).1), I (((sortsF a)).2)] 32, rdE r10 (sorts a), bE g7 #[I (0), I (0)] 32, bE g4 #[nS, nS, nS] 26, bE g1 #[vD, vN, vH] 26, rdE vD a.Decls, rdE vN a.Nodes, rdE vH a.Hold] H23 from hS25)⟩
 intro m26 f26 H26 hI26
 obtain ⟨k, vo, hm26, hk, y1, y2, y3, y4, y6, y29, y30, y31, hS26⟩ := hI26
 refine wpF_seq ?_
 refine wpF_region ?_
 refine lq rfl (q_lss rfl y31 y30) ?_
 refine wpL_nil ?_
 refine wpF_seq ?_
 refine wpF_condP rfl (fun hlt => ?t129) (fun hlt => ?e129)
 case t129 =>
  refine wpF_skip ?_
  refine wpF_seq ?_
  refine wpF_block ?_
  refine wpF_seq ?_
  refine wpF_region ?_
  refine lq rfl (q_indexRd (k := k) rfl Tryz.underlying22 el_Decl_43_ArrC2 y29 y31 (hS26.rdl 7 rfl) (by omega) (by omega)) ?_
  obtain ⟨u29, huu29, hlu29⟩ := (Rd.list.1 (hS26.rdS 7 rfl)).elem k (by omega)
  obtain ⟨u29n1, rfl, hu290, hu291, hu292⟩ := Rd.decl.1 huu29
  have hS30 := hS26.rd hu291
  refine lq rfl (q_loadE rfl rfl (hlu29 Tryz.prog 43 _ el_Decl_43_ArrC2 (fun _ h => False.elim h))) ?_
  refine lo rfl ?_
  refine e_alloc rfl Tryz.zeroValue43 hS30 (fun g31 H32 hS33 hxx => ?_)
  refine lo rfl ?_
  refine e_storeBlkA (cs' := #[SB ((nth a.Decls k).Name), u29n1, I ((nth a.Decls k).Srt)]) rfl rfl rfl Tryz.sizeOf43 rfl rfl (fa rfl (fa ((oneCell_rdL (hS33.rdl 1 rfl))) (fa rfl fe))) hS33 (fun H34 hS35 hxx => ?_)
  refine wpL_nil ?_
  refine wpF_seq ?_
  refine wpF_region ?_
  refine lq rfl (q_fieldAddr rfl Tryz.underlying43 rfl Tryz.sizeOf24 rfl) ?_
  refine lq rfl (q_loadBlk rfl rfl Tryz.isAgg24 (hS35.blk 0 rfl) rfl (fun h => h)) ?_
  refine lo rfl ?_
  refine e_call rfl Tryz.call13 (arr1 (v0 := u29n1) rfl) (Clone u29n1 _ (hS35.rdS 1 rfl)) ?_
  rintro r36 H37 ⟨hxx, hrr36⟩
  have hS38 := hS35.res hxx hrr36
  refine lq rfl (q_fieldAddr rfl Tryz.underlying43 rfl Tryz.sizeOf24 rfl) ?_
  refine lo rfl ?_
  refine e_storeBlk (v := r36) rfl rfl rfl (oneCell_rdL (hS38.rdl 0 rfl)) Tryz.sizeOf24 (by show _ < 3; decide) (hS38.front 1 rfl) (fun H40 hS41 hxx => ?_)
  refine wpL_nil ?_
  refine wpF_seq ?_
  refine wpF_seq ?_
  refine wpF_region ?_
  refine lq rfl (q_fieldAddr rfl Tryz.underlying43 rfl Tryz.sizeOf3 rfl) ?_
  refine lq rfl (q_loadBlk rfl rfl Tryz.isAgg3 (hS41.blk 0 rfl) rfl (fun h => h)) ?_
  refine lq rfl (q_eql rfl rfl rfl) ?_
  refine wpL_nil ?_
  refine wpF_cut (fun f H => ∃ (vA : Value), ((declA (nth a.Decls k)).Name.size ≤ maxLen) ∧ (In64 (declA (nth a.Decls k)).Srt) ∧ f 1 = PT g1 0 ∧ f 2 = PT g4 0 ∧ f 3 = PT g7 0 ∧ f 4 = r10 ∧ f 6 = PT g22 0 ∧ f 8 = PT g31 0 ∧ f 29 = vD ∧ f 30 = I ((a.Decls.length : Int)) ∧ f 31 = I ((k : Int)) ∧ St H0 NoB (SZ S H0) [rdE vA ((declA (nth a.Decls k)).Args), bE g31 #[SB ((declA (nth a.Decls k)).Name), vA, I ((declA (nth a.Decls k)).Srt)] 43, rdE u29n1 ((nth a.Decls k).Args), rowE 43 vo ((a.Decls.take k).map declA : List Decl), bE g22 #[vo, nS, nS] 26, bE g14 #[I (((sortsF a)).1), I (((sortsF a)).2)] 32, rdE r10 (sorts a), bE g7 #[I (0), I (0)] 32, bE g4 #[nS, nS, nS] 26, bE g1 #[vD, vN, vH] 26, rdE vD a.Decls, rdE vN a.Nodes, rdE vH a.Hold] H) ?_ ?_
  ·refine wpF_condP rfl (fun h41 => ?t50) (fun h41 => ?e50)
   case e50 =>
    refine wpF_skip ?_
    exact ⟨r36, (by rw [declA_no h41]; assumption), (by rw [declA_no h41]; assumption), y1, y2, y3, y4, y6, rfl, y29, y30, y31, (by have h__ := (St.drop (show St H0 NoB (SZ S H0) [rdE r36 (((nth a.Decls k).Args)), bE g31 #[SB ((nth a.Decls k).Name), r36, I ((nth a.Decls k).Srt)] 43, rdE u29n1 ((nth a.Decls k).Args), rowE 43 vo ((a.Decls.take k).map declA : List Decl), bE g22 #[vo, nS, nS] 26, bE g14 #[I (((sortsF a)).1), I (((sortsF a)).2)] 32, rdE r10 (sorts a), bE g7 #[I (0), I (0)] 32, bE g4 #[nS, nS, nS] 26, bE g1 #[vD, vN, vH] 26, rdE vD a.Decls, rdE vN a.Nodes, rdE vH a.Hold] H40 from (hS41.front 1 rfl)) (sk (sk (sk (sk (sk (sk (sk (sk (sk (sk (sk (sk (sk (List.Sublist.slnil))))))))))))))); rw [declA_no h41]; exact h__)⟩
   refine wpF_region ?_
   refine lq rfl (q_fieldAddr rfl Tryz.underlying43 rfl Tryz.sizeOf9 rfl) ?_
   refine lq rfl (q_loadBlk rfl rfl Tryz.isAgg9 (hS41.blk 0 rfl) rfl (fun h => h)) ?_
   refine lo rfl ?_
   refine e_buildSlice (vs := [I (4)]) (xs := ([4] : List Int)) rfl Tryz.underlying24 Tryz.zeroValue3 rfl Tryz.sizeOf3 (par1 (v0 := I (4)) rfl) rfl hS41 (RdVs.cons (Rd.int.2 ⟨rfl, by first | assumption | (constructor <;> omega)⟩) (RdVs.nil)) (by decide) (by decide) (fun v44 H45 hS46 hxx hvv44 => ?_)
   refine lq rfl (q_build (v := Vg #[SB ((nth a.Decls k).Name), v44, I (4)]) rfl (par3 (v0 := SB ((nth a.Decls k).Name)) (v1 := v44) (v2 := I (4)) rfl rfl rfl) ((hS46.rowl 0 rfl).slc (fun zz0 => ∀ w__, (Instr.build 43 #[(0, SB ((nth a.Decls k).Name)), (1, zz0), (2, I (4))]).run Tryz.prog w__ = .ok (Vg #[SB ((nth a.Decls k).Name), zz0, I (4)]) w__) (fun a0 n0 c0 => (fun w__ => by kernel_rfl)))) ?_
   refine lo rfl ?_
   refine e_storeBlkA (cs' := #[SB ((nth a.Decls k).Name), v44, I (4)]) rfl rfl rfl Tryz.sizeOf43 rfl rfl (fa rfl (fa ((oneCell_rdL (hS46.rowl 0 rfl))) (fa rfl fe))) (hS46.front 1 rfl) (fun H47 hS48 hxx => ?_)
   refine wpL_nil ?_
   have hS49 : St H0 NoB (SZ S H0) [rdE v44 ([4] : List Int), bE g31 #[SB ((nth a.Decls k).Name), v44, I (4)] 43, rdE r36 (((nth a.Decls k).Args)), rdE u29n1 ((nth a.Decls k).Args), rowE 43 vo ((a.Decls.take k).map declA : List Decl), bE g22 #[vo, nS, nS] 26, bE g14 #[I (((sortsF a)).1), I (((sortsF a)).2)] 32, rdE r10 (sorts a), bE g7 #[I (0), I (0)] 32, bE g4 #[nS, nS, nS] 26, bE g1 #[vD, vN, vH] 26, rdE vD a.Decls, rdE vN a.Nodes, rdE vH a.Hold] H47 := St.fin (hS48.front 1 rfl)
   exact ⟨v44, (by rw [declA_yes h41]; assumption), (by rw [declA_yes h41]; exact (by constructor <;> decide : In64 4)), y1, y2, y3, y4, y6, rfl, y29, y30, y31, (by have h__ := (hS49.drop (sk (sk (sn (sk (sk (sk (sk (sk (sk (sk (sk (sk (sk (sk (List.Sublist.slnil)))))))))))))))); rw [declA_yes h41]; exact h__)⟩
  clear y1 y2 y29 y3 y30 y31 y4 y6
  rintro f42 H42 ⟨vA, hds, hdi, y1, y2, y3, y4, y6, y8, y29, y30, y31, hS42⟩
  refine wpF_region ?_
  refine lq rfl (q_fieldAddr rfl Tryz.underlying26 rfl Tryz.sizeOf22 y6) ?_
  refine lq rfl (q_loadBlk rfl rfl Tryz.isAgg22 (hS42.blk 4 rfl) rfl (fun h => h)) ?_
  refine lq rfl (q_loadBlkA rfl y8 Tryz.isAgg43 Tryz.sizeOf43 rfl (hS42.blk 1 rfl) (fun h => h)) ?_
  refine lo rfl ?_
  refine e_buildSlice (vs := [Vg #[SB ((declA (nth a.Decls k)).Name), vA, I ((declA (nth a.Decls k)).Srt)]]) (xs := ([(declA (nth a.Decls k))] : List Decl)) rfl Tryz.underlying22 Tryz.zeroValue43 rfl Tryz.sizeOf43 (par1 (v0 := Vg #[SB ((declA (nth a.Decls k)).Name), vA, I ((declA (nth a.Decls k)).Srt)]) rfl) rfl hS42 (RdVs.cons (Rd.decl.2 ⟨_, rfl, (by first | assumption | exact Nat.zero_le _ | exact Nat.le_of_ble_eq_true rfl), (hS42.rdS 0 rfl), (by first | assumption | (constructor <;> (try dsimp only) <;> omega))⟩) (RdVs.nil)) (by decide) (by decide) (fun v51 H52 hS53 hxx hvv51 => ?_)
  have hS54 : St H0 NoB (SZ S H0) [rdE v51 ([(declA (nth a.Decls k))] : List Decl), rdE vA ((declA (nth a.Decls k)).Args), bE g31 #[SB ((declA (nth a.Decls k)).Name), vA, I ((declA (nth a.Decls k)).Srt)] 43, rdE u29n1 ((nth a.Decls k).Args), rowE 43 vo ((a.Decls.take k).map declA : List Decl), bE g22 #[vo, nS, nS] 26, bE g14 #[I (((sortsF a)).1), I (((sortsF a)).2)] 32, rdE r10 (sorts a), bE g7 #[I (0), I (0)] 32, bE g4 #[nS, nS, nS] 26, bE g1 #[vD, vN, vH] 26, rdE vD a.Decls, rdE vN a.Nodes, rdE vH a.Hold] H52 := St.fin hS53
  have hS55 := (hS54.front 4 rfl)
  refine lo rfl ?_
  refine e_append rfl Tryz.underlying22 em_Decl_43_ArrC2 rfl rfl hS55 (hS55.rdS 1 rfl) (fun _ h => h) (by have hb : GoT.bytes Decl = 48 := rfl; rw [hb]; simp only [List.length_append, List.length_map, List.length_take, List.length_cons, List.length_nil]; omega) (by decide) (fun v56 H57 hS58 hxx => ?_)
  have hS59 : St H0 NoB (SZ S H0) [rowE 43 v56 ((a.Decls.take (k + 1)).map declA : List Decl), rdE v51 ([(declA (nth a.Decls k))] : List Decl), rdE vA ((declA (nth a.Decls k)).Args), bE g31 #[SB ((declA (nth a.Decls k)).Name), vA, I ((declA (nth a.Decls k)).Srt)] 43, rdE u29n1 ((nth a.Decls k).Args), bE g22 #[vo, nS, nS] 26, bE g14 #[I (((sortsF a)).1), I (((sortsF a)).2)] 32, rdE r10 (sorts a), bE g7 #[I (0), I (0)] 32, bE g4 #[nS, nS, nS] 26, bE g1 #[vD, vN, vH] 26, rdE vD a.Decls, rdE vN a.Nodes, rdE vH a.Hold] H57 := by rw [show ((a.Decls.take (k + 1)).map declA) = (((a.Decls.take k).map declA) ++ ([(declA (nth a.Decls k))])) from (map_next (by omega)).symm]; exact hS58
  refine lq rfl (q_fieldAddr rfl Tryz.underlying26 rfl Tryz.sizeOf22 y6) ?_
  refine lo rfl ?_
  refine e_storeBlk (v := v56) rfl rfl rfl (oneCell_rdL (hS59.rowl 0 rfl)) Tryz.sizeOf22 (by show _ < 3; decide) (hS59.front 5 rfl) (fun H60 hS61 hxx => ?_)
  refine wpL_nil ?_
  refine wpF_region ?_
  refine lq rfl (q_add rfl y31 rfl (by constructor <;> omega)) ?_
  refine lm (v := I ((k : Int) + 1)) rfl rfl rfl ?_
  refine wpL_nil ?_
  refine ⟨_, ?_, k + 1, v56, rfl, (by omega), y1, y2, y3, y4, y6, y29, y30, (Eq.trans rfl (congrArg I (by omega))), (St.drop (show St H0 NoB (SZ S H0) [rowE 43 v56 ((a.Decls.take (k + 1)).map declA : List Decl), bE g22 #[v56, nS, nS] 26, rdE v51 ([(declA (nth a.Decls k))] : List Decl), rdE vA ((declA (nth a.Decls k)).Args), bE g31 #[SB ((declA (nth a.Decls k)).Name), vA, I ((declA (nth a.Decls k)).Srt)] 43, rdE u29n1 ((nth a.Decls k).Args), bE g14 #[I (((sortsF a)).1), I (((sortsF a)).2)] 32, rdE r10 (sorts a), bE g7 #[I (0), I (0)] 32, bE g4 #[nS, nS, nS] 26, bE g1 #[vD, vN, vH] 26, rdE vD a.Decls, rdE vN a.Nodes, rdE vH a.Hold] H60 from (hS61.front 1 rfl)) (sk (sk (sn (sn (sn (sn (sk (sk (sk (sk (sk (sk (sk (sk (List.Sublist.slnil))))))))))))))))⟩
  omega
 have hS28 : St H0 NoB (SZ S H0) [rowE 43 vo (a.Decls.map declA : List Decl), bE g22 #[vo, nS, nS] 26, bE g14 #[I (((sortsF a)).1), I (((sortsF a)).2)] 32, rdE r10 (sorts a), bE g7 #[I (0), I (0)] 32, bE g4 #[nS, nS, nS] 26, bE g1 #[vD, vN, vH] 26, rdE vD a.Decls, rdE vN a.Nodes, rdE vH a.Hold] H26 := by have h__ := hS26; rw [List.take_of_length_le (show a.Decls.length ≤ k by omega)] at h__; exact h__
 refine wpF_exit ?_
 refine atX_here ?_
 refine wpF_seq ?_
 refine wpF_region ?_
 refine lq rfl (q_loadBlkA rfl y1 Tryz.isAgg26 Tryz.sizeOf26 rfl (hS28.blk 6 rfl) (fun h => h)) ?_
 refine lq rfl (q_build (v := Vg #[vD, vN, vH, nS, nS]) rfl (par1 (v0 := Vg #[vD, vN, vH]) rfl) (fun w__ => by kernel_rfl)) ?_
 refine lo rfl ?_
 refine e_box (v := Vg #[vD, vN, vH, nS, nS]) rfl rfl hS28 (fun g62 H63 hS64 hxx => ?_)
 refine la (v := PT g62 0) rfl rfl rfl ?_
 refine wpL_nil ?_
 have hS65 : St H0 NoB (SZ S H0) [rowE 52 nS ([] : List Node), bE g62 #[vD, vN, vH, nS, nS] 50, rowE 43 vo (a.Decls.map declA : List Decl), bE g22 #[vo, nS, nS] 26, bE g14 #[I (((sortsF a)).1), I (((sortsF a)).2)] 32, rdE r10 (sorts a), bE g7 #[I (0), I (0)] 32, bE g4 #[nS, nS, nS] 26, bE g1 #[vD, vN, vH] 26, rdE vD a.Decls, rdE vN a.Nodes, rdE vH a.Hold] H63 := hS64.row0 52
 have hS66 : St H0 NoB (SZ S H0) [rowE 3 nS ([] : List Int), rowE 52 nS ([] : List Node), bE g62 #[vD, vN, vH, nS, nS] 50, rowE 43 vo (a.Decls.map declA : List Decl), bE g22 #[vo, nS, nS] 26, bE g14 #[I (((sortsF a)).1), I (((sortsF a)).2)] 32, rdE r10 (sorts a), bE g7 #[I (0), I (0)] 32, bE g4 #[nS, nS, nS] 26, bE g1 #[vD, vN, vH] 26, rdE vD a.Decls, rdE vN a.Nodes, rdE vH a.Hold] H63 := hS65.row0 3
 refine wpF_seq ?_
 refine wpF_seq ?_
 refine wpF_region ?_
 refine lq rfl (q_fieldAddr rfl Tryz.underlying26 rfl Tryz.sizeOf23 y1) ?_
 refine lq rfl (q_loadBlk rfl rfl Tryz.isAgg23 (hS66.blk 9 rfl) rfl (fun h => h)) ?_
 refine lq rfl (q_lenRd rfl Tryz.underlying23 rfl (hS66.rdl 11 rfl)) ?_
 refine lm (v := I (0)) rfl rfl rfl ?_
 refine wpL_nil ?_
 refine wpF_block ?_
 refine wpF_loop (fun mz f H => ∃ (k : Nat), ∃ (vn : Value), ∃ (vt : Value), mz = a.Nodes.length - k ∧ (k ≤ a.Nodes.length) ∧ ((turnTo a k).Nodes.length ≤ 200) ∧ f 1 = PT g1 0 ∧ f 2 = PT g4 0 ∧ f 3 = PT g7 0 ∧ f 4 = r10 ∧ f 6 = PT g22 0 ∧ f 9 = PT g62 0 ∧ f 57 = vN ∧ f 58 = I ((a.Nodes.length : Int)) ∧ f 59 = I ((k : Int)) ∧ St H0 NoB (SZ S H0) [rowE 52 vn ((turnTo a k).Nodes : List Node), rowE 3 vt ((turnTo a k).To : List Int), bE g62 #[vD, vN, vH, vn, vt] 50, rowE 43 vo (a.Decls.map declA : List Decl), bE g22 #[vo, nS, nS] 26, bE g14 #[I (((sortsF a)).1), I (((sortsF a)).2)] 32, rdE r10 (sorts a), bE g7 #[I (0), I (0)] 32, bE g4 #[nS, nS, nS] 26, bE g1 #[vD, vN, vH] 26, rdE vD a.Decls, rdE vN a.Nodes, rdE vH a.Hold] H) (a.Nodes.length - 0) ?_ ?_
 ·exact ⟨0, nS, nS, rfl, Nat.zero_le _, Nat.zero_le _, y1, y2, y3, y4, y6, rfl, rfl, rfl, (Eq.trans rfl (congrArg I (by omega))), (show St H0 NoB (SZ S H0) [rowE 52 nS ((turnTo a 0).Nodes : List Node), rowE 3 nS ((turnTo a 0).To : List Int), bE g62 #[vD, vN, vH, nS, nS] 50, rowE 43 vo (a.Decls.map declA : List Decl), bE g22 #[vo, nS, nS] 26, bE g14 #[I (((sortsF a)).1), I (((sortsF a)).2)] 32, rdE r10 (sorts a), bE g7 #[I (0), I (0)] 32, bE g4 #[nS, nS, nS] 26, bE g1 #[vD, vN, vH] 26, rdE vD a.Decls, rdE vN a.Nodes, rdE vH a.Hold] H63 from (St.drop (show St H0 NoB (SZ S H0) [rowE 52 nS ([] : List Node), rowE 3 nS ([] : List Int), bE g62 #[vD, vN, vH, nS, nS] 50, rowE 43 vo (a.Decls.map declA : List Decl), bE g22 #[vo, nS, nS] 26, bE g14 #[I (((sortsF a)).1), I (((sortsF a)).2)] 32, rdE r10 (sorts a), bE g7 #[I (0), I (0)] 32, bE g4 #[nS, nS, nS] 26, bE g1 #[vD, vN, vH] 26, rdE vD a.Decls, rdE vN a.Nodes, rdE vH a.Hold] H63 from (hS66.front 1 rfl)) (sk (sk (sk (sk (sk (sk (sk (sk (sk (sk (sk (sk (sk (List.Sublist.slnil))))))))))))))))⟩
 intro m67 f67 H67 hI67
 clear y1 y2 y3 y4 y6
 obtain ⟨k, vn, vt, hm67, hk, hN, y1, y2, y3, y4, y6, y9, y57, y58, y59, hS67⟩ := hI67
 refine wpF_seq ?_
 refine wpF_region ?_
 refine lq rfl (q_lss rfl y59 y58) ?_
 refine wpL_nil ?_
 refine wpF_seq ?_
 refine wpF_condP rfl (fun hlt2 => ?t128) (fun hlt2 => ?e128)
 case e128 =>
  obtain rfl : k = a.Nodes.length := by omega
  have htl := turnTo_to (a := a) a.Nodes.length
  refine wpF_exit ?_
  refine atX_here ?_
  refine wpF_seq ?_
  refine wpF_region ?_
  refine lm (v := PT g62 0) rfl rfl y9 ?_
  refine lq rfl (q_nilCheck rfl rfl) ?_
  refine lq rfl (q_fieldAddr rfl Tryz.underlying50 rfl Tryz.sizeOf23 rfl) ?_
  refine lq rfl (q_loadBlk rfl rfl Tryz.isAgg23 (hS67.blk 2 rfl) rfl (fun h => h)) ?_
  refine lq rfl (q_fieldAddr rfl Tryz.underlying26 rfl Tryz.sizeOf23 y6) ?_
  refine lo rfl ?_
  refine e_storeBlk (v := vn) rfl rfl rfl (oneCell_rdL (hS67.rowl 0 rfl)) Tryz.sizeOf23 (by show _ < 3; decide) (hS67.front 4 rfl) (fun H113 hS114 hxx => ?_)
  refine wpL_nil ?_
  have hS115 : St H0 NoB (SZ S H0) [rowE 3 nS ([] : List Int), bE g22 #[vo, vn, nS] 26, rowE 52 vn ((turnTo a a.Nodes.length).Nodes : List Node), rowE 3 vt ((turnTo a a.Nodes.length).To : List Int), bE g62 #[vD, vN, vH, vn, vt] 50, rowE 43 vo (a.Decls.map declA : List Decl), bE g14 #[I (((sortsF a)).1), I (((sortsF a)).2)] 32, rdE r10 (sorts a), bE g7 #[I (0), I (0)] 32, bE g4 #[nS, nS, nS] 26, bE g1 #[vD, vN, vH] 26, rdE vD a.Decls, rdE vN a.Nodes, rdE vH a.Hold] H113 := hS114.row0 3
  refine wpF_seq ?_
  refine wpF_seq ?_
  refine wpF_region ?_
  refine lq rfl (q_fieldAddr rfl Tryz.underlying26 rfl Tryz.sizeOf24 y1) ?_
  refine lq rfl (q_loadBlk rfl rfl Tryz.isAgg24 (hS115.blk 10 rfl) rfl (fun h => h)) ?_
  refine lq rfl (q_lenRd rfl Tryz.underlying24 rfl (hS115.rdl 13 rfl)) ?_
  refine lm (v := I (0)) rfl rfl rfl ?_
  refine wpL_nil ?_
  refine wpF_block ?_
  refine wpF_loop (fun mz f H => ∃ (u : Nat), ∃ (vh : Value), mz = a.Hold.length - u ∧ (u ≤ a.Hold.length) ∧ f 2 = PT g4 0 ∧ f 3 = PT g7 0 ∧ f 6 = PT g22 0 ∧ f 9 = PT g62 0 ∧ f 140 = vH ∧ f 141 = I ((a.Hold.length : Int)) ∧ f 142 = I ((u : Int)) ∧ St H0 NoB (SZ S H0) [rowE 3 vh (kidS (turned a).To (a.Hold.take u) : List Int), bE g22 #[vo, vn, vh] 26, rowE 52 vn ((turnTo a a.Nodes.length).Nodes : List Node), rowE 3 vt ((turnTo a a.Nodes.length).To : List Int), bE g62 #[vD, vN, vH, vn, vt] 50, rowE 43 vo (a.Decls.map declA : List Decl), bE g14 #[I (((sortsF a)).1), I (((sortsF a)).2)] 32, bE g7 #[I (0), I (0)] 32, bE g4 #[nS, nS, nS] 26, bE g1 #[vD, vN, vH] 26, rdE vD a.Decls, rdE vN a.Nodes, rdE vH a.Hold] H) (a.Hold.length - 0) ?_ ?_
  ·exact ⟨0, nS, rfl, Nat.zero_le _, y2, y3, y6, y9, rfl, rfl, (Eq.trans rfl (congrArg I (by omega))), (show St H0 NoB (SZ S H0) [rowE 3 nS (kidS (turned a).To (a.Hold.take 0) : List Int), bE g22 #[vo, vn, nS] 26, rowE 52 vn ((turnTo a a.Nodes.length).Nodes : List Node), rowE 3 vt ((turnTo a a.Nodes.length).To : List Int), bE g62 #[vD, vN, vH, vn, vt] 50, rowE 43 vo (a.Decls.map declA : List Decl), bE g14 #[I (((sortsF a)).1), I (((sortsF a)).2)] 32, bE g7 #[I (0), I (0)] 32, bE g4 #[nS, nS, nS] 26, bE g1 #[vD, vN, vH] 26, rdE vD a.Decls, rdE vN a.Nodes, rdE vH a.Hold] H113 from (hS115.drop (sk (sk (sk (sk (sk (sk (sk (sn (sk (sk (sk (sk (sk (sk (List.Sublist.slnil)))))))))))))))))⟩
  intro m116 f116 H116 hI116
  clear y2 y3 y6 y9
  obtain ⟨u, vh, hm116, hu, y2, y3, y6, y9, y140, y141, y142, hS116⟩ := hI116
  refine wpF_seq ?_
  refine wpF_region ?_
  refine lq rfl (q_lss rfl y142 y141) ?_
  refine wpL_nil ?_
  refine wpF_seq ?_
  refine wpF_condP rfl (fun hlt7 => ?t127) (fun hlt7 => ?e127)
  case e127 =>
   have hS118 : St H0 NoB (SZ S H0) [rowE 3 vh (kidS (turned a).To a.Hold : List Int), bE g22 #[vo, vn, vh] 26, rowE 52 vn ((turnTo a a.Nodes.length).Nodes : List Node), rowE 3 vt ((turnTo a a.Nodes.length).To : List Int), bE g62 #[vD, vN, vH, vn, vt] 50, rowE 43 vo (a.Decls.map declA : List Decl), bE g14 #[I (((sortsF a)).1), I (((sortsF a)).2)] 32, bE g7 #[I (0), I (0)] 32, bE g4 #[nS, nS, nS] 26, bE g1 #[vD, vN, vH] 26, rdE vD a.Decls, rdE vN a.Nodes, rdE vH a.Hold] H116 := by have h__ := hS116; rw [List.take_of_length_le (show a.Hold.length ≤ u by omega)] at h__; exact h__
   refine wpF_exit ?_
   refine atX_here ?_
   refine wpF_seq ?_
   refine wpF_region ?_
   refine lq rfl (q_loadBlkA rfl y6 Tryz.isAgg26 Tryz.sizeOf26 rfl (hS118.blk 1 rfl) (fun h => h)) ?_
   refine lq rfl (q_build (v := Vg #[I (0), I (0)]) rfl par0 (fun w__ => by kernel_rfl)) ?_
   refine lo rfl ?_
   refine e_storeBlkA (cs' := #[vo, vn, vh]) rfl y2 rfl Tryz.sizeOf26 rfl rfl (fa ((oneCell_rdL (hS118.rowl 5 rfl))) (fa ((oneCell_rdL (hS118.rowl 2 rfl))) (fa ((oneCell_rdL (hS118.rowl 0 rfl))) fe))) (hS118.front 8 rfl) (fun H120 hS121 hxx => ?_)
   refine lo rfl ?_
   refine e_storeBlkA (cs' := #[I (0), I (0)]) rfl y3 rfl Tryz.sizeOf32 rfl rfl (fa rfl (fa rfl fe)) (hS121.front 8 rfl) (fun H122 hS123 hxx => ?_)
   refine wpL_nil ?_
   refine wpF_ret ?_
   refine ⟨_, resC y2 (loadV_blkA Tryz.isAgg26 Tryz.sizeOf26 rfl (hS123.blk 1 rfl)) (resC y3 (loadV_blkA Tryz.isAgg32 Tryz.sizeOf32 rfl (hS123.blk 0 rfl)) (resN)), hS123.frame, ?_⟩
   show ∃ w0_ w1_ w2_, (Value.tuple #[Vg #[vo, vn, vh], Vg #[I (0), I (0)]]) = Value.tuple #[Vg #[w0_, w1_, w2_], Vg #[I (doF a).1, I (doF a).2]] ∧ Rd (SZ S H0) H122 w0_ (doA a).Decls ∧ Rd (SZ S H0) H122 w1_ (doA a).Nodes ∧ Rd (SZ S H0) H122 w2_ (doA a).Hold
   have hS124 : St H0 NoB (SZ S H0) [rdE vo (a.Decls.map declA), bE g7 #[I (0), I (0)] 32, bE g4 #[vo, vn, vh] 26, rowE 3 vh (kidS (turned a).To a.Hold : List Int), bE g22 #[vo, vn, vh] 26, rowE 52 vn ((turnTo a a.Nodes.length).Nodes : List Node), rowE 3 vt ((turnTo a a.Nodes.length).To : List Int), bE g62 #[vD, vN, vH, vn, vt] 50, bE g14 #[I (((sortsF a)).1), I (((sortsF a)).2)] 32, bE g1 #[vD, vN, vH] 26, rdE vD a.Decls, rdE vN a.Nodes, rdE vH a.Hold] H122 := St.fin (hS123.front 7 rfl)
   have hS125 : St H0 NoB (SZ S H0) [rdE vn ((turnTo a a.Nodes.length).Nodes), rdE vo (a.Decls.map declA), bE g7 #[I (0), I (0)] 32, bE g4 #[vo, vn, vh] 26, rowE 3 vh (kidS (turned a).To a.Hold : List Int), bE g22 #[vo, vn, vh] 26, rowE 3 vt ((turnTo a a.Nodes.length).To : List Int), bE g62 #[vD, vN, vH, vn, vt] 50, bE g14 #[I (((sortsF a)).1), I (((sortsF a)).2)] 32, bE g1 #[vD, vN, vH] 26, rdE vD a.Decls, rdE vN a.Nodes, rdE vH a.Hold] H122 := St.fin (hS124.front 5 rfl)
   have hS126 : St H0 NoB (SZ S H0) [rdE vh (kidS (turned a).To a.Hold), rdE vn ((turnTo a a.Nodes.length).Nodes), rdE vo (a.Decls.map declA), bE g7 #[I (0), I (0)] 32, bE g4 #[vo, vn, vh] 26, bE g22 #[vo, vn, vh] 26, rowE 3 vt ((turnTo a a.Nodes.length).To : List Int), bE g62 #[vD, vN, vH, vn, vt] 50, bE g14 #[I (((sortsF a)).1), I (((sortsF a)).2)] 32, bE g1 #[vD, vN, vH] 26, rdE vD a.Decls, rdE vN a.Nodes, rdE vH a.Hold] H122 := St.fin (hS125.front 4 rfl)
   have hq_ : doF a = _ := doF_ok h25 (by unfold turned; omega)
   have hd_ := doA_ok (a := a) (by rw [hq_])
   exact ⟨_, _, _, by rw [hq_], by rw [hd_]; exact (hS126.result (hS126.rdS 2 rfl)), by rw [hd_]; exact (hS126.result (hS126.rdS 1 rfl)), by rw [hd_]; exact (hS126.result (hS126.rdS 0 rfl))⟩
  have hhu := hA.hold u (by omega)
  refine wpF_skip ?_
  refine wpF_seq ?_
  refine wpF_block ?_
  refine wpF_seq ?_
  refine wpF_region ?_
  refine lq rfl (q_indexRd (k := u) rfl Tryz.underlying24 el_Int_3_ArrC2 y140 y142 (hS116.rdl 12 rfl) (by omega) (by omega)) ?_
  refine lq rfl (q_loadInt (k := u) rfl rfl el_Int_3_ArrC2 (hS116.rdl 12 rfl) (by omega) (fun _ h => h)) ?_
  refine la (v := I (nth a.Hold u)) rfl rfl rfl ?_
  refine wpL_nil ?_
  have h6u := (hS116.rowl 3 rfl).in64 (k := (nth a.Hold u).toNat) (by omega)
  refine wpF_drawn [none, none, none, none, none, none, none, none, none, none, some 0, none, some 1] [[], [], [], [], [], [], [], [], [], [], [], [], []] (fun l b => match l with | 0 => True | 1 => True | _ => False) (by kernel_rfl) (by kernel_rfl) ?_
  refine rq 0 (by kernel_rfl) rfl rfl (q_fieldAddr rfl Tryz.underlying26 rfl Tryz.sizeOf24 y6) ?_
  refine rq 1 (by kernel_rfl) rfl rfl (q_loadBlk rfl rfl Tryz.isAgg24 (hS116.blk 1 rfl) rfl (labU_not [] rfl (fe))) ?_
  refine rq 2 (by kernel_rfl) rfl rfl (q_move (v := PT g62 0) rfl y9) ?_
  refine rq 3 (by kernel_rfl) rfl rfl (q_nilCheck rfl rfl) ?_
  refine rq 4 (by kernel_rfl) rfl rfl (q_fieldAddr rfl Tryz.underlying50 rfl Tryz.sizeOf24 rfl) ?_
  refine rq 5 (by kernel_rfl) rfl rfl (q_loadBlk rfl rfl Tryz.isAgg24 (hS116.blk 4 rfl) rfl (labU_not [] rfl (fe))) ?_
  refine rq 6 (by kernel_rfl) rfl rfl (q_move (v := I (nth a.Hold u)) rfl rfl) ?_
  refine rq 7 (by kernel_rfl) rfl rfl (q_indexRd (k := (nth a.Hold u).toNat) rfl Tryz.underlying24 el_Int_3_ArrC2 rfl rfl (hS116.rowl 3 rfl) (by omega) (by omega)) ?_
  refine rq 8 (by kernel_rfl) rfl rfl (q_loadInt (k := (nth a.Hold u).toNat) rfl rfl el_Int_3_ArrC2 (hS116.rowl 3 rfl) (by omega) (labU_sub [] rfl (fe))) ?_
  refine wpR_n [9] (by kernel_rfl) ?_
  refine fa ?_ fe
  refine exE rfl rfl ?_
  refine e_buildSlice (vs := [I (nth ((turnTo a a.Nodes.length).To) ((nth a.Hold u).toNat))]) (xs := ([nth ((turnTo a a.Nodes.length).To) ((nth a.Hold u).toNat)] : List Int)) rfl Tryz.underlying24 Tryz.zeroValue3 rfl Tryz.sizeOf3 (par1 (v0 := I (nth ((turnTo a a.Nodes.length).To) ((nth a.Hold u).toNat))) rfl) rfl hS116 (RdVs.cons (Rd.int.2 ⟨rfl, by first | assumption | (constructor <;> omega)⟩) (RdVs.nil)) (by decide) (by decide) (fun v119o9 H119o9 hS119o9 hxx hvv119o9 => ?_)
  refine ⟨Ext.mono hxx (fun _ h => h.elim), ?_⟩
  refine wpR_n [10] (by kernel_rfl) ?_
  refine fa ?_ fe
  have hS119o10 : St H0 NoB (SZ S H0) [rdE v119o9 ([nth ((turnTo a a.Nodes.length).To) ((nth a.Hold u).toNat)] : List Int), rowE 3 vh (kidS (turned a).To (a.Hold.take u) : List Int), bE g22 #[vo, vn, vh] 26, rowE 52 vn ((turnTo a a.Nodes.length).Nodes : List Node), rowE 3 vt ((turnTo a a.Nodes.length).To : List Int), bE g62 #[vD, vN, vH, vn, vt] 50, rowE 43 vo (a.Decls.map declA : List Decl), bE g14 #[I (((sortsF a)).1), I (((sortsF a)).2)] 32, bE g7 #[I (0), I (0)] 32, bE g4 #[nS, nS, nS] 26, bE g1 #[vD, vN, vH] 26, rdE vD a.Decls, rdE vN a.Nodes, rdE vH a.Hold] H119o9 := St.fin hS119o9
  have hS119o10x2 := (hS119o10.front 1 rfl)
  refine exE rfl rfl ?_
  refine e_append rfl Tryz.underlying24 em_Int_3_ArrC2 rfl rfl hS119o10x2 (hS119o10x2.rdS 1 rfl) (fun _ h => h) (by have hb : GoT.bytes Int = 8 := rfl; rw [hb]; simp only [List.length_append, kidS_len, List.length_take, List.length_cons, List.length_nil]; omega) (by decide) (fun v119o10 H119o10 hS119o10x3 hxx => ?_)
  have hS119o10x4 : St H0 NoB (SZ S H0) [rowE 3 v119o10 (kidS (turned a).To (a.Hold.take (u + 1)) : List Int), rdE v119o9 ([nth ((turnTo a a.Nodes.length).To) ((nth a.Hold u).toNat)] : List Int), bE g22 #[vo, vn, vh] 26, rowE 52 vn ((turnTo a a.Nodes.length).Nodes : List Node), rowE 3 vt ((turnTo a a.Nodes.length).To : List Int), bE g62 #[vD, vN, vH, vn, vt] 50, rowE 43 vo (a.Decls.map declA : List Decl), bE g14 #[I (((sortsF a)).1), I (((sortsF a)).2)] 32, bE g7 #[I (0), I (0)] 32, bE g4 #[nS, nS, nS] 26, bE g1 #[vD, vN, vH] 26, rdE vD a.Decls, rdE vN a.Nodes, rdE vH a.Hold] H119o10 := by rw [show (kidS (turned a).To (a.Hold.take (u + 1))) = ((kidS (turned a).To (a.Hold.take u)) ++ ([nth ((turnTo a a.Nodes.length).To) ((nth a.Hold u).toNat)])) from (kidS_next (by omega)).symm]; exact hS119o10x3
  refine ⟨Ext.mono hxx (labS_of 0 rfl (fun _ _ => trivial)), ?_⟩
  refine rq 11 (by kernel_rfl) rfl rfl (q_fieldAddr rfl Tryz.underlying26 rfl Tryz.sizeOf24 y6) ?_
  refine wpR_n [12] (by kernel_rfl) ?_
  refine fa ?_ fe
  refine exE rfl rfl ?_
  refine e_storeBlk (v := v119o10) rfl rfl rfl (oneCell_rdL (hS119o10x4.rowl 0 rfl)) Tryz.sizeOf24 (by show _ < 3; decide) (hS119o10x4.front 2 rfl) (fun H119o12 hS119o12 hxx => ?_)
  refine ⟨Ext.mono hxx (labS_of 1 rfl (fun _ _ => trivial)), ?_⟩
  refine wpR_end (by kernel_rfl) ?_
  skip
  refine wpF_region ?_
  refine lq rfl (q_add rfl y142 rfl (by constructor <;> omega)) ?_
  refine lm (v := I ((u : Int) + 1)) rfl rfl rfl ?_
  refine wpL_nil ?_
  refine ⟨_, ?_, u + 1, v119o10, rfl, (by omega), y2, y3, y6, y9, y140, y141, (Eq.trans rfl (congrArg I (by omega))), (St.drop (show St H0 NoB (SZ S H0) [rowE 3 v119o10 (kidS (turned a).To (a.Hold.take (u + 1)) : List Int), bE g22 #[vo, vn, v119o10] 26, rdE v119o9 ([nth ((turnTo a a.Nodes.length).To) ((nth a.Hold u).toNat)] : List Int), rowE 52 vn ((turnTo a a.Nodes.length).Nodes : List Node), rowE 3 vt ((turnTo a a.Nodes.length).To : List Int), bE g62 #[vD, vN, vH, vn, vt] 50, rowE 43 vo (a.Decls.map declA : List Decl), bE g14 #[I (((sortsF a)).1), I (((sortsF a)).2)] 32, bE g7 #[I (0), I (0)] 32, bE g4 #[nS, nS, nS] 26, bE g1 #[vD, vN, vH] 26, rdE vD a.Decls, rdE vN a.Nodes, rdE vH a.Hold] H119o12 from (hS119o12.front 1 rfl)) (sk (sk (sn (sk (sk (sk (sk (sk (sk (sk (sk (sk (sk (sk (List.Sublist.slnil))))))))))))))))⟩
  omega
 have hkf := (hA.nodes k (by omega)).few
 have htl := turnTo_to (a := a) k
 have hsl : (sorts a).length = a.Nodes.length := sortsTo_len _
 refine wpF_skip ?_
 refine wpF_seq ?_
 refine wpF_block ?_
 refine wpF_seq ?_
 refine wpF_region ?_
 refine lm (v := I ((k : Int))) rfl rfl y59 ?_
 refine lq rfl (q_indexRd (k := k) rfl Tryz.underlying23 el_Node_52_ArrC2 y57 y59 (hS67.rdl 11 rfl) (by omega) (by omega)) ?_
 obtain ⟨u69, huu69, hlu69⟩ := (Rd.list.1 (hS67.rdS 11 rfl)).elem k (by omega)
 obtain ⟨u69n1, rfl, hu690, hu691, hu692, hu693, hu694⟩ := Rd.node.1 huu69
 have hS70 := hS67.rd hu691
 refine lq rfl (q_loadE rfl rfl (hlu69 Tryz.prog 52 _ el_Node_52_ArrC2 (fun _ h => False.elim h))) ?_
 refine lo rfl ?_
 refine e_alloc rfl Tryz.zeroValue52 hS70 (fun g71 H72 hS73 hxx => ?_)
 refine la (v := I ((k : Int))) rfl rfl rfl ?_
 refine lo rfl ?_
 refine e_storeBlkA (cs' := #[I ((nth a.Nodes k).Op), u69n1, I ((nth a.Nodes k).N), I ((nth a.Nodes k).D), SB ((nth a.Nodes k).Name)]) rfl rfl rfl Tryz.sizeOf52 rfl rfl (fa rfl (fa ((oneCell_rdL (hS73.rdl 1 rfl))) (fa rfl (fa rfl (fa rfl fe))))) hS73 (fun H74 hS75 hxx => ?_)
 refine wpL_nil ?_
 refine wpF_seq ?_
 refine wpF_region ?_
 refine la (v := I (0)) rfl rfl rfl ?_
 refine wpL_nil ?_
 refine sc (fun f H => ∃ (vN2 : Value), ∃ (kk : Int), ((turnTo a (k + 1)).To = (turnTo a k).To ++ [kk]) ∧ (In64 kk) ∧ f 1 = PT g1 0 ∧ f 2 = PT g4 0 ∧ f 3 = PT g7 0 ∧ f 4 = r10 ∧ f 6 = PT g22 0 ∧ f 9 = PT g62 0 ∧ f 12 = I (kk) ∧ f 57 = vN ∧ f 58 = I ((a.Nodes.length : Int)) ∧ f 59 = I ((k : Int)) ∧ St H0 NoB (SZ S H0) [rowE 52 vN2 ((turnTo a (k + 1)).Nodes : List Node), bE g62 #[vD, vN, vH, vN2, vt] 50, rowE 3 vt ((turnTo a k).To : List Int), rowE 43 vo (a.Decls.map declA : List Decl), bE g22 #[vo, nS, nS] 26, bE g14 #[I (((sortsF a)).1), I (((sortsF a)).2)] 32, rdE r10 (sorts a), bE g7 #[I (0), I (0)] 32, bE g4 #[nS, nS, nS] 26, bE g1 #[vD, vN, vH] 26, rdE vD a.Decls, rdE vN a.Nodes, rdE vH a.Hold] H) ?_ ?_
 ·refine wpF_block ?_
  refine wpF_seq ?_
  refine wpF_region ?_
  refine lm (v := r10) rfl rfl y4 ?_
  refine lm (v := I ((k : Int))) rfl rfl rfl ?_
  refine lq rfl (q_indexRd (k := k) rfl Tryz.underlying24 el_Int_3_ArrC2 rfl rfl (hS75.rdl 8 rfl) (by omega) (by omega)) ?_
  refine lq rfl (q_loadInt (k := k) rfl rfl el_Int_3_ArrC2 (hS75.rdl 8 rfl) (by omega) (fun _ h => h)) ?_
  refine lq rfl (q_eql rfl rfl rfl) ?_
  refine la (v := B (decide ((nth (sorts a) k) = 5))) rfl rfl rfl ?_
  refine wpL_nil ?_
  refine wpF_condP rfl (fun h89 => ?t95) (fun h89 => ?e95)
  case t95 =>
   refine wpF_skip ?_
   exact ⟨vn, (0 : Int), (turn_arr h89).2, (by constructor <;> omega), y1, y2, y3, y4, y6, y9, (Eq.trans rfl (congrArg I (by omega))), y57, y58, y59, (show St H0 NoB (SZ S H0) [rowE 52 vn ((turnTo a (k + 1)).Nodes : List Node), bE g62 #[vD, vN, vH, vn, vt] 50, rowE 3 vt ((turnTo a k).To : List Int), rowE 43 vo (a.Decls.map declA : List Decl), bE g22 #[vo, nS, nS] 26, bE g14 #[I (((sortsF a)).1), I (((sortsF a)).2)] 32, rdE r10 (sorts a), bE g7 #[I (0), I (0)] 32, bE g4 #[nS, nS, nS] 26, bE g1 #[vD, vN, vH] 26, rdE vD a.Decls, rdE vN a.Nodes, rdE vH a.Hold] H74 from (by have h__ := (St.drop (show St H0 NoB (SZ S H0) [rowE 52 vn ((turnTo a k).Nodes : List Node), bE g62 #[vD, vN, vH, vn, vt] 50, bE g71 #[I ((nth a.Nodes k).Op), u69n1, I ((nth a.Nodes k).N), I ((nth a.Nodes k).D), SB ((nth a.Nodes k).Name)] 52, rdE u69n1 ((nth a.Nodes k).Kids), rowE 3 vt ((turnTo a k).To : List Int), rowE 43 vo (a.Decls.map declA : List Decl), bE g22 #[vo, nS, nS] 26, bE g14 #[I (((sortsF a)).1), I (((sortsF a)).2)] 32, rdE r10 (sorts a), bE g7 #[I (0), I (0)] 32, bE g4 #[nS, nS, nS] 26, bE g1 #[vD, vN, vH] 26, rdE vD a.Decls, rdE vN a.Nodes, rdE vH a.Hold] H74 from ((hS75.front 4 rfl).front 3 rfl)) (sk (sk (sn (sn (sk (sk (sk (sk (sk (sk (sk (sk (sk (sk (sk (List.Sublist.slnil))))))))))))))))); rw [← (turn_arr h89).1] at h__; exact h__))⟩
  refine wpF_seq ?_
  refine wpF_region ?_
  refine lq rfl (q_fieldAddr rfl Tryz.underlying52 rfl Tryz.sizeOf3 rfl) ?_
  refine lq rfl (q_loadBlk rfl rfl Tryz.isAgg3 (hS75.blk 0 rfl) rfl (fun h => h)) ?_
  refine lq rfl (q_eql rfl rfl rfl) ?_
  refine la (v := B (decide (((nth a.Nodes k).Op) = 24))) rfl rfl rfl ?_
  refine wpL_nil ?_
  refine wpF_condP rfl (fun h95 => ?t94) (fun h95 => ?e94)
  case t94 =>
   have hgk := got_kids hA (k := k) (by omega) h95
   have hg0 := kid_lt hA (k := k) (by omega) (j := 0) (by omega)
   have hg1 := kid_lt hA (k := k) (by omega) (j := 1) (by omega)
   have hgc := got_chain hA (k := k) (m := k) (by omega) h95 (Nat.le_refl _)
   unfold kidN at hg0 hg1 hgc
   have hgl := getL_len (a := a) (to := (turnTo a k).To) (x := nth (turnTo a k).To (nth (nth a.Nodes k).Kids 1).toNat) (N := (turnTo a k).Nodes) (nth (nth a.Nodes k).Kids 0).toNat
   have h6g := (hS75.rowl 3 rfl).in64 (k := (nth (nth a.Nodes k).Kids 1).toNat) (by omega)
   refine wpF_drawn [none, none, none, none, none, none, none, none, none, none, none, none, none, none, none, some 0, none] [[], [], [], [], [], [], [], [], [], [], [], [], [], [], [], [], []] (fun l b => match l with | 0 => True | _ => False) (by kernel_rfl) (by kernel_rfl) ?_
   refine rq 0 (by kernel_rfl) rfl rfl (q_move (v := PT g62 0) rfl y9) ?_
   refine rq 1 (by kernel_rfl) rfl rfl (q_fieldAddr rfl Tryz.underlying52 rfl Tryz.sizeOf24 rfl) ?_
   refine rq 2 (by kernel_rfl) rfl rfl (q_loadBlk rfl rfl Tryz.isAgg24 (hS75.blk 0 rfl) rfl (labU_not [] rfl (fe))) ?_
   refine rq 3 (by kernel_rfl) rfl rfl (q_indexRd (k := 0) rfl Tryz.underlying24 el_Int_3_ArrC2 rfl rfl (hS75.rdl 1 rfl) (by omega) (by omega)) ?_
   refine rq 4 (by kernel_rfl) rfl rfl (q_loadInt (k := 0) rfl rfl el_Int_3_ArrC2 (hS75.rdl 1 rfl) (by omega) (labU_sub [] rfl (fe))) ?_
   refine rq 5 (by kernel_rfl) rfl rfl (q_move (v := PT g62 0) rfl y9) ?_
   refine rq 6 (by kernel_rfl) rfl rfl (q_nilCheck rfl rfl) ?_
   refine rq 7 (by kernel_rfl) rfl rfl (q_fieldAddr rfl Tryz.underlying50 rfl Tryz.sizeOf24 rfl) ?_
   refine rq 8 (by kernel_rfl) rfl rfl (q_loadBlk rfl rfl Tryz.isAgg24 (hS75.blk 4 rfl) rfl (labU_not [] rfl (fe))) ?_
   refine rq 9 (by kernel_rfl) rfl rfl (q_fieldAddr rfl Tryz.underlying52 rfl Tryz.sizeOf24 rfl) ?_
   refine rq 10 (by kernel_rfl) rfl rfl (q_loadBlk rfl rfl Tryz.isAgg24 (hS75.blk 0 rfl) rfl (labU_not [] rfl (fe))) ?_
   refine rq 11 (by kernel_rfl) rfl rfl (q_indexRd (k := 1) rfl Tryz.underlying24 el_Int_3_ArrC2 rfl rfl (hS75.rdl 1 rfl) (by omega) (by omega)) ?_
   refine rq 12 (by kernel_rfl) rfl rfl (q_loadInt (k := 1) rfl rfl el_Int_3_ArrC2 (hS75.rdl 1 rfl) (by omega) (labU_sub [] rfl (fe))) ?_
   refine rq 13 (by kernel_rfl) rfl rfl (q_indexRd (k := (nth ((nth a.Nodes k).Kids) 1).toNat) rfl Tryz.underlying24 el_Int_3_ArrC2 rfl rfl (hS75.rowl 3 rfl) (by omega) (by omega)) ?_
   refine rq 14 (by kernel_rfl) rfl rfl (q_loadInt (k := (nth ((nth a.Nodes k).Kids) 1).toNat) rfl rfl el_Int_3_ArrC2 (hS75.rowl 3 rfl) (by omega) (labU_sub [] rfl (fe))) ?_
   refine wpR_n [15] (by kernel_rfl) ?_
   refine fa ?_ fe
   have hS79o15 := (St.drop (show St H0 NoB (SZ S H0) [rowE 52 vn ((turnTo a k).Nodes : List Node), rowE 3 vt ((turnTo a k).To : List Int), bE g62 #[vD, vN, vH, vn, vt] 50, bE g71 #[I ((nth a.Nodes k).Op), u69n1, I ((nth a.Nodes k).N), I ((nth a.Nodes k).D), SB ((nth a.Nodes k).Name)] 52, rdE u69n1 ((nth a.Nodes k).Kids), rowE 43 vo (a.Decls.map declA : List Decl), bE g22 #[vo, nS, nS] 26, bE g14 #[I (((sortsF a)).1), I (((sortsF a)).2)] 32, rdE r10 (sorts a), bE g7 #[I (0), I (0)] 32, bE g4 #[nS, nS, nS] 26, bE g1 #[vD, vN, vH] 26, rdE vD a.Decls, rdE vN a.Nodes, rdE vH a.Hold] H74 from (((hS75.front 4 rfl).front 4 rfl).front 4 rfl)) (sk (sk (sk (sk (sk (sk (sk (sk (sk (sk (sk (sk (sk (sk (sk (List.Sublist.slnil)))))))))))))))))
   refine exE rfl rfl ?_
   refine e_call rfl Tryz.call14 (arr3 (v0 := PT g62 0) (v1 := I (nth ((nth a.Nodes k).Kids) 0)) (v2 := I (nth ((turnTo a k).To) ((nth ((nth a.Nodes k).Kids) 1).toNat))) rfl rfl rfl) (read_M _ _ g62 vD vN vH vn vt a ((turnTo a k).Nodes) ((turnTo a k).To) (nth ((nth a.Nodes k).Kids) 0) (nth ((turnTo a k).To) ((nth ((nth a.Nodes k).Kids) 1).toNat)) (St.give (A := [rowE 52 vn ((turnTo a k).Nodes : List Node), rowE 3 vt ((turnTo a k).To : List Int), bE g62 #[vD, vN, vH, vn, vt] 50]) (L := [bE g71 #[I ((nth a.Nodes k).Op), u69n1, I ((nth a.Nodes k).N), I ((nth a.Nodes k).D), SB ((nth a.Nodes k).Name)] 52, rdE u69n1 ((nth a.Nodes k).Kids), rowE 43 vo (a.Decls.map declA : List Decl), bE g22 #[vo, nS, nS] 26, bE g14 #[I (((sortsF a)).1), I (((sortsF a)).2)] 32, rdE r10 (sorts a), bE g7 #[I (0), I (0)] 32, bE g4 #[nS, nS, nS] 26, bE g1 #[vD, vN, vH] 26, rdE vD a.Decls, rdE vN a.Nodes, rdE vH a.Hold]) hS79o15) (hS79o15.rdS 13 rfl) hg0.1 (by rw [htl]; exact hgc) h6g (by omega) (by omega) rfl) ?_
   rintro _ H79o15 ⟨hxx, r79o15, rfl, hgo⟩
   have hS79o15x2 : St H0 NoB (SZ S H0) [rowE 52 r79o15 (getL a ((turnTo a k).To) (nth ((turnTo a k).To) ((nth ((nth a.Nodes k).Kids) 1).toNat)) ((turnTo a k).Nodes) (nth ((nth a.Nodes k).Kids) 0).toNat : List Node), rowE 3 vt ((turnTo a k).To : List Int), bE g62 #[vD, vN, vH, r79o15, vt] 50, bE g71 #[I ((nth a.Nodes k).Op), u69n1, I ((nth a.Nodes k).N), I ((nth a.Nodes k).D), SB ((nth a.Nodes k).Name)] 52, rdE u69n1 ((nth a.Nodes k).Kids), rowE 43 vo (a.Decls.map declA : List Decl), bE g22 #[vo, nS, nS] 26, bE g14 #[I (((sortsF a)).1), I (((sortsF a)).2)] 32, rdE r10 (sorts a), bE g7 #[I (0), I (0)] 32, bE g4 #[nS, nS, nS] 26, bE g1 #[vD, vN, vH] 26, rdE vD a.Decls, rdE vN a.Nodes, rdE vH a.Hold] H79o15 := St.back3 (A := [rowE 52 vn ((turnTo a k).Nodes : List Node), rowE 3 vt ((turnTo a k).To : List Int), bE g62 #[vD, vN, vH, vn, vt] 50]) (A' := [rowE 52 r79o15 (getL a ((turnTo a k).To) (nth ((turnTo a k).To) ((nth ((nth a.Nodes k).Kids) 1).toNat)) ((turnTo a k).Nodes) (nth ((nth a.Nodes k).Kids) 0).toNat : List Node), rowE 3 vt ((turnTo a k).To : List Int), bE g62 #[vD, vN, vH, r79o15, vt] 50]) (L := [bE g71 #[I ((nth a.Nodes k).Op), u69n1, I ((nth a.Nodes k).N), I ((nth a.Nodes k).D), SB ((nth a.Nodes k).Name)] 52, rdE u69n1 ((nth a.Nodes k).Kids), rowE 43 vo (a.Decls.map declA : List Decl), bE g22 #[vo, nS, nS] 26, bE g14 #[I (((sortsF a)).1), I (((sortsF a)).2)] 32, rdE r10 (sorts a), bE g7 #[I (0), I (0)] 32, bE g4 #[nS, nS, nS] 26, bE g1 #[vD, vN, vH] 26, rdE vD a.Decls, rdE vN a.Nodes, rdE vH a.Hold]) hS79o15 hxx hgo
   refine ⟨Ext.mono hxx (labS_of 0 rfl (fun _ _ => trivial)), ?_⟩
   refine rq 16 (by kernel_rfl) rfl rfl (q_assign (v := I (((getL a ((turnTo a k).To) (nth ((turnTo a k).To) ((nth ((nth a.Nodes k).Kids) 1).toNat)) ((turnTo a k).Nodes) (nth ((nth a.Nodes k).Kids) 0).toNat).length : Int) - 1)) rfl rfl) ?_
   refine wpR_end (by kernel_rfl) ?_
   skip
   exact ⟨r79o15, ((getL a ((turnTo a k).To) (nth ((turnTo a k).To) ((nth ((nth a.Nodes k).Kids) 1).toNat)) ((turnTo a k).Nodes) (nth ((nth a.Nodes k).Kids) 0).toNat).length : Int) - 1, (turn_get h89 h95).2, (by constructor <;> omega), y1, y2, y3, y4, y6, y9, (Eq.trans rfl (congrArg I (by omega))), y57, y58, y59, (by have h__ := (St.drop (show St H0 NoB (SZ S H0) [rowE 52 r79o15 (getL a ((turnTo a k).To) (nth ((turnTo a k).To) ((nth ((nth a.Nodes k).Kids) 1).toNat)) ((turnTo a k).Nodes) (nth ((nth a.Nodes k).Kids) 0).toNat : List Node), bE g62 #[vD, vN, vH, r79o15, vt] 50, rowE 3 vt ((turnTo a k).To : List Int), bE g71 #[I ((nth a.Nodes k).Op), u69n1, I ((nth a.Nodes k).N), I ((nth a.Nodes k).D), SB ((nth a.Nodes k).Name)] 52, rdE u69n1 ((nth a.Nodes k).Kids), rowE 43 vo (a.Decls.map declA : List Decl), bE g22 #[vo, nS, nS] 26, bE g14 #[I (((sortsF a)).1), I (((sortsF a)).2)] 32, rdE r10 (sorts a), bE g7 #[I (0), I (0)] 32, bE g4 #[nS, nS, nS] 26, bE g1 #[vD, vN, vH] 26, rdE vD a.Decls, rdE vN a.Nodes, rdE vH a.Hold] H79o15 from ((hS79o15x2.front 2 rfl).front 1 rfl)) (sk (sk (sk (sn (sn (sk (sk (sk (sk (sk (sk (sk (sk (sk (sk (List.Sublist.slnil))))))))))))))))); rw [(turn_get h89 h95).1]; exact h__)⟩
  refine wpF_seq ?_
  refine wpF_region ?_
  refine lq rfl (q_fieldAddr rfl Tryz.underlying52 rfl Tryz.sizeOf24 rfl) ?_
  refine lq rfl (q_loadBlk rfl rfl Tryz.isAgg24 (hS75.blk 0 rfl) rfl (fun h => h)) ?_
  refine la (v := u69n1) rfl rfl rfl ?_
  refine wpL_nil ?_
  refine wpF_seq ?_
  refine wpF_region ?_
  refine lq rfl (q_fieldAddr rfl Tryz.underlying52 rfl Tryz.sizeOf24 rfl) ?_
  refine lo rfl ?_
  refine e_storeBlk (v := nS) rfl rfl rfl rfl Tryz.sizeOf24 (by show _ < 5; decide) hS75 (fun H80 hS81 hxx => ?_)
  refine wpL_nil ?_
  have hS82 : St H0 NoB (SZ S H0) [rowE 3 nS ([] : List Int), bE g71 #[I ((nth a.Nodes k).Op), nS, I ((nth a.Nodes k).N), I ((nth a.Nodes k).D), SB ((nth a.Nodes k).Name)] 52, rdE u69n1 ((nth a.Nodes k).Kids), rowE 52 vn ((turnTo a k).Nodes : List Node), rowE 3 vt ((turnTo a k).To : List Int), bE g62 #[vD, vN, vH, vn, vt] 50, rowE 43 vo (a.Decls.map declA : List Decl), bE g22 #[vo, nS, nS] 26, bE g14 #[I (((sortsF a)).1), I (((sortsF a)).2)] 32, rdE r10 (sorts a), bE g7 #[I (0), I (0)] 32, bE g4 #[nS, nS, nS] 26, bE g1 #[vD, vN, vH] 26, rdE vD a.Decls, rdE vN a.Nodes, rdE vH a.Hold] H80 := hS81.row0 3
  refine wpF_seq ?_
  refine wpF_seq ?_
  refine wpF_region ?_
  refine lm (v := u69n1) rfl rfl rfl ?_
  refine lq rfl (q_lenRd rfl Tryz.underlying24 rfl (hS82.rdl 2 rfl)) ?_
  refine lm (v := I (0)) rfl rfl rfl ?_
  refine wpL_nil ?_
  refine wpF_block ?_
  refine wpF_loop (fun mz f H => ∃ (j : Nat), ∃ (vK : Value), mz = (nth a.Nodes k).Kids.length - j ∧ (j ≤ (nth a.Nodes k).Kids.length) ∧ f 1 = PT g1 0 ∧ f 2 = PT g4 0 ∧ f 3 = PT g7 0 ∧ f 4 = r10 ∧ f 6 = PT g22 0 ∧ f 9 = PT g62 0 ∧ f 11 = PT g71 0 ∧ f 57 = vN ∧ f 58 = I ((a.Nodes.length : Int)) ∧ f 59 = I ((k : Int)) ∧ f 67 = u69n1 ∧ f 68 = I ((((nth a.Nodes k).Kids).length : Int)) ∧ f 69 = I ((j : Int)) ∧ St H0 NoB (SZ S H0) [rowE 3 vK (kidS (turnTo a k).To ((nth a.Nodes k).Kids.take j) : List Int), bE g71 #[I ((nth a.Nodes k).Op), vK, I ((nth a.Nodes k).N), I ((nth a.Nodes k).D), SB ((nth a.Nodes k).Name)] 52, rdE u69n1 ((nth a.Nodes k).Kids), rowE 52 vn ((turnTo a k).Nodes : List Node), rowE 3 vt ((turnTo a k).To : List Int), bE g62 #[vD, vN, vH, vn, vt] 50, rowE 43 vo (a.Decls.map declA : List Decl), bE g22 #[vo, nS, nS] 26, bE g14 #[I (((sortsF a)).1), I (((sortsF a)).2)] 32, rdE r10 (sorts a), bE g7 #[I (0), I (0)] 32, bE g4 #[nS, nS, nS] 26, bE g1 #[vD, vN, vH] 26, rdE vD a.Decls, rdE vN a.Nodes, rdE vH a.Hold] H) ((nth a.Nodes k).Kids.length - 0) ?_ ?_
  ·exact ⟨0, nS, rfl, Nat.zero_le _, y1, y2, y3, y4, y6, y9, rfl, y57, y58, y59, rfl, rfl, (Eq.trans rfl (congrArg I (by omega))), (show St H0 NoB (SZ S H0) [rowE 3 nS (kidS (turnTo a k).To ((nth a.Nodes k).Kids.take 0) : List Int), bE g71 #[I ((nth a.Nodes k).Op), nS, I ((nth a.Nodes k).N), I ((nth a.Nodes k).D), SB ((nth a.Nodes k).Name)] 52, rdE u69n1 ((nth a.Nodes k).Kids), rowE 52 vn ((turnTo a k).Nodes : List Node), rowE 3 vt ((turnTo a k).To : List Int), bE g62 #[vD, vN, vH, vn, vt] 50, rowE 43 vo (a.Decls.map declA : List Decl), bE g22 #[vo, nS, nS] 26, bE g14 #[I (((sortsF a)).1), I (((sortsF a)).2)] 32, rdE r10 (sorts a), bE g7 #[I (0), I (0)] 32, bE g4 #[nS, nS, nS] 26, bE g1 #[vD, vN, vH] 26, rdE vD a.Decls, rdE vN a.Nodes, rdE vH a.Hold] H80 from hS82)⟩
  intro m83 f83 H83 hI83
  clear y1 y2 y3 y4 y57 y58 y59 y6 y9
  obtain ⟨j, vK, hm83, hj, y1, y2, y3, y4, y6, y9, y11, y57, y58, y59, y67, y68, y69, hS83⟩ := hI83
  refine wpF_seq ?_
  refine wpF_region ?_
  refine lq rfl (q_lss rfl y69 y68) ?_
  refine wpL_nil ?_
  refine wpF_seq ?_
  refine wpF_condP rfl (fun hlt5 => ?t93) (fun hlt5 => ?e93)
  case e93 =>
   have hS85 : St H0 NoB (SZ S H0) [rowE 3 vK (kidS (turnTo a k).To (nth a.Nodes k).Kids : List Int), bE g71 #[I ((nth a.Nodes k).Op), vK, I ((nth a.Nodes k).N), I ((nth a.Nodes k).D), SB ((nth a.Nodes k).Name)] 52, rdE u69n1 ((nth a.Nodes k).Kids), rowE 52 vn ((turnTo a k).Nodes : List Node), rowE 3 vt ((turnTo a k).To : List Int), bE g62 #[vD, vN, vH, vn, vt] 50, rowE 43 vo (a.Decls.map declA : List Decl), bE g22 #[vo, nS, nS] 26, bE g14 #[I (((sortsF a)).1), I (((sortsF a)).2)] 32, rdE r10 (sorts a), bE g7 #[I (0), I (0)] 32, bE g4 #[nS, nS, nS] 26, bE g1 #[vD, vN, vH] 26, rdE vD a.Decls, rdE vN a.Nodes, rdE vH a.Hold] H83 := by have h__ := hS83; rw [List.take_of_length_le (show (nth a.Nodes k).Kids.length ≤ j by omega)] at h__; exact h__
   refine wpF_exit ?_
   refine atX_here ?_
   refine wpF_region ?_
   refine lm (v := PT g62 0) rfl rfl y9 ?_
   refine lq rfl (q_loadBlkA rfl y11 Tryz.isAgg52 Tryz.sizeOf52 rfl (hS85.blk 1 rfl) (fun h => h)) ?_
   have hS87 : St H0 NoB (SZ S H0) [rdE vK (kidS (turnTo a k).To (nth a.Nodes k).Kids), bE g71 #[I ((nth a.Nodes k).Op), vK, I ((nth a.Nodes k).N), I ((nth a.Nodes k).D), SB ((nth a.Nodes k).Name)] 52, rdE u69n1 ((nth a.Nodes k).Kids), rowE 52 vn ((turnTo a k).Nodes : List Node), rowE 3 vt ((turnTo a k).To : List Int), bE g62 #[vD, vN, vH, vn, vt] 50, rowE 43 vo (a.Decls.map declA : List Decl), bE g22 #[vo, nS, nS] 26, bE g14 #[I (((sortsF a)).1), I (((sortsF a)).2)] 32, rdE r10 (sorts a), bE g7 #[I (0), I (0)] 32, bE g4 #[nS, nS, nS] 26, bE g1 #[vD, vN, vH] 26, rdE vD a.Decls, rdE vN a.Nodes, rdE vH a.Hold] H83 := St.fin hS85
   have hS88 := (St.drop (show St H0 NoB (SZ S H0) [rowE 52 vn ((turnTo a k).Nodes : List Node), bE g62 #[vD, vN, vH, vn, vt] 50, rdE vK (kidS (turnTo a k).To (nth a.Nodes k).Kids), bE g71 #[I ((nth a.Nodes k).Op), vK, I ((nth a.Nodes k).N), I ((nth a.Nodes k).D), SB ((nth a.Nodes k).Name)] 52, rdE u69n1 ((nth a.Nodes k).Kids), rowE 3 vt ((turnTo a k).To : List Int), rowE 43 vo (a.Decls.map declA : List Decl), bE g22 #[vo, nS, nS] 26, bE g14 #[I (((sortsF a)).1), I (((sortsF a)).2)] 32, rdE r10 (sorts a), bE g7 #[I (0), I (0)] 32, bE g4 #[nS, nS, nS] 26, bE g1 #[vD, vN, vH] 26, rdE vD a.Decls, rdE vN a.Nodes, rdE vH a.Hold] H83 from ((hS87.front 5 rfl).front 4 rfl)) (sk (sk (sk (sk (sk (sk (sk (sk (sk (sk (sk (sk (sk (sk (sk (sk (List.Sublist.slnil))))))))))))))))))
   refine lo rfl ?_
   refine e_call rfl Tryz.call15 (arr2 (v0 := PT g62 0) (v1 := Vg #[I ((nth a.Nodes k).Op), vK, I ((nth a.Nodes k).N), I ((nth a.Nodes k).D), SB ((nth a.Nodes k).Name)]) rfl rfl) (put_M _ g62 vD vN vH vn vt vK ((turnTo a k).Nodes) (Node.mk ((nth a.Nodes k).Op) (kidS (turnTo a k).To (nth a.Nodes k).Kids) ((nth a.Nodes k).N) ((nth a.Nodes k).D) ((nth a.Nodes k).Name)) (St.give (A := [rowE 52 vn ((turnTo a k).Nodes : List Node), bE g62 #[vD, vN, vH, vn, vt] 50]) (L := [rdE vK (kidS (turnTo a k).To (nth a.Nodes k).Kids), bE g71 #[I ((nth a.Nodes k).Op), vK, I ((nth a.Nodes k).N), I ((nth a.Nodes k).D), SB ((nth a.Nodes k).Name)] 52, rdE u69n1 ((nth a.Nodes k).Kids), rowE 3 vt ((turnTo a k).To : List Int), rowE 43 vo (a.Decls.map declA : List Decl), bE g22 #[vo, nS, nS] 26, bE g14 #[I (((sortsF a)).1), I (((sortsF a)).2)] 32, rdE r10 (sorts a), bE g7 #[I (0), I (0)] 32, bE g4 #[nS, nS, nS] 26, bE g1 #[vD, vN, vH] 26, rdE vD a.Decls, rdE vN a.Nodes, rdE vH a.Hold]) hS88) (by first | assumption | (constructor <;> (dsimp only; omega))) (hS88.rdS 2 rfl) (by first | assumption | (constructor <;> (dsimp only; omega))) (by first | assumption | (constructor <;> (dsimp only; omega))) (by first | assumption | exact Nat.zero_le _)  (by first | omega | (simp only [List.length_append, List.length_cons, List.length_nil]; omega))) ?_
   rintro _ H90 ⟨hxx, r89, rfl, hgo⟩
   have hS91 : St H0 NoB (SZ S H0) [rowE 52 r89 (((turnTo a k).Nodes) ++ [(Node.mk ((nth a.Nodes k).Op) (kidS (turnTo a k).To (nth a.Nodes k).Kids) ((nth a.Nodes k).N) ((nth a.Nodes k).D) ((nth a.Nodes k).Name))] : List Node), bE g62 #[vD, vN, vH, r89, vt] 50, rdE vK (kidS (turnTo a k).To (nth a.Nodes k).Kids), bE g71 #[I ((nth a.Nodes k).Op), vK, I ((nth a.Nodes k).N), I ((nth a.Nodes k).D), SB ((nth a.Nodes k).Name)] 52, rdE u69n1 ((nth a.Nodes k).Kids), rowE 3 vt ((turnTo a k).To : List Int), rowE 43 vo (a.Decls.map declA : List Decl), bE g22 #[vo, nS, nS] 26, bE g14 #[I (((sortsF a)).1), I (((sortsF a)).2)] 32, rdE r10 (sorts a), bE g7 #[I (0), I (0)] 32, bE g4 #[nS, nS, nS] 26, bE g1 #[vD, vN, vH] 26, rdE vD a.Decls, rdE vN a.Nodes, rdE vH a.Hold] H90 := St.back3 (A := [rowE 52 vn ((turnTo a k).Nodes : List Node), bE g62 #[vD, vN, vH, vn, vt] 50]) (A' := [rowE 52 r89 (((turnTo a k).Nodes) ++ [(Node.mk ((nth a.Nodes k).Op) (kidS (turnTo a k).To (nth a.Nodes k).Kids) ((nth a.Nodes k).N) ((nth a.Nodes k).D) ((nth a.Nodes k).Name))] : List Node), bE g62 #[vD, vN, vH, r89, vt] 50]) (L := [rdE vK (kidS (turnTo a k).To (nth a.Nodes k).Kids), bE g71 #[I ((nth a.Nodes k).Op), vK, I ((nth a.Nodes k).N), I ((nth a.Nodes k).D), SB ((nth a.Nodes k).Name)] 52, rdE u69n1 ((nth a.Nodes k).Kids), rowE 3 vt ((turnTo a k).To : List Int), rowE 43 vo (a.Decls.map declA : List Decl), bE g22 #[vo, nS, nS] 26, bE g14 #[I (((sortsF a)).1), I (((sortsF a)).2)] 32, rdE r10 (sorts a), bE g7 #[I (0), I (0)] 32, bE g4 #[nS, nS, nS] 26, bE g1 #[vD, vN, vH] 26, rdE vD a.Decls, rdE vN a.Nodes, rdE vH a.Hold]) hS88 hxx hgo
   refine la (v := I ((((turnTo a k).Nodes).length : Int))) rfl rfl rfl ?_
   refine wpL_nil ?_
   exact ⟨r89, (((turnTo a k).Nodes).length : Int), (turn_flat h89 h95).2, (by constructor <;> omega), y1, y2, y3, y4, y6, y9, rfl, y57, y58, y59, (by have h__ := (hS91.drop (sk (sk (sn (sn (sn (sk (sk (sk (sk (sk (sk (sk (sk (sk (sk (sk (List.Sublist.slnil)))))))))))))))))); rw [(turn_flat h89 h95).1]; exact h__)⟩
  have hkj := kid_lt hA (k := k) (by omega) (j := j) (by omega)
  unfold kidN at hkj
  refine wpF_skip ?_
  refine wpF_seq ?_
  refine wpF_block ?_
  refine wpF_seq ?_
  refine wpF_region ?_
  refine lq rfl (q_indexRd (k := j) rfl Tryz.underlying24 el_Int_3_ArrC2 y67 y69 (hS83.rdl 2 rfl) (by omega) (by omega)) ?_
  refine lq rfl (q_loadInt (k := j) rfl rfl el_Int_3_ArrC2 (hS83.rdl 2 rfl) (by omega) (fun _ h => h)) ?_
  refine la (v := I (nth ((nth a.Nodes k).Kids) j)) rfl rfl rfl ?_
  refine wpL_nil ?_
  have h6j := (hS83.rowl 4 rfl).in64 (k := (nth (nth a.Nodes k).Kids j).toNat) (by omega)
  refine wpF_drawn [none, none, none, none, none, none, none, none, none, none, some 0, none, some 1] [[], [], [], [], [], [], [], [], [], [], [], [], []] (fun l b => match l with | 0 => True | 1 => True | _ => False) (by kernel_rfl) (by kernel_rfl) ?_
  refine rq 0 (by kernel_rfl) rfl rfl (q_fieldAddr rfl Tryz.underlying52 rfl Tryz.sizeOf24 y11) ?_
  refine rq 1 (by kernel_rfl) rfl rfl (q_loadBlk rfl rfl Tryz.isAgg24 (hS83.blk 1 rfl) rfl (labU_not [] rfl (fe))) ?_
  refine rq 2 (by kernel_rfl) rfl rfl (q_move (v := PT g62 0) rfl y9) ?_
  refine rq 3 (by kernel_rfl) rfl rfl (q_nilCheck rfl rfl) ?_
  refine rq 4 (by kernel_rfl) rfl rfl (q_fieldAddr rfl Tryz.underlying50 rfl Tryz.sizeOf24 rfl) ?_
  refine rq 5 (by kernel_rfl) rfl rfl (q_loadBlk rfl rfl Tryz.isAgg24 (hS83.blk 5 rfl) rfl (labU_not [] rfl (fe))) ?_
  refine rq 6 (by kernel_rfl) rfl rfl (q_move (v := I (nth ((nth a.Nodes k).Kids) j)) rfl rfl) ?_
  refine rq 7 (by kernel_rfl) rfl rfl (q_indexRd (k := (nth ((nth a.Nodes k).Kids) j).toNat) rfl Tryz.underlying24 el_Int_3_ArrC2 rfl rfl (hS83.rowl 4 rfl) (by omega) (by omega)) ?_
  refine rq 8 (by kernel_rfl) rfl rfl (q_loadInt (k := (nth ((nth a.Nodes k).Kids) j).toNat) rfl rfl el_Int_3_ArrC2 (hS83.rowl 4 rfl) (by omega) (labU_sub [] rfl (fe))) ?_
  refine wpR_n [9] (by kernel_rfl) ?_
  refine fa ?_ fe
  refine exE rfl rfl ?_
  refine e_buildSlice (vs := [I (nth ((turnTo a k).To) ((nth ((nth a.Nodes k).Kids) j).toNat))]) (xs := ([nth ((turnTo a k).To) ((nth ((nth a.Nodes k).Kids) j).toNat)] : List Int)) rfl Tryz.underlying24 Tryz.zeroValue3 rfl Tryz.sizeOf3 (par1 (v0 := I (nth ((turnTo a k).To) ((nth ((nth a.Nodes k).Kids) j).toNat))) rfl) rfl hS83 (RdVs.cons (Rd.int.2 ⟨rfl, by first | assumption | (constructor <;> omega)⟩) (RdVs.nil)) (by decide) (by decide) (fun v86o9 H86o9 hS86o9 hxx hvv86o9 => ?_)
  refine ⟨Ext.mono hxx (fun _ h => h.elim), ?_⟩
  refine wpR_n [10] (by kernel_rfl) ?_
  refine fa ?_ fe
  have hS86o10 : St H0 NoB (SZ S H0) [rdE v86o9 ([nth ((turnTo a k).To) ((nth ((nth a.Nodes k).Kids) j).toNat)] : List Int), rowE 3 vK (kidS (turnTo a k).To ((nth a.Nodes k).Kids.take j) : List Int), bE g71 #[I ((nth a.Nodes k).Op), vK, I ((nth a.Nodes k).N), I ((nth a.Nodes k).D), SB ((nth a.Nodes k).Name)] 52, rdE u69n1 ((nth a.Nodes k).Kids), rowE 52 vn ((turnTo a k).Nodes : List Node), rowE 3 vt ((turnTo a k).To : List Int), bE g62 #[vD, vN, vH, vn, vt] 50, rowE 43 vo (a.Decls.map declA : List Decl), bE g22 #[vo, nS, nS] 26, bE g14 #[I (((sortsF a)).1), I (((sortsF a)).2)] 32, rdE r10 (sorts a), bE g7 #[I (0), I (0)] 32, bE g4 #[nS, nS, nS] 26, bE g1 #[vD, vN, vH] 26, rdE vD a.Decls, rdE vN a.Nodes, rdE vH a.Hold] H86o9 := St.fin hS86o9
  have hS86o10x2 := (hS86o10.front 1 rfl)
  refine exE rfl rfl ?_
  refine e_append rfl Tryz.underlying24 em_Int_3_ArrC2 rfl rfl hS86o10x2 (hS86o10x2.rdS 1 rfl) (fun _ h => h) (by have hb : GoT.bytes Int = 8 := rfl; rw [hb]; simp only [List.length_append, kidS_len, List.length_take, List.length_cons, List.length_nil]; omega) (by decide) (fun v86o10 H86o10 hS86o10x3 hxx => ?_)
  have hS86o10x4 : St H0 NoB (SZ S H0) [rowE 3 v86o10 (kidS (turnTo a k).To ((nth a.Nodes k).Kids.take (j + 1)) : List Int), rdE v86o9 ([nth ((turnTo a k).To) ((nth ((nth a.Nodes k).Kids) j).toNat)] : List Int), bE g71 #[I ((nth a.Nodes k).Op), vK, I ((nth a.Nodes k).N), I ((nth a.Nodes k).D), SB ((nth a.Nodes k).Name)] 52, rdE u69n1 ((nth a.Nodes k).Kids), rowE 52 vn ((turnTo a k).Nodes : List Node), rowE 3 vt ((turnTo a k).To : List Int), bE g62 #[vD, vN, vH, vn, vt] 50, rowE 43 vo (a.Decls.map declA : List Decl), bE g22 #[vo, nS, nS] 26, bE g14 #[I (((sortsF a)).1), I (((sortsF a)).2)] 32, rdE r10 (sorts a), bE g7 #[I (0), I (0)] 32, bE g4 #[nS, nS, nS] 26, bE g1 #[vD, vN, vH] 26, rdE vD a.Decls, rdE vN a.Nodes, rdE vH a.Hold] H86o10 := by rw [show (kidS (turnTo a k).To ((nth a.Nodes k).Kids.take (j + 1))) = ((kidS (turnTo a k).To ((nth a.Nodes k).Kids.take j)) ++ ([nth ((turnTo a k).To) ((nth ((nth a.Nodes k).Kids) j).toNat)])) from (kidS_next (by omega)).symm]; exact hS86o10x3
  refine ⟨Ext.mono hxx (labS_of 0 rfl (fun _ _ => trivial)), ?_⟩
  refine rq 11 (by kernel_rfl) rfl rfl (q_fieldAddr rfl Tryz.underlying52 rfl Tryz.sizeOf24 y11) ?_
  refine wpR_n [12] (by kernel_rfl) ?_
  refine fa ?_ fe
  refine exE rfl rfl ?_
  refine e_storeBlk (v := v86o10) rfl rfl rfl (oneCell_rdL (hS86o10x4.rowl 0 rfl)) Tryz.sizeOf24 (by show _ < 5; decide) (hS86o10x4.front 2 rfl) (fun H86o12 hS86o12 hxx => ?_)
  refine ⟨Ext.mono hxx (labS_of 1 rfl (fun _ _ => trivial)), ?_⟩
  refine wpR_end (by kernel_rfl) ?_
  skip
  refine wpF_region ?_
  refine lq rfl (q_add rfl y69 rfl (by constructor <;> omega)) ?_
  refine lm (v := I ((j : Int) + 1)) rfl rfl rfl ?_
  refine wpL_nil ?_
  refine ⟨_, ?_, j + 1, v86o10, rfl, (by omega), y1, y2, y3, y4, y6, y9, y11, y57, y58, y59, y67, y68, (Eq.trans rfl (congrArg I (by omega))), (St.drop (show St H0 NoB (SZ S H0) [rowE 3 v86o10 (kidS (turnTo a k).To ((nth a.Nodes k).Kids.take (j + 1)) : List Int), bE g71 #[I ((nth a.Nodes k).Op), v86o10, I ((nth a.Nodes k).N), I ((nth a.Nodes k).D), SB ((nth a.Nodes k).Name)] 52, rdE v86o9 ([nth ((turnTo a k).To) ((nth ((nth a.Nodes k).Kids) j).toNat)] : List Int), rdE u69n1 ((nth a.Nodes k).Kids), rowE 52 vn ((turnTo a k).Nodes : List Node), rowE 3 vt ((turnTo a k).To : List Int), bE g62 #[vD, vN, vH, vn, vt] 50, rowE 43 vo (a.Decls.map declA : List Decl), bE g22 #[vo, nS, nS] 26, bE g14 #[I (((sortsF a)).1), I (((sortsF a)).2)] 32, rdE r10 (sorts a), bE g7 #[I (0), I (0)] 32, bE g4 #[nS, nS, nS] 26, bE g1 #[vD, vN, vH] 26, rdE vD a.Decls, rdE vN a.Nodes, rdE vH a.Hold] H86o12 from (hS86o12.front 1 rfl)) (sk (sk (sn (sk (sk (sk (sk (sk (sk (sk (sk (sk (sk (sk (sk (sk (sk (List.Sublist.slnil)))))))))))))))))))⟩
  omega
 clear y1 y2 y3 y4 y57 y58 y59 y6 y9
 rintro f76 H76 ⟨vN2, kk, hto, h6k, y1, y2, y3, y4, y6, y9, y12, y57, y58, y59, hS76⟩
 refine wpF_seq ?_
 refine wpF_region ?_
 refine lm (v := PT g62 0) rfl rfl y9 ?_
 refine lm (v := PT g62 0) rfl rfl y9 ?_
 refine lq rfl (q_nilCheck rfl rfl) ?_
 refine lq rfl (q_fieldAddr rfl Tryz.underlying50 rfl Tryz.sizeOf24 rfl) ?_
 refine lq rfl (q_loadBlk rfl rfl Tryz.isAgg24 (hS76.blk 1 rfl) rfl (fun h => h)) ?_
 refine lm (v := I (kk)) rfl rfl y12 ?_
 refine lo rfl ?_
 refine e_buildSlice (vs := [I (kk)]) (xs := ([kk] : List Int)) rfl Tryz.underlying24 Tryz.zeroValue3 rfl Tryz.sizeOf3 (par1 (v0 := I (kk)) rfl) rfl hS76 (RdVs.cons (Rd.int.2 ⟨rfl, by first | assumption | (constructor <;> omega)⟩) (RdVs.nil)) (by decide) (by decide) (fun v96 H97 hS98 hxx hvv96 => ?_)
 have hS99 : St H0 NoB (SZ S H0) [rdE v96 ([kk] : List Int), rowE 52 vN2 ((turnTo a (k + 1)).Nodes : List Node), bE g62 #[vD, vN, vH, vN2, vt] 50, rowE 3 vt ((turnTo a k).To : List Int), rowE 43 vo (a.Decls.map declA : List Decl), bE g22 #[vo, nS, nS] 26, bE g14 #[I (((sortsF a)).1), I (((sortsF a)).2)] 32, rdE r10 (sorts a), bE g7 #[I (0), I (0)] 32, bE g4 #[nS, nS, nS] 26, bE g1 #[vD, vN, vH] 26, rdE vD a.Decls, rdE vN a.Nodes, rdE vH a.Hold] H97 := St.fin hS98
 have hS100 := (hS99.front 3 rfl)
 refine lo rfl ?_
 refine e_append rfl Tryz.underlying24 em_Int_3_ArrC2 rfl rfl hS100 (hS100.rdS 1 rfl) (fun _ h => h) (by have hb : GoT.bytes Int = 8 := rfl; rw [hb]; simp only [List.length_append, kidS_len, List.length_take, List.length_cons, List.length_nil]; omega) (by decide) (fun v101 H102 hS103 hxx => ?_)
 have hS104 : St H0 NoB (SZ S H0) [rowE 3 v101 ((turnTo a (k + 1)).To : List Int), rdE v96 ([kk] : List Int), rowE 52 vN2 ((turnTo a (k + 1)).Nodes : List Node), bE g62 #[vD, vN, vH, vN2, vt] 50, rowE 43 vo (a.Decls.map declA : List Decl), bE g22 #[vo, nS, nS] 26, bE g14 #[I (((sortsF a)).1), I (((sortsF a)).2)] 32, rdE r10 (sorts a), bE g7 #[I (0), I (0)] 32, bE g4 #[nS, nS, nS] 26, bE g1 #[vD, vN, vH] 26, rdE vD a.Decls, rdE vN a.Nodes, rdE vH a.Hold] H102 := by rw [show ((turnTo a (k + 1)).To) = (((turnTo a k).To) ++ ([kk])) from hto]; exact hS103
 refine lq rfl (q_nilCheck rfl rfl) ?_
 refine lq rfl (q_fieldAddr rfl Tryz.underlying50 rfl Tryz.sizeOf24 rfl) ?_
 refine lo rfl ?_
 refine e_storeBlk (v := v101) rfl rfl rfl (oneCell_rdL (hS104.rowl 0 rfl)) Tryz.sizeOf24 (by show _ < 5; decide) (hS104.front 3 rfl) (fun H105 hS106 hxx => ?_)
 refine wpL_nil ?_
 refine wpF_seq ?_
 refine wpF_region ?_
 refine lm (v := PT g62 0) rfl rfl y9 ?_
 refine lq rfl (q_nilCheck rfl rfl) ?_
 refine lq rfl (q_fieldAddr rfl Tryz.underlying50 rfl Tryz.sizeOf23 rfl) ?_
 refine lq rfl (q_loadBlk rfl rfl Tryz.isAgg23 (hS106.blk 0 rfl) rfl (fun h => h)) ?_
 refine lq rfl (q_lenRd rfl Tryz.underlying23 rfl (hS106.rowl 3 rfl)) ?_
 refine lq rfl (q_gtr rfl rfl rfl) ?_
 refine wpL_nil ?_
 refine wpF_condP rfl (fun h130 => ?t112) (fun h130 => ?e112)
 case e112 =>
  refine wpF_skip ?_
  refine wpF_region ?_
  refine lq rfl (q_add rfl y59 rfl (by constructor <;> omega)) ?_
  refine lm (v := I ((k : Int) + 1)) rfl rfl rfl ?_
  refine wpL_nil ?_
  refine ⟨_, ?_, k + 1, vN2, v101, rfl, (by omega), (by omega), y1, y2, y3, y4, y6, y9, y57, y58, (Eq.trans rfl (congrArg I (by omega))), (St.drop (show St H0 NoB (SZ S H0) [rowE 52 vN2 ((turnTo a (k + 1)).Nodes : List Node), rowE 3 v101 ((turnTo a (k + 1)).To : List Int), bE g62 #[vD, vN, vH, vN2, v101] 50, rdE v96 ([kk] : List Int), rowE 43 vo (a.Decls.map declA : List Decl), bE g22 #[vo, nS, nS] 26, bE g14 #[I (((sortsF a)).1), I (((sortsF a)).2)] 32, rdE r10 (sorts a), bE g7 #[I (0), I (0)] 32, bE g4 #[nS, nS, nS] 26, bE g1 #[vD, vN, vH] 26, rdE vD a.Decls, rdE vN a.Nodes, rdE vH a.Hold] H105 from ((hS106.front 1 rfl).front 3 rfl)) (sk (sk (sk (sn (sk (sk (sk (sk (sk (sk (sk (sk (sk (sk (List.Sublist.slnil))))))))))))))))⟩
  omega
 refine wpF_seq ?_
 refine wpF_region ?_
 refine lq rfl (q_build (v := Vg #[nS, nS, nS]) rfl par0 (fun w__ => by kernel_rfl)) ?_
 refine lq rfl (q_build (v := Vg #[I (10), I (0)]) rfl (par1 (v0 := I (10)) rfl) (fun w__ => by kernel_rfl)) ?_
 refine lo rfl ?_
 refine e_storeBlkA (cs' := #[nS, nS, nS]) rfl y2 rfl Tryz.sizeOf26 rfl rfl (fa rfl (fa rfl (fa rfl fe))) (hS106.front 9 rfl) (fun H108 hS109 hxx => ?_)
 refine lo rfl ?_
 refine e_storeBlkA (cs' := #[I (10), I (0)]) rfl y3 rfl Tryz.sizeOf32 rfl rfl (fa rfl (fa rfl fe)) (hS109.front 9 rfl) (fun H110 hS111 hxx => ?_)
 refine wpL_nil ?_
 refine wpF_ret ?_
 refine ⟨_, resC y2 (loadV_blkA Tryz.isAgg26 Tryz.sizeOf26 rfl (hS111.blk 1 rfl)) (resC y3 (loadV_blkA Tryz.isAgg32 Tryz.sizeOf32 rfl (hS111.blk 0 rfl)) (resN)), hS111.frame, ?_⟩
 show ∃ w0_ w1_ w2_, (Value.tuple #[Vg #[nS, nS, nS], Vg #[I (10), I (0)]]) = Value.tuple #[Vg #[w0_, w1_, w2_], Vg #[I (doF a).1, I (doF a).2]] ∧ Rd (SZ S H0) H110 w0_ (doA a).Decls ∧ Rd (SZ S H0) H110 w1_ (doA a).Nodes ∧ Rd (SZ S H0) H110 w2_ (doA a).Hold
 have hq_ : doF a = _ := doF_much h25 (k := k + 1) (by omega) h130
 have hd_ := doA_bad (a := a) (by rw [hq_]; exact (by decide : (10 : Int) ≠ 0))
 exact ⟨_, _, _, by rw [hq_], by rw [hd_]; exact rdNil, by rw [hd_]; exact rdNil, by rw [hd_]; exact rdNil⟩
end Go.Um
