import Derived.Test.YtacphjgolmolmaaGreatProg
import Derived.Test.YtacphjgolmolmaaGreatAskC1Z
import Derived.Test.YtacphjgolmolmaaGreatUmArrUpB
namespace Go.Um
open Go.Proofs
open GoT (sz ag rdc)
open KeyT (kv)
theorem el_Decl_43_AskC2 : ElT Tryz.prog Decl 43 := ⟨Tryz.isAgg43, Tryz.sizeOf43⟩
theorem el_Int_3_AskC2 : ElT Tryz.prog Int 3 := ⟨Tryz.isAgg3, Tryz.sizeOf3⟩
theorem el_Node_52_AskC2 : ElT Tryz.prog Node 52 := ⟨Tryz.isAgg52, Tryz.sizeOf52⟩
theorem em_Int_3_AskC2 : ElemOk Tryz.prog Int 3 := ⟨Tryz.t3, (.int .i64 0), by kernel_rfl, by kernel_rfl, by kernel_rfl, by kernel_rfl, by kernel_rfl⟩
set_option maxRecDepth 100000 in
theorem Sort_1 {H0 : Heap} (vw : Value) (gx : Nat) (vK : Value) (w K : List Int) (hb : H0[gx]? = some (.cells #[vK] 24)) (rw : Rd NoB H0 vw w) (rK : Rd NoB H0 vK K) : CallsH Tryz.prog 83 #[vw, PT gx 0] H0 (fun rv_ H' => Ext NoB H0 H' ∧ rv_ = B (decide (K = w))) := by
 have hS0 : St H0 NoB NoB [fixE gx (.cells #[vK] 24), rdE vw w, rdE vK K] H0 := St.argFix (St.arg (St.arg (St.start (fun _ h => h.elim)) (Bl0.nil) rK (fun _ h => h)) (Bl0.cons (Bl0.nil)) rw (fun _ h => h)) (Bl0.cons (Bl0.cons (Bl0.nil))) hb (fun h => h)
 refine callsH_of_wpF (args := [vw, PT gx 0]) (rs := [.tmp 3]) Tryz.func83 rfl Tryz.ntmps83 Tryz.results83 (by kernel_rfl) (Nat.le_of_ble_eq_true rfl) ?_
 have y0 : argF [vw, PT gx 0] 0 = vw := rfl
 have y1 : argF [vw, PT gx 0] 1 = PT gx 0 := rfl
 generalize argF [vw, PT gx 0] = f0 at *
 refine wpF_seq ?_
 refine wpF_region ?_
 refine la (v := B (false)) rfl rfl rfl ?_
 refine wpL_nil ?_
 refine wpF_seq ?_
 refine wpF_region ?_
 refine lq rfl (q_loadBlk rfl y1 Tryz.isAgg24 (hS0.fixd 0 rfl) rfl (fun h => h)) ?_
 refine lm (v := vw) rfl rfl y0 ?_
 refine lo rfl ?_
 refine e_call rfl Tryz.call38 (arr2 (v0 := vK) (v1 := vw) rfl rfl) (Equal vK vw _ _ (hS0.rdN 2 rfl) (hS0.rdN 1 rfl)) ?_
 rintro _ H1 ⟨hxx, rfl⟩
 have hS2 := hS0.ext hxx
 refine la (v := B (decide (K = w))) rfl rfl rfl ?_
 refine wpL_nil ?_
 refine wpF_ret ?_
 refine ⟨_, resT rfl resN, hS2.frame, ?_⟩
 show (B (decide (K = w))) = B (decide (K = w))
 rfl
set_option maxHeartbeats 4000000 in
set_option maxRecDepth 100000 in
theorem Sort_L {H0 : Heap} (vk vK vd : Value) (n : Node) (K : List Int) (d : Decl) (h6nOp : In64 n.Op) (rvk : Rd NoB H0 vk n.Kids) (h6nN : In64 n.N) (h6nD : In64 n.D) (h6nName : n.Name.size ≤ maxLen) (rK : Rd NoB H0 vK K) (h6dName : d.Name.size ≤ maxLen) (rvd : Rd NoB H0 vd d.Args) (h6dSrt : In64 d.Srt) (hKl : n.Op ≠ 9 → 0 ≤ kidsN n.Op → (K.length : Int) = kidsN n.Op) (hD : n.Op = 15 → n.D ≤ 8 ∧ 0 ≤ n.D) : CallsH Tryz.prog 54 #[Vg #[I (n.Op), vk, I (n.N), I (n.D), SB (n.Name)], vK, Vg #[SB (d.Name), vd, I (d.Srt)]] H0 (fun rv_ H' => Ext NoB H0 H' ∧ rv_ = I (sortN n K d)) := by
 have hsm := (Rd.list.1 rK).small
 obtain ⟨hK3, hK1, hK2⟩ := kidsLen hKl
 have hS0 : St H0 NoB NoB [rdE vk n.Kids, rdE vK K, rdE vd d.Args] H0 := St.arg (St.arg (St.arg (St.start (fun _ h => h.elim)) (Bl0.nil) rvd (fun _ h => h)) (Bl0.cons (Bl0.nil)) rK (fun _ h => h)) (Bl0.cons (Bl0.cons (Bl0.nil))) rvk (fun _ h => h)
 refine callsH_of_wpF (args := [Vg #[I (n.Op), vk, I (n.N), I (n.D), SB (n.Name)], vK, Vg #[SB (d.Name), vd, I (d.Srt)]]) (rs := [.tmp 6]) Tryz.func54 rfl Tryz.ntmps54 Tryz.results54 (by kernel_rfl) (Nat.le_of_ble_eq_true rfl) ?_
 have y0 : argF [Vg #[I (n.Op), vk, I (n.N), I (n.D), SB (n.Name)], vK, Vg #[SB (d.Name), vd, I (d.Srt)]] 0 = Vg #[I (n.Op), vk, I (n.N), I (n.D), SB (n.Name)] := rfl
 have y1 : argF [Vg #[I (n.Op), vk, I (n.N), I (n.D), SB (n.Name)], vK, Vg #[SB (d.Name), vd, I (d.Srt)]] 1 = vK := rfl
 have y2 : argF [Vg #[I (n.Op), vk, I (n.N), I (n.D), SB (n.Name)], vK, Vg #[SB (d.Name), vd, I (d.Srt)]] 2 = Vg #[SB (d.Name), vd, I (d.Srt)] := rfl
 generalize argF [Vg #[I (n.Op), vk, I (n.N), I (n.D), SB (n.Name)], vK, Vg #[SB (d.Name), vd, I (d.Srt)]] = f0 at *
 refine wpF_seq ?_
 refine wpF_region ?_
 refine lo rfl ?_
 refine e_box (v := Vg #[I (n.Op), vk, I (n.N), I (n.D), SB (n.Name)]) rfl y0 hS0 (fun g1 H2 hS3 hxx => ?_)
 refine lo rfl ?_
 refine e_box (v := vK) rfl y1 hS3 (fun g4 H5 hS6 hxx => ?_)
 rw [cells_rdL (hS3.rdl 2 rfl)] at hS6
 refine lo rfl ?_
 refine e_box (v := Vg #[SB (d.Name), vd, I (d.Srt)]) rfl y2 hS6 (fun g7 H8 hS9 hxx => ?_)
 refine la (v := I (0)) rfl rfl rfl ?_
 refine wpL_nil ?_
 refine wpF_seq ?_
 refine wpF_region ?_
 refine lq rfl (q_makeFunc (fi' := #[]) rfl (by simp) (arr1 (v0 := PT g4 0) rfl)) ?_
 refine la (v := Value.func (.func 83) #[] #[PT g4 0]) rfl rfl rfl ?_
 refine wpL_nil ?_
 refine sc (fun f H => f 3 = PT g1 0 ∧ f 4 = PT g4 0 ∧ f 5 = PT g7 0 ∧ f 7 = Value.func (.func 83) #[] #[PT g4 0] ∧ f 8 = B (decide (((K.length : Int) = 2) ∧ ((nth K 0) = (nth K 1)))) ∧ H8 = H) ?_ ?_
 ·refine wpF_drawn [] [] (fun _ _ => False) (by kernel_rfl) (by kernel_rfl) ?_
  refine rq 0 (by kernel_rfl) rfl rfl (q_loadBlk rfl rfl Tryz.isAgg24 (hS9.blk 1 rfl) rfl (labU_not [] rfl (fe))) ?_
  refine rq 1 (by kernel_rfl) rfl rfl (q_lenRd rfl Tryz.underlying24 rfl (hS9.rdl 4 rfl)) ?_
  refine rq 2 (by kernel_rfl) rfl rfl (q_eql rfl rfl rfl) ?_
  refine rq 3 (by kernel_rfl) rfl rfl (q_move (v := B (decide ((K.length : Int) = 2))) rfl rfl) ?_
  by_cases hg11 : (K.length : Int) = 2
  ·have hb12 := Eq.trans rfl (congrArg B (decide_eq_true hg11))
   refine wpR_q 4 (by kernel_rfl) rfl (quietAt_g rfl rfl rfl rfl hb12 (q_loadBlk rfl rfl Tryz.isAgg24 (hS9.blk 1 rfl) rfl (labU_not [] rfl (fe)))) ?_
   refine wpR_q 5 (by kernel_rfl) rfl (quietAt_g rfl rfl rfl rfl hb12 (q_indexRd (k := 0) rfl Tryz.underlying24 el_Int_3_AskC2 rfl rfl (hS9.rdl 4 rfl) (by omega) (by omega))) ?_
   refine wpR_q 6 (by kernel_rfl) rfl (quietAt_g rfl rfl rfl rfl hb12 (q_loadInt (k := 0) rfl rfl el_Int_3_AskC2 (hS9.rdl 4 rfl) (by omega) (labU_sub [] rfl (fe)))) ?_
   refine wpR_q 7 (by kernel_rfl) rfl (quietAt_g rfl rfl rfl rfl hb12 (q_loadBlk rfl rfl Tryz.isAgg24 (hS9.blk 1 rfl) rfl (labU_not [] rfl (fe)))) ?_
   refine wpR_q 8 (by kernel_rfl) rfl (quietAt_g rfl rfl rfl rfl hb12 (q_indexRd (k := 1) rfl Tryz.underlying24 el_Int_3_AskC2 rfl rfl (hS9.rdl 4 rfl) (by omega) (by omega))) ?_
   refine wpR_q 9 (by kernel_rfl) rfl (quietAt_g rfl rfl rfl rfl hb12 (q_loadInt (k := 1) rfl rfl el_Int_3_AskC2 (hS9.rdl 4 rfl) (by omega) (labU_sub [] rfl (fe)))) ?_
   refine wpR_q 10 (by kernel_rfl) rfl (quietAt_g rfl rfl rfl rfl hb12 (q_eql rfl rfl rfl)) ?_
   refine rq 11 (by kernel_rfl) rfl rfl (q_pickT (v := B (decide ((nth K 0) = (nth K 1)))) rfl hb12 rfl) ?_
   refine rq 12 (by kernel_rfl) rfl rfl (q_assign (v := B (decide ((nth K 0) = (nth K 1)))) rfl rfl) ?_
   refine wpR_end (by kernel_rfl) ?_
   exact ⟨rfl, rfl, rfl, rfl, (Eq.trans rfl (congrArg B (decide_congr_of ((Iff.rfl).trans (((and_iff_right hg11).trans Iff.rfl)).symm)))), rfl⟩
  ·have hb13 := Eq.trans rfl (congrArg B (decide_eq_false hg11))
   refine wpR_q 4 (by kernel_rfl) rfl (quietAt_s rfl rfl rfl rfl hb13 rfl) ?_
   refine wpR_q 5 (by kernel_rfl) rfl (quietAt_s rfl rfl rfl rfl hb13 rfl) ?_
   refine wpR_q 6 (by kernel_rfl) rfl (quietAt_s rfl rfl rfl rfl hb13 rfl) ?_
   refine wpR_q 7 (by kernel_rfl) rfl (quietAt_s rfl rfl rfl rfl hb13 rfl) ?_
   refine wpR_q 8 (by kernel_rfl) rfl (quietAt_s rfl rfl rfl rfl hb13 rfl) ?_
   refine wpR_q 9 (by kernel_rfl) rfl (quietAt_s rfl rfl rfl rfl hb13 rfl) ?_
   refine wpR_q 10 (by kernel_rfl) rfl (quietAt_s rfl rfl rfl rfl hb13 rfl) ?_
   refine rq 11 (by kernel_rfl) rfl rfl (q_pickF (v := B (false)) rfl hb13 rfl) ?_
   refine rq 12 (by kernel_rfl) rfl rfl (q_assign (v := B (false)) rfl rfl) ?_
   refine wpR_end (by kernel_rfl) ?_
   exact ⟨rfl, rfl, rfl, rfl, (Eq.trans rfl (congrArg B ((decide_eq_false (fun h => hg11 h.1)).symm))), rfl⟩
 rintro f14 _ ⟨y3, y4, y5, y7, y8, rfl⟩
 refine wpF_seq ?_
 refine wpF_region ?_
 refine la (v := B (false)) rfl rfl rfl ?_
 refine la (v := I (1)) rfl rfl rfl ?_
 refine wpL_nil ?_
 refine wpF_seq ?_
 refine wpF_seq ?_
 refine wpF_region ?_
 refine lq rfl (q_fieldAddr rfl Tryz.underlying52 rfl Tryz.sizeOf3 y3) ?_
 refine lq rfl (q_loadBlk rfl rfl Tryz.isAgg3 (hS9.blk 2 rfl) rfl (fun h => h)) ?_
 refine wpL_nil ?_
 refine wpF_cut (fun f H => f 9 = B (okS n K d) ∧ f 10 = I (outS n K d) ∧ St H0 NoB NoB [bE g7 #[SB (d.Name), vd, I (d.Srt)] 43, bE g4 #[vK] 24, bE g1 #[I (n.Op), vk, I (n.N), I (n.D), SB (n.Name)] 52, rdE vk n.Kids, rdE vK K, rdE vd d.Args] H) ?_ ?_
 ·refine wpF_block ?_
  refine wpF_seq ?_
  refine wpF_seq ?_
  refine wpF_region ?_
  refine lq rfl (q_eql rfl rfl rfl) ?_
  refine la (v := B (decide (n.Op = 1))) rfl rfl rfl ?_
  refine wpL_nil ?_
  refine wpF_condP rfl (fun hp16 => ?t169) (fun hp16 => ?e169)
  case t169 =>
   refine wpF_skip ?_
   refine wpF_condT (Eq.trans rfl (congrArg B (decide_eq_true hp16))) ?_
   refine wpF_region ?_
   refine la (v := B (true)) rfl rfl rfl ?_
   refine wpL_nil ?_
   exact ⟨(Eq.trans rfl (congrArg B (by rw [okS, hp16]; rfl))), (Eq.trans rfl (congrArg I (by rw [outS, hp16]; rfl))), hS9⟩
  refine wpF_region ?_
  refine lq rfl (q_eql rfl rfl rfl) ?_
  refine la (v := B (decide (n.Op = 2))) rfl rfl rfl ?_
  refine wpL_nil ?_
  refine wpF_condP rfl (fun hp17 => ?t168) (fun hp17 => ?e168)
  case t168 =>
   refine wpF_region ?_
   refine la (v := B (true)) rfl rfl rfl ?_
   refine wpL_nil ?_
   exact ⟨(Eq.trans rfl (congrArg B (by rw [okS, hp17]; rfl))), (Eq.trans rfl (congrArg I (by rw [outS, hp17]; rfl))), hS9⟩
  refine wpF_seq ?_
  refine wpF_seq ?_
  refine wpF_region ?_
  refine lq rfl (q_eql rfl rfl rfl) ?_
  refine la (v := B (decide (n.Op = 3))) rfl rfl rfl ?_
  refine wpL_nil ?_
  refine wpF_condP rfl (fun hp18 => ?t167) (fun hp18 => ?e167)
  case t167 =>
   refine wpF_skip ?_
   refine wpF_condT (Eq.trans rfl (congrArg B (decide_eq_true hp18))) ?_
   refine wpF_region ?_
   refine lq rfl (q_loadBlk rfl y4 Tryz.isAgg24 (hS9.blk 1 rfl) rfl (fun h => h)) ?_
   refine lo rfl ?_
   refine e_call rfl Tryz.call84 (arr2 (v0 := vK) (v1 := Value.func (.func 85) #[] #[]) rfl rfl) (all_L vK (Value.func (.func 85) #[] #[]) K oneB (hS9.rdN 4 rfl) rfl (fun x hx H hE => ⟨_, _, rfl, Tryz.call85, Sort_2 x⟩)) ?_
   rintro _ H19 ⟨hxx, rfl⟩
   have hS20 := hS9.ext hxx
   refine la (v := B (K.all oneB)) rfl rfl rfl ?_
   refine wpL_nil ?_
   exact ⟨(Eq.trans rfl (congrArg B (by rw [okS, hp18]; rfl))), (Eq.trans rfl (congrArg I (by rw [outS, hp18]; rfl))), hS20⟩
  refine wpF_seq ?_
  refine wpF_region ?_
  refine lq rfl (q_eql rfl rfl rfl) ?_
  refine la (v := B (decide (n.Op = 4))) rfl rfl rfl ?_
  refine wpL_nil ?_
  refine wpF_condP rfl (fun hp22 => ?t166) (fun hp22 => ?e166)
  case t166 =>
   refine wpF_skip ?_
   refine wpF_condT (Eq.trans rfl (congrArg B (decide_eq_true hp22))) ?_
   refine wpF_region ?_
   refine lq rfl (q_loadBlk rfl y4 Tryz.isAgg24 (hS9.blk 1 rfl) rfl (fun h => h)) ?_
   refine lo rfl ?_
   refine e_call rfl Tryz.call84 (arr2 (v0 := vK) (v1 := Value.func (.func 85) #[] #[]) rfl rfl) (all_L vK (Value.func (.func 85) #[] #[]) K oneB (hS9.rdN 4 rfl) rfl (fun x hx H hE => ⟨_, _, rfl, Tryz.call85, Sort_2 x⟩)) ?_
   rintro _ H23 ⟨hxx, rfl⟩
   have hS24 := hS9.ext hxx
   refine la (v := B (K.all oneB)) rfl rfl rfl ?_
   refine wpL_nil ?_
   exact ⟨(Eq.trans rfl (congrArg B (by rw [okS, hp22]; rfl))), (Eq.trans rfl (congrArg I (by rw [outS, hp22]; rfl))), hS24⟩
  refine wpF_seq ?_
  refine wpF_region ?_
  refine lq rfl (q_eql rfl rfl rfl) ?_
  refine la (v := B (decide (n.Op = 5))) rfl rfl rfl ?_
  refine wpL_nil ?_
  refine wpF_condP rfl (fun hp26 => ?t165) (fun hp26 => ?e165)
  case t165 =>
   refine wpF_skip ?_
   refine wpF_condT (Eq.trans rfl (congrArg B (decide_eq_true hp26))) ?_
   refine wpF_region ?_
   refine lq rfl (q_loadBlk rfl y4 Tryz.isAgg24 (hS9.blk 1 rfl) rfl (fun h => h)) ?_
   refine lo rfl ?_
   refine e_call rfl Tryz.call84 (arr2 (v0 := vK) (v1 := Value.func (.func 85) #[] #[]) rfl rfl) (all_L vK (Value.func (.func 85) #[] #[]) K oneB (hS9.rdN 4 rfl) rfl (fun x hx H hE => ⟨_, _, rfl, Tryz.call85, Sort_2 x⟩)) ?_
   rintro _ H27 ⟨hxx, rfl⟩
   have hS28 := hS9.ext hxx
   refine la (v := B (K.all oneB)) rfl rfl rfl ?_
   refine wpL_nil ?_
   exact ⟨(Eq.trans rfl (congrArg B (by rw [okS, hp26]; rfl))), (Eq.trans rfl (congrArg I (by rw [outS, hp26]; rfl))), hS28⟩
  refine wpF_region ?_
  refine lq rfl (q_eql rfl rfl rfl) ?_
  refine la (v := B (decide (n.Op = 6))) rfl rfl rfl ?_
  refine wpL_nil ?_
  refine wpF_condP rfl (fun hp30 => ?t164) (fun hp30 => ?e164)
  case t164 =>
   refine wpF_region ?_
   refine lq rfl (q_loadBlk rfl y4 Tryz.isAgg24 (hS9.blk 1 rfl) rfl (fun h => h)) ?_
   refine lo rfl ?_
   refine e_call rfl Tryz.call84 (arr2 (v0 := vK) (v1 := Value.func (.func 85) #[] #[]) rfl rfl) (all_L vK (Value.func (.func 85) #[] #[]) K oneB (hS9.rdN 4 rfl) rfl (fun x hx H hE => ⟨_, _, rfl, Tryz.call85, Sort_2 x⟩)) ?_
   rintro _ H31 ⟨hxx, rfl⟩
   have hS32 := hS9.ext hxx
   refine la (v := B (K.all oneB)) rfl rfl rfl ?_
   refine wpL_nil ?_
   exact ⟨(Eq.trans rfl (congrArg B (by rw [okS, hp30]; rfl))), (Eq.trans rfl (congrArg I (by rw [outS, hp30]; rfl))), hS32⟩
  refine wpF_seq ?_
  refine wpF_region ?_
  refine lq rfl (q_eql rfl rfl rfl) ?_
  refine la (v := B (decide (n.Op = 7))) rfl rfl rfl ?_
  refine wpL_nil ?_
  refine wpF_condP rfl (fun hp34 => ?t163) (fun hp34 => ?e163)
  case t163 =>
   refine wpF_cut (fun f H => f 9 = B (decide ((((nth K 0) = 1) ∧ ((nth K 1) = (nth K 2))) ∧ ((nth K 1) ≠ 5))) ∧ f 10 = I (nth K 1) ∧ H8 = H) ?_ ?_
   ·refine wpF_drawn [] [] (fun _ _ => False) (by kernel_rfl) (by kernel_rfl) ?_
    refine rq 0 (by kernel_rfl) rfl rfl (q_loadBlk rfl y4 Tryz.isAgg24 (hS9.blk 1 rfl) rfl (labU_not [] rfl (fe))) ?_
    refine rq 1 (by kernel_rfl) rfl rfl (q_indexRd (k := 0) rfl Tryz.underlying24 el_Int_3_AskC2 rfl rfl (hS9.rdl 4 rfl) (by omega) (by omega)) ?_
    refine rq 2 (by kernel_rfl) rfl rfl (q_loadInt (k := 0) rfl rfl el_Int_3_AskC2 (hS9.rdl 4 rfl) (by omega) (labU_sub [] rfl (fe))) ?_
    refine rq 3 (by kernel_rfl) rfl rfl (q_eql rfl rfl rfl) ?_
    refine rq 4 (by kernel_rfl) rfl rfl (q_move (v := B (decide ((nth K 0) = 1))) rfl rfl) ?_
    by_cases hg36 : (nth K 0) = 1
    ·have hb37 := Eq.trans rfl (congrArg B (decide_eq_true hg36))
     refine wpR_q 5 (by kernel_rfl) rfl (quietAt_g rfl rfl rfl rfl hb37 (q_loadBlk rfl y4 Tryz.isAgg24 (hS9.blk 1 rfl) rfl (labU_not [] rfl (fe)))) ?_
     refine wpR_q 6 (by kernel_rfl) rfl (quietAt_g rfl rfl rfl rfl hb37 (q_indexRd (k := 1) rfl Tryz.underlying24 el_Int_3_AskC2 rfl rfl (hS9.rdl 4 rfl) (by omega) (by omega))) ?_
     refine wpR_q 7 (by kernel_rfl) rfl (quietAt_g rfl rfl rfl rfl hb37 (q_loadInt (k := 1) rfl rfl el_Int_3_AskC2 (hS9.rdl 4 rfl) (by omega) (labU_sub [] rfl (fe)))) ?_
     refine wpR_q 8 (by kernel_rfl) rfl (quietAt_g rfl rfl rfl rfl hb37 (q_loadBlk rfl y4 Tryz.isAgg24 (hS9.blk 1 rfl) rfl (labU_not [] rfl (fe)))) ?_
     refine wpR_q 9 (by kernel_rfl) rfl (quietAt_g rfl rfl rfl rfl hb37 (q_indexRd (k := 2) rfl Tryz.underlying24 el_Int_3_AskC2 rfl rfl (hS9.rdl 4 rfl) (by omega) (by omega))) ?_
     refine wpR_q 10 (by kernel_rfl) rfl (quietAt_g rfl rfl rfl rfl hb37 (q_loadInt (k := 2) rfl rfl el_Int_3_AskC2 (hS9.rdl 4 rfl) (by omega) (labU_sub [] rfl (fe)))) ?_
     refine wpR_q 11 (by kernel_rfl) rfl (quietAt_g rfl rfl rfl rfl hb37 (q_eql rfl rfl rfl)) ?_
     refine rq 12 (by kernel_rfl) rfl rfl (q_pickT (v := B (decide ((nth K 1) = (nth K 2)))) rfl hb37 rfl) ?_
     refine rq 13 (by kernel_rfl) rfl rfl (q_move (v := B (decide ((nth K 1) = (nth K 2)))) rfl rfl) ?_
     by_cases hg39 : (nth K 1) = (nth K 2)
     ·have hb40 := Eq.trans rfl (congrArg B (decide_eq_true hg39))
      refine wpR_q 14 (by kernel_rfl) rfl (quietAt_g rfl rfl rfl rfl hb40 (q_loadBlk rfl y4 Tryz.isAgg24 (hS9.blk 1 rfl) rfl (labU_not [] rfl (fe)))) ?_
      refine wpR_q 15 (by kernel_rfl) rfl (quietAt_g rfl rfl rfl rfl hb40 (q_indexRd (k := 1) rfl Tryz.underlying24 el_Int_3_AskC2 rfl rfl (hS9.rdl 4 rfl) (by omega) (by omega))) ?_
      refine wpR_q 16 (by kernel_rfl) rfl (quietAt_g rfl rfl rfl rfl hb40 (q_loadInt (k := 1) rfl rfl el_Int_3_AskC2 (hS9.rdl 4 rfl) (by omega) (labU_sub [] rfl (fe)))) ?_
      refine wpR_q 17 (by kernel_rfl) rfl (quietAt_g rfl rfl rfl rfl hb40 (q_neq rfl rfl rfl)) ?_
      refine rq 18 (by kernel_rfl) rfl rfl (q_pickT (v := B (decide ((nth K 1) ≠ 5))) rfl hb40 rfl) ?_
      refine rq 19 (by kernel_rfl) rfl rfl (q_loadBlk rfl y4 Tryz.isAgg24 (hS9.blk 1 rfl) rfl (labU_not [] rfl (fe))) ?_
      refine rq 20 (by kernel_rfl) rfl rfl (q_indexRd (k := 1) rfl Tryz.underlying24 el_Int_3_AskC2 rfl rfl (hS9.rdl 4 rfl) (by omega) (by omega)) ?_
      refine rq 21 (by kernel_rfl) rfl rfl (q_loadInt (k := 1) rfl rfl el_Int_3_AskC2 (hS9.rdl 4 rfl) (by omega) (labU_sub [] rfl (fe))) ?_
      refine rq 22 (by kernel_rfl) rfl rfl (q_assign (v := B (decide ((nth K 1) ≠ 5))) rfl rfl) ?_
      refine rq 23 (by kernel_rfl) rfl rfl (q_assign (v := I (nth K 1)) rfl rfl) ?_
      refine wpR_end (by kernel_rfl) ?_
      exact ⟨(Eq.trans rfl (congrArg B (decide_congr_of ((Iff.rfl).trans (((and_iff_right ⟨hg36, hg39⟩).trans Iff.rfl)).symm)))), rfl, rfl⟩
     ·have hb41 := Eq.trans rfl (congrArg B (decide_eq_false hg39))
      refine wpR_q 14 (by kernel_rfl) rfl (quietAt_s rfl rfl rfl rfl hb41 rfl) ?_
      refine wpR_q 15 (by kernel_rfl) rfl (quietAt_s rfl rfl rfl rfl hb41 rfl) ?_
      refine wpR_q 16 (by kernel_rfl) rfl (quietAt_s rfl rfl rfl rfl hb41 rfl) ?_
      refine wpR_q 17 (by kernel_rfl) rfl (quietAt_s rfl rfl rfl rfl hb41 rfl) ?_
      refine rq 18 (by kernel_rfl) rfl rfl (q_pickF (v := B (false)) rfl hb41 rfl) ?_
      refine rq 19 (by kernel_rfl) rfl rfl (q_loadBlk rfl y4 Tryz.isAgg24 (hS9.blk 1 rfl) rfl (labU_not [] rfl (fe))) ?_
      refine rq 20 (by kernel_rfl) rfl rfl (q_indexRd (k := 1) rfl Tryz.underlying24 el_Int_3_AskC2 rfl rfl (hS9.rdl 4 rfl) (by omega) (by omega)) ?_
      refine rq 21 (by kernel_rfl) rfl rfl (q_loadInt (k := 1) rfl rfl el_Int_3_AskC2 (hS9.rdl 4 rfl) (by omega) (labU_sub [] rfl (fe))) ?_
      refine rq 22 (by kernel_rfl) rfl rfl (q_assign (v := B (false)) rfl rfl) ?_
      refine rq 23 (by kernel_rfl) rfl rfl (q_assign (v := I (nth K 1)) rfl rfl) ?_
      refine wpR_end (by kernel_rfl) ?_
      exact ⟨(Eq.trans rfl (congrArg B ((decide_eq_false (fun h => (fun h => hg39 h.2) h.1)).symm))), rfl, rfl⟩
    ·have hb38 := Eq.trans rfl (congrArg B (decide_eq_false hg36))
     refine wpR_q 5 (by kernel_rfl) rfl (quietAt_s rfl rfl rfl rfl hb38 rfl) ?_
     refine wpR_q 6 (by kernel_rfl) rfl (quietAt_s rfl rfl rfl rfl hb38 rfl) ?_
     refine wpR_q 7 (by kernel_rfl) rfl (quietAt_s rfl rfl rfl rfl hb38 rfl) ?_
     refine wpR_q 8 (by kernel_rfl) rfl (quietAt_s rfl rfl rfl rfl hb38 rfl) ?_
     refine wpR_q 9 (by kernel_rfl) rfl (quietAt_s rfl rfl rfl rfl hb38 rfl) ?_
     refine wpR_q 10 (by kernel_rfl) rfl (quietAt_s rfl rfl rfl rfl hb38 rfl) ?_
     refine wpR_q 11 (by kernel_rfl) rfl (quietAt_s rfl rfl rfl rfl hb38 rfl) ?_
     refine rq 12 (by kernel_rfl) rfl rfl (q_pickF (v := B (false)) rfl hb38 rfl) ?_
     refine rq 13 (by kernel_rfl) rfl rfl (q_move (v := B (false)) rfl rfl) ?_
     refine wpR_q 14 (by kernel_rfl) rfl (quietAt_s rfl rfl rfl rfl rfl rfl) ?_
     refine wpR_q 15 (by kernel_rfl) rfl (quietAt_s rfl rfl rfl rfl rfl rfl) ?_
     refine wpR_q 16 (by kernel_rfl) rfl (quietAt_s rfl rfl rfl rfl rfl rfl) ?_
     refine wpR_q 17 (by kernel_rfl) rfl (quietAt_s rfl rfl rfl rfl rfl rfl) ?_
     refine rq 18 (by kernel_rfl) rfl rfl (q_pickF (v := B (false)) rfl rfl rfl) ?_
     refine rq 19 (by kernel_rfl) rfl rfl (q_loadBlk rfl y4 Tryz.isAgg24 (hS9.blk 1 rfl) rfl (labU_not [] rfl (fe))) ?_
     refine rq 20 (by kernel_rfl) rfl rfl (q_indexRd (k := 1) rfl Tryz.underlying24 el_Int_3_AskC2 rfl rfl (hS9.rdl 4 rfl) (by omega) (by omega)) ?_
     refine rq 21 (by kernel_rfl) rfl rfl (q_loadInt (k := 1) rfl rfl el_Int_3_AskC2 (hS9.rdl 4 rfl) (by omega) (labU_sub [] rfl (fe))) ?_
     refine rq 22 (by kernel_rfl) rfl rfl (q_assign (v := B (false)) rfl rfl) ?_
     refine rq 23 (by kernel_rfl) rfl rfl (q_assign (v := I (nth K 1)) rfl rfl) ?_
     refine wpR_end (by kernel_rfl) ?_
     exact ⟨(Eq.trans rfl (congrArg B ((decide_eq_false (fun h => (fun h => hg36 h.1) h.1)).symm))), rfl, rfl⟩
   clear y3 y4 y5 y7 y8
   rintro f42 _ ⟨y9, y10, rfl⟩
   exact ⟨(Eq.trans y9 (congrArg B (by rw [okS, hp34]; rfl))), (Eq.trans y10 (congrArg I (by rw [outS, hp34]; rfl))), hS9⟩
  refine wpF_seq ?_
  refine wpF_region ?_
  refine lq rfl (q_eql rfl rfl rfl) ?_
  refine la (v := B (decide (n.Op = 8))) rfl rfl rfl ?_
  refine wpL_nil ?_
  refine wpF_condP rfl (fun hp43 => ?t162) (fun hp43 => ?e162)
  case t162 =>
   refine wpF_cut (fun f H => f 9 = B (decide (((K.all numB') = true) ∨ ((((K.length : Int) = 2) ∧ ((nth K 0) = (nth K 1))) ∧ (((nth K 0) = 4) ∨ (wordS (nth K 0)))))) ∧ f 10 = I (1) ∧ St H0 NoB NoB [bE g7 #[SB (d.Name), vd, I (d.Srt)] 43, bE g4 #[vK] 24, bE g1 #[I (n.Op), vk, I (n.N), I (n.D), SB (n.Name)] 52, rdE vk n.Kids, rdE vK K, rdE vd d.Args] H) ?_ ?_
   ·refine wpF_region ?_
    refine lq rfl (q_loadBlk rfl y4 Tryz.isAgg24 (hS9.blk 1 rfl) rfl (fun h => h)) ?_
    refine lo rfl ?_
    refine e_call rfl Tryz.call84 (arr2 (v0 := vK) (v1 := Value.func (.func 86) #[] #[]) rfl rfl) (all_L vK (Value.func (.func 86) #[] #[]) K numB' (hS9.rdN 4 rfl) rfl (fun x hx H hE => ⟨_, _, rfl, Tryz.call86, numeric_L x⟩)) ?_
    rintro _ H44 ⟨hxx, rfl⟩
    have hS45 := hS9.ext hxx
    refine lm (v := B (K.all numB')) rfl rfl rfl ?_
    by_cases hg47 : (K.all numB') = true
    ·have hb48 := Eq.trans rfl (congrArg B hg47)
     refine wpL_gs rfl rfl rfl hb48 rfl ?_
     refine wpL_gs rfl rfl rfl hb48 rfl ?_
     refine wpL_gs' rfl rfl rfl rfl ?_
     refine wpL_gs' rfl rfl rfl rfl ?_
     refine wpL_gs' rfl rfl rfl rfl ?_
     refine wpL_gs' rfl rfl rfl rfl ?_
     refine wpL_gs' rfl rfl rfl rfl ?_
     refine wpL_gs' rfl rfl rfl rfl ?_
     refine wpL_gs' rfl rfl rfl rfl ?_
     refine wpL_gs' rfl rfl rfl rfl ?_
     refine wpL_gs' rfl rfl rfl rfl ?_
     refine wpL_gs' rfl rfl rfl rfl ?_
     refine wpL_gs rfl rfl rfl hb48 rfl ?_
     refine lq rfl (q_pickT (v := B (true)) rfl hb48 rfl) ?_
     refine la (v := B (true)) rfl rfl rfl ?_
     exact ⟨(Eq.trans rfl (congrArg B ((decide_eq_true (Or.inl hg47)).symm))), rfl, hS45⟩
    ·have hb49 := Eq.trans rfl (congrArg B (Bool.eq_false_iff.2 hg47))
     refine gq rfl rfl rfl hb49 (q_move (v := B (decide (((K.length : Int) = 2) ∧ ((nth K 0) = (nth K 1))))) rfl y8) ?_
     refine gq rfl rfl rfl hb49 (q_move (v := B (decide (((K.length : Int) = 2) ∧ ((nth K 0) = (nth K 1))))) rfl rfl) ?_
     by_cases hg50 : ((K.length : Int) = 2) ∧ ((nth K 0) = (nth K 1))
     ·have hb51 := Eq.trans rfl (congrArg B (decide_eq_true hg50))
      refine gq rfl rfl rfl hb51 (q_loadBlk rfl y4 Tryz.isAgg24 (hS45.blk 1 rfl) rfl (fun h => h)) ?_
      refine gq rfl rfl rfl hb51 (q_indexRd (k := 0) rfl Tryz.underlying24 el_Int_3_AskC2 rfl rfl (hS45.rdl 4 rfl) (by omega) (by omega)) ?_
      refine gq rfl rfl rfl hb51 (q_loadInt (k := 0) rfl rfl el_Int_3_AskC2 (hS45.rdl 4 rfl) (by omega) (fun _ h => h)) ?_
      refine gq rfl rfl rfl hb51 (q_eql rfl rfl rfl) ?_
      refine gq rfl rfl rfl hb51 (q_move (v := B (decide ((nth K 0) = 4))) rfl rfl) ?_
      by_cases hg53 : (nth K 0) = 4
      ·have hb54 := Eq.trans rfl (congrArg B (decide_eq_true hg53))
       refine wpL_gs rfl rfl rfl hb54 rfl ?_
       refine wpL_gs rfl rfl rfl hb54 rfl ?_
       refine wpL_gs rfl rfl rfl hb54 rfl ?_
       refine wpL_gs rfl rfl rfl hb54 rfl ?_
       refine gq rfl rfl rfl hb51 (q_pickT (v := B (true)) rfl hb54 rfl) ?_
       refine gq rfl rfl rfl hb49 (q_pickT (v := B (true)) rfl hb51 rfl) ?_
       refine lq rfl (q_pickF (v := B (true)) rfl hb49 rfl) ?_
       refine la (v := B (true)) rfl rfl rfl ?_
       exact ⟨(Eq.trans rfl (congrArg B ((decide_eq_true (Or.inr ⟨hg50, (Or.inl hg53)⟩)).symm))), rfl, hS45⟩
      ·have hb55 := Eq.trans rfl (congrArg B (decide_eq_false hg53))
       refine gq rfl rfl rfl hb55 (q_loadBlk rfl y4 Tryz.isAgg24 (hS45.blk 1 rfl) rfl (fun h => h)) ?_
       refine gq rfl rfl rfl hb55 (q_indexRd (k := 0) rfl Tryz.underlying24 el_Int_3_AskC2 rfl rfl (hS45.rdl 4 rfl) (by omega) (by omega)) ?_
       refine gq rfl rfl rfl hb55 (q_loadInt (k := 0) rfl rfl el_Int_3_AskC2 (hS45.rdl 4 rfl) (by omega) (fun _ h => h)) ?_
       refine wpL_go rfl rfl rfl hb55 ?_
       refine e_call rfl Tryz.call42 (arr1 (v0 := I (nth K 0)) rfl) (Word_L (nth K 0)) ?_
       rintro _ H56 ⟨hxx, rfl⟩
       have hS57 := hS45.ext hxx
       refine gq rfl rfl rfl hb51 (q_pickF (v := B (decide (wordS (nth K 0)))) rfl hb55 rfl) ?_
       refine gq rfl rfl rfl hb49 (q_pickT (v := B (decide (wordS (nth K 0)))) rfl hb51 rfl) ?_
       refine lq rfl (q_pickF (v := B (decide (wordS (nth K 0)))) rfl hb49 rfl) ?_
       refine la (v := B (decide (wordS (nth K 0)))) rfl rfl rfl ?_
       exact ⟨(Eq.trans rfl (congrArg B (decide_congr_of ((Iff.rfl).trans (((or_iff_right hg47).trans ((and_iff_right hg50).trans ((or_iff_right hg53).trans Iff.rfl)))).symm)))), rfl, hS57⟩
     ·have hb52 := Eq.trans rfl (congrArg B (decide_eq_false hg50))
      refine wpL_gs rfl rfl rfl hb52 rfl ?_
      refine wpL_gs rfl rfl rfl hb52 rfl ?_
      refine wpL_gs rfl rfl rfl hb52 rfl ?_
      refine wpL_gs rfl rfl rfl hb52 rfl ?_
      refine wpL_gs rfl rfl rfl hb52 rfl ?_
      refine wpL_gs' rfl rfl rfl rfl ?_
      refine wpL_gs' rfl rfl rfl rfl ?_
      refine wpL_gs' rfl rfl rfl rfl ?_
      refine wpL_gs' rfl rfl rfl rfl ?_
      refine wpL_gs rfl rfl rfl hb52 rfl ?_
      refine gq rfl rfl rfl hb49 (q_pickF (v := B (false)) rfl hb52 rfl) ?_
      refine lq rfl (q_pickF (v := B (false)) rfl hb49 rfl) ?_
      refine la (v := B (false)) rfl rfl rfl ?_
      exact ⟨(Eq.trans rfl (congrArg B ((decide_eq_false (not_or.2 ⟨hg47, (fun h => hg50 h.1)⟩)).symm))), rfl, hS45⟩
   clear y3 y4 y5 y7 y8
   rintro f59 H59 ⟨y9, y10, hS59⟩
   exact ⟨(Eq.trans y9 (congrArg B (by rw [okS, hp43]; rfl))), (Eq.trans y10 (congrArg I (by rw [outS, hp43]; rfl))), hS59⟩
  refine wpF_seq ?_
  refine wpF_region ?_
  refine lq rfl (q_eql rfl rfl rfl) ?_
  refine la (v := B (decide (n.Op = 9))) rfl rfl rfl ?_
  refine wpL_nil ?_
  refine wpF_condP rfl (fun hp60 => ?t161) (fun hp60 => ?e161)
  case t161 =>
   refine wpF_drawn [] [] (fun _ _ => False) (by kernel_rfl) (by kernel_rfl) ?_
   refine rq 0 (by kernel_rfl) rfl rfl (q_move (v := Value.func (.func 83) #[] #[PT g4 0]) rfl y7) ?_
   refine rq 1 (by kernel_rfl) rfl rfl (q_fieldAddr rfl Tryz.underlying43 rfl Tryz.sizeOf24 y5) ?_
   refine rq 2 (by kernel_rfl) rfl rfl (q_loadBlk rfl rfl Tryz.isAgg24 (hS9.blk 0 rfl) rfl (labU_not [] rfl (fe))) ?_
   refine rq 4 (by kernel_rfl) rfl rfl (q_fieldAddr rfl Tryz.underlying43 rfl Tryz.sizeOf3 y5) ?_
   refine rq 5 (by kernel_rfl) rfl rfl (q_loadBlk rfl rfl Tryz.isAgg3 (hS9.blk 0 rfl) rfl (labU_not [] rfl (fe))) ?_
   refine wpR_n [3] (by kernel_rfl) ?_
   refine fa ?_ fe
   refine exE rfl rfl ?_
   refine e_callV rfl rfl Tryz.call83 (arr1 (v0 := vd) rfl) (Sort_1 vd g4 vK d.Args K (hS9.blk 1 rfl) (hS9.rdN 5 rfl) (hS9.rdN 4 rfl)) ?_
   rintro _ H61o3 ⟨hxx, rfl⟩
   have hS61o3 := hS9.ext hxx
   refine ⟨Ext.mono hxx (fun _ h => h.elim), ?_⟩
   refine rq 6 (by kernel_rfl) rfl rfl (q_assign (v := B (decide (K = d.Args))) rfl rfl) ?_
   refine rq 7 (by kernel_rfl) rfl rfl (q_assign (v := I (d.Srt)) rfl rfl) ?_
   refine wpR_end (by kernel_rfl) ?_
   skip
   exact ⟨(Eq.trans rfl (congrArg B (by rw [okS, hp60]; rfl))), (Eq.trans rfl (congrArg I (by rw [outS, hp60]; rfl))), hS61o3⟩
  refine wpF_seq ?_
  refine wpF_region ?_
  refine lq rfl (q_eql rfl rfl rfl) ?_
  refine la (v := B (decide (n.Op = 10))) rfl rfl rfl ?_
  refine wpL_nil ?_
  refine wpF_condP rfl (fun hp62 => ?t160) (fun hp62 => ?e160)
  case t160 =>
   refine wpF_region ?_
   refine lq rfl (q_fieldAddr rfl Tryz.underlying52 rfl Tryz.sizeOf3 y3) ?_
   refine lq rfl (q_loadBlk rfl rfl Tryz.isAgg3 (hS9.blk 2 rfl) rfl (fun h => h)) ?_
   refine lq rfl (q_eql rfl rfl rfl) ?_
   refine lo rfl ?_
   refine e_call rfl Tryz.call87 (arr1 (v0 := B (decide (n.D = 1))) rfl) (whole_L (n.D = 1)) ?_
   rintro _ H63 ⟨hxx, rfl⟩
   have hS64 := hS9.ext hxx
   refine la (v := B (true)) rfl rfl rfl ?_
   refine la (v := I (wholeS (n.D = 1))) rfl rfl rfl ?_
   refine wpL_nil ?_
   exact ⟨(Eq.trans rfl (congrArg B (by rw [okS, hp62]; rfl))), (Eq.trans rfl (congrArg I (by rw [outS, hp62]; rfl))), hS64⟩
  refine wpF_seq ?_
  refine wpF_region ?_
  refine lq rfl (q_eql rfl rfl rfl) ?_
  refine la (v := B (decide (n.Op = 11))) rfl rfl rfl ?_
  refine wpL_nil ?_
  refine wpF_condP rfl (fun hp66 => ?t159) (fun hp66 => ?e159)
  case t159 =>
   refine wpF_drawn [] [] (fun _ _ => False) (by kernel_rfl) (by kernel_rfl) ?_
   refine rq 0 (by kernel_rfl) rfl rfl (q_loadBlk rfl y4 Tryz.isAgg24 (hS9.blk 1 rfl) rfl (labU_not [] rfl (fe))) ?_
   refine rq 2 (by kernel_rfl) rfl rfl (q_loadBlk rfl y4 Tryz.isAgg24 (hS9.blk 1 rfl) rfl (labU_not [] rfl (fe))) ?_
   refine wpR_n [1] (by kernel_rfl) ?_
   refine fa ?_ fe
   refine exE rfl rfl ?_
   refine e_call rfl Tryz.call84 (arr2 (v0 := vK) (v1 := Value.func (.func 86) #[] #[]) rfl rfl) (all_L vK (Value.func (.func 86) #[] #[]) K numB' (hS9.rdN 4 rfl) rfl (fun x hx H hE => ⟨_, _, rfl, Tryz.call86, numeric_L x⟩)) ?_
   rintro _ H67o1 ⟨hxx, rfl⟩
   have hS67o1 := hS9.ext hxx
   refine ⟨Ext.mono hxx (fun _ h => h.elim), ?_⟩
   refine wpR_n [3] (by kernel_rfl) ?_
   refine fa ?_ fe
   refine exE rfl rfl ?_
   refine e_call rfl Tryz.call84 (arr2 (v0 := vK) (v1 := Value.func (.func 88) #[] #[]) rfl rfl) (all_L vK (Value.func (.func 88) #[] #[]) K intB (hS67o1.rdN 4 rfl) rfl (fun x hx H hE => ⟨_, _, rfl, Tryz.call88, Sort_3 x⟩)) ?_
   rintro _ H67o3 ⟨hxx, rfl⟩
   have hS67o3 := hS67o1.ext hxx
   refine ⟨Ext.mono hxx (fun _ h => h.elim), ?_⟩
   refine wpR_n [4] (by kernel_rfl) ?_
   refine fa ?_ fe
   refine exE rfl rfl ?_
   refine e_call rfl Tryz.call87 (arr1 (v0 := B (K.all intB)) rfl) (whole_LB (K.all intB)) ?_
   rintro _ H67o4 ⟨hxx, rfl⟩
   have hS67o4 := hS67o3.ext hxx
   refine ⟨Ext.mono hxx (fun _ h => h.elim), ?_⟩
   refine rq 5 (by kernel_rfl) rfl rfl (q_assign (v := B (K.all numB')) rfl rfl) ?_
   refine rq 6 (by kernel_rfl) rfl rfl (q_assign (v := I (wholeS ((K.all intB) = true))) rfl rfl) ?_
   refine wpR_end (by kernel_rfl) ?_
   skip
   exact ⟨(Eq.trans rfl (congrArg B (by rw [okS, hp66]; rfl))), (Eq.trans rfl (congrArg I (by rw [outS, hp66]; rfl))), hS67o4⟩
  refine wpF_seq ?_
  refine wpF_region ?_
  refine lq rfl (q_eql rfl rfl rfl) ?_
  refine la (v := B (decide (n.Op = 12))) rfl rfl rfl ?_
  refine wpL_nil ?_
  refine wpF_condP rfl (fun hp68 => ?t158) (fun hp68 => ?e158)
  case t158 =>
   refine wpF_cut (fun f H => f 9 = B (decide (numS (nth K 0))) ∧ f 10 = I (wholeS (nth K 0 = 2 ∧ n.D = 1)) ∧ St H0 NoB NoB [bE g7 #[SB (d.Name), vd, I (d.Srt)] 43, bE g4 #[vK] 24, bE g1 #[I (n.Op), vk, I (n.N), I (n.D), SB (n.Name)] 52, rdE vk n.Kids, rdE vK K, rdE vd d.Args] H) ?_ ?_
   ·refine wpF_drawn [] [] (fun _ _ => False) (by kernel_rfl) (by kernel_rfl) ?_
    refine rq 0 (by kernel_rfl) rfl rfl (q_loadBlk rfl y4 Tryz.isAgg24 (hS9.blk 1 rfl) rfl (labU_not [] rfl (fe))) ?_
    refine rq 1 (by kernel_rfl) rfl rfl (q_indexRd (k := 0) rfl Tryz.underlying24 el_Int_3_AskC2 rfl rfl (hS9.rdl 4 rfl) (by omega) (by omega)) ?_
    refine rq 2 (by kernel_rfl) rfl rfl (q_loadInt (k := 0) rfl rfl el_Int_3_AskC2 (hS9.rdl 4 rfl) (by omega) (labU_sub [] rfl (fe))) ?_
    refine rq 4 (by kernel_rfl) rfl rfl (q_loadBlk rfl y4 Tryz.isAgg24 (hS9.blk 1 rfl) rfl (labU_not [] rfl (fe))) ?_
    refine rq 5 (by kernel_rfl) rfl rfl (q_indexRd (k := 0) rfl Tryz.underlying24 el_Int_3_AskC2 rfl rfl (hS9.rdl 4 rfl) (by omega) (by omega)) ?_
    refine rq 6 (by kernel_rfl) rfl rfl (q_loadInt (k := 0) rfl rfl el_Int_3_AskC2 (hS9.rdl 4 rfl) (by omega) (labU_sub [] rfl (fe))) ?_
    refine rq 7 (by kernel_rfl) rfl rfl (q_eql rfl rfl rfl) ?_
    refine wpR_n [3] (by kernel_rfl) ?_
    refine fa ?_ fe
    refine exE rfl rfl ?_
    refine e_call rfl Tryz.call86 (arr1 (v0 := I (nth K 0)) rfl) (numeric_L (nth K 0)) ?_
    rintro _ H69o3 ⟨hxx, rfl⟩
    have hS69o3 := hS9.ext hxx
    refine ⟨Ext.mono hxx (fun _ h => h.elim), ?_⟩
    refine rq 8 (by kernel_rfl) rfl rfl (q_move (v := B (decide ((nth K 0) = 2))) rfl rfl) ?_
    by_cases hg70 : (nth K 0) = 2
    ·have hb71 := Eq.trans rfl (congrArg B (decide_eq_true hg70))
     refine wpR_q 9 (by kernel_rfl) rfl (quietAt_g rfl rfl rfl rfl hb71 (q_fieldAddr rfl Tryz.underlying52 rfl Tryz.sizeOf3 y3)) ?_
     refine wpR_q 10 (by kernel_rfl) rfl (quietAt_g rfl rfl rfl rfl hb71 (q_loadBlk rfl rfl Tryz.isAgg3 (hS69o3.blk 2 rfl) rfl (labU_not [] rfl (fe)))) ?_
     refine wpR_q 11 (by kernel_rfl) rfl (quietAt_g rfl rfl rfl rfl hb71 (q_eql rfl rfl rfl)) ?_
     refine rq 12 (by kernel_rfl) rfl rfl (q_pickT (v := B (decide (n.D = 1))) rfl hb71 rfl) ?_
     refine wpR_n [13] (by kernel_rfl) ?_
     refine fa ?_ fe
     refine exE rfl rfl ?_
     refine e_call rfl Tryz.call87 (arr1 (v0 := B (decide (n.D = 1))) rfl) (whole_L (n.D = 1)) ?_
     rintro _ H69o13 ⟨hxx, rfl⟩
     have hS69o13 := hS69o3.ext hxx
     refine ⟨Ext.mono hxx (fun _ h => h.elim), ?_⟩
     refine rq 14 (by kernel_rfl) rfl rfl (q_assign (v := B (decide (numS (nth K 0)))) rfl rfl) ?_
     refine rq 15 (by kernel_rfl) rfl rfl (q_assign (v := I (wholeS (n.D = 1))) rfl rfl) ?_
     refine wpR_end (by kernel_rfl) ?_
     exact ⟨rfl, (Eq.trans rfl (congrArg I (wholeS_yes hg70))), hS69o13⟩
    ·have hb72 := Eq.trans rfl (congrArg B (decide_eq_false hg70))
     refine wpR_q 9 (by kernel_rfl) rfl (quietAt_s rfl rfl rfl rfl hb72 rfl) ?_
     refine wpR_q 10 (by kernel_rfl) rfl (quietAt_s rfl rfl rfl rfl hb72 rfl) ?_
     refine wpR_q 11 (by kernel_rfl) rfl (quietAt_s rfl rfl rfl rfl hb72 rfl) ?_
     refine rq 12 (by kernel_rfl) rfl rfl (q_pickF (v := B (false)) rfl hb72 rfl) ?_
     refine wpR_n [13] (by kernel_rfl) ?_
     refine fa ?_ fe
     refine exE rfl rfl ?_
     refine e_call rfl Tryz.call87 (arr1 (v0 := B (false)) rfl) (whole_LB false) ?_
     rintro _ H69o13 ⟨hxx, rfl⟩
     have hS69o13 := hS69o3.ext hxx
     refine ⟨Ext.mono hxx (fun _ h => h.elim), ?_⟩
     refine rq 14 (by kernel_rfl) rfl rfl (q_assign (v := B (decide (numS (nth K 0)))) rfl rfl) ?_
     refine rq 15 (by kernel_rfl) rfl rfl (q_assign (v := I (wholeS (false = true))) rfl rfl) ?_
     refine wpR_end (by kernel_rfl) ?_
     exact ⟨rfl, (Eq.trans rfl (congrArg I (wholeS_no hg70))), hS69o13⟩
   clear y3 y4 y7 y8
   rintro f73 H73 ⟨y9, y10, hS73⟩
   exact ⟨(Eq.trans y9 (congrArg B (by rw [okS, hp68]; rfl))), (Eq.trans y10 (congrArg I (by rw [outS, hp68]; rfl))), hS73⟩
  refine wpF_seq ?_
  refine wpF_seq ?_
  refine wpF_region ?_
  refine lq rfl (q_eql rfl rfl rfl) ?_
  refine la (v := B (decide (n.Op = 13))) rfl rfl rfl ?_
  refine wpL_nil ?_
  refine wpF_condP rfl (fun hp74 => ?t157) (fun hp74 => ?e157)
  case t157 =>
   refine wpF_skip ?_
   refine wpF_condT (Eq.trans rfl (congrArg B (decide_eq_true hp74))) ?_
   refine wpF_region ?_
   refine lq rfl (q_loadBlk rfl y4 Tryz.isAgg24 (hS9.blk 1 rfl) rfl (fun h => h)) ?_
   refine lo rfl ?_
   refine e_call rfl Tryz.call84 (arr2 (v0 := vK) (v1 := Value.func (.func 86) #[] #[]) rfl rfl) (all_L vK (Value.func (.func 86) #[] #[]) K numB' (hS9.rdN 4 rfl) rfl (fun x hx H hE => ⟨_, _, rfl, Tryz.call86, numeric_L x⟩)) ?_
   rintro _ H75 ⟨hxx, rfl⟩
   have hS76 := hS9.ext hxx
   refine la (v := B (K.all numB')) rfl rfl rfl ?_
   refine wpL_nil ?_
   exact ⟨(Eq.trans rfl (congrArg B (by rw [okS, hp74]; rfl))), (Eq.trans rfl (congrArg I (by rw [outS, hp74]; rfl))), hS76⟩
  refine wpF_region ?_
  refine lq rfl (q_eql rfl rfl rfl) ?_
  refine la (v := B (decide (n.Op = 14))) rfl rfl rfl ?_
  refine wpL_nil ?_
  refine wpF_condP rfl (fun hp78 => ?t156) (fun hp78 => ?e156)
  case t156 =>
   refine wpF_region ?_
   refine lq rfl (q_loadBlk rfl y4 Tryz.isAgg24 (hS9.blk 1 rfl) rfl (fun h => h)) ?_
   refine lo rfl ?_
   refine e_call rfl Tryz.call84 (arr2 (v0 := vK) (v1 := Value.func (.func 86) #[] #[]) rfl rfl) (all_L vK (Value.func (.func 86) #[] #[]) K numB' (hS9.rdN 4 rfl) rfl (fun x hx H hE => ⟨_, _, rfl, Tryz.call86, numeric_L x⟩)) ?_
   rintro _ H79 ⟨hxx, rfl⟩
   have hS80 := hS9.ext hxx
   refine la (v := B (K.all numB')) rfl rfl rfl ?_
   refine wpL_nil ?_
   exact ⟨(Eq.trans rfl (congrArg B (by rw [okS, hp78]; rfl))), (Eq.trans rfl (congrArg I (by rw [outS, hp78]; rfl))), hS80⟩
  refine wpF_seq ?_
  refine wpF_region ?_
  refine lq rfl (q_eql rfl rfl rfl) ?_
  refine la (v := B (decide (n.Op = 15))) rfl rfl rfl ?_
  refine wpL_nil ?_
  refine wpF_condP rfl (fun hp82 => ?t155) (fun hp82 => ?e155)
  case t155 =>
   refine wpF_drawn [] [] (fun _ _ => False) (by kernel_rfl) (by kernel_rfl) ?_
   refine rq 0 (by kernel_rfl) rfl rfl (q_fieldAddr rfl Tryz.underlying52 rfl Tryz.sizeOf3 y3) ?_
   refine rq 1 (by kernel_rfl) rfl rfl (q_loadBlk rfl rfl Tryz.isAgg3 (hS9.blk 2 rfl) rfl (labU_not [] rfl (fe))) ?_
   refine rq 2 (by kernel_rfl) rfl rfl (q_add rfl rfl rfl (by constructor <;> omega)) ?_
   refine rq 3 (by kernel_rfl) rfl rfl (q_assign (v := B (true)) rfl rfl) ?_
   refine rq 4 (by kernel_rfl) rfl rfl (q_assign (v := I (10 + n.D)) rfl rfl) ?_
   refine wpR_end (by kernel_rfl) ?_
   skip
   exact ⟨(Eq.trans rfl (congrArg B (by rw [okS, hp82]; rfl))), (Eq.trans rfl (congrArg I (by rw [outS, hp82]; rfl))), hS9⟩
  refine wpF_seq ?_
  refine wpF_seq ?_
  refine wpF_region ?_
  refine lq rfl (q_eql rfl rfl rfl) ?_
  refine la (v := B (decide (n.Op = 16))) rfl rfl rfl ?_
  refine wpL_nil ?_
  refine wpF_condP rfl (fun hp84 => ?t154) (fun hp84 => ?e154)
  case t154 =>
   refine wpF_skip ?_
   refine wpF_condT (Eq.trans rfl (congrArg B (decide_eq_true hp84))) ?_
   refine wpF_cut (fun f H => f 9 = B (decide (wordS (nth K 0))) ∧ f 10 = I (nth K 0) ∧ St H0 NoB NoB [bE g7 #[SB (d.Name), vd, I (d.Srt)] 43, bE g4 #[vK] 24, bE g1 #[I (n.Op), vk, I (n.N), I (n.D), SB (n.Name)] 52, rdE vk n.Kids, rdE vK K, rdE vd d.Args] H) ?_ ?_
   ·refine wpF_drawn [] [] (fun _ _ => False) (by kernel_rfl) (by kernel_rfl) ?_
    refine rq 0 (by kernel_rfl) rfl rfl (q_loadBlk rfl y4 Tryz.isAgg24 (hS9.blk 1 rfl) rfl (labU_not [] rfl (fe))) ?_
    refine rq 1 (by kernel_rfl) rfl rfl (q_indexRd (k := 0) rfl Tryz.underlying24 el_Int_3_AskC2 rfl rfl (hS9.rdl 4 rfl) (by omega) (by omega)) ?_
    refine rq 2 (by kernel_rfl) rfl rfl (q_loadInt (k := 0) rfl rfl el_Int_3_AskC2 (hS9.rdl 4 rfl) (by omega) (labU_sub [] rfl (fe))) ?_
    refine rq 4 (by kernel_rfl) rfl rfl (q_loadBlk rfl y4 Tryz.isAgg24 (hS9.blk 1 rfl) rfl (labU_not [] rfl (fe))) ?_
    refine rq 5 (by kernel_rfl) rfl rfl (q_indexRd (k := 0) rfl Tryz.underlying24 el_Int_3_AskC2 rfl rfl (hS9.rdl 4 rfl) (by omega) (by omega)) ?_
    refine rq 6 (by kernel_rfl) rfl rfl (q_loadInt (k := 0) rfl rfl el_Int_3_AskC2 (hS9.rdl 4 rfl) (by omega) (labU_sub [] rfl (fe))) ?_
    refine wpR_n [3] (by kernel_rfl) ?_
    refine fa ?_ fe
    refine exE rfl rfl ?_
    refine e_call rfl Tryz.call42 (arr1 (v0 := I (nth K 0)) rfl) (Word_L (nth K 0)) ?_
    rintro _ H85o3 ⟨hxx, rfl⟩
    have hS85o3 := hS9.ext hxx
    refine ⟨Ext.mono hxx (fun _ h => h.elim), ?_⟩
    refine rq 7 (by kernel_rfl) rfl rfl (q_assign (v := B (decide (wordS (nth K 0)))) rfl rfl) ?_
    refine rq 8 (by kernel_rfl) rfl rfl (q_assign (v := I (nth K 0)) rfl rfl) ?_
    refine wpR_end (by kernel_rfl) ?_
    exact ⟨rfl, rfl, hS85o3⟩
   clear y4 y7 y8
   rintro f86 H86 ⟨y9, y10, hS86⟩
   exact ⟨(Eq.trans y9 (congrArg B (by rw [okS, hp84]; rfl))), (Eq.trans y10 (congrArg I (by rw [outS, hp84]; rfl))), hS86⟩
  refine wpF_region ?_
  refine lq rfl (q_eql rfl rfl rfl) ?_
  refine la (v := B (decide (n.Op = 23))) rfl rfl rfl ?_
  refine wpL_nil ?_
  refine wpF_condP rfl (fun hp87 => ?t153) (fun hp87 => ?e153)
  case t153 =>
   refine wpF_cut (fun f H => f 9 = B (decide (wordS (nth K 0))) ∧ f 10 = I (nth K 0) ∧ St H0 NoB NoB [bE g7 #[SB (d.Name), vd, I (d.Srt)] 43, bE g4 #[vK] 24, bE g1 #[I (n.Op), vk, I (n.N), I (n.D), SB (n.Name)] 52, rdE vk n.Kids, rdE vK K, rdE vd d.Args] H) ?_ ?_
   ·refine wpF_drawn [] [] (fun _ _ => False) (by kernel_rfl) (by kernel_rfl) ?_
    refine rq 0 (by kernel_rfl) rfl rfl (q_loadBlk rfl y4 Tryz.isAgg24 (hS9.blk 1 rfl) rfl (labU_not [] rfl (fe))) ?_
    refine rq 1 (by kernel_rfl) rfl rfl (q_indexRd (k := 0) rfl Tryz.underlying24 el_Int_3_AskC2 rfl rfl (hS9.rdl 4 rfl) (by omega) (by omega)) ?_
    refine rq 2 (by kernel_rfl) rfl rfl (q_loadInt (k := 0) rfl rfl el_Int_3_AskC2 (hS9.rdl 4 rfl) (by omega) (labU_sub [] rfl (fe))) ?_
    refine rq 4 (by kernel_rfl) rfl rfl (q_loadBlk rfl y4 Tryz.isAgg24 (hS9.blk 1 rfl) rfl (labU_not [] rfl (fe))) ?_
    refine rq 5 (by kernel_rfl) rfl rfl (q_indexRd (k := 0) rfl Tryz.underlying24 el_Int_3_AskC2 rfl rfl (hS9.rdl 4 rfl) (by omega) (by omega)) ?_
    refine rq 6 (by kernel_rfl) rfl rfl (q_loadInt (k := 0) rfl rfl el_Int_3_AskC2 (hS9.rdl 4 rfl) (by omega) (labU_sub [] rfl (fe))) ?_
    refine wpR_n [3] (by kernel_rfl) ?_
    refine fa ?_ fe
    refine exE rfl rfl ?_
    refine e_call rfl Tryz.call42 (arr1 (v0 := I (nth K 0)) rfl) (Word_L (nth K 0)) ?_
    rintro _ H88o3 ⟨hxx, rfl⟩
    have hS88o3 := hS9.ext hxx
    refine ⟨Ext.mono hxx (fun _ h => h.elim), ?_⟩
    refine rq 7 (by kernel_rfl) rfl rfl (q_assign (v := B (decide (wordS (nth K 0)))) rfl rfl) ?_
    refine rq 8 (by kernel_rfl) rfl rfl (q_assign (v := I (nth K 0)) rfl rfl) ?_
    refine wpR_end (by kernel_rfl) ?_
    exact ⟨rfl, rfl, hS88o3⟩
   clear y4 y7 y8
   rintro f89 H89 ⟨y9, y10, hS89⟩
   exact ⟨(Eq.trans y9 (congrArg B (by rw [okS, hp87]; rfl))), (Eq.trans y10 (congrArg I (by rw [outS, hp87]; rfl))), hS89⟩
  refine wpF_seq ?_
  refine wpF_seq ?_
  refine wpF_region ?_
  refine lq rfl (q_eql rfl rfl rfl) ?_
  refine la (v := B (decide (n.Op = 17))) rfl rfl rfl ?_
  refine wpL_nil ?_
  refine wpF_condP rfl (fun hp90 => ?t152) (fun hp90 => ?e152)
  case t152 =>
   refine wpF_skip ?_
   refine wpF_condT (Eq.trans rfl (congrArg B (decide_eq_true hp90))) ?_
   refine wpF_cut (fun f H => f 9 = B (decide ((((K.length : Int) = 2) ∧ ((nth K 0) = (nth K 1))) ∧ (wordS (nth K 0)))) ∧ f 10 = I (nth K 0) ∧ St H0 NoB NoB [bE g7 #[SB (d.Name), vd, I (d.Srt)] 43, bE g4 #[vK] 24, bE g1 #[I (n.Op), vk, I (n.N), I (n.D), SB (n.Name)] 52, rdE vk n.Kids, rdE vK K, rdE vd d.Args] H) ?_ ?_
   ·refine wpF_drawn [] [] (fun _ _ => False) (by kernel_rfl) (by kernel_rfl) ?_
    refine rq 0 (by kernel_rfl) rfl rfl (q_move (v := B (decide (((K.length : Int) = 2) ∧ ((nth K 0) = (nth K 1))))) rfl y8) ?_
    refine rq 1 (by kernel_rfl) rfl rfl (q_move (v := B (decide (((K.length : Int) = 2) ∧ ((nth K 0) = (nth K 1))))) rfl rfl) ?_
    by_cases hg92 : ((K.length : Int) = 2) ∧ ((nth K 0) = (nth K 1))
    ·have hb93 := Eq.trans rfl (congrArg B (decide_eq_true hg92))
     refine wpR_q 2 (by kernel_rfl) rfl (quietAt_g rfl rfl rfl rfl hb93 (q_loadBlk rfl y4 Tryz.isAgg24 (hS9.blk 1 rfl) rfl (labU_not [] rfl (fe)))) ?_
     refine wpR_q 3 (by kernel_rfl) rfl (quietAt_g rfl rfl rfl rfl hb93 (q_indexRd (k := 0) rfl Tryz.underlying24 el_Int_3_AskC2 rfl rfl (hS9.rdl 4 rfl) (by omega) (by omega))) ?_
     refine wpR_q 4 (by kernel_rfl) rfl (quietAt_g rfl rfl rfl rfl hb93 (q_loadInt (k := 0) rfl rfl el_Int_3_AskC2 (hS9.rdl 4 rfl) (by omega) (labU_sub [] rfl (fe)))) ?_
     refine rq 7 (by kernel_rfl) rfl rfl (q_loadBlk rfl y4 Tryz.isAgg24 (hS9.blk 1 rfl) rfl (labU_not [] rfl (fe))) ?_
     refine rq 8 (by kernel_rfl) rfl rfl (q_indexRd (k := 0) rfl Tryz.underlying24 el_Int_3_AskC2 rfl rfl (hS9.rdl 4 rfl) (by omega) (by omega)) ?_
     refine rq 9 (by kernel_rfl) rfl rfl (q_loadInt (k := 0) rfl rfl el_Int_3_AskC2 (hS9.rdl 4 rfl) (by omega) (labU_sub [] rfl (fe))) ?_
     refine wpR_n [5] (by kernel_rfl) ?_
     refine fa ?_ fe
     refine exE_g rfl rfl rfl rfl hb93 ?_
     refine e_call rfl Tryz.call42 (arr1 (v0 := I (nth K 0)) rfl) (Word_L (nth K 0)) ?_
     rintro _ H91o5 ⟨hxx, rfl⟩
     have hS91o5 := hS9.ext hxx
     refine ⟨Ext.mono hxx (fun _ h => h.elim), ?_⟩
     refine rq 6 (by kernel_rfl) rfl rfl (q_pickT (v := B (decide (wordS (nth K 0)))) rfl hb93 rfl) ?_
     refine rq 10 (by kernel_rfl) rfl rfl (q_assign (v := B (decide (wordS (nth K 0)))) rfl rfl) ?_
     refine rq 11 (by kernel_rfl) rfl rfl (q_assign (v := I (nth K 0)) rfl rfl) ?_
     refine wpR_end (by kernel_rfl) ?_
     exact ⟨(Eq.trans rfl (congrArg B (decide_congr_of ((Iff.rfl).trans (((and_iff_right hg92).trans Iff.rfl)).symm)))), rfl, hS91o5⟩
    ·have hb94 := Eq.trans rfl (congrArg B (decide_eq_false hg92))
     refine wpR_q 2 (by kernel_rfl) rfl (quietAt_s rfl rfl rfl rfl hb94 rfl) ?_
     refine wpR_q 3 (by kernel_rfl) rfl (quietAt_s rfl rfl rfl rfl hb94 rfl) ?_
     refine wpR_q 4 (by kernel_rfl) rfl (quietAt_s rfl rfl rfl rfl hb94 rfl) ?_
     refine wpR_q 5 (by kernel_rfl) rfl (quietAt_s rfl rfl rfl rfl hb94 rfl) ?_
     refine rq 6 (by kernel_rfl) rfl rfl (q_pickF (v := B (false)) rfl hb94 rfl) ?_
     refine rq 7 (by kernel_rfl) rfl rfl (q_loadBlk rfl y4 Tryz.isAgg24 (hS9.blk 1 rfl) rfl (labU_not [] rfl (fe))) ?_
     refine rq 8 (by kernel_rfl) rfl rfl (q_indexRd (k := 0) rfl Tryz.underlying24 el_Int_3_AskC2 rfl rfl (hS9.rdl 4 rfl) (by omega) (by omega)) ?_
     refine rq 9 (by kernel_rfl) rfl rfl (q_loadInt (k := 0) rfl rfl el_Int_3_AskC2 (hS9.rdl 4 rfl) (by omega) (labU_sub [] rfl (fe))) ?_
     refine rq 10 (by kernel_rfl) rfl rfl (q_assign (v := B (false)) rfl rfl) ?_
     refine rq 11 (by kernel_rfl) rfl rfl (q_assign (v := I (nth K 0)) rfl rfl) ?_
     refine wpR_end (by kernel_rfl) ?_
     exact ⟨(Eq.trans rfl (congrArg B ((decide_eq_false (fun h => hg92 h.1)).symm))), rfl, hS9⟩
   clear y4 y7 y8
   rintro f95 H95 ⟨y9, y10, hS95⟩
   exact ⟨(Eq.trans y9 (congrArg B (by rw [okS, hp90]; rfl))), (Eq.trans y10 (congrArg I (by rw [outS, hp90]; rfl))), hS95⟩
  refine fcr (fun f H => f 4 = PT g4 0 ∧ f 7 = Value.func (.func 83) #[] #[PT g4 0] ∧ f 8 = B (decide (((K.length : Int) = 2) ∧ ((nth K 0) = (nth K 1)))) ∧ f 9 = B (false) ∧ f 10 = I (1) ∧ f 25 = I (n.Op) ∧ f 136 = B (decide (n.Op = 18)) ∧ H8 = H) ?_ ?_
  ·refine lq rfl (q_eql rfl rfl rfl) ?_
   refine la (v := B (decide (n.Op = 18))) rfl rfl rfl ?_
   exact ⟨y4, y7, y8, rfl, rfl, rfl, rfl, rfl⟩
  clear y4 y7 y8
  rintro f96 _ ⟨y4, y7, y8, y9, y10, y25, y136, rfl⟩
  refine wpF_condP y136 (fun hp97 => ?t151) (fun hp97 => ?e151)
  case t151 =>
   refine wpF_skip ?_
   refine wpF_condT (Eq.trans y136 (congrArg B (decide_eq_true hp97))) ?_
   refine wpF_cut (fun f H => f 9 = B (decide ((((K.length : Int) = 2) ∧ ((nth K 0) = (nth K 1))) ∧ (wordS (nth K 0)))) ∧ f 10 = I (nth K 0) ∧ St H0 NoB NoB [bE g7 #[SB (d.Name), vd, I (d.Srt)] 43, bE g4 #[vK] 24, bE g1 #[I (n.Op), vk, I (n.N), I (n.D), SB (n.Name)] 52, rdE vk n.Kids, rdE vK K, rdE vd d.Args] H) ?_ ?_
   ·refine wpF_drawn [] [] (fun _ _ => False) (by kernel_rfl) (by kernel_rfl) ?_
    refine rq 0 (by kernel_rfl) rfl rfl (q_move (v := B (decide (((K.length : Int) = 2) ∧ ((nth K 0) = (nth K 1))))) rfl y8) ?_
    refine rq 1 (by kernel_rfl) rfl rfl (q_move (v := B (decide (((K.length : Int) = 2) ∧ ((nth K 0) = (nth K 1))))) rfl rfl) ?_
    by_cases hg99 : ((K.length : Int) = 2) ∧ ((nth K 0) = (nth K 1))
    ·have hb100 := Eq.trans rfl (congrArg B (decide_eq_true hg99))
     refine wpR_q 2 (by kernel_rfl) rfl (quietAt_g rfl rfl rfl rfl hb100 (q_loadBlk rfl y4 Tryz.isAgg24 (hS9.blk 1 rfl) rfl (labU_not [] rfl (fe)))) ?_
     refine wpR_q 3 (by kernel_rfl) rfl (quietAt_g rfl rfl rfl rfl hb100 (q_indexRd (k := 0) rfl Tryz.underlying24 el_Int_3_AskC2 rfl rfl (hS9.rdl 4 rfl) (by omega) (by omega))) ?_
     refine wpR_q 4 (by kernel_rfl) rfl (quietAt_g rfl rfl rfl rfl hb100 (q_loadInt (k := 0) rfl rfl el_Int_3_AskC2 (hS9.rdl 4 rfl) (by omega) (labU_sub [] rfl (fe)))) ?_
     refine rq 7 (by kernel_rfl) rfl rfl (q_loadBlk rfl y4 Tryz.isAgg24 (hS9.blk 1 rfl) rfl (labU_not [] rfl (fe))) ?_
     refine rq 8 (by kernel_rfl) rfl rfl (q_indexRd (k := 0) rfl Tryz.underlying24 el_Int_3_AskC2 rfl rfl (hS9.rdl 4 rfl) (by omega) (by omega)) ?_
     refine rq 9 (by kernel_rfl) rfl rfl (q_loadInt (k := 0) rfl rfl el_Int_3_AskC2 (hS9.rdl 4 rfl) (by omega) (labU_sub [] rfl (fe))) ?_
     refine wpR_n [5] (by kernel_rfl) ?_
     refine fa ?_ fe
     refine exE_g rfl rfl rfl rfl hb100 ?_
     refine e_call rfl Tryz.call42 (arr1 (v0 := I (nth K 0)) rfl) (Word_L (nth K 0)) ?_
     rintro _ H98o5 ⟨hxx, rfl⟩
     have hS98o5 := hS9.ext hxx
     refine ⟨Ext.mono hxx (fun _ h => h.elim), ?_⟩
     refine rq 6 (by kernel_rfl) rfl rfl (q_pickT (v := B (decide (wordS (nth K 0)))) rfl hb100 rfl) ?_
     refine rq 10 (by kernel_rfl) rfl rfl (q_assign (v := B (decide (wordS (nth K 0)))) rfl rfl) ?_
     refine rq 11 (by kernel_rfl) rfl rfl (q_assign (v := I (nth K 0)) rfl rfl) ?_
     refine wpR_end (by kernel_rfl) ?_
     exact ⟨(Eq.trans rfl (congrArg B (decide_congr_of ((Iff.rfl).trans (((and_iff_right hg99).trans Iff.rfl)).symm)))), rfl, hS98o5⟩
    ·have hb101 := Eq.trans rfl (congrArg B (decide_eq_false hg99))
     refine wpR_q 2 (by kernel_rfl) rfl (quietAt_s rfl rfl rfl rfl hb101 rfl) ?_
     refine wpR_q 3 (by kernel_rfl) rfl (quietAt_s rfl rfl rfl rfl hb101 rfl) ?_
     refine wpR_q 4 (by kernel_rfl) rfl (quietAt_s rfl rfl rfl rfl hb101 rfl) ?_
     refine wpR_q 5 (by kernel_rfl) rfl (quietAt_s rfl rfl rfl rfl hb101 rfl) ?_
     refine rq 6 (by kernel_rfl) rfl rfl (q_pickF (v := B (false)) rfl hb101 rfl) ?_
     refine rq 7 (by kernel_rfl) rfl rfl (q_loadBlk rfl y4 Tryz.isAgg24 (hS9.blk 1 rfl) rfl (labU_not [] rfl (fe))) ?_
     refine rq 8 (by kernel_rfl) rfl rfl (q_indexRd (k := 0) rfl Tryz.underlying24 el_Int_3_AskC2 rfl rfl (hS9.rdl 4 rfl) (by omega) (by omega)) ?_
     refine rq 9 (by kernel_rfl) rfl rfl (q_loadInt (k := 0) rfl rfl el_Int_3_AskC2 (hS9.rdl 4 rfl) (by omega) (labU_sub [] rfl (fe))) ?_
     refine rq 10 (by kernel_rfl) rfl rfl (q_assign (v := B (false)) rfl rfl) ?_
     refine rq 11 (by kernel_rfl) rfl rfl (q_assign (v := I (nth K 0)) rfl rfl) ?_
     refine wpR_end (by kernel_rfl) ?_
     exact ⟨(Eq.trans rfl (congrArg B ((decide_eq_false (fun h => hg99 h.1)).symm))), rfl, hS9⟩
   clear y10 y136 y25 y4 y7 y8 y9
   rintro f102 H102 ⟨y9, y10, hS102⟩
   exact ⟨(Eq.trans y9 (congrArg B (by rw [okS, hp97]; rfl))), (Eq.trans y10 (congrArg I (by rw [outS, hp97]; rfl))), hS102⟩
  refine wpF_seq ?_
  refine wpF_region ?_
  refine lq rfl (q_eql rfl y25 rfl) ?_
  refine la (v := B (decide (n.Op = 19))) rfl rfl rfl ?_
  refine wpL_nil ?_
  refine wpF_condP rfl (fun hp103 => ?t150) (fun hp103 => ?e150)
  case t150 =>
   refine wpF_skip ?_
   refine wpF_condT (Eq.trans rfl (congrArg B (decide_eq_true hp103))) ?_
   refine wpF_cut (fun f H => f 9 = B (decide ((((K.length : Int) = 2) ∧ ((nth K 0) = (nth K 1))) ∧ (wordS (nth K 0)))) ∧ f 10 = I (nth K 0) ∧ St H0 NoB NoB [bE g7 #[SB (d.Name), vd, I (d.Srt)] 43, bE g4 #[vK] 24, bE g1 #[I (n.Op), vk, I (n.N), I (n.D), SB (n.Name)] 52, rdE vk n.Kids, rdE vK K, rdE vd d.Args] H) ?_ ?_
   ·refine wpF_drawn [] [] (fun _ _ => False) (by kernel_rfl) (by kernel_rfl) ?_
    refine rq 0 (by kernel_rfl) rfl rfl (q_move (v := B (decide (((K.length : Int) = 2) ∧ ((nth K 0) = (nth K 1))))) rfl y8) ?_
    refine rq 1 (by kernel_rfl) rfl rfl (q_move (v := B (decide (((K.length : Int) = 2) ∧ ((nth K 0) = (nth K 1))))) rfl rfl) ?_
    by_cases hg105 : ((K.length : Int) = 2) ∧ ((nth K 0) = (nth K 1))
    ·have hb106 := Eq.trans rfl (congrArg B (decide_eq_true hg105))
     refine wpR_q 2 (by kernel_rfl) rfl (quietAt_g rfl rfl rfl rfl hb106 (q_loadBlk rfl y4 Tryz.isAgg24 (hS9.blk 1 rfl) rfl (labU_not [] rfl (fe)))) ?_
     refine wpR_q 3 (by kernel_rfl) rfl (quietAt_g rfl rfl rfl rfl hb106 (q_indexRd (k := 0) rfl Tryz.underlying24 el_Int_3_AskC2 rfl rfl (hS9.rdl 4 rfl) (by omega) (by omega))) ?_
     refine wpR_q 4 (by kernel_rfl) rfl (quietAt_g rfl rfl rfl rfl hb106 (q_loadInt (k := 0) rfl rfl el_Int_3_AskC2 (hS9.rdl 4 rfl) (by omega) (labU_sub [] rfl (fe)))) ?_
     refine rq 7 (by kernel_rfl) rfl rfl (q_loadBlk rfl y4 Tryz.isAgg24 (hS9.blk 1 rfl) rfl (labU_not [] rfl (fe))) ?_
     refine rq 8 (by kernel_rfl) rfl rfl (q_indexRd (k := 0) rfl Tryz.underlying24 el_Int_3_AskC2 rfl rfl (hS9.rdl 4 rfl) (by omega) (by omega)) ?_
     refine rq 9 (by kernel_rfl) rfl rfl (q_loadInt (k := 0) rfl rfl el_Int_3_AskC2 (hS9.rdl 4 rfl) (by omega) (labU_sub [] rfl (fe))) ?_
     refine wpR_n [5] (by kernel_rfl) ?_
     refine fa ?_ fe
     refine exE_g rfl rfl rfl rfl hb106 ?_
     refine e_call rfl Tryz.call42 (arr1 (v0 := I (nth K 0)) rfl) (Word_L (nth K 0)) ?_
     rintro _ H104o5 ⟨hxx, rfl⟩
     have hS104o5 := hS9.ext hxx
     refine ⟨Ext.mono hxx (fun _ h => h.elim), ?_⟩
     refine rq 6 (by kernel_rfl) rfl rfl (q_pickT (v := B (decide (wordS (nth K 0)))) rfl hb106 rfl) ?_
     refine rq 10 (by kernel_rfl) rfl rfl (q_assign (v := B (decide (wordS (nth K 0)))) rfl rfl) ?_
     refine rq 11 (by kernel_rfl) rfl rfl (q_assign (v := I (nth K 0)) rfl rfl) ?_
     refine wpR_end (by kernel_rfl) ?_
     exact ⟨(Eq.trans rfl (congrArg B (decide_congr_of ((Iff.rfl).trans (((and_iff_right hg105).trans Iff.rfl)).symm)))), rfl, hS104o5⟩
    ·have hb107 := Eq.trans rfl (congrArg B (decide_eq_false hg105))
     refine wpR_q 2 (by kernel_rfl) rfl (quietAt_s rfl rfl rfl rfl hb107 rfl) ?_
     refine wpR_q 3 (by kernel_rfl) rfl (quietAt_s rfl rfl rfl rfl hb107 rfl) ?_
     refine wpR_q 4 (by kernel_rfl) rfl (quietAt_s rfl rfl rfl rfl hb107 rfl) ?_
     refine wpR_q 5 (by kernel_rfl) rfl (quietAt_s rfl rfl rfl rfl hb107 rfl) ?_
     refine rq 6 (by kernel_rfl) rfl rfl (q_pickF (v := B (false)) rfl hb107 rfl) ?_
     refine rq 7 (by kernel_rfl) rfl rfl (q_loadBlk rfl y4 Tryz.isAgg24 (hS9.blk 1 rfl) rfl (labU_not [] rfl (fe))) ?_
     refine rq 8 (by kernel_rfl) rfl rfl (q_indexRd (k := 0) rfl Tryz.underlying24 el_Int_3_AskC2 rfl rfl (hS9.rdl 4 rfl) (by omega) (by omega)) ?_
     refine rq 9 (by kernel_rfl) rfl rfl (q_loadInt (k := 0) rfl rfl el_Int_3_AskC2 (hS9.rdl 4 rfl) (by omega) (labU_sub [] rfl (fe))) ?_
     refine rq 10 (by kernel_rfl) rfl rfl (q_assign (v := B (false)) rfl rfl) ?_
     refine rq 11 (by kernel_rfl) rfl rfl (q_assign (v := I (nth K 0)) rfl rfl) ?_
     refine wpR_end (by kernel_rfl) ?_
     exact ⟨(Eq.trans rfl (congrArg B ((decide_eq_false (fun h => hg105 h.1)).symm))), rfl, hS9⟩
   clear y10 y25 y4 y7 y8 y9
   rintro f108 H108 ⟨y9, y10, hS108⟩
   exact ⟨(Eq.trans y9 (congrArg B (by rw [okS, hp103]; rfl))), (Eq.trans y10 (congrArg I (by rw [outS, hp103]; rfl))), hS108⟩
  refine wpF_seq ?_
  refine wpF_region ?_
  refine lq rfl (q_eql rfl y25 rfl) ?_
  refine la (v := B (decide (n.Op = 20))) rfl rfl rfl ?_
  refine wpL_nil ?_
  refine wpF_condP rfl (fun hp109 => ?t149) (fun hp109 => ?e149)
  case t149 =>
   refine wpF_skip ?_
   refine wpF_condT (Eq.trans rfl (congrArg B (decide_eq_true hp109))) ?_
   refine wpF_cut (fun f H => f 9 = B (decide ((((K.length : Int) = 2) ∧ ((nth K 0) = (nth K 1))) ∧ (wordS (nth K 0)))) ∧ f 10 = I (nth K 0) ∧ St H0 NoB NoB [bE g7 #[SB (d.Name), vd, I (d.Srt)] 43, bE g4 #[vK] 24, bE g1 #[I (n.Op), vk, I (n.N), I (n.D), SB (n.Name)] 52, rdE vk n.Kids, rdE vK K, rdE vd d.Args] H) ?_ ?_
   ·refine wpF_drawn [] [] (fun _ _ => False) (by kernel_rfl) (by kernel_rfl) ?_
    refine rq 0 (by kernel_rfl) rfl rfl (q_move (v := B (decide (((K.length : Int) = 2) ∧ ((nth K 0) = (nth K 1))))) rfl y8) ?_
    refine rq 1 (by kernel_rfl) rfl rfl (q_move (v := B (decide (((K.length : Int) = 2) ∧ ((nth K 0) = (nth K 1))))) rfl rfl) ?_
    by_cases hg111 : ((K.length : Int) = 2) ∧ ((nth K 0) = (nth K 1))
    ·have hb112 := Eq.trans rfl (congrArg B (decide_eq_true hg111))
     refine wpR_q 2 (by kernel_rfl) rfl (quietAt_g rfl rfl rfl rfl hb112 (q_loadBlk rfl y4 Tryz.isAgg24 (hS9.blk 1 rfl) rfl (labU_not [] rfl (fe)))) ?_
     refine wpR_q 3 (by kernel_rfl) rfl (quietAt_g rfl rfl rfl rfl hb112 (q_indexRd (k := 0) rfl Tryz.underlying24 el_Int_3_AskC2 rfl rfl (hS9.rdl 4 rfl) (by omega) (by omega))) ?_
     refine wpR_q 4 (by kernel_rfl) rfl (quietAt_g rfl rfl rfl rfl hb112 (q_loadInt (k := 0) rfl rfl el_Int_3_AskC2 (hS9.rdl 4 rfl) (by omega) (labU_sub [] rfl (fe)))) ?_
     refine rq 7 (by kernel_rfl) rfl rfl (q_loadBlk rfl y4 Tryz.isAgg24 (hS9.blk 1 rfl) rfl (labU_not [] rfl (fe))) ?_
     refine rq 8 (by kernel_rfl) rfl rfl (q_indexRd (k := 0) rfl Tryz.underlying24 el_Int_3_AskC2 rfl rfl (hS9.rdl 4 rfl) (by omega) (by omega)) ?_
     refine rq 9 (by kernel_rfl) rfl rfl (q_loadInt (k := 0) rfl rfl el_Int_3_AskC2 (hS9.rdl 4 rfl) (by omega) (labU_sub [] rfl (fe))) ?_
     refine wpR_n [5] (by kernel_rfl) ?_
     refine fa ?_ fe
     refine exE_g rfl rfl rfl rfl hb112 ?_
     refine e_call rfl Tryz.call42 (arr1 (v0 := I (nth K 0)) rfl) (Word_L (nth K 0)) ?_
     rintro _ H110o5 ⟨hxx, rfl⟩
     have hS110o5 := hS9.ext hxx
     refine ⟨Ext.mono hxx (fun _ h => h.elim), ?_⟩
     refine rq 6 (by kernel_rfl) rfl rfl (q_pickT (v := B (decide (wordS (nth K 0)))) rfl hb112 rfl) ?_
     refine rq 10 (by kernel_rfl) rfl rfl (q_assign (v := B (decide (wordS (nth K 0)))) rfl rfl) ?_
     refine rq 11 (by kernel_rfl) rfl rfl (q_assign (v := I (nth K 0)) rfl rfl) ?_
     refine wpR_end (by kernel_rfl) ?_
     exact ⟨(Eq.trans rfl (congrArg B (decide_congr_of ((Iff.rfl).trans (((and_iff_right hg111).trans Iff.rfl)).symm)))), rfl, hS110o5⟩
    ·have hb113 := Eq.trans rfl (congrArg B (decide_eq_false hg111))
     refine wpR_q 2 (by kernel_rfl) rfl (quietAt_s rfl rfl rfl rfl hb113 rfl) ?_
     refine wpR_q 3 (by kernel_rfl) rfl (quietAt_s rfl rfl rfl rfl hb113 rfl) ?_
     refine wpR_q 4 (by kernel_rfl) rfl (quietAt_s rfl rfl rfl rfl hb113 rfl) ?_
     refine wpR_q 5 (by kernel_rfl) rfl (quietAt_s rfl rfl rfl rfl hb113 rfl) ?_
     refine rq 6 (by kernel_rfl) rfl rfl (q_pickF (v := B (false)) rfl hb113 rfl) ?_
     refine rq 7 (by kernel_rfl) rfl rfl (q_loadBlk rfl y4 Tryz.isAgg24 (hS9.blk 1 rfl) rfl (labU_not [] rfl (fe))) ?_
     refine rq 8 (by kernel_rfl) rfl rfl (q_indexRd (k := 0) rfl Tryz.underlying24 el_Int_3_AskC2 rfl rfl (hS9.rdl 4 rfl) (by omega) (by omega)) ?_
     refine rq 9 (by kernel_rfl) rfl rfl (q_loadInt (k := 0) rfl rfl el_Int_3_AskC2 (hS9.rdl 4 rfl) (by omega) (labU_sub [] rfl (fe))) ?_
     refine rq 10 (by kernel_rfl) rfl rfl (q_assign (v := B (false)) rfl rfl) ?_
     refine rq 11 (by kernel_rfl) rfl rfl (q_assign (v := I (nth K 0)) rfl rfl) ?_
     refine wpR_end (by kernel_rfl) ?_
     exact ⟨(Eq.trans rfl (congrArg B ((decide_eq_false (fun h => hg111 h.1)).symm))), rfl, hS9⟩
   clear y10 y25 y4 y7 y8 y9
   rintro f114 H114 ⟨y9, y10, hS114⟩
   exact ⟨(Eq.trans y9 (congrArg B (by rw [okS, hp109]; rfl))), (Eq.trans y10 (congrArg I (by rw [outS, hp109]; rfl))), hS114⟩
  refine wpF_region ?_
  refine lq rfl (q_eql rfl y25 rfl) ?_
  refine la (v := B (decide (n.Op = 21))) rfl rfl rfl ?_
  refine wpL_nil ?_
  refine wpF_condP rfl (fun hp115 => ?t148) (fun hp115 => ?e148)
  case t148 =>
   refine wpF_cut (fun f H => f 9 = B (decide ((((K.length : Int) = 2) ∧ ((nth K 0) = (nth K 1))) ∧ (wordS (nth K 0)))) ∧ f 10 = I (nth K 0) ∧ St H0 NoB NoB [bE g7 #[SB (d.Name), vd, I (d.Srt)] 43, bE g4 #[vK] 24, bE g1 #[I (n.Op), vk, I (n.N), I (n.D), SB (n.Name)] 52, rdE vk n.Kids, rdE vK K, rdE vd d.Args] H) ?_ ?_
   ·refine wpF_drawn [] [] (fun _ _ => False) (by kernel_rfl) (by kernel_rfl) ?_
    refine rq 0 (by kernel_rfl) rfl rfl (q_move (v := B (decide (((K.length : Int) = 2) ∧ ((nth K 0) = (nth K 1))))) rfl y8) ?_
    refine rq 1 (by kernel_rfl) rfl rfl (q_move (v := B (decide (((K.length : Int) = 2) ∧ ((nth K 0) = (nth K 1))))) rfl rfl) ?_
    by_cases hg117 : ((K.length : Int) = 2) ∧ ((nth K 0) = (nth K 1))
    ·have hb118 := Eq.trans rfl (congrArg B (decide_eq_true hg117))
     refine wpR_q 2 (by kernel_rfl) rfl (quietAt_g rfl rfl rfl rfl hb118 (q_loadBlk rfl y4 Tryz.isAgg24 (hS9.blk 1 rfl) rfl (labU_not [] rfl (fe)))) ?_
     refine wpR_q 3 (by kernel_rfl) rfl (quietAt_g rfl rfl rfl rfl hb118 (q_indexRd (k := 0) rfl Tryz.underlying24 el_Int_3_AskC2 rfl rfl (hS9.rdl 4 rfl) (by omega) (by omega))) ?_
     refine wpR_q 4 (by kernel_rfl) rfl (quietAt_g rfl rfl rfl rfl hb118 (q_loadInt (k := 0) rfl rfl el_Int_3_AskC2 (hS9.rdl 4 rfl) (by omega) (labU_sub [] rfl (fe)))) ?_
     refine rq 7 (by kernel_rfl) rfl rfl (q_loadBlk rfl y4 Tryz.isAgg24 (hS9.blk 1 rfl) rfl (labU_not [] rfl (fe))) ?_
     refine rq 8 (by kernel_rfl) rfl rfl (q_indexRd (k := 0) rfl Tryz.underlying24 el_Int_3_AskC2 rfl rfl (hS9.rdl 4 rfl) (by omega) (by omega)) ?_
     refine rq 9 (by kernel_rfl) rfl rfl (q_loadInt (k := 0) rfl rfl el_Int_3_AskC2 (hS9.rdl 4 rfl) (by omega) (labU_sub [] rfl (fe))) ?_
     refine wpR_n [5] (by kernel_rfl) ?_
     refine fa ?_ fe
     refine exE_g rfl rfl rfl rfl hb118 ?_
     refine e_call rfl Tryz.call42 (arr1 (v0 := I (nth K 0)) rfl) (Word_L (nth K 0)) ?_
     rintro _ H116o5 ⟨hxx, rfl⟩
     have hS116o5 := hS9.ext hxx
     refine ⟨Ext.mono hxx (fun _ h => h.elim), ?_⟩
     refine rq 6 (by kernel_rfl) rfl rfl (q_pickT (v := B (decide (wordS (nth K 0)))) rfl hb118 rfl) ?_
     refine rq 10 (by kernel_rfl) rfl rfl (q_assign (v := B (decide (wordS (nth K 0)))) rfl rfl) ?_
     refine rq 11 (by kernel_rfl) rfl rfl (q_assign (v := I (nth K 0)) rfl rfl) ?_
     refine wpR_end (by kernel_rfl) ?_
     exact ⟨(Eq.trans rfl (congrArg B (decide_congr_of ((Iff.rfl).trans (((and_iff_right hg117).trans Iff.rfl)).symm)))), rfl, hS116o5⟩
    ·have hb119 := Eq.trans rfl (congrArg B (decide_eq_false hg117))
     refine wpR_q 2 (by kernel_rfl) rfl (quietAt_s rfl rfl rfl rfl hb119 rfl) ?_
     refine wpR_q 3 (by kernel_rfl) rfl (quietAt_s rfl rfl rfl rfl hb119 rfl) ?_
     refine wpR_q 4 (by kernel_rfl) rfl (quietAt_s rfl rfl rfl rfl hb119 rfl) ?_
     refine wpR_q 5 (by kernel_rfl) rfl (quietAt_s rfl rfl rfl rfl hb119 rfl) ?_
     refine rq 6 (by kernel_rfl) rfl rfl (q_pickF (v := B (false)) rfl hb119 rfl) ?_
     refine rq 7 (by kernel_rfl) rfl rfl (q_loadBlk rfl y4 Tryz.isAgg24 (hS9.blk 1 rfl) rfl (labU_not [] rfl (fe))) ?_
     refine rq 8 (by kernel_rfl) rfl rfl (q_indexRd (k := 0) rfl Tryz.underlying24 el_Int_3_AskC2 rfl rfl (hS9.rdl 4 rfl) (by omega) (by omega)) ?_
     refine rq 9 (by kernel_rfl) rfl rfl (q_loadInt (k := 0) rfl rfl el_Int_3_AskC2 (hS9.rdl 4 rfl) (by omega) (labU_sub [] rfl (fe))) ?_
     refine rq 10 (by kernel_rfl) rfl rfl (q_assign (v := B (false)) rfl rfl) ?_
     refine rq 11 (by kernel_rfl) rfl rfl (q_assign (v := I (nth K 0)) rfl rfl) ?_
     refine wpR_end (by kernel_rfl) ?_
     exact ⟨(Eq.trans rfl (congrArg B ((decide_eq_false (fun h => hg117 h.1)).symm))), rfl, hS9⟩
   clear y10 y25 y4 y7 y8 y9
   rintro f120 H120 ⟨y9, y10, hS120⟩
   exact ⟨(Eq.trans y9 (congrArg B (by rw [okS, hp115]; rfl))), (Eq.trans y10 (congrArg I (by rw [outS, hp115]; rfl))), hS120⟩
  refine wpF_seq ?_
  refine wpF_region ?_
  refine lq rfl (q_eql rfl y25 rfl) ?_
  refine la (v := B (decide (n.Op = 22))) rfl rfl rfl ?_
  refine wpL_nil ?_
  refine wpF_condP rfl (fun hp121 => ?t147) (fun hp121 => ?e147)
  case t147 =>
   refine wpF_cut (fun f H => f 9 = B (decide ((((K.length : Int) = 2) ∧ ((nth K 0) = (nth K 1))) ∧ (wordS (nth K 0)))) ∧ f 10 = I (1) ∧ St H0 NoB NoB [bE g7 #[SB (d.Name), vd, I (d.Srt)] 43, bE g4 #[vK] 24, bE g1 #[I (n.Op), vk, I (n.N), I (n.D), SB (n.Name)] 52, rdE vk n.Kids, rdE vK K, rdE vd d.Args] H) ?_ ?_
   ·refine wpF_region ?_
    refine lm (v := B (decide (((K.length : Int) = 2) ∧ ((nth K 0) = (nth K 1))))) rfl rfl y8 ?_
    refine lm (v := B (decide (((K.length : Int) = 2) ∧ ((nth K 0) = (nth K 1))))) rfl rfl rfl ?_
    by_cases hg122 : ((K.length : Int) = 2) ∧ ((nth K 0) = (nth K 1))
    ·have hb123 := Eq.trans rfl (congrArg B (decide_eq_true hg122))
     refine gq rfl rfl rfl hb123 (q_loadBlk rfl y4 Tryz.isAgg24 (hS9.blk 1 rfl) rfl (fun h => h)) ?_
     refine gq rfl rfl rfl hb123 (q_indexRd (k := 0) rfl Tryz.underlying24 el_Int_3_AskC2 rfl rfl (hS9.rdl 4 rfl) (by omega) (by omega)) ?_
     refine gq rfl rfl rfl hb123 (q_loadInt (k := 0) rfl rfl el_Int_3_AskC2 (hS9.rdl 4 rfl) (by omega) (fun _ h => h)) ?_
     refine wpL_go rfl rfl rfl hb123 ?_
     refine e_call rfl Tryz.call42 (arr1 (v0 := I (nth K 0)) rfl) (Word_L (nth K 0)) ?_
     rintro _ H125 ⟨hxx, rfl⟩
     have hS126 := hS9.ext hxx
     refine lq rfl (q_pickT (v := B (decide (wordS (nth K 0)))) rfl hb123 rfl) ?_
     refine la (v := B (decide (wordS (nth K 0)))) rfl rfl rfl ?_
     exact ⟨(Eq.trans rfl (congrArg B (decide_congr_of ((Iff.rfl).trans (((and_iff_right hg122).trans Iff.rfl)).symm)))), y10, hS126⟩
    ·have hb124 := Eq.trans rfl (congrArg B (decide_eq_false hg122))
     refine wpL_gs rfl rfl rfl hb124 rfl ?_
     refine wpL_gs rfl rfl rfl hb124 rfl ?_
     refine wpL_gs rfl rfl rfl hb124 rfl ?_
     refine wpL_gs rfl rfl rfl hb124 rfl ?_
     refine lq rfl (q_pickF (v := B (false)) rfl hb124 rfl) ?_
     refine la (v := B (false)) rfl rfl rfl ?_
     exact ⟨(Eq.trans rfl (congrArg B ((decide_eq_false (fun h => hg122 h.1)).symm))), y10, hS9⟩
   clear y10 y25 y4 y7 y8 y9
   rintro f128 H128 ⟨y9, y10, hS128⟩
   exact ⟨(Eq.trans y9 (congrArg B (by rw [okS, hp121]; rfl))), (Eq.trans y10 (congrArg I (by rw [outS, hp121]; rfl))), hS128⟩
  refine wpF_seq ?_
  refine wpF_region ?_
  refine lq rfl (q_eql rfl y25 rfl) ?_
  refine la (v := B (decide (n.Op = 24))) rfl rfl rfl ?_
  refine wpL_nil ?_
  refine wpF_condP rfl (fun hp129 => ?t146) (fun hp129 => ?e146)
  case t146 =>
   refine wpF_region ?_
   refine lm (v := Value.func (.func 83) #[] #[PT g4 0]) rfl rfl y7 ?_
   refine lo rfl ?_
   refine e_buildSlice (vs := [I (5), I (4)]) (xs := ([5, 4] : List Int)) rfl Tryz.underlying24 Tryz.zeroValue3 rfl Tryz.sizeOf3 (par2 (v0 := I (5)) (v1 := I (4)) rfl rfl) rfl hS9 (RdVs.cons (Rd.int.2 ⟨rfl, by constructor <;> omega⟩) (RdVs.cons (Rd.int.2 ⟨rfl, by constructor <;> omega⟩) (RdVs.nil))) (by decide) (by decide) (fun v130 H131 hS132 hxx hvv130 => ?_)
   have hS133 : St H0 NoB NoB [rdE v130 ([5, 4] : List Int), bE g7 #[SB (d.Name), vd, I (d.Srt)] 43, bE g4 #[vK] 24, bE g1 #[I (n.Op), vk, I (n.N), I (n.D), SB (n.Name)] 52, rdE vk n.Kids, rdE vK K, rdE vd d.Args] H131 := St.fin hS132
   refine lo rfl ?_
   refine e_callV rfl rfl Tryz.call83 (arr1 (v0 := v130) rfl) (Sort_1 v130 g4 vK ([5, 4]) K (hS133.blk 2 rfl) (hS133.rdN 0 rfl) (hS133.rdN 5 rfl)) ?_
   rintro _ H134 ⟨hxx, rfl⟩
   have hS135 := hS133.ext hxx
   refine la (v := B (decide (K = ([5, 4])))) rfl rfl rfl ?_
   refine la (v := I (4)) rfl rfl rfl ?_
   refine wpL_nil ?_
   exact ⟨(Eq.trans rfl (congrArg B (by rw [okS, hp129]; rfl))), (Eq.trans rfl (congrArg I (by rw [outS, hp129]; rfl))), (hS135.drop (sn (sk (sk (sk (sk (sk (sk (List.Sublist.slnil)))))))))⟩
  refine wpF_seq ?_
  refine wpF_region ?_
  refine lq rfl (q_eql rfl y25 rfl) ?_
  refine la (v := B (decide (n.Op = 25))) rfl rfl rfl ?_
  refine wpL_nil ?_
  refine wpF_condP rfl (fun hp137 => ?t145) (fun hp137 => ?e145)
  case e145 =>
   refine wpF_skip ?_
   exact ⟨(Eq.trans y9 (congrArg B (by rw [okS, if_neg hp16, if_neg hp17, if_neg hp18, if_neg hp22, if_neg hp26, if_neg hp30, if_neg hp34, if_neg hp43, if_neg hp60, if_neg hp62, if_neg hp66, if_neg hp68, if_neg hp74, if_neg hp78, if_neg hp82, if_neg hp84, if_neg hp87, if_neg hp90, if_neg hp97, if_neg hp103, if_neg hp109, if_neg hp115, if_neg hp121, if_neg hp129, if_neg hp137]))), (Eq.trans y10 (congrArg I (by unfold outS; simp [hp16, hp17, hp18, hp22, hp26, hp30, hp34, hp43, hp60, hp62, hp66, hp68, hp74, hp78, hp82, hp84, hp87, hp90, hp97, hp103, hp109, hp115, hp121, hp129, hp137]))), hS9⟩
  refine wpF_region ?_
  refine lm (v := Value.func (.func 83) #[] #[PT g4 0]) rfl rfl y7 ?_
  refine lo rfl ?_
  refine e_buildSlice (vs := [I (5), I (4), I (4)]) (xs := ([5, 4, 4] : List Int)) rfl Tryz.underlying24 Tryz.zeroValue3 rfl Tryz.sizeOf3 (par3 (v0 := I (5)) (v1 := I (4)) (v2 := I (4)) rfl rfl rfl) rfl hS9 (RdVs.cons (Rd.int.2 ⟨rfl, by constructor <;> omega⟩) (RdVs.cons (Rd.int.2 ⟨rfl, by constructor <;> omega⟩) (RdVs.cons (Rd.int.2 ⟨rfl, by constructor <;> omega⟩) (RdVs.nil)))) (by decide) (by decide) (fun v138 H139 hS140 hxx hvv138 => ?_)
  have hS141 : St H0 NoB NoB [rdE v138 ([5, 4, 4] : List Int), bE g7 #[SB (d.Name), vd, I (d.Srt)] 43, bE g4 #[vK] 24, bE g1 #[I (n.Op), vk, I (n.N), I (n.D), SB (n.Name)] 52, rdE vk n.Kids, rdE vK K, rdE vd d.Args] H139 := St.fin hS140
  refine lo rfl ?_
  refine e_callV rfl rfl Tryz.call83 (arr1 (v0 := v138) rfl) (Sort_1 v138 g4 vK ([5, 4, 4]) K (hS141.blk 2 rfl) (hS141.rdN 0 rfl) (hS141.rdN 5 rfl)) ?_
  rintro _ H142 ⟨hxx, rfl⟩
  have hS143 := hS141.ext hxx
  refine la (v := B (decide (K = ([5, 4, 4])))) rfl rfl rfl ?_
  refine la (v := I (5)) rfl rfl rfl ?_
  refine wpL_nil ?_
  exact ⟨(Eq.trans rfl (congrArg B (by rw [okS, hp137]; rfl))), (Eq.trans rfl (congrArg I (by rw [outS, hp137]; rfl))), (hS143.drop (sn (sk (sk (sk (sk (sk (sk (List.Sublist.slnil)))))))))⟩
 clear y3 y4 y5 y7 y8
 rintro f15 H15 ⟨y9, y10, hS15⟩
 refine wpF_seq ?_
 refine wpF_seq ?_
 refine wpF_region ?_
 refine lm (v := B (okS n K d)) rfl rfl y9 ?_
 refine lq rfl (q_not rfl rfl) ?_
 refine wpL_nil ?_
 refine wpF_cond rfl (fun hok => ?t171) (fun hok => ?e171)
 case t171 =>
  refine wpF_seq ?_
  refine wpF_region ?_
  refine la (v := I (0)) rfl rfl rfl ?_
  refine wpL_nil ?_
  refine wpF_ret ?_
  refine ⟨_, resT rfl resN, hS15.frame, ?_⟩
  show (I (0)) = I (sortN n K d)
  exact congrArg I (if_neg (by simpa using hok)).symm
 refine wpF_skip ?_
 refine wpF_seq ?_
 refine wpF_region ?_
 refine lm (v := I (outS n K d)) rfl rfl y10 ?_
 refine la (v := I (outS n K d)) rfl rfl rfl ?_
 refine wpL_nil ?_
 refine wpF_ret ?_
 refine ⟨_, resT rfl resN, hS15.frame, ?_⟩
 show (I (outS n K d)) = I (sortN n K d)
 exact congrArg I (if_pos (by simpa using hok)).symm
set_option maxHeartbeats 2000000 in
set_option maxRecDepth 100000 in
theorem node_L {H0 : Heap} (vD vN vH vS : Value) (a : Ask) (i : Nat) (S : List Int) (rvD : Rd NoB H0 vD a.Decls) (rvN : Rd NoB H0 vN a.Nodes) (rvH : Rd NoB H0 vH a.Hold) (rS : Rd NoB H0 vS S) (hi : i < a.Nodes.length) (hSl : S.length = i) : CallsH Tryz.prog 27 #[Vg #[vD, vN, vH], I ((i : Int)), vS] H0 (fun rv_ H' => Ext NoB H0 H' ∧ rv_ = Value.tuple #[I (nodeF a i S).1, I (nodeF a i S).2]) := by
 have hsN : a.Nodes.length * 64 ≤ 140737488355328 := (Rd.list.1 rvN).bound
 have hsD : a.Decls.length * 48 ≤ 140737488355328 := (Rd.list.1 rvD).bound
 have hS0 : St H0 NoB NoB [rdE vD a.Decls, rdE vN a.Nodes, rdE vH a.Hold, rdE vS S] H0 := St.arg (St.arg (St.arg (St.arg (St.start (fun _ h => h.elim)) (Bl0.nil) rS (fun _ h => h)) (Bl0.cons (Bl0.nil)) rvH (fun _ h => h)) (Bl0.cons (Bl0.cons (Bl0.nil))) rvN (fun _ h => h)) (Bl0.cons (Bl0.cons (Bl0.cons (Bl0.nil)))) rvD (fun _ h => h)
 refine callsH_of_wpF (args := [Vg #[vD, vN, vH], I ((i : Int)), vS]) (rs := [.tmp 6, .tmp 7]) Tryz.func27 rfl Tryz.ntmps27 Tryz.results27 (by kernel_rfl) (Nat.le_of_ble_eq_true rfl) ?_
 have y0 : argF [Vg #[vD, vN, vH], I ((i : Int)), vS] 0 = Vg #[vD, vN, vH] := rfl
 have y1 : argF [Vg #[vD, vN, vH], I ((i : Int)), vS] 1 = I ((i : Int)) := rfl
 have y2 : argF [Vg #[vD, vN, vH], I ((i : Int)), vS] 2 = vS := rfl
 generalize argF [Vg #[vD, vN, vH], I ((i : Int)), vS] = f0 at *
 refine wpF_seq ?_
 refine wpF_region ?_
 refine lo rfl ?_
 refine e_box (v := Vg #[vD, vN, vH]) rfl y0 hS0 (fun g1 H2 hS3 hxx => ?_)
 refine la (v := I (0)) rfl rfl rfl ?_
 refine la (v := I (0)) rfl rfl rfl ?_
 refine wpL_nil ?_
 refine wpF_seq ?_
 refine wpF_region ?_
 refine lq rfl (q_fieldAddr rfl Tryz.underlying26 rfl Tryz.sizeOf23 rfl) ?_
 refine lq rfl (q_loadBlk rfl rfl Tryz.isAgg23 (hS3.blk 0 rfl) rfl (fun h => h)) ?_
 refine lm (v := I ((i : Int))) rfl rfl y1 ?_
 refine lq rfl (q_indexRd (k := i) rfl Tryz.underlying23 el_Node_52_AskC2 rfl rfl (hS3.rdl 2 rfl) (by omega) (by omega)) ?_
 obtain ⟨u4, huu4, hlu4⟩ := (Rd.list.1 (hS3.rdS 2 rfl)).elem i (by omega)
 obtain ⟨u4n1, rfl, hu40, hu41, hu42, hu43, hu44⟩ := Rd.node.1 huu4
 have hS5 := hS3.rd hu41
 refine lq rfl (q_loadE rfl rfl (hlu4 Tryz.prog 52 _ el_Node_52_AskC2 (fun _ h => False.elim h))) ?_
 refine lo rfl ?_
 refine e_alloc rfl Tryz.zeroValue52 hS5 (fun g6 H7 hS8 hxx => ?_)
 refine lo rfl ?_
 refine e_storeBlkA (cs' := #[I ((nth a.Nodes i).Op), u4n1, I ((nth a.Nodes i).N), I ((nth a.Nodes i).D), SB ((nth a.Nodes i).Name)]) rfl rfl rfl Tryz.sizeOf52 rfl rfl (fa rfl (fa ((oneCell_rdL (hS8.rdl 1 rfl))) (fa rfl (fa rfl (fa rfl fe))))) hS8 (fun H9 hS10 hxx => ?_)
 refine wpL_nil ?_
 refine wpF_seq ?_
 refine fcr (fun f H => f 1 = I ((i : Int)) ∧ f 2 = vS ∧ f 3 = PT g1 0 ∧ f 8 = PT g6 0 ∧ f 28 = B (decide ((((nth a.Nodes i).Op) < 1) ∨ (25 < ((nth a.Nodes i).Op)))) ∧ H9 = H) ?_ ?_
 ·refine lq rfl (q_fieldAddr rfl Tryz.underlying52 rfl Tryz.sizeOf3 rfl) ?_
  refine lq rfl (q_loadBlk rfl rfl Tryz.isAgg3 (hS10.blk 0 rfl) rfl (fun h => h)) ?_
  refine lq rfl (q_lss rfl rfl rfl) ?_
  refine lm (v := B (decide (((nth a.Nodes i).Op) < 1))) rfl rfl rfl ?_
  by_cases hg11 : ((nth a.Nodes i).Op) < 1
  ·have hb12 := Eq.trans rfl (congrArg B (decide_eq_true hg11))
   refine wpL_gs rfl rfl rfl hb12 rfl ?_
   refine wpL_gs rfl rfl rfl hb12 rfl ?_
   refine wpL_gs rfl rfl rfl hb12 rfl ?_
   refine lq rfl (q_pickT (v := B (true)) rfl hb12 rfl) ?_
   exact ⟨y1, y2, rfl, rfl, (Eq.trans rfl (congrArg B ((decide_eq_true (Or.inl hg11)).symm))), rfl⟩
  ·have hb13 := Eq.trans rfl (congrArg B (decide_eq_false hg11))
   refine gq rfl rfl rfl hb13 (q_fieldAddr rfl Tryz.underlying52 rfl Tryz.sizeOf3 rfl) ?_
   refine gq rfl rfl rfl hb13 (q_loadBlk rfl rfl Tryz.isAgg3 (hS10.blk 0 rfl) rfl (fun h => h)) ?_
   refine gq rfl rfl rfl hb13 (q_gtr rfl rfl rfl) ?_
   refine lq rfl (q_pickF (v := B (decide (25 < ((nth a.Nodes i).Op)))) rfl hb13 rfl) ?_
   exact ⟨y1, y2, rfl, rfl, (Eq.trans rfl (congrArg B (decide_congr_of ((Iff.rfl).trans (((or_iff_right hg11).trans Iff.rfl)).symm)))), rfl⟩
 clear y1 y2
 rintro f14 _ ⟨y1, y2, y3, y8, y28, rfl⟩
 refine wpF_condP y28 (fun h28 => ?t81) (fun h28 => ?e81)
 case t81 =>
  refine wpF_seq ?_
  refine wpF_region ?_
  refine la (v := I (0)) rfl rfl rfl ?_
  refine la (v := I (4)) rfl rfl rfl ?_
  refine wpL_nil ?_
  refine wpF_ret ?_
  refine ⟨_, resT rfl (resT rfl resN), hS10.frame, ?_⟩
  show (Value.tuple #[I (0), I (4)]) = Value.tuple #[I (nodeF a i S).1, I (nodeF a i S).2]
  have hq : nodeF a i S = _ := nodeF_op h28
  rw [hq]
 refine wpF_skip ?_
 refine wpF_seq ?_
 refine wpF_region ?_
 refine lo rfl ?_
 refine e_alloc rfl Tryz.zeroValue43 hS10 (fun g16 H17 hS18 hxx => ?_)
 refine wpL_nil ?_
 refine wpF_seq ?_
 refine wpF_region ?_
 refine lq rfl (q_fieldAddr rfl Tryz.underlying52 rfl Tryz.sizeOf3 y8) ?_
 refine lq rfl (q_loadBlk rfl rfl Tryz.isAgg3 (hS18.blk 1 rfl) rfl (fun h => h)) ?_
 refine lo rfl ?_
 refine e_call rfl Tryz.call50 (arr1 (v0 := I ((nth a.Nodes i).Op)) rfl) (Kids_L  ((nth a.Nodes i).Op)  ) ?_
 rintro _ H19 ⟨hxx, rfl⟩
 have hS20 := hS18.ext hxx
 refine la (v := I (((kidsN ((nth a.Nodes i).Op))))) rfl rfl rfl ?_
 refine wpL_nil ?_
 refine wpF_seq ?_
 refine wpF_seq ?_
 refine wpF_region ?_
 refine lq rfl (q_fieldAddr rfl Tryz.underlying52 rfl Tryz.sizeOf3 y8) ?_
 refine lq rfl (q_loadBlk rfl rfl Tryz.isAgg3 (hS20.blk 1 rfl) rfl (fun h => h)) ?_
 refine lq rfl (q_eql rfl rfl rfl) ?_
 refine wpL_nil ?_
 have hS22 : St H0 NoB NoB [rdE nS ([] : List Int), blkE g16 (.cells #[SB (ByteArray.mk #[]), nS, I (0)] 43), bE g6 #[I ((nth a.Nodes i).Op), u4n1, I ((nth a.Nodes i).N), I ((nth a.Nodes i).D), SB ((nth a.Nodes i).Name)] 52, rdE u4n1 ((nth a.Nodes i).Kids), bE g1 #[vD, vN, vH] 26, rdE vD a.Decls, rdE vN a.Nodes, rdE vH a.Hold, rdE vS S] H19 := hS20.rd rdNil
 refine wpF_cut (fun f H => ∃ (vA : Value), (¬ ((nth a.Nodes i).Op = 9 ∧ findD a.Decls (nth a.Nodes i).Name < 0)) ∧ ((declOf a (nth a.Nodes i)).Name.size ≤ maxLen) ∧ (In64 (declOf a (nth a.Nodes i)).Srt) ∧ f 1 = I ((i : Int)) ∧ f 2 = vS ∧ f 8 = PT g6 0 ∧ f 9 = PT g16 0 ∧ f 10 = I (wantN a (nth a.Nodes i)) ∧ St H0 NoB NoB [bE g16 #[SB ((declOf a (nth a.Nodes i)).Name), vA, I ((declOf a (nth a.Nodes i)).Srt)] 43, bE g6 #[I ((nth a.Nodes i).Op), u4n1, I ((nth a.Nodes i).N), I ((nth a.Nodes i).D), SB ((nth a.Nodes i).Name)] 52, rdE vA ((declOf a (nth a.Nodes i)).Args), rdE u4n1 ((nth a.Nodes i).Kids), rdE vD a.Decls, rdE vN a.Nodes, rdE vH a.Hold, rdE vS S, bE g1 #[vD, vN, vH] 26] H) ?_ ?_
 ·refine wpF_condP rfl (fun h34 => ?t36) (fun h34 => ?e36)
  case e36 =>
   refine wpF_skip ?_
   exact ⟨nS, (fun h => h34 h.1), (by rw [declOf_no h34]; exact Nat.zero_le _), (by rw [declOf_no h34]; constructor <;> decide), y1, y2, y8, rfl, (Eq.trans rfl (congrArg I (wantN_no h34).symm)), (by have h__ := (St.drop (show St H0 NoB NoB [blkE g16 (.cells #[SB (ByteArray.mk #[]), nS, I (0)] 43), bE g6 #[I ((nth a.Nodes i).Op), u4n1, I ((nth a.Nodes i).N), I ((nth a.Nodes i).D), SB ((nth a.Nodes i).Name)] 52, rdE nS ([] : List Int), rdE u4n1 ((nth a.Nodes i).Kids), rdE vD a.Decls, rdE vN a.Nodes, rdE vH a.Hold, rdE vS S, bE g1 #[vD, vN, vH] 26] H19 from ((((((((hS22.front 8 rfl).front 8 rfl).front 8 rfl).front 8 rfl).front 7 rfl).front 5 rfl).front 7 rfl).front 7 rfl)) (sk (sk (sk (sk (sk (sk (sk (sk (sk (List.Sublist.slnil))))))))))); rw [declOf_no h34]; exact h__)⟩
  refine wpF_seq ?_
  refine wpF_region ?_
  refine lq rfl (q_loadBlkA rfl y3 Tryz.isAgg26 Tryz.sizeOf26 rfl (hS22.blk 4 rfl) (fun h => h)) ?_
  refine lq rfl (q_fieldAddr rfl Tryz.underlying52 rfl Tryz.sizeOf9 y8) ?_
  refine lq rfl (q_loadBlk rfl rfl Tryz.isAgg9 (hS22.blk 2 rfl) rfl (fun h => h)) ?_
  refine lo rfl ?_
  refine e_call rfl Tryz.call51 (arr2 (v0 := Vg #[vD, vN, vH]) (v1 := SB ((nth a.Nodes i).Name)) rfl rfl) (Find_L vD vN vH a ((nth a.Nodes i).Name) (hS22.rdN 5 rfl) (hS22.rdN 6 rfl) (hS22.rdN 7 rfl)) ?_
  rintro _ H25 ⟨hxx, rfl⟩
  have hS26 := hS22.ext hxx
  refine la (v := I (findD a.Decls ((nth a.Nodes i).Name))) rfl rfl rfl ?_
  refine wpL_nil ?_
  refine wpF_seq ?_
  refine wpF_seq ?_
  refine wpF_region ?_
  refine lm (v := I (findD a.Decls ((nth a.Nodes i).Name))) rfl rfl rfl ?_
  refine lq rfl (q_lss rfl rfl rfl) ?_
  refine wpL_nil ?_
  refine wpF_condP rfl (fun h40 => ?t34) (fun h40 => ?e34)
  case t34 =>
   refine wpF_seq ?_
   refine wpF_region ?_
   refine la (v := I (0)) rfl rfl rfl ?_
   refine la (v := I (6)) rfl rfl rfl ?_
   refine wpL_nil ?_
   refine wpF_ret ?_
   refine ⟨_, resT rfl (resT rfl resN), hS26.frame, ?_⟩
   show (Value.tuple #[I (0), I (6)]) = Value.tuple #[I (nodeF a i S).1, I (nodeF a i S).2]
   have hq : nodeF a i S = _ := nodeF_none h28 h34 h40
   rw [hq]
  have hfl := findD_lt (l := a.Decls) (nm := (nth a.Nodes i).Name)
  refine wpF_skip ?_
  refine wpF_seq ?_
  refine wpF_region ?_
  refine lq rfl (q_fieldAddr rfl Tryz.underlying26 rfl Tryz.sizeOf22 y3) ?_
  refine lq rfl (q_loadBlk rfl rfl Tryz.isAgg22 (hS26.blk 4 rfl) rfl (fun h => h)) ?_
  refine lm (v := I (findD a.Decls ((nth a.Nodes i).Name))) rfl rfl rfl ?_
  refine lq rfl (q_indexRd (k := (findD a.Decls ((nth a.Nodes i).Name)).toNat) rfl Tryz.underlying22 el_Decl_43_AskC2 rfl rfl (hS26.rdl 5 rfl) (by omega) (by omega)) ?_
  obtain ⟨u29, huu29, hlu29⟩ := (Rd.list.1 (hS26.rdS 5 rfl)).elem ((findD a.Decls ((nth a.Nodes i).Name)).toNat) (by omega)
  obtain ⟨u29n1, rfl, hu290, hu291, hu292⟩ := Rd.decl.1 huu29
  have hS30 := hS26.rd hu291
  refine lq rfl (q_loadE rfl rfl (hlu29 Tryz.prog 43 _ el_Decl_43_AskC2 (fun _ h => False.elim h))) ?_
  refine lo rfl ?_
  refine e_storeBlkA (cs' := #[SB ((nth a.Decls ((findD a.Decls ((nth a.Nodes i).Name)).toNat)).Name), u29n1, I ((nth a.Decls ((findD a.Decls ((nth a.Nodes i).Name)).toNat)).Srt)]) rfl rfl rfl Tryz.sizeOf43 rfl rfl (fa rfl (fa ((oneCell_rdL (hS30.rdl 0 rfl))) (fa rfl fe))) (hS30.front 2 rfl) (fun H31 hS32 hxx => ?_)
  refine wpL_nil ?_
  refine wpF_region ?_
  refine lq rfl (q_fieldAddr rfl Tryz.underlying43 rfl Tryz.sizeOf24 rfl) ?_
  refine lq rfl (q_loadBlk rfl rfl Tryz.isAgg24 (hS32.blk 0 rfl) rfl (fun h => h)) ?_
  refine lq rfl (q_lenRd rfl Tryz.underlying24 rfl (hS32.rdl 1 rfl)) ?_
  refine la (v := I ((((nth a.Decls ((findD a.Decls ((nth a.Nodes i).Name)).toNat)).Args).length : Int))) rfl rfl rfl ?_
  refine wpL_nil ?_
  exact ⟨u29n1, (fun h => h40 h.2), (by rw [declOf_yes h34]; assumption), (by rw [declOf_yes h34]; assumption), y1, y2, y8, rfl, (Eq.trans rfl (congrArg I (wantN_yes h34).symm)), (by have h__ := (St.drop (show St H0 NoB NoB [bE g16 #[SB ((nth a.Decls ((findD a.Decls ((nth a.Nodes i).Name)).toNat)).Name), u29n1, I ((nth a.Decls ((findD a.Decls ((nth a.Nodes i).Name)).toNat)).Srt)] 43, bE g6 #[I ((nth a.Nodes i).Op), u4n1, I ((nth a.Nodes i).N), I ((nth a.Nodes i).D), SB ((nth a.Nodes i).Name)] 52, rdE u29n1 ((nth a.Decls ((findD a.Decls ((nth a.Nodes i).Name)).toNat)).Args), rdE u4n1 ((nth a.Nodes i).Kids), rdE vD a.Decls, rdE vN a.Nodes, rdE vH a.Hold, rdE vS S, rdE nS ([] : List Int), bE g1 #[vD, vN, vH] 26] H31 from ((((((((hS32.front 9 rfl).front 9 rfl).front 9 rfl).front 9 rfl).front 8 rfl).front 6 rfl).front 8 rfl).front 7 rfl)) (sk (sk (sk (sk (sk (sk (sk (sk (sn (sk (List.Sublist.slnil)))))))))))); rw [declOf_yes h34]; exact h__)⟩
 clear y1 y2 y3 y8
 rintro f23 H23 ⟨vA, hF, hds, hdi, y1, y2, y8, y9, y10, hS23⟩
 refine wpF_seq ?_
 refine fcr (fun f H => f 1 = I ((i : Int)) ∧ f 2 = vS ∧ f 8 = PT g6 0 ∧ f 9 = PT g16 0 ∧ f 63 = B (decide (((0 ≤ (wantN a (nth a.Nodes i))) ∧ ((((nth a.Nodes i).Kids).length : Int) ≠ (wantN a (nth a.Nodes i)))) ∨ (8 < (((nth a.Nodes i).Kids).length : Int)))) ∧ H23 = H) ?_ ?_
 ·refine lm (v := I (wantN a (nth a.Nodes i))) rfl rfl y10 ?_
  refine lq rfl (q_geq rfl rfl rfl) ?_
  refine lm (v := B (decide (0 ≤ (wantN a (nth a.Nodes i))))) rfl rfl rfl ?_
  by_cases hg37 : 0 ≤ (wantN a (nth a.Nodes i))
  ·have hb38 := Eq.trans rfl (congrArg B (decide_eq_true hg37))
   refine gq rfl rfl rfl hb38 (q_fieldAddr rfl Tryz.underlying52 rfl Tryz.sizeOf24 y8) ?_
   refine gq rfl rfl rfl hb38 (q_loadBlk rfl rfl Tryz.isAgg24 (hS23.blk 1 rfl) rfl (fun h => h)) ?_
   refine gq rfl rfl rfl hb38 (q_lenRd rfl Tryz.underlying24 rfl (hS23.rdl 3 rfl)) ?_
   refine gq rfl rfl rfl hb38 (q_move (v := I (wantN a (nth a.Nodes i))) rfl y10) ?_
   refine gq rfl rfl rfl hb38 (q_neq rfl rfl rfl) ?_
   refine lq rfl (q_pickT (v := B (decide ((((nth a.Nodes i).Kids).length : Int) ≠ (wantN a (nth a.Nodes i))))) rfl hb38 rfl) ?_
   refine lm (v := B (decide ((((nth a.Nodes i).Kids).length : Int) ≠ (wantN a (nth a.Nodes i))))) rfl rfl rfl ?_
   by_cases hg40 : (((nth a.Nodes i).Kids).length : Int) ≠ (wantN a (nth a.Nodes i))
   ·have hb41 := Eq.trans rfl (congrArg B (decide_eq_true hg40))
    refine wpL_gs rfl rfl rfl hb41 rfl ?_
    refine wpL_gs rfl rfl rfl hb41 rfl ?_
    refine wpL_gs rfl rfl rfl hb41 rfl ?_
    refine wpL_gs rfl rfl rfl hb41 rfl ?_
    refine lq rfl (q_pickT (v := B (true)) rfl hb41 rfl) ?_
    exact ⟨y1, y2, y8, y9, (Eq.trans rfl (congrArg B ((decide_eq_true (Or.inl ⟨hg37, hg40⟩)).symm))), rfl⟩
   ·have hb42 := Eq.trans rfl (congrArg B (decide_eq_false hg40))
    refine gq rfl rfl rfl hb42 (q_fieldAddr rfl Tryz.underlying52 rfl Tryz.sizeOf24 y8) ?_
    refine gq rfl rfl rfl hb42 (q_loadBlk rfl rfl Tryz.isAgg24 (hS23.blk 1 rfl) rfl (fun h => h)) ?_
    refine gq rfl rfl rfl hb42 (q_lenRd rfl Tryz.underlying24 rfl (hS23.rdl 3 rfl)) ?_
    refine gq rfl rfl rfl hb42 (q_gtr rfl rfl rfl) ?_
    refine lq rfl (q_pickF (v := B (decide (8 < (((nth a.Nodes i).Kids).length : Int)))) rfl hb42 rfl) ?_
    exact ⟨y1, y2, y8, y9, (Eq.trans rfl (congrArg B (decide_congr_of ((Iff.rfl).trans (((or_iff_right (fun h => hg40 h.2)).trans Iff.rfl)).symm)))), rfl⟩
  ·have hb39 := Eq.trans rfl (congrArg B (decide_eq_false hg37))
   refine wpL_gs rfl rfl rfl hb39 rfl ?_
   refine wpL_gs rfl rfl rfl hb39 rfl ?_
   refine wpL_gs rfl rfl rfl hb39 rfl ?_
   refine wpL_gs rfl rfl rfl hb39 rfl ?_
   refine wpL_gs rfl rfl rfl hb39 rfl ?_
   refine lq rfl (q_pickF (v := B (false)) rfl hb39 rfl) ?_
   refine lm (v := B (false)) rfl rfl rfl ?_
   refine gq rfl rfl rfl rfl (q_fieldAddr rfl Tryz.underlying52 rfl Tryz.sizeOf24 y8) ?_
   refine gq rfl rfl rfl rfl (q_loadBlk rfl rfl Tryz.isAgg24 (hS23.blk 1 rfl) rfl (fun h => h)) ?_
   refine gq rfl rfl rfl rfl (q_lenRd rfl Tryz.underlying24 rfl (hS23.rdl 3 rfl)) ?_
   refine gq rfl rfl rfl rfl (q_gtr rfl rfl rfl) ?_
   refine lq rfl (q_pickF (v := B (decide (8 < (((nth a.Nodes i).Kids).length : Int)))) rfl rfl rfl) ?_
   exact ⟨y1, y2, y8, y9, (Eq.trans rfl (congrArg B (decide_congr_of ((Iff.rfl).trans (((or_iff_right (fun h => hg37 h.1)).trans Iff.rfl)).symm)))), rfl⟩
 clear y1 y10 y2 y8 y9
 rintro f43 _ ⟨y1, y2, y8, y9, y63, rfl⟩
 refine wpF_condP y63 (fun h63 => ?t80) (fun h63 => ?e80)
 case t80 =>
  refine wpF_seq ?_
  refine wpF_region ?_
  refine la (v := I (0)) rfl rfl rfl ?_
  refine la (v := I (9)) rfl rfl rfl ?_
  refine wpL_nil ?_
  refine wpF_ret ?_
  refine ⟨_, resT rfl (resT rfl resN), hS23.frame, ?_⟩
  show (Value.tuple #[I (0), I (9)]) = Value.tuple #[I (nodeF a i S).1, I (nodeF a i S).2]
  have hq : nodeF a i S = _ := nodeF_size h28 hF h63
  rw [hq]
 refine wpF_skip ?_
 refine wpF_seq ?_
 refine wpF_region ?_
 refine la (v := nS) rfl rfl rfl ?_
 refine wpL_nil ?_
 have hS45 : St H0 NoB NoB [rowE 3 nS ([] : List Int), bE g16 #[SB ((declOf a (nth a.Nodes i)).Name), vA, I ((declOf a (nth a.Nodes i)).Srt)] 43, bE g6 #[I ((nth a.Nodes i).Op), u4n1, I ((nth a.Nodes i).N), I ((nth a.Nodes i).D), SB ((nth a.Nodes i).Name)] 52, rdE vA ((declOf a (nth a.Nodes i)).Args), rdE u4n1 ((nth a.Nodes i).Kids), rdE vD a.Decls, rdE vN a.Nodes, rdE vH a.Hold, rdE vS S, bE g1 #[vD, vN, vH] 26] H23 := hS23.row0 3
 refine wpF_seq ?_
 refine wpF_seq ?_
 refine wpF_region ?_
 refine lq rfl (q_fieldAddr rfl Tryz.underlying52 rfl Tryz.sizeOf24 y8) ?_
 refine lq rfl (q_loadBlk rfl rfl Tryz.isAgg24 (hS45.blk 2 rfl) rfl (fun h => h)) ?_
 refine lq rfl (q_lenRd rfl Tryz.underlying24 rfl (hS45.rdl 4 rfl)) ?_
 refine lm (v := I (0)) rfl rfl rfl ?_
 refine wpL_nil ?_
 refine wpF_block ?_
 refine wpF_loop (fun mz f H => ∃ (j : Nat), ∃ (vo : Value), mz = (nth a.Nodes i).Kids.length - j ∧ (j ≤ (nth a.Nodes i).Kids.length) ∧ (∀ k, k < j → ¬ kidBad i (nth (nth a.Nodes i).Kids k)) ∧ f 1 = I ((i : Int)) ∧ f 2 = vS ∧ f 8 = PT g6 0 ∧ f 9 = PT g16 0 ∧ f 12 = vo ∧ f 65 = u4n1 ∧ f 66 = I ((((nth a.Nodes i).Kids).length : Int)) ∧ f 67 = I ((j : Int)) ∧ St H0 NoB NoB [rowE 3 vo (kidS S ((nth a.Nodes i).Kids.take j) : List Int), bE g16 #[SB ((declOf a (nth a.Nodes i)).Name), vA, I ((declOf a (nth a.Nodes i)).Srt)] 43, bE g6 #[I ((nth a.Nodes i).Op), u4n1, I ((nth a.Nodes i).N), I ((nth a.Nodes i).D), SB ((nth a.Nodes i).Name)] 52, rdE vA ((declOf a (nth a.Nodes i)).Args), rdE u4n1 ((nth a.Nodes i).Kids), rdE vD a.Decls, rdE vN a.Nodes, rdE vH a.Hold, rdE vS S, bE g1 #[vD, vN, vH] 26] H) ((nth a.Nodes i).Kids.length - 0) ?_ ?_
 ·exact ⟨0, nS, rfl, Nat.zero_le _, (fun j hj => absurd hj (Nat.not_lt_zero j)), y1, y2, y8, y9, rfl, rfl, rfl, (Eq.trans rfl (congrArg I (by omega))), (show St H0 NoB NoB [rowE 3 nS (kidS S ((nth a.Nodes i).Kids.take 0) : List Int), bE g16 #[SB ((declOf a (nth a.Nodes i)).Name), vA, I ((declOf a (nth a.Nodes i)).Srt)] 43, bE g6 #[I ((nth a.Nodes i).Op), u4n1, I ((nth a.Nodes i).N), I ((nth a.Nodes i).D), SB ((nth a.Nodes i).Name)] 52, rdE vA ((declOf a (nth a.Nodes i)).Args), rdE u4n1 ((nth a.Nodes i).Kids), rdE vD a.Decls, rdE vN a.Nodes, rdE vH a.Hold, rdE vS S, bE g1 #[vD, vN, vH] 26] H23 from hS45)⟩
 intro m46 f46 H46 hI46
 clear y1 y2 y8 y9
 obtain ⟨j, vo, hm46, hj, hno, y1, y2, y8, y9, y12, y65, y66, y67, hS46⟩ := hI46
 refine wpF_seq ?_
 refine wpF_region ?_
 refine lq rfl (q_lss rfl y67 y66) ?_
 refine wpL_nil ?_
 refine wpF_seq ?_
 refine wpF_condP rfl (fun hlt => ?t79) (fun hlt => ?e79)
 case t79 =>
  refine wpF_skip ?_
  refine wpF_seq ?_
  refine wpF_block ?_
  refine wpF_seq ?_
  refine wpF_region ?_
  refine lq rfl (q_indexRd (k := j) rfl Tryz.underlying24 el_Int_3_AskC2 y65 y67 (hS46.rdl 4 rfl) (by omega) (by omega)) ?_
  refine lq rfl (q_loadInt (k := j) rfl rfl el_Int_3_AskC2 (hS46.rdl 4 rfl) (by omega) (fun _ h => h)) ?_
  refine la (v := I (nth ((nth a.Nodes i).Kids) j)) rfl rfl rfl ?_
  refine wpL_nil ?_
  refine wpF_seq ?_
  refine fcr (fun f H => f 1 = I ((i : Int)) ∧ f 2 = vS ∧ f 8 = PT g6 0 ∧ f 9 = PT g16 0 ∧ f 12 = vo ∧ f 14 = I (nth ((nth a.Nodes i).Kids) j) ∧ f 65 = u4n1 ∧ f 66 = I ((((nth a.Nodes i).Kids).length : Int)) ∧ f 67 = I ((j : Int)) ∧ f 77 = B (decide (((nth ((nth a.Nodes i).Kids) j) < 0) ∨ ((i : Int) ≤ (nth ((nth a.Nodes i).Kids) j)))) ∧ H46 = H) ?_ ?_
  ·refine lm (v := I (nth ((nth a.Nodes i).Kids) j)) rfl rfl rfl ?_
   refine lq rfl (q_lss rfl rfl rfl) ?_
   refine lm (v := B (decide ((nth ((nth a.Nodes i).Kids) j) < 0))) rfl rfl rfl ?_
   by_cases hg49 : (nth ((nth a.Nodes i).Kids) j) < 0
   ·have hb50 := Eq.trans rfl (congrArg B (decide_eq_true hg49))
    refine wpL_gs rfl rfl rfl hb50 rfl ?_
    refine wpL_gs rfl rfl rfl hb50 rfl ?_
    refine wpL_gs rfl rfl rfl hb50 rfl ?_
    refine lq rfl (q_pickT (v := B (true)) rfl hb50 rfl) ?_
    exact ⟨y1, y2, y8, y9, y12, rfl, y65, y66, y67, (Eq.trans rfl (congrArg B ((decide_eq_true (Or.inl hg49)).symm))), rfl⟩
   ·have hb51 := Eq.trans rfl (congrArg B (decide_eq_false hg49))
    refine gq rfl rfl rfl hb51 (q_move (v := I (nth ((nth a.Nodes i).Kids) j)) rfl rfl) ?_
    refine gq rfl rfl rfl hb51 (q_move (v := I ((i : Int))) rfl y1) ?_
    refine gq rfl rfl rfl hb51 (q_geq rfl rfl rfl) ?_
    refine lq rfl (q_pickF (v := B (decide ((i : Int) ≤ (nth ((nth a.Nodes i).Kids) j)))) rfl hb51 rfl) ?_
    exact ⟨y1, y2, y8, y9, y12, rfl, y65, y66, y67, (Eq.trans rfl (congrArg B (decide_congr_of ((Iff.rfl).trans (((or_iff_right hg49).trans Iff.rfl)).symm)))), rfl⟩
  clear y1 y12 y2 y65 y66 y67 y8 y9
  rintro f52 _ ⟨y1, y2, y8, y9, y12, y14, y65, y66, y67, y77, rfl⟩
  refine wpF_condP y77 (fun h77 => ?t63) (fun h77 => ?e63)
  case t63 =>
   refine wpF_seq ?_
   refine wpF_region ?_
   refine la (v := I (0)) rfl rfl rfl ?_
   refine la (v := I (3)) rfl rfl rfl ?_
   refine wpL_nil ?_
   refine wpF_ret ?_
   refine ⟨_, resT rfl (resT rfl resN), hS46.frame, ?_⟩
   show (Value.tuple #[I (0), I (3)]) = Value.tuple #[I (nodeF a i S).1, I (nodeF a i S).2]
   have hq : nodeF a i S = _ := nodeF_range h28 hF h63 (nth_mem (by omega)) h77
   rw [hq]
  refine wpF_skip ?_
  have h6s := (Rd.list.1 rS).in64 (k := (nth (nth a.Nodes i).Kids j).toNat) (by omega)
  refine wpF_region ?_
  refine lm (v := vo) rfl rfl y12 ?_
  refine lm (v := vS) rfl rfl y2 ?_
  refine lm (v := I (nth ((nth a.Nodes i).Kids) j)) rfl rfl y14 ?_
  refine lq rfl (q_indexRd (k := (nth ((nth a.Nodes i).Kids) j).toNat) rfl Tryz.underlying24 el_Int_3_AskC2 rfl rfl (hS46.rdl 8 rfl) (by omega) (by omega)) ?_
  refine lq rfl (q_loadInt (k := (nth ((nth a.Nodes i).Kids) j).toNat) rfl rfl el_Int_3_AskC2 (hS46.rdl 8 rfl) (by omega) (fun _ h => h)) ?_
  refine lo rfl ?_
  refine e_buildSlice (vs := [I (nth S ((nth ((nth a.Nodes i).Kids) j).toNat))]) (xs := ([nth S ((nth ((nth a.Nodes i).Kids) j).toNat)] : List Int)) rfl Tryz.underlying24 Tryz.zeroValue3 rfl Tryz.sizeOf3 (par1 (v0 := I (nth S ((nth ((nth a.Nodes i).Kids) j).toNat))) rfl) rfl hS46 (RdVs.cons (Rd.int.2 ⟨rfl, by first | assumption | (constructor <;> omega)⟩) (RdVs.nil)) (by decide) (by decide) (fun v54 H55 hS56 hxx hvv54 => ?_)
  have hS57 : St H0 NoB NoB [rdE v54 ([nth S ((nth ((nth a.Nodes i).Kids) j).toNat)] : List Int), rowE 3 vo (kidS S ((nth a.Nodes i).Kids.take j) : List Int), bE g16 #[SB ((declOf a (nth a.Nodes i)).Name), vA, I ((declOf a (nth a.Nodes i)).Srt)] 43, bE g6 #[I ((nth a.Nodes i).Op), u4n1, I ((nth a.Nodes i).N), I ((nth a.Nodes i).D), SB ((nth a.Nodes i).Name)] 52, rdE vA ((declOf a (nth a.Nodes i)).Args), rdE u4n1 ((nth a.Nodes i).Kids), rdE vD a.Decls, rdE vN a.Nodes, rdE vH a.Hold, rdE vS S, bE g1 #[vD, vN, vH] 26] H55 := St.fin hS56
  have hS58 := (hS57.front 1 rfl)
  refine lo rfl ?_
  refine e_append rfl Tryz.underlying24 em_Int_3_AskC2 rfl rfl hS58 (hS58.rdS 1 rfl) (fun _ h => h) (by have hb : GoT.bytes Int = 8 := rfl; have hkl := kidS_len (S := S) (l := (nth a.Nodes i).Kids.take j); rw [List.length_take] at hkl; simp [hb]; omega) (by decide) (fun v59 H60 hS61 hxx => ?_)
  have hS62 : St H0 NoB NoB [rowE 3 v59 (kidS S ((nth a.Nodes i).Kids.take (j + 1)) : List Int), rdE v54 ([nth S ((nth ((nth a.Nodes i).Kids) j).toNat)] : List Int), bE g16 #[SB ((declOf a (nth a.Nodes i)).Name), vA, I ((declOf a (nth a.Nodes i)).Srt)] 43, bE g6 #[I ((nth a.Nodes i).Op), u4n1, I ((nth a.Nodes i).N), I ((nth a.Nodes i).D), SB ((nth a.Nodes i).Name)] 52, rdE vA ((declOf a (nth a.Nodes i)).Args), rdE u4n1 ((nth a.Nodes i).Kids), rdE vD a.Decls, rdE vN a.Nodes, rdE vH a.Hold, rdE vS S, bE g1 #[vD, vN, vH] 26] H60 := by rw [show (kidS S ((nth a.Nodes i).Kids.take (j + 1))) = ((kidS S ((nth a.Nodes i).Kids.take j)) ++ ([nth S ((nth ((nth a.Nodes i).Kids) j).toNat)])) from (kidS_next (by omega)).symm]; exact hS61
  refine la (v := v59) rfl rfl rfl ?_
  refine wpL_nil ?_
  refine wpF_region ?_
  refine lq rfl (q_add rfl y67 rfl (by constructor <;> omega)) ?_
  refine lm (v := I ((j : Int) + 1)) rfl rfl rfl ?_
  refine wpL_nil ?_
  refine ⟨_, ?_, j + 1, v59, rfl, (by omega), (all_succ hno h77), y1, y2, y8, y9, rfl, y65, y66, (Eq.trans rfl (congrArg I (by omega))), (hS62.drop (sk (sn (sk (sk (sk (sk (sk (sk (sk (sk (sk (List.Sublist.slnil)))))))))))))⟩
  omega
 have hS48 : St H0 NoB NoB [rowE 3 vo (kidS S (nth a.Nodes i).Kids : List Int), bE g16 #[SB ((declOf a (nth a.Nodes i)).Name), vA, I ((declOf a (nth a.Nodes i)).Srt)] 43, bE g6 #[I ((nth a.Nodes i).Op), u4n1, I ((nth a.Nodes i).N), I ((nth a.Nodes i).D), SB ((nth a.Nodes i).Name)] 52, rdE vA ((declOf a (nth a.Nodes i)).Args), rdE u4n1 ((nth a.Nodes i).Kids), rdE vD a.Decls, rdE vN a.Nodes, rdE vH a.Hold, rdE vS S, bE g1 #[vD, vN, vH] 26] H46 := by have h__ := hS46; rw [List.take_of_length_le (show (nth a.Nodes i).Kids.length ≤ j by omega)] at h__; exact h__
 refine wpF_exit ?_
 refine atX_here ?_
 refine wpF_seq ?_
 refine wpF_block ?_
 refine wpF_seq ?_
 refine wpF_region ?_
 refine lq rfl (q_loadBlkA rfl y8 Tryz.isAgg52 Tryz.sizeOf52 rfl (hS48.blk 2 rfl) (fun h => h)) ?_
 refine lo rfl ?_
 refine e_call rfl Tryz.call52 (arr1 (v0 := Vg #[I ((nth a.Nodes i).Op), u4n1, I ((nth a.Nodes i).N), I ((nth a.Nodes i).D), SB ((nth a.Nodes i).Name)]) rfl) (formed_L u4n1 (nth a.Nodes i) (by first | assumption | (constructor <;> omega)) (hS48.rdN 4 rfl) (by first | assumption | (constructor <;> omega)) (by first | assumption | (constructor <;> omega)) (by first | assumption | exact Nat.zero_le _) ) ?_
 rintro _ H64 ⟨hxx, rfl⟩
 have hS65 := hS48.ext hxx
 refine lq rfl (q_notP rfl rfl) ?_
 refine la (v := B (decide (¬ (formedN (nth a.Nodes i))))) rfl rfl rfl ?_
 refine wpL_nil ?_
 refine wpF_condP rfl (fun h86 => ?t78) (fun h86 => ?e78)
 case t78 =>
  refine wpF_seq ?_
  refine wpF_region ?_
  refine la (v := I (0)) rfl rfl rfl ?_
  refine la (v := I (5)) rfl rfl rfl ?_
  refine wpL_nil ?_
  refine wpF_ret ?_
  refine ⟨_, resT rfl (resT rfl resN), hS65.frame, ?_⟩
  show (Value.tuple #[I (0), I (5)]) = Value.tuple #[I (nodeF a i S).1, I (nodeF a i S).2]
  have hq : nodeF a i S = _ := nodeF_form h28 hF h63 (kids_no hno (by omega)) (by simpa using h86)
  rw [hq]
 refine wpF_seq ?_
 refine wpF_region ?_
 refine lq rfl (q_loadBlkA rfl y8 Tryz.isAgg52 Tryz.sizeOf52 rfl (hS65.blk 2 rfl) (fun h => h)) ?_
 refine lo rfl ?_
 refine e_call rfl Tryz.call53 (arr1 (v0 := Vg #[I ((nth a.Nodes i).Op), u4n1, I ((nth a.Nodes i).N), I ((nth a.Nodes i).D), SB ((nth a.Nodes i).Name)]) rfl) (numbers_L u4n1 (nth a.Nodes i) (by first | assumption | (constructor <;> omega)) (hS65.rdN 4 rfl) (by first | assumption | (constructor <;> omega)) (by first | assumption | (constructor <;> omega)) (by first | assumption | exact Nat.zero_le _) ) ?_
 rintro _ H68 ⟨hxx, rfl⟩
 have hS69 := hS65.ext hxx
 refine lq rfl (q_not rfl rfl) ?_
 refine la (v := B (!(numsB (nth a.Nodes i)))) rfl rfl rfl ?_
 refine wpL_nil ?_
 refine wpF_cond rfl (fun h90 => ?t77) (fun h90 => ?e77)
 case t77 =>
  refine wpF_seq ?_
  refine wpF_region ?_
  refine la (v := I (0)) rfl rfl rfl ?_
  refine la (v := I (3)) rfl rfl rfl ?_
  refine wpL_nil ?_
  refine wpF_ret ?_
  refine ⟨_, resT rfl (resT rfl resN), hS69.frame, ?_⟩
  show (Value.tuple #[I (0), I (3)]) = Value.tuple #[I (nodeF a i S).1, I (nodeF a i S).2]
  have hq : nodeF a i S = _ := nodeF_num h28 hF h63 (kids_no hno (by omega)) (Decidable.of_not_not h86) (by simpa using h90)
  rw [hq]
 refine wpF_skip ?_
 refine wpF_seq ?_
 refine wpF_region ?_
 refine lq rfl (q_loadBlkA rfl y8 Tryz.isAgg52 Tryz.sizeOf52 rfl (hS69.blk 2 rfl) (fun h => h)) ?_
 refine lm (v := vo) rfl rfl y12 ?_
 refine lq rfl (q_loadBlkA rfl y9 Tryz.isAgg43 Tryz.sizeOf43 rfl (hS69.blk 1 rfl) (fun h => h)) ?_
 refine lo rfl ?_
 refine e_call rfl Tryz.call54 (arr3 (v0 := Vg #[I ((nth a.Nodes i).Op), u4n1, I ((nth a.Nodes i).N), I ((nth a.Nodes i).D), SB ((nth a.Nodes i).Name)]) (v1 := vo) (v2 := Vg #[SB ((declOf a (nth a.Nodes i)).Name), vA, I ((declOf a (nth a.Nodes i)).Srt)]) rfl rfl rfl) (Sort_L u4n1 vo vA (nth a.Nodes i) (kidS S (nth a.Nodes i).Kids) (declOf a (nth a.Nodes i)) (by first | assumption | (constructor <;> omega)) (hS69.rdN 4 rfl) (by first | assumption | (constructor <;> omega)) (by first | assumption | (constructor <;> omega)) (by first | assumption | exact Nat.zero_le _) (hS69.rowN 0 rfl) (by first | assumption | exact Nat.zero_le _) (hS69.rdN 3 rfl) (by first | assumption | (constructor <;> omega)) (sort_len h63) (sort_D h90)) ?_
 rintro _ H72 ⟨hxx, rfl⟩
 have hS73 := hS69.ext hxx
 refine la (v := I (((sortN (nth a.Nodes i) (kidS S (nth a.Nodes i).Kids) (declOf a (nth a.Nodes i)))))) rfl rfl rfl ?_
 refine wpL_nil ?_
 refine wpF_seq ?_
 refine wpF_seq ?_
 refine wpF_region ?_
 refine lm (v := I (((sortN (nth a.Nodes i) (kidS S (nth a.Nodes i).Kids) (declOf a (nth a.Nodes i)))))) rfl rfl rfl ?_
 refine lq rfl (q_eql rfl rfl rfl) ?_
 refine wpL_nil ?_
 refine wpF_condP rfl (fun h99 => ?t76) (fun h99 => ?e76)
 case t76 =>
  refine wpF_seq ?_
  refine wpF_region ?_
  refine la (v := I (0)) rfl rfl rfl ?_
  refine la (v := I (8)) rfl rfl rfl ?_
  refine wpL_nil ?_
  refine wpF_ret ?_
  refine ⟨_, resT rfl (resT rfl resN), hS73.frame, ?_⟩
  show (Value.tuple #[I (0), I (8)]) = Value.tuple #[I (nodeF a i S).1, I (nodeF a i S).2]
  have hq : nodeF a i S = _ := nodeF_sort h28 hF h63 (kids_no hno (by omega)) (Decidable.of_not_not h86) h90 h99
  rw [hq]
 refine wpF_skip ?_
 refine wpF_seq ?_
 refine wpF_region ?_
 refine lm (v := I (((sortN (nth a.Nodes i) (kidS S (nth a.Nodes i).Kids) (declOf a (nth a.Nodes i)))))) rfl rfl rfl ?_
 refine la (v := I (((sortN (nth a.Nodes i) (kidS S (nth a.Nodes i).Kids) (declOf a (nth a.Nodes i)))))) rfl rfl rfl ?_
 refine la (v := I (0)) rfl rfl rfl ?_
 refine wpL_nil ?_
 refine wpF_ret ?_
 refine ⟨_, resT rfl (resT rfl resN), hS73.frame, ?_⟩
 show (Value.tuple #[I (((sortN (nth a.Nodes i) (kidS S (nth a.Nodes i).Kids) (declOf a (nth a.Nodes i))))), I (0)]) = Value.tuple #[I (nodeF a i S).1, I (nodeF a i S).2]
 have hq : nodeF a i S = _ := nodeF_ok h28 hF h63 (kids_no hno (by omega)) (Decidable.of_not_not h86) h90 h99
 rw [hq]
end Go.Um
