import Derived.Test.YtacphjgolmolmaaProg
import Derived.Test.YtacphjgolmolmaaAskC1
import Derived.Test.YtacphjgolmolmaaUmArrDownB
namespace Go.Um
open Go.Proofs
open GoT (sz ag rdc)
open KeyT (kv)
theorem el_Decl_43_AskC2 : ElT Try.prog Decl 43 := ⟨Try.isAgg43, Try.sizeOf43⟩
theorem el_Int_3_AskC2 : ElT Try.prog Int 3 := ⟨Try.isAgg3, Try.sizeOf3⟩
theorem el_Node_37_AskC2 : ElT Try.prog Node 37 := ⟨Try.isAgg37, Try.sizeOf37⟩
theorem em_Int_3_AskC2 : ElemOk Try.prog Int 3 := ⟨Try.t3, (.int .i64 0), by kernel_rfl, by kernel_rfl, by kernel_rfl, by kernel_rfl, by kernel_rfl⟩
set_option maxRecDepth 100000 in
theorem Sort_1 {H0 : Heap} (vw : Value) (gx : Nat) (vK : Value) (w K : List Int) (hb : H0[gx]? = some (.cells #[vK] 24)) (rw : Rd NoB H0 vw w) (rK : Rd NoB H0 vK K) : CallsH Try.prog 57 #[vw, PT gx 0] H0 (fun rv_ H' => Ext NoB H0 H' ∧ rv_ = B (decide (K = w))) := by
 have hS0 : St H0 NoB NoB [fixE gx (.cells #[vK] 24), rdE vw w, rdE vK K] H0 := St.argFix (St.arg (St.arg (St.start (fun _ h => h.elim)) (Bl0.nil) rK (fun _ h => h)) (Bl0.cons (Bl0.nil)) rw (fun _ h => h)) (Bl0.cons (Bl0.cons (Bl0.nil))) hb (fun h => h)
 refine callsH_of_wpF (args := [vw, PT gx 0]) (rs := [.tmp 3]) Try.func57 rfl Try.ntmps57 Try.results57 (by kernel_rfl) (Nat.le_of_ble_eq_true rfl) ?_
 have y0 : argF [vw, PT gx 0] 0 = vw := rfl
 have y1 : argF [vw, PT gx 0] 1 = PT gx 0 := rfl
 generalize argF [vw, PT gx 0] = f0 at *
 refine fcr (fun f H => f 0 = vw ∧ f 1 = PT gx 0 ∧ H0 = H) ?_ ?_
 ·refine la (v := B (false)) rfl rfl rfl ?_
  exact ⟨y0, y1, rfl⟩
 clear y0 y1
 rintro f1 _ ⟨y0, y1, rfl⟩
 refine fcr (fun f H => f 3 = B (decide (K = w)) ∧ St H0 NoB NoB [fixE gx (.cells #[vK] 24), rdE vw w, rdE vK K] H) ?_ ?_
 ·refine lq rfl (q_loadBlk rfl y1 Try.isAgg24 (hS0.fixd 0 rfl) rfl (fun h => h)) ?_
  refine lm (v := vw) rfl rfl y0 ?_
  refine lo rfl ?_
  refine e_call rfl Try.call47 (arr2 (v0 := vK) (v1 := vw) rfl rfl) (Equal vK vw _ _ (hS0.rdN 2 rfl) (hS0.rdN 1 rfl)) ?_
  rintro _ H2 ⟨hxx, rfl⟩
  have hS3 := hS0.ext hxx
  refine la (v := B (decide (K = w))) rfl rfl rfl ?_
  exact ⟨rfl, hS3⟩
 clear y0 y1
 rintro f5 H5 ⟨y3, hS5⟩
 refine wpF_ret ?_
 refine ⟨_, resT y3 resN, hS5.frame, ?_⟩
 show (B (decide (K = w))) = B (decide (K = w))
 rfl
set_option maxHeartbeats 4000000 in
set_option maxRecDepth 100000 in
theorem Sort_L {H0 : Heap} (vk vK vd : Value) (n : Node) (K : List Int) (d : Decl) (h6nOp : In64 n.Op) (rvk : Rd NoB H0 vk n.Kids) (h6nN : In64 n.N) (h6nD : In64 n.D) (h6nName : n.Name.size ≤ maxLen) (rK : Rd NoB H0 vK K) (h6dName : d.Name.size ≤ maxLen) (rvd : Rd NoB H0 vd d.Args) (h6dSrt : In64 d.Srt) (hKl : n.Op ≠ 9 → 0 ≤ kidsN n.Op → (K.length : Int) = kidsN n.Op) (hD : n.Op = 15 → n.D ≤ 8 ∧ 0 ≤ n.D) : CallsH Try.prog 39 #[Vg #[I (n.Op), vk, I (n.N), I (n.D), SB (n.Name)], vK, Vg #[SB (d.Name), vd, I (d.Srt)]] H0 (fun rv_ H' => Ext NoB H0 H' ∧ rv_ = I (sortN n K d)) := by
 have hsm := (Rd.list.1 rK).small
 obtain ⟨hK3, hK1, hK2⟩ := kidsLen hKl
 have hS0 : St H0 NoB NoB [rdE vk n.Kids, rdE vK K, rdE vd d.Args] H0 := St.arg (St.arg (St.arg (St.start (fun _ h => h.elim)) (Bl0.nil) rvd (fun _ h => h)) (Bl0.cons (Bl0.nil)) rK (fun _ h => h)) (Bl0.cons (Bl0.cons (Bl0.nil))) rvk (fun _ h => h)
 refine callsH_of_wpF (args := [Vg #[I (n.Op), vk, I (n.N), I (n.D), SB (n.Name)], vK, Vg #[SB (d.Name), vd, I (d.Srt)]]) (rs := [.tmp 6]) Try.func39 rfl Try.ntmps39 Try.results39 (by kernel_rfl) (Nat.le_of_ble_eq_true rfl) ?_
 have y0 : argF [Vg #[I (n.Op), vk, I (n.N), I (n.D), SB (n.Name)], vK, Vg #[SB (d.Name), vd, I (d.Srt)]] 0 = Vg #[I (n.Op), vk, I (n.N), I (n.D), SB (n.Name)] := rfl
 have y1 : argF [Vg #[I (n.Op), vk, I (n.N), I (n.D), SB (n.Name)], vK, Vg #[SB (d.Name), vd, I (d.Srt)]] 1 = vK := rfl
 have y2 : argF [Vg #[I (n.Op), vk, I (n.N), I (n.D), SB (n.Name)], vK, Vg #[SB (d.Name), vd, I (d.Srt)]] 2 = Vg #[SB (d.Name), vd, I (d.Srt)] := rfl
 generalize argF [Vg #[I (n.Op), vk, I (n.N), I (n.D), SB (n.Name)], vK, Vg #[SB (d.Name), vd, I (d.Srt)]] = f0 at *
 refine fcr (fun f H => ∃ (g1 : Nat), ∃ (g4 : Nat), ∃ (g7 : Nat), f 3 = PT g1 0 ∧ f 4 = PT g4 0 ∧ f 5 = PT g7 0 ∧ St H0 NoB NoB [bE g7 #[SB (d.Name), vd, I (d.Srt)] 43, bE g4 #[vK] 24, bE g1 #[I (n.Op), vk, I (n.N), I (n.D), SB (n.Name)] 37, rdE vk n.Kids, rdE vK K, rdE vd d.Args] H) ?_ ?_
 ·refine lo rfl ?_
  refine e_box (v := Vg #[I (n.Op), vk, I (n.N), I (n.D), SB (n.Name)]) rfl y0 hS0 (fun g1 H2 hS3 hxx => ?_)
  refine lo rfl ?_
  refine e_box (v := vK) rfl y1 hS3 (fun g4 H5 hS6 hxx => ?_)
  rw [cells_rdL (hS3.rdl 2 rfl)] at hS6
  refine lo rfl ?_
  refine e_box (v := Vg #[SB (d.Name), vd, I (d.Srt)]) rfl y2 hS6 (fun g7 H8 hS9 hxx => ?_)
  refine la (v := I (0)) rfl rfl rfl ?_
  exact ⟨g1, g4, g7, rfl, rfl, rfl, hS9⟩
 clear y0 y1 y2
 rintro f10 H10 ⟨g1, g4, g7, y3, y4, y5, hS10⟩
 refine fcr (fun f H => f 3 = PT g1 0 ∧ f 4 = PT g4 0 ∧ f 5 = PT g7 0 ∧ f 7 = Value.func (.func 57) #[] #[PT g4 0] ∧ H10 = H) ?_ ?_
 ·refine lq rfl (q_makeFunc (fi' := #[]) rfl (by simp) (arr1 (v0 := PT g4 0) y4)) ?_
  refine la (v := Value.func (.func 57) #[] #[PT g4 0]) rfl rfl rfl ?_
  exact ⟨y3, y4, y5, rfl, rfl⟩
 clear y3 y4 y5
 rintro f11 _ ⟨y3, y4, y5, y7, rfl⟩
 refine sc (fun f H => f 3 = PT g1 0 ∧ f 4 = PT g4 0 ∧ f 5 = PT g7 0 ∧ f 7 = Value.func (.func 57) #[] #[PT g4 0] ∧ f 8 = B (decide (((K.length : Int) = 2) ∧ ((nth K 0) = (nth K 1)))) ∧ H10 = H) ?_ ?_
 ·refine wpF_drawn [] [] (fun _ _ => False) (by kernel_rfl) (by kernel_rfl) ?_
  refine rq 0 (by kernel_rfl) rfl rfl (q_loadBlk rfl y4 Try.isAgg24 (hS10.blk 1 rfl) rfl (labU_not [] rfl (fe))) ?_
  refine rq 1 (by kernel_rfl) rfl rfl (q_lenRd rfl Try.underlying24 rfl (hS10.rdl 4 rfl)) ?_
  refine rq 2 (by kernel_rfl) rfl rfl (q_eql rfl rfl rfl) ?_
  refine rq 3 (by kernel_rfl) rfl rfl (q_move (v := B (decide ((K.length : Int) = 2))) rfl rfl) ?_
  by_cases hg13 : (K.length : Int) = 2
  ·have hb14 := Eq.trans rfl (congrArg B (decide_eq_true hg13))
   refine wpR_q 4 (by kernel_rfl) rfl (quietAt_g rfl rfl rfl rfl hb14 (q_loadBlk rfl y4 Try.isAgg24 (hS10.blk 1 rfl) rfl (labU_not [] rfl (fe)))) ?_
   refine wpR_q 5 (by kernel_rfl) rfl (quietAt_g rfl rfl rfl rfl hb14 (q_indexRd (k := 0) rfl Try.underlying24 el_Int_3_AskC2 rfl rfl (hS10.rdl 4 rfl) (by omega) (by omega))) ?_
   refine wpR_q 6 (by kernel_rfl) rfl (quietAt_g rfl rfl rfl rfl hb14 (q_loadInt (k := 0) rfl rfl el_Int_3_AskC2 (hS10.rdl 4 rfl) (by omega) (labU_sub [] rfl (fe)))) ?_
   refine wpR_q 7 (by kernel_rfl) rfl (quietAt_g rfl rfl rfl rfl hb14 (q_loadBlk rfl y4 Try.isAgg24 (hS10.blk 1 rfl) rfl (labU_not [] rfl (fe)))) ?_
   refine wpR_q 8 (by kernel_rfl) rfl (quietAt_g rfl rfl rfl rfl hb14 (q_indexRd (k := 1) rfl Try.underlying24 el_Int_3_AskC2 rfl rfl (hS10.rdl 4 rfl) (by omega) (by omega))) ?_
   refine wpR_q 9 (by kernel_rfl) rfl (quietAt_g rfl rfl rfl rfl hb14 (q_loadInt (k := 1) rfl rfl el_Int_3_AskC2 (hS10.rdl 4 rfl) (by omega) (labU_sub [] rfl (fe)))) ?_
   refine wpR_q 10 (by kernel_rfl) rfl (quietAt_g rfl rfl rfl rfl hb14 (q_eql rfl rfl rfl)) ?_
   refine rq 11 (by kernel_rfl) rfl rfl (q_pickT (v := B (decide ((nth K 0) = (nth K 1)))) rfl hb14 rfl) ?_
   refine rq 12 (by kernel_rfl) rfl rfl (q_assign (v := B (decide ((nth K 0) = (nth K 1)))) rfl rfl) ?_
   refine wpR_end (by kernel_rfl) ?_
   exact ⟨y3, y4, y5, y7, (Eq.trans rfl (congrArg B (decide_congr_of ((Iff.rfl).trans (((and_iff_right hg13).trans Iff.rfl)).symm)))), rfl⟩
  ·have hb15 := Eq.trans rfl (congrArg B (decide_eq_false hg13))
   refine wpR_q 4 (by kernel_rfl) rfl (quietAt_s rfl rfl rfl rfl hb15 rfl) ?_
   refine wpR_q 5 (by kernel_rfl) rfl (quietAt_s rfl rfl rfl rfl hb15 rfl) ?_
   refine wpR_q 6 (by kernel_rfl) rfl (quietAt_s rfl rfl rfl rfl hb15 rfl) ?_
   refine wpR_q 7 (by kernel_rfl) rfl (quietAt_s rfl rfl rfl rfl hb15 rfl) ?_
   refine wpR_q 8 (by kernel_rfl) rfl (quietAt_s rfl rfl rfl rfl hb15 rfl) ?_
   refine wpR_q 9 (by kernel_rfl) rfl (quietAt_s rfl rfl rfl rfl hb15 rfl) ?_
   refine wpR_q 10 (by kernel_rfl) rfl (quietAt_s rfl rfl rfl rfl hb15 rfl) ?_
   refine rq 11 (by kernel_rfl) rfl rfl (q_pickF (v := B (false)) rfl hb15 rfl) ?_
   refine rq 12 (by kernel_rfl) rfl rfl (q_assign (v := B (false)) rfl rfl) ?_
   refine wpR_end (by kernel_rfl) ?_
   exact ⟨y3, y4, y5, y7, (Eq.trans rfl (congrArg B ((decide_eq_false (fun h => hg13 h.1)).symm))), rfl⟩
 clear y3 y4 y5 y7
 rintro f16 _ ⟨y3, y4, y5, y7, y8, rfl⟩
 refine fcr (fun f H => f 3 = PT g1 0 ∧ f 4 = PT g4 0 ∧ f 5 = PT g7 0 ∧ f 7 = Value.func (.func 57) #[] #[PT g4 0] ∧ f 8 = B (decide (((K.length : Int) = 2) ∧ ((nth K 0) = (nth K 1)))) ∧ f 9 = B (false) ∧ f 10 = I (1) ∧ H10 = H) ?_ ?_
 ·refine la (v := B (false)) rfl rfl rfl ?_
  refine la (v := I (1)) rfl rfl rfl ?_
  exact ⟨y3, y4, y5, y7, y8, rfl, rfl, rfl⟩
 clear y3 y4 y5 y7 y8
 rintro f17 _ ⟨y3, y4, y5, y7, y8, y9, y10, rfl⟩
 refine wpF_seq ?_
 refine fcr (fun f H => f 3 = PT g1 0 ∧ f 4 = PT g4 0 ∧ f 5 = PT g7 0 ∧ f 7 = Value.func (.func 57) #[] #[PT g4 0] ∧ f 8 = B (decide (((K.length : Int) = 2) ∧ ((nth K 0) = (nth K 1)))) ∧ f 9 = B (false) ∧ f 10 = I (1) ∧ f 25 = I (n.Op) ∧ H10 = H) ?_ ?_
 ·refine lq rfl (q_fieldAddr rfl Try.underlying37 rfl Try.sizeOf3 y3) ?_
  refine lq rfl (q_loadBlk rfl rfl Try.isAgg3 (hS10.blk 2 rfl) rfl (fun h => h)) ?_
  exact ⟨y3, y4, y5, y7, y8, y9, y10, rfl, rfl⟩
 clear y10 y3 y4 y5 y7 y8 y9
 rintro f18 _ ⟨y3, y4, y5, y7, y8, y9, y10, y25, rfl⟩
 refine wpF_cut (fun f H => f 9 = B (okS n K d) ∧ f 10 = I (outS n K d) ∧ St H0 NoB NoB [bE g7 #[SB (d.Name), vd, I (d.Srt)] 43, bE g4 #[vK] 24, bE g1 #[I (n.Op), vk, I (n.N), I (n.D), SB (n.Name)] 37, rdE vk n.Kids, rdE vK K, rdE vd d.Args] H) ?_ ?_
 ·refine wpF_block ?_
  refine wpF_seq ?_
  refine fcr (fun f H => f 3 = PT g1 0 ∧ f 4 = PT g4 0 ∧ f 5 = PT g7 0 ∧ f 7 = Value.func (.func 57) #[] #[PT g4 0] ∧ f 8 = B (decide (((K.length : Int) = 2) ∧ ((nth K 0) = (nth K 1)))) ∧ f 9 = B (false) ∧ f 10 = I (1) ∧ f 25 = I (n.Op) ∧ f 26 = B (decide (n.Op = 1)) ∧ H10 = H) ?_ ?_
  ·refine lq rfl (q_eql rfl y25 rfl) ?_
   refine la (v := B (decide (n.Op = 1))) rfl rfl rfl ?_
   exact ⟨y3, y4, y5, y7, y8, y9, y10, y25, rfl, rfl⟩
  clear y10 y25 y3 y4 y5 y7 y8 y9
  rintro f20 _ ⟨y3, y4, y5, y7, y8, y9, y10, y25, y26, rfl⟩
  refine wpF_condP y26 (fun hp21 => ?t211) (fun hp21 => ?e211)
  case t211 =>
   refine wpF_skip ?_
   refine wpF_condT (Eq.trans y26 (congrArg B (decide_eq_true hp21))) ?_
   refine wpF_cut (fun f H => f 9 = B (true) ∧ f 10 = I (1) ∧ H10 = H) ?_ ?_
   ·refine wpF_region ?_
    refine la (v := B (true)) rfl rfl rfl ?_
    exact ⟨rfl, y10, rfl⟩
   clear y10 y25 y26 y3 y4 y5 y7 y8 y9
   rintro f22 _ ⟨y9, y10, rfl⟩
   exact ⟨(Eq.trans y9 (congrArg B (by rw [okS, hp21]; rfl))), (Eq.trans y10 (congrArg I (by rw [outS, hp21]; rfl))), hS10⟩
  refine wpF_cut (fun f H => f 3 = PT g1 0 ∧ f 4 = PT g4 0 ∧ f 5 = PT g7 0 ∧ f 7 = Value.func (.func 57) #[] #[PT g4 0] ∧ f 8 = B (decide (((K.length : Int) = 2) ∧ ((nth K 0) = (nth K 1)))) ∧ f 9 = B (false) ∧ f 10 = I (1) ∧ f 25 = I (n.Op) ∧ f 26 = B (decide (n.Op = 2)) ∧ H10 = H) ?_ ?_
  ·refine wpF_region ?_
   refine lq rfl (q_eql rfl y25 rfl) ?_
   refine la (v := B (decide (n.Op = 2))) rfl rfl rfl ?_
   exact ⟨y3, y4, y5, y7, y8, y9, y10, y25, rfl, rfl⟩
  clear y10 y25 y26 y3 y4 y5 y7 y8 y9
  rintro f23 _ ⟨y3, y4, y5, y7, y8, y9, y10, y25, y26, rfl⟩
  refine wpF_condP y26 (fun hp24 => ?t210) (fun hp24 => ?e210)
  case t210 =>
   refine wpF_cut (fun f H => f 9 = B (true) ∧ f 10 = I (1) ∧ H10 = H) ?_ ?_
   ·refine wpF_region ?_
    refine la (v := B (true)) rfl rfl rfl ?_
    exact ⟨rfl, y10, rfl⟩
   clear y10 y25 y26 y3 y4 y5 y7 y8 y9
   rintro f25 _ ⟨y9, y10, rfl⟩
   exact ⟨(Eq.trans y9 (congrArg B (by rw [okS, hp24]; rfl))), (Eq.trans y10 (congrArg I (by rw [outS, hp24]; rfl))), hS10⟩
  refine wpF_seq ?_
  refine fcr (fun f H => f 3 = PT g1 0 ∧ f 4 = PT g4 0 ∧ f 5 = PT g7 0 ∧ f 7 = Value.func (.func 57) #[] #[PT g4 0] ∧ f 8 = B (decide (((K.length : Int) = 2) ∧ ((nth K 0) = (nth K 1)))) ∧ f 9 = B (false) ∧ f 10 = I (1) ∧ f 25 = I (n.Op) ∧ f 29 = B (decide (n.Op = 3)) ∧ H10 = H) ?_ ?_
  ·refine lq rfl (q_eql rfl y25 rfl) ?_
   refine la (v := B (decide (n.Op = 3))) rfl rfl rfl ?_
   exact ⟨y3, y4, y5, y7, y8, y9, y10, y25, rfl, rfl⟩
  clear y10 y25 y26 y3 y4 y5 y7 y8 y9
  rintro f26 _ ⟨y3, y4, y5, y7, y8, y9, y10, y25, y29, rfl⟩
  refine wpF_condP y29 (fun hp27 => ?t209) (fun hp27 => ?e209)
  case t209 =>
   refine wpF_skip ?_
   refine wpF_condT (Eq.trans y29 (congrArg B (decide_eq_true hp27))) ?_
   refine wpF_cut (fun f H => f 9 = B (K.all oneB) ∧ f 10 = I (1) ∧ St H0 NoB NoB [bE g7 #[SB (d.Name), vd, I (d.Srt)] 43, bE g4 #[vK] 24, bE g1 #[I (n.Op), vk, I (n.N), I (n.D), SB (n.Name)] 37, rdE vk n.Kids, rdE vK K, rdE vd d.Args] H) ?_ ?_
   ·refine wpF_region ?_
    refine lq rfl (q_loadBlk rfl y4 Try.isAgg24 (hS10.blk 1 rfl) rfl (fun h => h)) ?_
    refine lo rfl ?_
    refine e_call rfl Try.call58 (arr2 (v0 := vK) (v1 := Value.func (.func 59) #[] #[]) rfl rfl) (all_L vK (Value.func (.func 59) #[] #[]) K oneB (hS10.rdN 4 rfl) rfl (fun x hx H hE => ⟨_, _, rfl, Try.call59, Sort_2 x⟩)) ?_
    rintro _ H28 ⟨hxx, rfl⟩
    have hS29 := hS10.ext hxx
    refine la (v := B (K.all oneB)) rfl rfl rfl ?_
    exact ⟨rfl, y10, hS29⟩
   clear y10 y25 y29 y3 y4 y5 y7 y8 y9
   rintro f31 H31 ⟨y9, y10, hS31⟩
   exact ⟨(Eq.trans y9 (congrArg B (by rw [okS, hp27]; rfl))), (Eq.trans y10 (congrArg I (by rw [outS, hp27]; rfl))), hS31⟩
  refine fcr (fun f H => f 3 = PT g1 0 ∧ f 4 = PT g4 0 ∧ f 5 = PT g7 0 ∧ f 7 = Value.func (.func 57) #[] #[PT g4 0] ∧ f 8 = B (decide (((K.length : Int) = 2) ∧ ((nth K 0) = (nth K 1)))) ∧ f 9 = B (false) ∧ f 10 = I (1) ∧ f 25 = I (n.Op) ∧ f 29 = B (decide (n.Op = 4)) ∧ H10 = H) ?_ ?_
  ·refine lq rfl (q_eql rfl y25 rfl) ?_
   refine la (v := B (decide (n.Op = 4))) rfl rfl rfl ?_
   exact ⟨y3, y4, y5, y7, y8, y9, y10, y25, rfl, rfl⟩
  clear y10 y25 y29 y3 y4 y5 y7 y8 y9
  rintro f32 _ ⟨y3, y4, y5, y7, y8, y9, y10, y25, y29, rfl⟩
  refine wpF_condP y29 (fun hp33 => ?t208) (fun hp33 => ?e208)
  case t208 =>
   refine wpF_skip ?_
   refine wpF_condT (Eq.trans y29 (congrArg B (decide_eq_true hp33))) ?_
   refine wpF_cut (fun f H => f 9 = B (K.all oneB) ∧ f 10 = I (1) ∧ St H0 NoB NoB [bE g7 #[SB (d.Name), vd, I (d.Srt)] 43, bE g4 #[vK] 24, bE g1 #[I (n.Op), vk, I (n.N), I (n.D), SB (n.Name)] 37, rdE vk n.Kids, rdE vK K, rdE vd d.Args] H) ?_ ?_
   ·refine wpF_region ?_
    refine lq rfl (q_loadBlk rfl y4 Try.isAgg24 (hS10.blk 1 rfl) rfl (fun h => h)) ?_
    refine lo rfl ?_
    refine e_call rfl Try.call58 (arr2 (v0 := vK) (v1 := Value.func (.func 59) #[] #[]) rfl rfl) (all_L vK (Value.func (.func 59) #[] #[]) K oneB (hS10.rdN 4 rfl) rfl (fun x hx H hE => ⟨_, _, rfl, Try.call59, Sort_2 x⟩)) ?_
    rintro _ H34 ⟨hxx, rfl⟩
    have hS35 := hS10.ext hxx
    refine la (v := B (K.all oneB)) rfl rfl rfl ?_
    exact ⟨rfl, y10, hS35⟩
   clear y10 y25 y29 y3 y4 y5 y7 y8 y9
   rintro f37 H37 ⟨y9, y10, hS37⟩
   exact ⟨(Eq.trans y9 (congrArg B (by rw [okS, hp33]; rfl))), (Eq.trans y10 (congrArg I (by rw [outS, hp33]; rfl))), hS37⟩
  refine fcr (fun f H => f 3 = PT g1 0 ∧ f 4 = PT g4 0 ∧ f 5 = PT g7 0 ∧ f 7 = Value.func (.func 57) #[] #[PT g4 0] ∧ f 8 = B (decide (((K.length : Int) = 2) ∧ ((nth K 0) = (nth K 1)))) ∧ f 9 = B (false) ∧ f 10 = I (1) ∧ f 25 = I (n.Op) ∧ f 29 = B (decide (n.Op = 5)) ∧ H10 = H) ?_ ?_
  ·refine lq rfl (q_eql rfl y25 rfl) ?_
   refine la (v := B (decide (n.Op = 5))) rfl rfl rfl ?_
   exact ⟨y3, y4, y5, y7, y8, y9, y10, y25, rfl, rfl⟩
  clear y10 y25 y29 y3 y4 y5 y7 y8 y9
  rintro f38 _ ⟨y3, y4, y5, y7, y8, y9, y10, y25, y29, rfl⟩
  refine wpF_condP y29 (fun hp39 => ?t207) (fun hp39 => ?e207)
  case t207 =>
   refine wpF_skip ?_
   refine wpF_condT (Eq.trans y29 (congrArg B (decide_eq_true hp39))) ?_
   refine wpF_cut (fun f H => f 9 = B (K.all oneB) ∧ f 10 = I (1) ∧ St H0 NoB NoB [bE g7 #[SB (d.Name), vd, I (d.Srt)] 43, bE g4 #[vK] 24, bE g1 #[I (n.Op), vk, I (n.N), I (n.D), SB (n.Name)] 37, rdE vk n.Kids, rdE vK K, rdE vd d.Args] H) ?_ ?_
   ·refine wpF_region ?_
    refine lq rfl (q_loadBlk rfl y4 Try.isAgg24 (hS10.blk 1 rfl) rfl (fun h => h)) ?_
    refine lo rfl ?_
    refine e_call rfl Try.call58 (arr2 (v0 := vK) (v1 := Value.func (.func 59) #[] #[]) rfl rfl) (all_L vK (Value.func (.func 59) #[] #[]) K oneB (hS10.rdN 4 rfl) rfl (fun x hx H hE => ⟨_, _, rfl, Try.call59, Sort_2 x⟩)) ?_
    rintro _ H40 ⟨hxx, rfl⟩
    have hS41 := hS10.ext hxx
    refine la (v := B (K.all oneB)) rfl rfl rfl ?_
    exact ⟨rfl, y10, hS41⟩
   clear y10 y25 y29 y3 y4 y5 y7 y8 y9
   rintro f43 H43 ⟨y9, y10, hS43⟩
   exact ⟨(Eq.trans y9 (congrArg B (by rw [okS, hp39]; rfl))), (Eq.trans y10 (congrArg I (by rw [outS, hp39]; rfl))), hS43⟩
  refine wpF_cut (fun f H => f 3 = PT g1 0 ∧ f 4 = PT g4 0 ∧ f 5 = PT g7 0 ∧ f 7 = Value.func (.func 57) #[] #[PT g4 0] ∧ f 8 = B (decide (((K.length : Int) = 2) ∧ ((nth K 0) = (nth K 1)))) ∧ f 9 = B (false) ∧ f 10 = I (1) ∧ f 25 = I (n.Op) ∧ f 29 = B (decide (n.Op = 6)) ∧ H10 = H) ?_ ?_
  ·refine wpF_region ?_
   refine lq rfl (q_eql rfl y25 rfl) ?_
   refine la (v := B (decide (n.Op = 6))) rfl rfl rfl ?_
   exact ⟨y3, y4, y5, y7, y8, y9, y10, y25, rfl, rfl⟩
  clear y10 y25 y29 y3 y4 y5 y7 y8 y9
  rintro f44 _ ⟨y3, y4, y5, y7, y8, y9, y10, y25, y29, rfl⟩
  refine wpF_condP y29 (fun hp45 => ?t206) (fun hp45 => ?e206)
  case t206 =>
   refine wpF_cut (fun f H => f 9 = B (K.all oneB) ∧ f 10 = I (1) ∧ St H0 NoB NoB [bE g7 #[SB (d.Name), vd, I (d.Srt)] 43, bE g4 #[vK] 24, bE g1 #[I (n.Op), vk, I (n.N), I (n.D), SB (n.Name)] 37, rdE vk n.Kids, rdE vK K, rdE vd d.Args] H) ?_ ?_
   ·refine wpF_region ?_
    refine lq rfl (q_loadBlk rfl y4 Try.isAgg24 (hS10.blk 1 rfl) rfl (fun h => h)) ?_
    refine lo rfl ?_
    refine e_call rfl Try.call58 (arr2 (v0 := vK) (v1 := Value.func (.func 59) #[] #[]) rfl rfl) (all_L vK (Value.func (.func 59) #[] #[]) K oneB (hS10.rdN 4 rfl) rfl (fun x hx H hE => ⟨_, _, rfl, Try.call59, Sort_2 x⟩)) ?_
    rintro _ H46 ⟨hxx, rfl⟩
    have hS47 := hS10.ext hxx
    refine la (v := B (K.all oneB)) rfl rfl rfl ?_
    exact ⟨rfl, y10, hS47⟩
   clear y10 y25 y29 y3 y4 y5 y7 y8 y9
   rintro f49 H49 ⟨y9, y10, hS49⟩
   exact ⟨(Eq.trans y9 (congrArg B (by rw [okS, hp45]; rfl))), (Eq.trans y10 (congrArg I (by rw [outS, hp45]; rfl))), hS49⟩
  refine fcr (fun f H => f 3 = PT g1 0 ∧ f 4 = PT g4 0 ∧ f 5 = PT g7 0 ∧ f 7 = Value.func (.func 57) #[] #[PT g4 0] ∧ f 8 = B (decide (((K.length : Int) = 2) ∧ ((nth K 0) = (nth K 1)))) ∧ f 9 = B (false) ∧ f 10 = I (1) ∧ f 25 = I (n.Op) ∧ f 36 = B (decide (n.Op = 7)) ∧ H10 = H) ?_ ?_
  ·refine lq rfl (q_eql rfl y25 rfl) ?_
   refine la (v := B (decide (n.Op = 7))) rfl rfl rfl ?_
   exact ⟨y3, y4, y5, y7, y8, y9, y10, y25, rfl, rfl⟩
  clear y10 y25 y29 y3 y4 y5 y7 y8 y9
  rintro f50 _ ⟨y3, y4, y5, y7, y8, y9, y10, y25, y36, rfl⟩
  refine wpF_condP y36 (fun hp51 => ?t205) (fun hp51 => ?e205)
  case t205 =>
   refine wpF_cut (fun f H => f 9 = B (decide ((((nth K 0) = 1) ∧ ((nth K 1) = (nth K 2))) ∧ ((nth K 1) ≠ 5))) ∧ f 10 = I (nth K 1) ∧ H10 = H) ?_ ?_
   ·refine wpF_drawn [] [] (fun _ _ => False) (by kernel_rfl) (by kernel_rfl) ?_
    refine rq 0 (by kernel_rfl) rfl rfl (q_loadBlk rfl y4 Try.isAgg24 (hS10.blk 1 rfl) rfl (labU_not [] rfl (fe))) ?_
    refine rq 1 (by kernel_rfl) rfl rfl (q_indexRd (k := 0) rfl Try.underlying24 el_Int_3_AskC2 rfl rfl (hS10.rdl 4 rfl) (by omega) (by omega)) ?_
    refine rq 2 (by kernel_rfl) rfl rfl (q_loadInt (k := 0) rfl rfl el_Int_3_AskC2 (hS10.rdl 4 rfl) (by omega) (labU_sub [] rfl (fe))) ?_
    refine rq 3 (by kernel_rfl) rfl rfl (q_eql rfl rfl rfl) ?_
    refine rq 4 (by kernel_rfl) rfl rfl (q_move (v := B (decide ((nth K 0) = 1))) rfl rfl) ?_
    by_cases hg53 : (nth K 0) = 1
    ·have hb54 := Eq.trans rfl (congrArg B (decide_eq_true hg53))
     refine wpR_q 5 (by kernel_rfl) rfl (quietAt_g rfl rfl rfl rfl hb54 (q_loadBlk rfl y4 Try.isAgg24 (hS10.blk 1 rfl) rfl (labU_not [] rfl (fe)))) ?_
     refine wpR_q 6 (by kernel_rfl) rfl (quietAt_g rfl rfl rfl rfl hb54 (q_indexRd (k := 1) rfl Try.underlying24 el_Int_3_AskC2 rfl rfl (hS10.rdl 4 rfl) (by omega) (by omega))) ?_
     refine wpR_q 7 (by kernel_rfl) rfl (quietAt_g rfl rfl rfl rfl hb54 (q_loadInt (k := 1) rfl rfl el_Int_3_AskC2 (hS10.rdl 4 rfl) (by omega) (labU_sub [] rfl (fe)))) ?_
     refine wpR_q 8 (by kernel_rfl) rfl (quietAt_g rfl rfl rfl rfl hb54 (q_loadBlk rfl y4 Try.isAgg24 (hS10.blk 1 rfl) rfl (labU_not [] rfl (fe)))) ?_
     refine wpR_q 9 (by kernel_rfl) rfl (quietAt_g rfl rfl rfl rfl hb54 (q_indexRd (k := 2) rfl Try.underlying24 el_Int_3_AskC2 rfl rfl (hS10.rdl 4 rfl) (by omega) (by omega))) ?_
     refine wpR_q 10 (by kernel_rfl) rfl (quietAt_g rfl rfl rfl rfl hb54 (q_loadInt (k := 2) rfl rfl el_Int_3_AskC2 (hS10.rdl 4 rfl) (by omega) (labU_sub [] rfl (fe)))) ?_
     refine wpR_q 11 (by kernel_rfl) rfl (quietAt_g rfl rfl rfl rfl hb54 (q_eql rfl rfl rfl)) ?_
     refine rq 12 (by kernel_rfl) rfl rfl (q_pickT (v := B (decide ((nth K 1) = (nth K 2)))) rfl hb54 rfl) ?_
     refine rq 13 (by kernel_rfl) rfl rfl (q_move (v := B (decide ((nth K 1) = (nth K 2)))) rfl rfl) ?_
     by_cases hg56 : (nth K 1) = (nth K 2)
     ·have hb57 := Eq.trans rfl (congrArg B (decide_eq_true hg56))
      refine wpR_q 14 (by kernel_rfl) rfl (quietAt_g rfl rfl rfl rfl hb57 (q_loadBlk rfl y4 Try.isAgg24 (hS10.blk 1 rfl) rfl (labU_not [] rfl (fe)))) ?_
      refine wpR_q 15 (by kernel_rfl) rfl (quietAt_g rfl rfl rfl rfl hb57 (q_indexRd (k := 1) rfl Try.underlying24 el_Int_3_AskC2 rfl rfl (hS10.rdl 4 rfl) (by omega) (by omega))) ?_
      refine wpR_q 16 (by kernel_rfl) rfl (quietAt_g rfl rfl rfl rfl hb57 (q_loadInt (k := 1) rfl rfl el_Int_3_AskC2 (hS10.rdl 4 rfl) (by omega) (labU_sub [] rfl (fe)))) ?_
      refine wpR_q 17 (by kernel_rfl) rfl (quietAt_g rfl rfl rfl rfl hb57 (q_neq rfl rfl rfl)) ?_
      refine rq 18 (by kernel_rfl) rfl rfl (q_pickT (v := B (decide ((nth K 1) ≠ 5))) rfl hb57 rfl) ?_
      refine rq 19 (by kernel_rfl) rfl rfl (q_loadBlk rfl y4 Try.isAgg24 (hS10.blk 1 rfl) rfl (labU_not [] rfl (fe))) ?_
      refine rq 20 (by kernel_rfl) rfl rfl (q_indexRd (k := 1) rfl Try.underlying24 el_Int_3_AskC2 rfl rfl (hS10.rdl 4 rfl) (by omega) (by omega)) ?_
      refine rq 21 (by kernel_rfl) rfl rfl (q_loadInt (k := 1) rfl rfl el_Int_3_AskC2 (hS10.rdl 4 rfl) (by omega) (labU_sub [] rfl (fe))) ?_
      refine rq 22 (by kernel_rfl) rfl rfl (q_assign (v := B (decide ((nth K 1) ≠ 5))) rfl rfl) ?_
      refine rq 23 (by kernel_rfl) rfl rfl (q_assign (v := I (nth K 1)) rfl rfl) ?_
      refine wpR_end (by kernel_rfl) ?_
      exact ⟨(Eq.trans rfl (congrArg B (decide_congr_of ((Iff.rfl).trans (((and_iff_right ⟨hg53, hg56⟩).trans Iff.rfl)).symm)))), rfl, rfl⟩
     ·have hb58 := Eq.trans rfl (congrArg B (decide_eq_false hg56))
      refine wpR_q 14 (by kernel_rfl) rfl (quietAt_s rfl rfl rfl rfl hb58 rfl) ?_
      refine wpR_q 15 (by kernel_rfl) rfl (quietAt_s rfl rfl rfl rfl hb58 rfl) ?_
      refine wpR_q 16 (by kernel_rfl) rfl (quietAt_s rfl rfl rfl rfl hb58 rfl) ?_
      refine wpR_q 17 (by kernel_rfl) rfl (quietAt_s rfl rfl rfl rfl hb58 rfl) ?_
      refine rq 18 (by kernel_rfl) rfl rfl (q_pickF (v := B (false)) rfl hb58 rfl) ?_
      refine rq 19 (by kernel_rfl) rfl rfl (q_loadBlk rfl y4 Try.isAgg24 (hS10.blk 1 rfl) rfl (labU_not [] rfl (fe))) ?_
      refine rq 20 (by kernel_rfl) rfl rfl (q_indexRd (k := 1) rfl Try.underlying24 el_Int_3_AskC2 rfl rfl (hS10.rdl 4 rfl) (by omega) (by omega)) ?_
      refine rq 21 (by kernel_rfl) rfl rfl (q_loadInt (k := 1) rfl rfl el_Int_3_AskC2 (hS10.rdl 4 rfl) (by omega) (labU_sub [] rfl (fe))) ?_
      refine rq 22 (by kernel_rfl) rfl rfl (q_assign (v := B (false)) rfl rfl) ?_
      refine rq 23 (by kernel_rfl) rfl rfl (q_assign (v := I (nth K 1)) rfl rfl) ?_
      refine wpR_end (by kernel_rfl) ?_
      exact ⟨(Eq.trans rfl (congrArg B ((decide_eq_false (fun h => (fun h => hg56 h.2) h.1)).symm))), rfl, rfl⟩
    ·have hb55 := Eq.trans rfl (congrArg B (decide_eq_false hg53))
     refine wpR_q 5 (by kernel_rfl) rfl (quietAt_s rfl rfl rfl rfl hb55 rfl) ?_
     refine wpR_q 6 (by kernel_rfl) rfl (quietAt_s rfl rfl rfl rfl hb55 rfl) ?_
     refine wpR_q 7 (by kernel_rfl) rfl (quietAt_s rfl rfl rfl rfl hb55 rfl) ?_
     refine wpR_q 8 (by kernel_rfl) rfl (quietAt_s rfl rfl rfl rfl hb55 rfl) ?_
     refine wpR_q 9 (by kernel_rfl) rfl (quietAt_s rfl rfl rfl rfl hb55 rfl) ?_
     refine wpR_q 10 (by kernel_rfl) rfl (quietAt_s rfl rfl rfl rfl hb55 rfl) ?_
     refine wpR_q 11 (by kernel_rfl) rfl (quietAt_s rfl rfl rfl rfl hb55 rfl) ?_
     refine rq 12 (by kernel_rfl) rfl rfl (q_pickF (v := B (false)) rfl hb55 rfl) ?_
     refine rq 13 (by kernel_rfl) rfl rfl (q_move (v := B (false)) rfl rfl) ?_
     refine wpR_q 14 (by kernel_rfl) rfl (quietAt_s rfl rfl rfl rfl rfl rfl) ?_
     refine wpR_q 15 (by kernel_rfl) rfl (quietAt_s rfl rfl rfl rfl rfl rfl) ?_
     refine wpR_q 16 (by kernel_rfl) rfl (quietAt_s rfl rfl rfl rfl rfl rfl) ?_
     refine wpR_q 17 (by kernel_rfl) rfl (quietAt_s rfl rfl rfl rfl rfl rfl) ?_
     refine rq 18 (by kernel_rfl) rfl rfl (q_pickF (v := B (false)) rfl rfl rfl) ?_
     refine rq 19 (by kernel_rfl) rfl rfl (q_loadBlk rfl y4 Try.isAgg24 (hS10.blk 1 rfl) rfl (labU_not [] rfl (fe))) ?_
     refine rq 20 (by kernel_rfl) rfl rfl (q_indexRd (k := 1) rfl Try.underlying24 el_Int_3_AskC2 rfl rfl (hS10.rdl 4 rfl) (by omega) (by omega)) ?_
     refine rq 21 (by kernel_rfl) rfl rfl (q_loadInt (k := 1) rfl rfl el_Int_3_AskC2 (hS10.rdl 4 rfl) (by omega) (labU_sub [] rfl (fe))) ?_
     refine rq 22 (by kernel_rfl) rfl rfl (q_assign (v := B (false)) rfl rfl) ?_
     refine rq 23 (by kernel_rfl) rfl rfl (q_assign (v := I (nth K 1)) rfl rfl) ?_
     refine wpR_end (by kernel_rfl) ?_
     exact ⟨(Eq.trans rfl (congrArg B ((decide_eq_false (fun h => (fun h => hg53 h.1) h.1)).symm))), rfl, rfl⟩
   clear y10 y25 y3 y36 y4 y5 y7 y8 y9
   rintro f59 _ ⟨y9, y10, rfl⟩
   exact ⟨(Eq.trans y9 (congrArg B (by rw [okS, hp51]; rfl))), (Eq.trans y10 (congrArg I (by rw [outS, hp51]; rfl))), hS10⟩
  refine fcr (fun f H => f 3 = PT g1 0 ∧ f 4 = PT g4 0 ∧ f 5 = PT g7 0 ∧ f 7 = Value.func (.func 57) #[] #[PT g4 0] ∧ f 8 = B (decide (((K.length : Int) = 2) ∧ ((nth K 0) = (nth K 1)))) ∧ f 9 = B (false) ∧ f 10 = I (1) ∧ f 25 = I (n.Op) ∧ f 60 = B (decide (n.Op = 8)) ∧ H10 = H) ?_ ?_
  ·refine lq rfl (q_eql rfl y25 rfl) ?_
   refine la (v := B (decide (n.Op = 8))) rfl rfl rfl ?_
   exact ⟨y3, y4, y5, y7, y8, y9, y10, y25, rfl, rfl⟩
  clear y10 y25 y3 y36 y4 y5 y7 y8 y9
  rintro f60 _ ⟨y3, y4, y5, y7, y8, y9, y10, y25, y60, rfl⟩
  refine wpF_condP y60 (fun hp61 => ?t204) (fun hp61 => ?e204)
  case t204 =>
   refine wpF_cut (fun f H => f 9 = B (decide (((K.all numB') = true) ∨ ((((K.length : Int) = 2) ∧ ((nth K 0) = (nth K 1))) ∧ (((nth K 0) = 4) ∨ (wordS (nth K 0)))))) ∧ f 10 = I (1) ∧ St H0 NoB NoB [bE g7 #[SB (d.Name), vd, I (d.Srt)] 43, bE g4 #[vK] 24, bE g1 #[I (n.Op), vk, I (n.N), I (n.D), SB (n.Name)] 37, rdE vk n.Kids, rdE vK K, rdE vd d.Args] H) ?_ ?_
   ·refine wpF_region ?_
    refine lq rfl (q_loadBlk rfl y4 Try.isAgg24 (hS10.blk 1 rfl) rfl (fun h => h)) ?_
    refine lo rfl ?_
    refine e_call rfl Try.call58 (arr2 (v0 := vK) (v1 := Value.func (.func 60) #[] #[]) rfl rfl) (all_L vK (Value.func (.func 60) #[] #[]) K numB' (hS10.rdN 4 rfl) rfl (fun x hx H hE => ⟨_, _, rfl, Try.call60, numeric_L x⟩)) ?_
    rintro _ H62 ⟨hxx, rfl⟩
    have hS63 := hS10.ext hxx
    refine lm (v := B (K.all numB')) rfl rfl rfl ?_
    by_cases hg65 : (K.all numB') = true
    ·have hb66 := Eq.trans rfl (congrArg B hg65)
     refine wpL_gs rfl rfl rfl hb66 rfl ?_
     refine wpL_gs rfl rfl rfl hb66 rfl ?_
     refine wpL_gs' rfl rfl rfl rfl ?_
     refine wpL_gs' rfl rfl rfl rfl ?_
     refine wpL_gs' rfl rfl rfl rfl ?_
     refine wpL_gs' rfl rfl rfl rfl ?_
     refine wpL_gs' rfl rfl rfl rfl ?_
     refine wpL_gs' rfl rfl rfl rfl ?_
     refine wpL_gs' rfl rfl rfl rfl ?_
     refine wpL_gs' rfl rfl rfl rfl ?_
     refine wpL_gs' rfl rfl rfl rfl ?_
     refine wpL_gs' rfl rfl rfl rfl ?_
     refine wpL_gs rfl rfl rfl hb66 rfl ?_
     refine lq rfl (q_pickT (v := B (true)) rfl hb66 rfl) ?_
     refine la (v := B (true)) rfl rfl rfl ?_
     exact ⟨(Eq.trans rfl (congrArg B ((decide_eq_true (Or.inl hg65)).symm))), y10, hS63⟩
    ·have hb67 := Eq.trans rfl (congrArg B (Bool.eq_false_iff.2 hg65))
     refine gq rfl rfl rfl hb67 (q_move (v := B (decide (((K.length : Int) = 2) ∧ ((nth K 0) = (nth K 1))))) rfl y8) ?_
     refine gq rfl rfl rfl hb67 (q_move (v := B (decide (((K.length : Int) = 2) ∧ ((nth K 0) = (nth K 1))))) rfl rfl) ?_
     by_cases hg68 : ((K.length : Int) = 2) ∧ ((nth K 0) = (nth K 1))
     ·have hb69 := Eq.trans rfl (congrArg B (decide_eq_true hg68))
      refine gq rfl rfl rfl hb69 (q_loadBlk rfl y4 Try.isAgg24 (hS63.blk 1 rfl) rfl (fun h => h)) ?_
      refine gq rfl rfl rfl hb69 (q_indexRd (k := 0) rfl Try.underlying24 el_Int_3_AskC2 rfl rfl (hS63.rdl 4 rfl) (by omega) (by omega)) ?_
      refine gq rfl rfl rfl hb69 (q_loadInt (k := 0) rfl rfl el_Int_3_AskC2 (hS63.rdl 4 rfl) (by omega) (fun _ h => h)) ?_
      refine gq rfl rfl rfl hb69 (q_eql rfl rfl rfl) ?_
      refine gq rfl rfl rfl hb69 (q_move (v := B (decide ((nth K 0) = 4))) rfl rfl) ?_
      by_cases hg71 : (nth K 0) = 4
      ·have hb72 := Eq.trans rfl (congrArg B (decide_eq_true hg71))
       refine wpL_gs rfl rfl rfl hb72 rfl ?_
       refine wpL_gs rfl rfl rfl hb72 rfl ?_
       refine wpL_gs rfl rfl rfl hb72 rfl ?_
       refine wpL_gs rfl rfl rfl hb72 rfl ?_
       refine gq rfl rfl rfl hb69 (q_pickT (v := B (true)) rfl hb72 rfl) ?_
       refine gq rfl rfl rfl hb67 (q_pickT (v := B (true)) rfl hb69 rfl) ?_
       refine lq rfl (q_pickF (v := B (true)) rfl hb67 rfl) ?_
       refine la (v := B (true)) rfl rfl rfl ?_
       exact ⟨(Eq.trans rfl (congrArg B ((decide_eq_true (Or.inr ⟨hg68, (Or.inl hg71)⟩)).symm))), y10, hS63⟩
      ·have hb73 := Eq.trans rfl (congrArg B (decide_eq_false hg71))
       refine gq rfl rfl rfl hb73 (q_loadBlk rfl y4 Try.isAgg24 (hS63.blk 1 rfl) rfl (fun h => h)) ?_
       refine gq rfl rfl rfl hb73 (q_indexRd (k := 0) rfl Try.underlying24 el_Int_3_AskC2 rfl rfl (hS63.rdl 4 rfl) (by omega) (by omega)) ?_
       refine gq rfl rfl rfl hb73 (q_loadInt (k := 0) rfl rfl el_Int_3_AskC2 (hS63.rdl 4 rfl) (by omega) (fun _ h => h)) ?_
       refine wpL_go rfl rfl rfl hb73 ?_
       refine e_call rfl Try.call51 (arr1 (v0 := I (nth K 0)) rfl) (Word_L (nth K 0)) ?_
       rintro _ H74 ⟨hxx, rfl⟩
       have hS75 := hS63.ext hxx
       refine gq rfl rfl rfl hb69 (q_pickF (v := B (decide (wordS (nth K 0)))) rfl hb73 rfl) ?_
       refine gq rfl rfl rfl hb67 (q_pickT (v := B (decide (wordS (nth K 0)))) rfl hb69 rfl) ?_
       refine lq rfl (q_pickF (v := B (decide (wordS (nth K 0)))) rfl hb67 rfl) ?_
       refine la (v := B (decide (wordS (nth K 0)))) rfl rfl rfl ?_
       exact ⟨(Eq.trans rfl (congrArg B (decide_congr_of ((Iff.rfl).trans (((or_iff_right hg65).trans ((and_iff_right hg68).trans ((or_iff_right hg71).trans Iff.rfl)))).symm)))), y10, hS75⟩
     ·have hb70 := Eq.trans rfl (congrArg B (decide_eq_false hg68))
      refine wpL_gs rfl rfl rfl hb70 rfl ?_
      refine wpL_gs rfl rfl rfl hb70 rfl ?_
      refine wpL_gs rfl rfl rfl hb70 rfl ?_
      refine wpL_gs rfl rfl rfl hb70 rfl ?_
      refine wpL_gs rfl rfl rfl hb70 rfl ?_
      refine wpL_gs' rfl rfl rfl rfl ?_
      refine wpL_gs' rfl rfl rfl rfl ?_
      refine wpL_gs' rfl rfl rfl rfl ?_
      refine wpL_gs' rfl rfl rfl rfl ?_
      refine wpL_gs rfl rfl rfl hb70 rfl ?_
      refine gq rfl rfl rfl hb67 (q_pickF (v := B (false)) rfl hb70 rfl) ?_
      refine lq rfl (q_pickF (v := B (false)) rfl hb67 rfl) ?_
      refine la (v := B (false)) rfl rfl rfl ?_
      exact ⟨(Eq.trans rfl (congrArg B ((decide_eq_false (not_or.2 ⟨hg65, (fun h => hg68 h.1)⟩)).symm))), y10, hS63⟩
   clear y10 y25 y3 y4 y5 y60 y7 y8 y9
   rintro f77 H77 ⟨y9, y10, hS77⟩
   exact ⟨(Eq.trans y9 (congrArg B (by rw [okS, hp61]; rfl))), (Eq.trans y10 (congrArg I (by rw [outS, hp61]; rfl))), hS77⟩
  refine fcr (fun f H => f 3 = PT g1 0 ∧ f 4 = PT g4 0 ∧ f 5 = PT g7 0 ∧ f 7 = Value.func (.func 57) #[] #[PT g4 0] ∧ f 8 = B (decide (((K.length : Int) = 2) ∧ ((nth K 0) = (nth K 1)))) ∧ f 9 = B (false) ∧ f 10 = I (1) ∧ f 25 = I (n.Op) ∧ f 79 = B (decide (n.Op = 9)) ∧ H10 = H) ?_ ?_
  ·refine lq rfl (q_eql rfl y25 rfl) ?_
   refine la (v := B (decide (n.Op = 9))) rfl rfl rfl ?_
   exact ⟨y3, y4, y5, y7, y8, y9, y10, y25, rfl, rfl⟩
  clear y10 y25 y3 y4 y5 y60 y7 y8 y9
  rintro f78 _ ⟨y3, y4, y5, y7, y8, y9, y10, y25, y79, rfl⟩
  refine wpF_condP y79 (fun hp79 => ?t203) (fun hp79 => ?e203)
  case t203 =>
   refine wpF_cut (fun f H => f 9 = B (decide (K = d.Args)) ∧ f 10 = I (d.Srt) ∧ St H0 NoB NoB [bE g7 #[SB (d.Name), vd, I (d.Srt)] 43, bE g4 #[vK] 24, bE g1 #[I (n.Op), vk, I (n.N), I (n.D), SB (n.Name)] 37, rdE vk n.Kids, rdE vK K, rdE vd d.Args] H) ?_ ?_
   ·refine wpF_drawn [] [] (fun _ _ => False) (by kernel_rfl) (by kernel_rfl) ?_
    refine rq 0 (by kernel_rfl) rfl rfl (q_move (v := Value.func (.func 57) #[] #[PT g4 0]) rfl y7) ?_
    refine rq 1 (by kernel_rfl) rfl rfl (q_fieldAddr rfl Try.underlying43 rfl Try.sizeOf24 y5) ?_
    refine rq 2 (by kernel_rfl) rfl rfl (q_loadBlk rfl rfl Try.isAgg24 (hS10.blk 0 rfl) rfl (labU_not [] rfl (fe))) ?_
    refine rq 4 (by kernel_rfl) rfl rfl (q_fieldAddr rfl Try.underlying43 rfl Try.sizeOf3 y5) ?_
    refine rq 5 (by kernel_rfl) rfl rfl (q_loadBlk rfl rfl Try.isAgg3 (hS10.blk 0 rfl) rfl (labU_not [] rfl (fe))) ?_
    refine wpR_n [3] (by kernel_rfl) ?_
    refine fa ?_ fe
    refine exE rfl rfl ?_
    refine e_callV rfl rfl Try.call57 (arr1 (v0 := vd) rfl) (Sort_1 vd g4 vK d.Args K (hS10.blk 1 rfl) (hS10.rdN 5 rfl) (hS10.rdN 4 rfl)) ?_
    rintro _ H80o3 ⟨hxx, rfl⟩
    have hS80o3 := hS10.ext hxx
    refine ⟨Ext.mono hxx (fun _ h => h.elim), ?_⟩
    refine rq 6 (by kernel_rfl) rfl rfl (q_assign (v := B (decide (K = d.Args))) rfl rfl) ?_
    refine rq 7 (by kernel_rfl) rfl rfl (q_assign (v := I (d.Srt)) rfl rfl) ?_
    refine wpR_end (by kernel_rfl) ?_
    exact ⟨rfl, rfl, hS80o3⟩
   clear y10 y25 y3 y4 y5 y7 y79 y8 y9
   rintro f81 H81 ⟨y9, y10, hS81⟩
   exact ⟨(Eq.trans y9 (congrArg B (by rw [okS, hp79]; rfl))), (Eq.trans y10 (congrArg I (by rw [outS, hp79]; rfl))), hS81⟩
  refine fcr (fun f H => f 3 = PT g1 0 ∧ f 4 = PT g4 0 ∧ f 7 = Value.func (.func 57) #[] #[PT g4 0] ∧ f 8 = B (decide (((K.length : Int) = 2) ∧ ((nth K 0) = (nth K 1)))) ∧ f 9 = B (false) ∧ f 10 = I (1) ∧ f 25 = I (n.Op) ∧ f 87 = B (decide (n.Op = 10)) ∧ H10 = H) ?_ ?_
  ·refine lq rfl (q_eql rfl y25 rfl) ?_
   refine la (v := B (decide (n.Op = 10))) rfl rfl rfl ?_
   exact ⟨y3, y4, y7, y8, y9, y10, y25, rfl, rfl⟩
  clear y10 y25 y3 y4 y5 y7 y79 y8 y9
  rintro f82 _ ⟨y3, y4, y7, y8, y9, y10, y25, y87, rfl⟩
  refine wpF_condP y87 (fun hp83 => ?t202) (fun hp83 => ?e202)
  case t202 =>
   refine wpF_cut (fun f H => f 9 = B (true) ∧ f 10 = I (wholeS (n.D = 1)) ∧ St H0 NoB NoB [bE g7 #[SB (d.Name), vd, I (d.Srt)] 43, bE g4 #[vK] 24, bE g1 #[I (n.Op), vk, I (n.N), I (n.D), SB (n.Name)] 37, rdE vk n.Kids, rdE vK K, rdE vd d.Args] H) ?_ ?_
   ·refine wpF_region ?_
    refine lq rfl (q_fieldAddr rfl Try.underlying37 rfl Try.sizeOf3 y3) ?_
    refine lq rfl (q_loadBlk rfl rfl Try.isAgg3 (hS10.blk 2 rfl) rfl (fun h => h)) ?_
    refine lq rfl (q_eql rfl rfl rfl) ?_
    refine lo rfl ?_
    refine e_call rfl Try.call61 (arr1 (v0 := B (decide (n.D = 1))) rfl) (whole_L (n.D = 1)) ?_
    rintro _ H84 ⟨hxx, rfl⟩
    have hS85 := hS10.ext hxx
    refine la (v := B (true)) rfl rfl rfl ?_
    refine la (v := I (wholeS (n.D = 1))) rfl rfl rfl ?_
    exact ⟨rfl, rfl, hS85⟩
   clear y10 y25 y3 y4 y7 y8 y87 y9
   rintro f87 H87 ⟨y9, y10, hS87⟩
   exact ⟨(Eq.trans y9 (congrArg B (by rw [okS, hp83]; rfl))), (Eq.trans y10 (congrArg I (by rw [outS, hp83]; rfl))), hS87⟩
  refine fcr (fun f H => f 3 = PT g1 0 ∧ f 4 = PT g4 0 ∧ f 7 = Value.func (.func 57) #[] #[PT g4 0] ∧ f 8 = B (decide (((K.length : Int) = 2) ∧ ((nth K 0) = (nth K 1)))) ∧ f 9 = B (false) ∧ f 10 = I (1) ∧ f 25 = I (n.Op) ∧ f 93 = B (decide (n.Op = 11)) ∧ H10 = H) ?_ ?_
  ·refine lq rfl (q_eql rfl y25 rfl) ?_
   refine la (v := B (decide (n.Op = 11))) rfl rfl rfl ?_
   exact ⟨y3, y4, y7, y8, y9, y10, y25, rfl, rfl⟩
  clear y10 y25 y3 y4 y7 y8 y87 y9
  rintro f88 _ ⟨y3, y4, y7, y8, y9, y10, y25, y93, rfl⟩
  refine wpF_condP y93 (fun hp89 => ?t201) (fun hp89 => ?e201)
  case t201 =>
   refine wpF_cut (fun f H => f 9 = B (K.all numB') ∧ f 10 = I (wholeS ((K.all intB) = true)) ∧ St H0 NoB NoB [bE g7 #[SB (d.Name), vd, I (d.Srt)] 43, bE g4 #[vK] 24, bE g1 #[I (n.Op), vk, I (n.N), I (n.D), SB (n.Name)] 37, rdE vk n.Kids, rdE vK K, rdE vd d.Args] H) ?_ ?_
   ·refine wpF_drawn [] [] (fun _ _ => False) (by kernel_rfl) (by kernel_rfl) ?_
    refine rq 0 (by kernel_rfl) rfl rfl (q_loadBlk rfl y4 Try.isAgg24 (hS10.blk 1 rfl) rfl (labU_not [] rfl (fe))) ?_
    refine rq 2 (by kernel_rfl) rfl rfl (q_loadBlk rfl y4 Try.isAgg24 (hS10.blk 1 rfl) rfl (labU_not [] rfl (fe))) ?_
    refine wpR_n [1] (by kernel_rfl) ?_
    refine fa ?_ fe
    refine exE rfl rfl ?_
    refine e_call rfl Try.call58 (arr2 (v0 := vK) (v1 := Value.func (.func 60) #[] #[]) rfl rfl) (all_L vK (Value.func (.func 60) #[] #[]) K numB' (hS10.rdN 4 rfl) rfl (fun x hx H hE => ⟨_, _, rfl, Try.call60, numeric_L x⟩)) ?_
    rintro _ H90o1 ⟨hxx, rfl⟩
    have hS90o1 := hS10.ext hxx
    refine ⟨Ext.mono hxx (fun _ h => h.elim), ?_⟩
    refine wpR_n [3] (by kernel_rfl) ?_
    refine fa ?_ fe
    refine exE rfl rfl ?_
    refine e_call rfl Try.call58 (arr2 (v0 := vK) (v1 := Value.func (.func 62) #[] #[]) rfl rfl) (all_L vK (Value.func (.func 62) #[] #[]) K intB (hS90o1.rdN 4 rfl) rfl (fun x hx H hE => ⟨_, _, rfl, Try.call62, Sort_3 x⟩)) ?_
    rintro _ H90o3 ⟨hxx, rfl⟩
    have hS90o3 := hS90o1.ext hxx
    refine ⟨Ext.mono hxx (fun _ h => h.elim), ?_⟩
    refine wpR_n [4] (by kernel_rfl) ?_
    refine fa ?_ fe
    refine exE rfl rfl ?_
    refine e_call rfl Try.call61 (arr1 (v0 := B (K.all intB)) rfl) (whole_LB (K.all intB)) ?_
    rintro _ H90o4 ⟨hxx, rfl⟩
    have hS90o4 := hS90o3.ext hxx
    refine ⟨Ext.mono hxx (fun _ h => h.elim), ?_⟩
    refine rq 5 (by kernel_rfl) rfl rfl (q_assign (v := B (K.all numB')) rfl rfl) ?_
    refine rq 6 (by kernel_rfl) rfl rfl (q_assign (v := I (wholeS ((K.all intB) = true))) rfl rfl) ?_
    refine wpR_end (by kernel_rfl) ?_
    exact ⟨rfl, rfl, hS90o4⟩
   clear y10 y25 y3 y4 y7 y8 y9 y93
   rintro f91 H91 ⟨y9, y10, hS91⟩
   exact ⟨(Eq.trans y9 (congrArg B (by rw [okS, hp89]; rfl))), (Eq.trans y10 (congrArg I (by rw [outS, hp89]; rfl))), hS91⟩
  refine fcr (fun f H => f 3 = PT g1 0 ∧ f 4 = PT g4 0 ∧ f 7 = Value.func (.func 57) #[] #[PT g4 0] ∧ f 8 = B (decide (((K.length : Int) = 2) ∧ ((nth K 0) = (nth K 1)))) ∧ f 9 = B (false) ∧ f 10 = I (1) ∧ f 25 = I (n.Op) ∧ f 100 = B (decide (n.Op = 12)) ∧ H10 = H) ?_ ?_
  ·refine lq rfl (q_eql rfl y25 rfl) ?_
   refine la (v := B (decide (n.Op = 12))) rfl rfl rfl ?_
   exact ⟨y3, y4, y7, y8, y9, y10, y25, rfl, rfl⟩
  clear y10 y25 y3 y4 y7 y8 y9 y93
  rintro f92 _ ⟨y3, y4, y7, y8, y9, y10, y25, y100, rfl⟩
  refine wpF_condP y100 (fun hp93 => ?t200) (fun hp93 => ?e200)
  case t200 =>
   refine wpF_cut (fun f H => f 9 = B (decide (numS (nth K 0))) ∧ f 10 = I (wholeS (nth K 0 = 2 ∧ n.D = 1)) ∧ St H0 NoB NoB [bE g7 #[SB (d.Name), vd, I (d.Srt)] 43, bE g4 #[vK] 24, bE g1 #[I (n.Op), vk, I (n.N), I (n.D), SB (n.Name)] 37, rdE vk n.Kids, rdE vK K, rdE vd d.Args] H) ?_ ?_
   ·refine wpF_drawn [] [] (fun _ _ => False) (by kernel_rfl) (by kernel_rfl) ?_
    refine rq 0 (by kernel_rfl) rfl rfl (q_loadBlk rfl y4 Try.isAgg24 (hS10.blk 1 rfl) rfl (labU_not [] rfl (fe))) ?_
    refine rq 1 (by kernel_rfl) rfl rfl (q_indexRd (k := 0) rfl Try.underlying24 el_Int_3_AskC2 rfl rfl (hS10.rdl 4 rfl) (by omega) (by omega)) ?_
    refine rq 2 (by kernel_rfl) rfl rfl (q_loadInt (k := 0) rfl rfl el_Int_3_AskC2 (hS10.rdl 4 rfl) (by omega) (labU_sub [] rfl (fe))) ?_
    refine rq 4 (by kernel_rfl) rfl rfl (q_loadBlk rfl y4 Try.isAgg24 (hS10.blk 1 rfl) rfl (labU_not [] rfl (fe))) ?_
    refine rq 5 (by kernel_rfl) rfl rfl (q_indexRd (k := 0) rfl Try.underlying24 el_Int_3_AskC2 rfl rfl (hS10.rdl 4 rfl) (by omega) (by omega)) ?_
    refine rq 6 (by kernel_rfl) rfl rfl (q_loadInt (k := 0) rfl rfl el_Int_3_AskC2 (hS10.rdl 4 rfl) (by omega) (labU_sub [] rfl (fe))) ?_
    refine rq 7 (by kernel_rfl) rfl rfl (q_eql rfl rfl rfl) ?_
    refine wpR_n [3] (by kernel_rfl) ?_
    refine fa ?_ fe
    refine exE rfl rfl ?_
    refine e_call rfl Try.call60 (arr1 (v0 := I (nth K 0)) rfl) (numeric_L (nth K 0)) ?_
    rintro _ H94o3 ⟨hxx, rfl⟩
    have hS94o3 := hS10.ext hxx
    refine ⟨Ext.mono hxx (fun _ h => h.elim), ?_⟩
    refine rq 8 (by kernel_rfl) rfl rfl (q_move (v := B (decide ((nth K 0) = 2))) rfl rfl) ?_
    by_cases hg95 : (nth K 0) = 2
    ·have hb96 := Eq.trans rfl (congrArg B (decide_eq_true hg95))
     refine wpR_q 9 (by kernel_rfl) rfl (quietAt_g rfl rfl rfl rfl hb96 (q_fieldAddr rfl Try.underlying37 rfl Try.sizeOf3 y3)) ?_
     refine wpR_q 10 (by kernel_rfl) rfl (quietAt_g rfl rfl rfl rfl hb96 (q_loadBlk rfl rfl Try.isAgg3 (hS94o3.blk 2 rfl) rfl (labU_not [] rfl (fe)))) ?_
     refine wpR_q 11 (by kernel_rfl) rfl (quietAt_g rfl rfl rfl rfl hb96 (q_eql rfl rfl rfl)) ?_
     refine rq 12 (by kernel_rfl) rfl rfl (q_pickT (v := B (decide (n.D = 1))) rfl hb96 rfl) ?_
     refine wpR_n [13] (by kernel_rfl) ?_
     refine fa ?_ fe
     refine exE rfl rfl ?_
     refine e_call rfl Try.call61 (arr1 (v0 := B (decide (n.D = 1))) rfl) (whole_L (n.D = 1)) ?_
     rintro _ H94o13 ⟨hxx, rfl⟩
     have hS94o13 := hS94o3.ext hxx
     refine ⟨Ext.mono hxx (fun _ h => h.elim), ?_⟩
     refine rq 14 (by kernel_rfl) rfl rfl (q_assign (v := B (decide (numS (nth K 0)))) rfl rfl) ?_
     refine rq 15 (by kernel_rfl) rfl rfl (q_assign (v := I (wholeS (n.D = 1))) rfl rfl) ?_
     refine wpR_end (by kernel_rfl) ?_
     exact ⟨rfl, (Eq.trans rfl (congrArg I (wholeS_yes hg95))), hS94o13⟩
    ·have hb97 := Eq.trans rfl (congrArg B (decide_eq_false hg95))
     refine wpR_q 9 (by kernel_rfl) rfl (quietAt_s rfl rfl rfl rfl hb97 rfl) ?_
     refine wpR_q 10 (by kernel_rfl) rfl (quietAt_s rfl rfl rfl rfl hb97 rfl) ?_
     refine wpR_q 11 (by kernel_rfl) rfl (quietAt_s rfl rfl rfl rfl hb97 rfl) ?_
     refine rq 12 (by kernel_rfl) rfl rfl (q_pickF (v := B (false)) rfl hb97 rfl) ?_
     refine wpR_n [13] (by kernel_rfl) ?_
     refine fa ?_ fe
     refine exE rfl rfl ?_
     refine e_call rfl Try.call61 (arr1 (v0 := B (false)) rfl) (whole_LB false) ?_
     rintro _ H94o13 ⟨hxx, rfl⟩
     have hS94o13 := hS94o3.ext hxx
     refine ⟨Ext.mono hxx (fun _ h => h.elim), ?_⟩
     refine rq 14 (by kernel_rfl) rfl rfl (q_assign (v := B (decide (numS (nth K 0)))) rfl rfl) ?_
     refine rq 15 (by kernel_rfl) rfl rfl (q_assign (v := I (wholeS (false = true))) rfl rfl) ?_
     refine wpR_end (by kernel_rfl) ?_
     exact ⟨rfl, (Eq.trans rfl (congrArg I (wholeS_no hg95))), hS94o13⟩
   clear y10 y100 y25 y3 y4 y7 y8 y9
   rintro f98 H98 ⟨y9, y10, hS98⟩
   exact ⟨(Eq.trans y9 (congrArg B (by rw [okS, hp93]; rfl))), (Eq.trans y10 (congrArg I (by rw [outS, hp93]; rfl))), hS98⟩
  refine wpF_seq ?_
  refine fcr (fun f H => f 3 = PT g1 0 ∧ f 4 = PT g4 0 ∧ f 7 = Value.func (.func 57) #[] #[PT g4 0] ∧ f 8 = B (decide (((K.length : Int) = 2) ∧ ((nth K 0) = (nth K 1)))) ∧ f 9 = B (false) ∧ f 10 = I (1) ∧ f 25 = I (n.Op) ∧ f 116 = B (decide (n.Op = 13)) ∧ H10 = H) ?_ ?_
  ·refine lq rfl (q_eql rfl y25 rfl) ?_
   refine la (v := B (decide (n.Op = 13))) rfl rfl rfl ?_
   exact ⟨y3, y4, y7, y8, y9, y10, y25, rfl, rfl⟩
  clear y10 y100 y25 y3 y4 y7 y8 y9
  rintro f99 _ ⟨y3, y4, y7, y8, y9, y10, y25, y116, rfl⟩
  refine wpF_condP y116 (fun hp100 => ?t199) (fun hp100 => ?e199)
  case t199 =>
   refine wpF_skip ?_
   refine wpF_condT (Eq.trans y116 (congrArg B (decide_eq_true hp100))) ?_
   refine wpF_cut (fun f H => f 9 = B (K.all numB') ∧ f 10 = I (1) ∧ St H0 NoB NoB [bE g7 #[SB (d.Name), vd, I (d.Srt)] 43, bE g4 #[vK] 24, bE g1 #[I (n.Op), vk, I (n.N), I (n.D), SB (n.Name)] 37, rdE vk n.Kids, rdE vK K, rdE vd d.Args] H) ?_ ?_
   ·refine wpF_region ?_
    refine lq rfl (q_loadBlk rfl y4 Try.isAgg24 (hS10.blk 1 rfl) rfl (fun h => h)) ?_
    refine lo rfl ?_
    refine e_call rfl Try.call58 (arr2 (v0 := vK) (v1 := Value.func (.func 60) #[] #[]) rfl rfl) (all_L vK (Value.func (.func 60) #[] #[]) K numB' (hS10.rdN 4 rfl) rfl (fun x hx H hE => ⟨_, _, rfl, Try.call60, numeric_L x⟩)) ?_
    rintro _ H101 ⟨hxx, rfl⟩
    have hS102 := hS10.ext hxx
    refine la (v := B (K.all numB')) rfl rfl rfl ?_
    exact ⟨rfl, y10, hS102⟩
   clear y10 y116 y25 y3 y4 y7 y8 y9
   rintro f104 H104 ⟨y9, y10, hS104⟩
   exact ⟨(Eq.trans y9 (congrArg B (by rw [okS, hp100]; rfl))), (Eq.trans y10 (congrArg I (by rw [outS, hp100]; rfl))), hS104⟩
  refine wpF_cut (fun f H => f 3 = PT g1 0 ∧ f 4 = PT g4 0 ∧ f 7 = Value.func (.func 57) #[] #[PT g4 0] ∧ f 8 = B (decide (((K.length : Int) = 2) ∧ ((nth K 0) = (nth K 1)))) ∧ f 9 = B (false) ∧ f 10 = I (1) ∧ f 25 = I (n.Op) ∧ f 116 = B (decide (n.Op = 14)) ∧ H10 = H) ?_ ?_
  ·refine wpF_region ?_
   refine lq rfl (q_eql rfl y25 rfl) ?_
   refine la (v := B (decide (n.Op = 14))) rfl rfl rfl ?_
   exact ⟨y3, y4, y7, y8, y9, y10, y25, rfl, rfl⟩
  clear y10 y116 y25 y3 y4 y7 y8 y9
  rintro f105 _ ⟨y3, y4, y7, y8, y9, y10, y25, y116, rfl⟩
  refine wpF_condP y116 (fun hp106 => ?t198) (fun hp106 => ?e198)
  case t198 =>
   refine wpF_cut (fun f H => f 9 = B (K.all numB') ∧ f 10 = I (1) ∧ St H0 NoB NoB [bE g7 #[SB (d.Name), vd, I (d.Srt)] 43, bE g4 #[vK] 24, bE g1 #[I (n.Op), vk, I (n.N), I (n.D), SB (n.Name)] 37, rdE vk n.Kids, rdE vK K, rdE vd d.Args] H) ?_ ?_
   ·refine wpF_region ?_
    refine lq rfl (q_loadBlk rfl y4 Try.isAgg24 (hS10.blk 1 rfl) rfl (fun h => h)) ?_
    refine lo rfl ?_
    refine e_call rfl Try.call58 (arr2 (v0 := vK) (v1 := Value.func (.func 60) #[] #[]) rfl rfl) (all_L vK (Value.func (.func 60) #[] #[]) K numB' (hS10.rdN 4 rfl) rfl (fun x hx H hE => ⟨_, _, rfl, Try.call60, numeric_L x⟩)) ?_
    rintro _ H107 ⟨hxx, rfl⟩
    have hS108 := hS10.ext hxx
    refine la (v := B (K.all numB')) rfl rfl rfl ?_
    exact ⟨rfl, y10, hS108⟩
   clear y10 y116 y25 y3 y4 y7 y8 y9
   rintro f110 H110 ⟨y9, y10, hS110⟩
   exact ⟨(Eq.trans y9 (congrArg B (by rw [okS, hp106]; rfl))), (Eq.trans y10 (congrArg I (by rw [outS, hp106]; rfl))), hS110⟩
  refine fcr (fun f H => f 3 = PT g1 0 ∧ f 4 = PT g4 0 ∧ f 7 = Value.func (.func 57) #[] #[PT g4 0] ∧ f 8 = B (decide (((K.length : Int) = 2) ∧ ((nth K 0) = (nth K 1)))) ∧ f 9 = B (false) ∧ f 10 = I (1) ∧ f 25 = I (n.Op) ∧ f 121 = B (decide (n.Op = 15)) ∧ H10 = H) ?_ ?_
  ·refine lq rfl (q_eql rfl y25 rfl) ?_
   refine la (v := B (decide (n.Op = 15))) rfl rfl rfl ?_
   exact ⟨y3, y4, y7, y8, y9, y10, y25, rfl, rfl⟩
  clear y10 y116 y25 y3 y4 y7 y8 y9
  rintro f111 _ ⟨y3, y4, y7, y8, y9, y10, y25, y121, rfl⟩
  refine wpF_condP y121 (fun hp112 => ?t197) (fun hp112 => ?e197)
  case t197 =>
   refine wpF_cut (fun f H => f 9 = B (true) ∧ f 10 = I (10 + n.D) ∧ H10 = H) ?_ ?_
   ·refine wpF_drawn [] [] (fun _ _ => False) (by kernel_rfl) (by kernel_rfl) ?_
    refine rq 0 (by kernel_rfl) rfl rfl (q_fieldAddr rfl Try.underlying37 rfl Try.sizeOf3 y3) ?_
    refine rq 1 (by kernel_rfl) rfl rfl (q_loadBlk rfl rfl Try.isAgg3 (hS10.blk 2 rfl) rfl (labU_not [] rfl (fe))) ?_
    refine rq 2 (by kernel_rfl) rfl rfl (q_add rfl rfl rfl (by constructor <;> omega)) ?_
    refine rq 3 (by kernel_rfl) rfl rfl (q_assign (v := B (true)) rfl rfl) ?_
    refine rq 4 (by kernel_rfl) rfl rfl (q_assign (v := I (10 + n.D)) rfl rfl) ?_
    refine wpR_end (by kernel_rfl) ?_
    exact ⟨rfl, rfl, rfl⟩
   clear y10 y121 y25 y3 y4 y7 y8 y9
   rintro f114 _ ⟨y9, y10, rfl⟩
   exact ⟨(Eq.trans y9 (congrArg B (by rw [okS, hp112]; rfl))), (Eq.trans y10 (congrArg I (by rw [outS, hp112]; rfl))), hS10⟩
  refine wpF_seq ?_
  refine fcr (fun f H => f 4 = PT g4 0 ∧ f 7 = Value.func (.func 57) #[] #[PT g4 0] ∧ f 8 = B (decide (((K.length : Int) = 2) ∧ ((nth K 0) = (nth K 1)))) ∧ f 9 = B (false) ∧ f 10 = I (1) ∧ f 25 = I (n.Op) ∧ f 126 = B (decide (n.Op = 16)) ∧ H10 = H) ?_ ?_
  ·refine lq rfl (q_eql rfl y25 rfl) ?_
   refine la (v := B (decide (n.Op = 16))) rfl rfl rfl ?_
   exact ⟨y4, y7, y8, y9, y10, y25, rfl, rfl⟩
  clear y10 y121 y25 y3 y4 y7 y8 y9
  rintro f115 _ ⟨y4, y7, y8, y9, y10, y25, y126, rfl⟩
  refine wpF_condP y126 (fun hp116 => ?t196) (fun hp116 => ?e196)
  case t196 =>
   refine wpF_skip ?_
   refine wpF_condT (Eq.trans y126 (congrArg B (decide_eq_true hp116))) ?_
   refine wpF_cut (fun f H => f 9 = B (decide (wordS (nth K 0))) ∧ f 10 = I (nth K 0) ∧ St H0 NoB NoB [bE g7 #[SB (d.Name), vd, I (d.Srt)] 43, bE g4 #[vK] 24, bE g1 #[I (n.Op), vk, I (n.N), I (n.D), SB (n.Name)] 37, rdE vk n.Kids, rdE vK K, rdE vd d.Args] H) ?_ ?_
   ·refine wpF_drawn [] [] (fun _ _ => False) (by kernel_rfl) (by kernel_rfl) ?_
    refine rq 0 (by kernel_rfl) rfl rfl (q_loadBlk rfl y4 Try.isAgg24 (hS10.blk 1 rfl) rfl (labU_not [] rfl (fe))) ?_
    refine rq 1 (by kernel_rfl) rfl rfl (q_indexRd (k := 0) rfl Try.underlying24 el_Int_3_AskC2 rfl rfl (hS10.rdl 4 rfl) (by omega) (by omega)) ?_
    refine rq 2 (by kernel_rfl) rfl rfl (q_loadInt (k := 0) rfl rfl el_Int_3_AskC2 (hS10.rdl 4 rfl) (by omega) (labU_sub [] rfl (fe))) ?_
    refine rq 4 (by kernel_rfl) rfl rfl (q_loadBlk rfl y4 Try.isAgg24 (hS10.blk 1 rfl) rfl (labU_not [] rfl (fe))) ?_
    refine rq 5 (by kernel_rfl) rfl rfl (q_indexRd (k := 0) rfl Try.underlying24 el_Int_3_AskC2 rfl rfl (hS10.rdl 4 rfl) (by omega) (by omega)) ?_
    refine rq 6 (by kernel_rfl) rfl rfl (q_loadInt (k := 0) rfl rfl el_Int_3_AskC2 (hS10.rdl 4 rfl) (by omega) (labU_sub [] rfl (fe))) ?_
    refine wpR_n [3] (by kernel_rfl) ?_
    refine fa ?_ fe
    refine exE rfl rfl ?_
    refine e_call rfl Try.call51 (arr1 (v0 := I (nth K 0)) rfl) (Word_L (nth K 0)) ?_
    rintro _ H117o3 ⟨hxx, rfl⟩
    have hS117o3 := hS10.ext hxx
    refine ⟨Ext.mono hxx (fun _ h => h.elim), ?_⟩
    refine rq 7 (by kernel_rfl) rfl rfl (q_assign (v := B (decide (wordS (nth K 0)))) rfl rfl) ?_
    refine rq 8 (by kernel_rfl) rfl rfl (q_assign (v := I (nth K 0)) rfl rfl) ?_
    refine wpR_end (by kernel_rfl) ?_
    exact ⟨rfl, rfl, hS117o3⟩
   clear y10 y126 y25 y4 y7 y8 y9
   rintro f118 H118 ⟨y9, y10, hS118⟩
   exact ⟨(Eq.trans y9 (congrArg B (by rw [okS, hp116]; rfl))), (Eq.trans y10 (congrArg I (by rw [outS, hp116]; rfl))), hS118⟩
  refine wpF_cut (fun f H => f 4 = PT g4 0 ∧ f 7 = Value.func (.func 57) #[] #[PT g4 0] ∧ f 8 = B (decide (((K.length : Int) = 2) ∧ ((nth K 0) = (nth K 1)))) ∧ f 9 = B (false) ∧ f 10 = I (1) ∧ f 25 = I (n.Op) ∧ f 126 = B (decide (n.Op = 23)) ∧ H10 = H) ?_ ?_
  ·refine wpF_region ?_
   refine lq rfl (q_eql rfl y25 rfl) ?_
   refine la (v := B (decide (n.Op = 23))) rfl rfl rfl ?_
   exact ⟨y4, y7, y8, y9, y10, y25, rfl, rfl⟩
  clear y10 y126 y25 y4 y7 y8 y9
  rintro f119 _ ⟨y4, y7, y8, y9, y10, y25, y126, rfl⟩
  refine wpF_condP y126 (fun hp120 => ?t195) (fun hp120 => ?e195)
  case t195 =>
   refine wpF_cut (fun f H => f 9 = B (decide (wordS (nth K 0))) ∧ f 10 = I (nth K 0) ∧ St H0 NoB NoB [bE g7 #[SB (d.Name), vd, I (d.Srt)] 43, bE g4 #[vK] 24, bE g1 #[I (n.Op), vk, I (n.N), I (n.D), SB (n.Name)] 37, rdE vk n.Kids, rdE vK K, rdE vd d.Args] H) ?_ ?_
   ·refine wpF_drawn [] [] (fun _ _ => False) (by kernel_rfl) (by kernel_rfl) ?_
    refine rq 0 (by kernel_rfl) rfl rfl (q_loadBlk rfl y4 Try.isAgg24 (hS10.blk 1 rfl) rfl (labU_not [] rfl (fe))) ?_
    refine rq 1 (by kernel_rfl) rfl rfl (q_indexRd (k := 0) rfl Try.underlying24 el_Int_3_AskC2 rfl rfl (hS10.rdl 4 rfl) (by omega) (by omega)) ?_
    refine rq 2 (by kernel_rfl) rfl rfl (q_loadInt (k := 0) rfl rfl el_Int_3_AskC2 (hS10.rdl 4 rfl) (by omega) (labU_sub [] rfl (fe))) ?_
    refine rq 4 (by kernel_rfl) rfl rfl (q_loadBlk rfl y4 Try.isAgg24 (hS10.blk 1 rfl) rfl (labU_not [] rfl (fe))) ?_
    refine rq 5 (by kernel_rfl) rfl rfl (q_indexRd (k := 0) rfl Try.underlying24 el_Int_3_AskC2 rfl rfl (hS10.rdl 4 rfl) (by omega) (by omega)) ?_
    refine rq 6 (by kernel_rfl) rfl rfl (q_loadInt (k := 0) rfl rfl el_Int_3_AskC2 (hS10.rdl 4 rfl) (by omega) (labU_sub [] rfl (fe))) ?_
    refine wpR_n [3] (by kernel_rfl) ?_
    refine fa ?_ fe
    refine exE rfl rfl ?_
    refine e_call rfl Try.call51 (arr1 (v0 := I (nth K 0)) rfl) (Word_L (nth K 0)) ?_
    rintro _ H121o3 ⟨hxx, rfl⟩
    have hS121o3 := hS10.ext hxx
    refine ⟨Ext.mono hxx (fun _ h => h.elim), ?_⟩
    refine rq 7 (by kernel_rfl) rfl rfl (q_assign (v := B (decide (wordS (nth K 0)))) rfl rfl) ?_
    refine rq 8 (by kernel_rfl) rfl rfl (q_assign (v := I (nth K 0)) rfl rfl) ?_
    refine wpR_end (by kernel_rfl) ?_
    exact ⟨rfl, rfl, hS121o3⟩
   clear y10 y126 y25 y4 y7 y8 y9
   rintro f122 H122 ⟨y9, y10, hS122⟩
   exact ⟨(Eq.trans y9 (congrArg B (by rw [okS, hp120]; rfl))), (Eq.trans y10 (congrArg I (by rw [outS, hp120]; rfl))), hS122⟩
  refine wpF_seq ?_
  refine fcr (fun f H => f 4 = PT g4 0 ∧ f 7 = Value.func (.func 57) #[] #[PT g4 0] ∧ f 8 = B (decide (((K.length : Int) = 2) ∧ ((nth K 0) = (nth K 1)))) ∧ f 9 = B (false) ∧ f 10 = I (1) ∧ f 25 = I (n.Op) ∧ f 136 = B (decide (n.Op = 17)) ∧ H10 = H) ?_ ?_
  ·refine lq rfl (q_eql rfl y25 rfl) ?_
   refine la (v := B (decide (n.Op = 17))) rfl rfl rfl ?_
   exact ⟨y4, y7, y8, y9, y10, y25, rfl, rfl⟩
  clear y10 y126 y25 y4 y7 y8 y9
  rintro f123 _ ⟨y4, y7, y8, y9, y10, y25, y136, rfl⟩
  refine wpF_condP y136 (fun hp124 => ?t194) (fun hp124 => ?e194)
  case t194 =>
   refine wpF_skip ?_
   refine wpF_condT (Eq.trans y136 (congrArg B (decide_eq_true hp124))) ?_
   refine wpF_cut (fun f H => f 9 = B (decide ((((K.length : Int) = 2) ∧ ((nth K 0) = (nth K 1))) ∧ (wordS (nth K 0)))) ∧ f 10 = I (nth K 0) ∧ St H0 NoB NoB [bE g7 #[SB (d.Name), vd, I (d.Srt)] 43, bE g4 #[vK] 24, bE g1 #[I (n.Op), vk, I (n.N), I (n.D), SB (n.Name)] 37, rdE vk n.Kids, rdE vK K, rdE vd d.Args] H) ?_ ?_
   ·refine wpF_drawn [] [] (fun _ _ => False) (by kernel_rfl) (by kernel_rfl) ?_
    refine rq 0 (by kernel_rfl) rfl rfl (q_move (v := B (decide (((K.length : Int) = 2) ∧ ((nth K 0) = (nth K 1))))) rfl y8) ?_
    refine rq 1 (by kernel_rfl) rfl rfl (q_move (v := B (decide (((K.length : Int) = 2) ∧ ((nth K 0) = (nth K 1))))) rfl rfl) ?_
    by_cases hg126 : ((K.length : Int) = 2) ∧ ((nth K 0) = (nth K 1))
    ·have hb127 := Eq.trans rfl (congrArg B (decide_eq_true hg126))
     refine wpR_q 2 (by kernel_rfl) rfl (quietAt_g rfl rfl rfl rfl hb127 (q_loadBlk rfl y4 Try.isAgg24 (hS10.blk 1 rfl) rfl (labU_not [] rfl (fe)))) ?_
     refine wpR_q 3 (by kernel_rfl) rfl (quietAt_g rfl rfl rfl rfl hb127 (q_indexRd (k := 0) rfl Try.underlying24 el_Int_3_AskC2 rfl rfl (hS10.rdl 4 rfl) (by omega) (by omega))) ?_
     refine wpR_q 4 (by kernel_rfl) rfl (quietAt_g rfl rfl rfl rfl hb127 (q_loadInt (k := 0) rfl rfl el_Int_3_AskC2 (hS10.rdl 4 rfl) (by omega) (labU_sub [] rfl (fe)))) ?_
     refine rq 7 (by kernel_rfl) rfl rfl (q_loadBlk rfl y4 Try.isAgg24 (hS10.blk 1 rfl) rfl (labU_not [] rfl (fe))) ?_
     refine rq 8 (by kernel_rfl) rfl rfl (q_indexRd (k := 0) rfl Try.underlying24 el_Int_3_AskC2 rfl rfl (hS10.rdl 4 rfl) (by omega) (by omega)) ?_
     refine rq 9 (by kernel_rfl) rfl rfl (q_loadInt (k := 0) rfl rfl el_Int_3_AskC2 (hS10.rdl 4 rfl) (by omega) (labU_sub [] rfl (fe))) ?_
     refine wpR_n [5] (by kernel_rfl) ?_
     refine fa ?_ fe
     refine exE_g rfl rfl rfl rfl hb127 ?_
     refine e_call rfl Try.call51 (arr1 (v0 := I (nth K 0)) rfl) (Word_L (nth K 0)) ?_
     rintro _ H125o5 ⟨hxx, rfl⟩
     have hS125o5 := hS10.ext hxx
     refine ⟨Ext.mono hxx (fun _ h => h.elim), ?_⟩
     refine rq 6 (by kernel_rfl) rfl rfl (q_pickT (v := B (decide (wordS (nth K 0)))) rfl hb127 rfl) ?_
     refine rq 10 (by kernel_rfl) rfl rfl (q_assign (v := B (decide (wordS (nth K 0)))) rfl rfl) ?_
     refine rq 11 (by kernel_rfl) rfl rfl (q_assign (v := I (nth K 0)) rfl rfl) ?_
     refine wpR_end (by kernel_rfl) ?_
     exact ⟨(Eq.trans rfl (congrArg B (decide_congr_of ((Iff.rfl).trans (((and_iff_right hg126).trans Iff.rfl)).symm)))), rfl, hS125o5⟩
    ·have hb128 := Eq.trans rfl (congrArg B (decide_eq_false hg126))
     refine wpR_q 2 (by kernel_rfl) rfl (quietAt_s rfl rfl rfl rfl hb128 rfl) ?_
     refine wpR_q 3 (by kernel_rfl) rfl (quietAt_s rfl rfl rfl rfl hb128 rfl) ?_
     refine wpR_q 4 (by kernel_rfl) rfl (quietAt_s rfl rfl rfl rfl hb128 rfl) ?_
     refine wpR_q 5 (by kernel_rfl) rfl (quietAt_s rfl rfl rfl rfl hb128 rfl) ?_
     refine rq 6 (by kernel_rfl) rfl rfl (q_pickF (v := B (false)) rfl hb128 rfl) ?_
     refine rq 7 (by kernel_rfl) rfl rfl (q_loadBlk rfl y4 Try.isAgg24 (hS10.blk 1 rfl) rfl (labU_not [] rfl (fe))) ?_
     refine rq 8 (by kernel_rfl) rfl rfl (q_indexRd (k := 0) rfl Try.underlying24 el_Int_3_AskC2 rfl rfl (hS10.rdl 4 rfl) (by omega) (by omega)) ?_
     refine rq 9 (by kernel_rfl) rfl rfl (q_loadInt (k := 0) rfl rfl el_Int_3_AskC2 (hS10.rdl 4 rfl) (by omega) (labU_sub [] rfl (fe))) ?_
     refine rq 10 (by kernel_rfl) rfl rfl (q_assign (v := B (false)) rfl rfl) ?_
     refine rq 11 (by kernel_rfl) rfl rfl (q_assign (v := I (nth K 0)) rfl rfl) ?_
     refine wpR_end (by kernel_rfl) ?_
     exact ⟨(Eq.trans rfl (congrArg B ((decide_eq_false (fun h => hg126 h.1)).symm))), rfl, hS10⟩
   clear y10 y136 y25 y4 y7 y8 y9
   rintro f129 H129 ⟨y9, y10, hS129⟩
   exact ⟨(Eq.trans y9 (congrArg B (by rw [okS, hp124]; rfl))), (Eq.trans y10 (congrArg I (by rw [outS, hp124]; rfl))), hS129⟩
  refine fcr (fun f H => f 4 = PT g4 0 ∧ f 7 = Value.func (.func 57) #[] #[PT g4 0] ∧ f 8 = B (decide (((K.length : Int) = 2) ∧ ((nth K 0) = (nth K 1)))) ∧ f 9 = B (false) ∧ f 10 = I (1) ∧ f 25 = I (n.Op) ∧ f 136 = B (decide (n.Op = 18)) ∧ H10 = H) ?_ ?_
  ·refine lq rfl (q_eql rfl y25 rfl) ?_
   refine la (v := B (decide (n.Op = 18))) rfl rfl rfl ?_
   exact ⟨y4, y7, y8, y9, y10, y25, rfl, rfl⟩
  clear y10 y136 y25 y4 y7 y8 y9
  rintro f130 _ ⟨y4, y7, y8, y9, y10, y25, y136, rfl⟩
  refine wpF_condP y136 (fun hp131 => ?t193) (fun hp131 => ?e193)
  case t193 =>
   refine wpF_skip ?_
   refine wpF_condT (Eq.trans y136 (congrArg B (decide_eq_true hp131))) ?_
   refine wpF_cut (fun f H => f 9 = B (decide ((((K.length : Int) = 2) ∧ ((nth K 0) = (nth K 1))) ∧ (wordS (nth K 0)))) ∧ f 10 = I (nth K 0) ∧ St H0 NoB NoB [bE g7 #[SB (d.Name), vd, I (d.Srt)] 43, bE g4 #[vK] 24, bE g1 #[I (n.Op), vk, I (n.N), I (n.D), SB (n.Name)] 37, rdE vk n.Kids, rdE vK K, rdE vd d.Args] H) ?_ ?_
   ·refine wpF_drawn [] [] (fun _ _ => False) (by kernel_rfl) (by kernel_rfl) ?_
    refine rq 0 (by kernel_rfl) rfl rfl (q_move (v := B (decide (((K.length : Int) = 2) ∧ ((nth K 0) = (nth K 1))))) rfl y8) ?_
    refine rq 1 (by kernel_rfl) rfl rfl (q_move (v := B (decide (((K.length : Int) = 2) ∧ ((nth K 0) = (nth K 1))))) rfl rfl) ?_
    by_cases hg133 : ((K.length : Int) = 2) ∧ ((nth K 0) = (nth K 1))
    ·have hb134 := Eq.trans rfl (congrArg B (decide_eq_true hg133))
     refine wpR_q 2 (by kernel_rfl) rfl (quietAt_g rfl rfl rfl rfl hb134 (q_loadBlk rfl y4 Try.isAgg24 (hS10.blk 1 rfl) rfl (labU_not [] rfl (fe)))) ?_
     refine wpR_q 3 (by kernel_rfl) rfl (quietAt_g rfl rfl rfl rfl hb134 (q_indexRd (k := 0) rfl Try.underlying24 el_Int_3_AskC2 rfl rfl (hS10.rdl 4 rfl) (by omega) (by omega))) ?_
     refine wpR_q 4 (by kernel_rfl) rfl (quietAt_g rfl rfl rfl rfl hb134 (q_loadInt (k := 0) rfl rfl el_Int_3_AskC2 (hS10.rdl 4 rfl) (by omega) (labU_sub [] rfl (fe)))) ?_
     refine rq 7 (by kernel_rfl) rfl rfl (q_loadBlk rfl y4 Try.isAgg24 (hS10.blk 1 rfl) rfl (labU_not [] rfl (fe))) ?_
     refine rq 8 (by kernel_rfl) rfl rfl (q_indexRd (k := 0) rfl Try.underlying24 el_Int_3_AskC2 rfl rfl (hS10.rdl 4 rfl) (by omega) (by omega)) ?_
     refine rq 9 (by kernel_rfl) rfl rfl (q_loadInt (k := 0) rfl rfl el_Int_3_AskC2 (hS10.rdl 4 rfl) (by omega) (labU_sub [] rfl (fe))) ?_
     refine wpR_n [5] (by kernel_rfl) ?_
     refine fa ?_ fe
     refine exE_g rfl rfl rfl rfl hb134 ?_
     refine e_call rfl Try.call51 (arr1 (v0 := I (nth K 0)) rfl) (Word_L (nth K 0)) ?_
     rintro _ H132o5 ⟨hxx, rfl⟩
     have hS132o5 := hS10.ext hxx
     refine ⟨Ext.mono hxx (fun _ h => h.elim), ?_⟩
     refine rq 6 (by kernel_rfl) rfl rfl (q_pickT (v := B (decide (wordS (nth K 0)))) rfl hb134 rfl) ?_
     refine rq 10 (by kernel_rfl) rfl rfl (q_assign (v := B (decide (wordS (nth K 0)))) rfl rfl) ?_
     refine rq 11 (by kernel_rfl) rfl rfl (q_assign (v := I (nth K 0)) rfl rfl) ?_
     refine wpR_end (by kernel_rfl) ?_
     exact ⟨(Eq.trans rfl (congrArg B (decide_congr_of ((Iff.rfl).trans (((and_iff_right hg133).trans Iff.rfl)).symm)))), rfl, hS132o5⟩
    ·have hb135 := Eq.trans rfl (congrArg B (decide_eq_false hg133))
     refine wpR_q 2 (by kernel_rfl) rfl (quietAt_s rfl rfl rfl rfl hb135 rfl) ?_
     refine wpR_q 3 (by kernel_rfl) rfl (quietAt_s rfl rfl rfl rfl hb135 rfl) ?_
     refine wpR_q 4 (by kernel_rfl) rfl (quietAt_s rfl rfl rfl rfl hb135 rfl) ?_
     refine wpR_q 5 (by kernel_rfl) rfl (quietAt_s rfl rfl rfl rfl hb135 rfl) ?_
     refine rq 6 (by kernel_rfl) rfl rfl (q_pickF (v := B (false)) rfl hb135 rfl) ?_
     refine rq 7 (by kernel_rfl) rfl rfl (q_loadBlk rfl y4 Try.isAgg24 (hS10.blk 1 rfl) rfl (labU_not [] rfl (fe))) ?_
     refine rq 8 (by kernel_rfl) rfl rfl (q_indexRd (k := 0) rfl Try.underlying24 el_Int_3_AskC2 rfl rfl (hS10.rdl 4 rfl) (by omega) (by omega)) ?_
     refine rq 9 (by kernel_rfl) rfl rfl (q_loadInt (k := 0) rfl rfl el_Int_3_AskC2 (hS10.rdl 4 rfl) (by omega) (labU_sub [] rfl (fe))) ?_
     refine rq 10 (by kernel_rfl) rfl rfl (q_assign (v := B (false)) rfl rfl) ?_
     refine rq 11 (by kernel_rfl) rfl rfl (q_assign (v := I (nth K 0)) rfl rfl) ?_
     refine wpR_end (by kernel_rfl) ?_
     exact ⟨(Eq.trans rfl (congrArg B ((decide_eq_false (fun h => hg133 h.1)).symm))), rfl, hS10⟩
   clear y10 y136 y25 y4 y7 y8 y9
   rintro f136 H136 ⟨y9, y10, hS136⟩
   exact ⟨(Eq.trans y9 (congrArg B (by rw [okS, hp131]; rfl))), (Eq.trans y10 (congrArg I (by rw [outS, hp131]; rfl))), hS136⟩
  refine fcr (fun f H => f 4 = PT g4 0 ∧ f 7 = Value.func (.func 57) #[] #[PT g4 0] ∧ f 8 = B (decide (((K.length : Int) = 2) ∧ ((nth K 0) = (nth K 1)))) ∧ f 9 = B (false) ∧ f 10 = I (1) ∧ f 25 = I (n.Op) ∧ f 136 = B (decide (n.Op = 19)) ∧ H10 = H) ?_ ?_
  ·refine lq rfl (q_eql rfl y25 rfl) ?_
   refine la (v := B (decide (n.Op = 19))) rfl rfl rfl ?_
   exact ⟨y4, y7, y8, y9, y10, y25, rfl, rfl⟩
  clear y10 y136 y25 y4 y7 y8 y9
  rintro f137 _ ⟨y4, y7, y8, y9, y10, y25, y136, rfl⟩
  refine wpF_condP y136 (fun hp138 => ?t192) (fun hp138 => ?e192)
  case t192 =>
   refine wpF_skip ?_
   refine wpF_condT (Eq.trans y136 (congrArg B (decide_eq_true hp138))) ?_
   refine wpF_cut (fun f H => f 9 = B (decide ((((K.length : Int) = 2) ∧ ((nth K 0) = (nth K 1))) ∧ (wordS (nth K 0)))) ∧ f 10 = I (nth K 0) ∧ St H0 NoB NoB [bE g7 #[SB (d.Name), vd, I (d.Srt)] 43, bE g4 #[vK] 24, bE g1 #[I (n.Op), vk, I (n.N), I (n.D), SB (n.Name)] 37, rdE vk n.Kids, rdE vK K, rdE vd d.Args] H) ?_ ?_
   ·refine wpF_drawn [] [] (fun _ _ => False) (by kernel_rfl) (by kernel_rfl) ?_
    refine rq 0 (by kernel_rfl) rfl rfl (q_move (v := B (decide (((K.length : Int) = 2) ∧ ((nth K 0) = (nth K 1))))) rfl y8) ?_
    refine rq 1 (by kernel_rfl) rfl rfl (q_move (v := B (decide (((K.length : Int) = 2) ∧ ((nth K 0) = (nth K 1))))) rfl rfl) ?_
    by_cases hg140 : ((K.length : Int) = 2) ∧ ((nth K 0) = (nth K 1))
    ·have hb141 := Eq.trans rfl (congrArg B (decide_eq_true hg140))
     refine wpR_q 2 (by kernel_rfl) rfl (quietAt_g rfl rfl rfl rfl hb141 (q_loadBlk rfl y4 Try.isAgg24 (hS10.blk 1 rfl) rfl (labU_not [] rfl (fe)))) ?_
     refine wpR_q 3 (by kernel_rfl) rfl (quietAt_g rfl rfl rfl rfl hb141 (q_indexRd (k := 0) rfl Try.underlying24 el_Int_3_AskC2 rfl rfl (hS10.rdl 4 rfl) (by omega) (by omega))) ?_
     refine wpR_q 4 (by kernel_rfl) rfl (quietAt_g rfl rfl rfl rfl hb141 (q_loadInt (k := 0) rfl rfl el_Int_3_AskC2 (hS10.rdl 4 rfl) (by omega) (labU_sub [] rfl (fe)))) ?_
     refine rq 7 (by kernel_rfl) rfl rfl (q_loadBlk rfl y4 Try.isAgg24 (hS10.blk 1 rfl) rfl (labU_not [] rfl (fe))) ?_
     refine rq 8 (by kernel_rfl) rfl rfl (q_indexRd (k := 0) rfl Try.underlying24 el_Int_3_AskC2 rfl rfl (hS10.rdl 4 rfl) (by omega) (by omega)) ?_
     refine rq 9 (by kernel_rfl) rfl rfl (q_loadInt (k := 0) rfl rfl el_Int_3_AskC2 (hS10.rdl 4 rfl) (by omega) (labU_sub [] rfl (fe))) ?_
     refine wpR_n [5] (by kernel_rfl) ?_
     refine fa ?_ fe
     refine exE_g rfl rfl rfl rfl hb141 ?_
     refine e_call rfl Try.call51 (arr1 (v0 := I (nth K 0)) rfl) (Word_L (nth K 0)) ?_
     rintro _ H139o5 ⟨hxx, rfl⟩
     have hS139o5 := hS10.ext hxx
     refine ⟨Ext.mono hxx (fun _ h => h.elim), ?_⟩
     refine rq 6 (by kernel_rfl) rfl rfl (q_pickT (v := B (decide (wordS (nth K 0)))) rfl hb141 rfl) ?_
     refine rq 10 (by kernel_rfl) rfl rfl (q_assign (v := B (decide (wordS (nth K 0)))) rfl rfl) ?_
     refine rq 11 (by kernel_rfl) rfl rfl (q_assign (v := I (nth K 0)) rfl rfl) ?_
     refine wpR_end (by kernel_rfl) ?_
     exact ⟨(Eq.trans rfl (congrArg B (decide_congr_of ((Iff.rfl).trans (((and_iff_right hg140).trans Iff.rfl)).symm)))), rfl, hS139o5⟩
    ·have hb142 := Eq.trans rfl (congrArg B (decide_eq_false hg140))
     refine wpR_q 2 (by kernel_rfl) rfl (quietAt_s rfl rfl rfl rfl hb142 rfl) ?_
     refine wpR_q 3 (by kernel_rfl) rfl (quietAt_s rfl rfl rfl rfl hb142 rfl) ?_
     refine wpR_q 4 (by kernel_rfl) rfl (quietAt_s rfl rfl rfl rfl hb142 rfl) ?_
     refine wpR_q 5 (by kernel_rfl) rfl (quietAt_s rfl rfl rfl rfl hb142 rfl) ?_
     refine rq 6 (by kernel_rfl) rfl rfl (q_pickF (v := B (false)) rfl hb142 rfl) ?_
     refine rq 7 (by kernel_rfl) rfl rfl (q_loadBlk rfl y4 Try.isAgg24 (hS10.blk 1 rfl) rfl (labU_not [] rfl (fe))) ?_
     refine rq 8 (by kernel_rfl) rfl rfl (q_indexRd (k := 0) rfl Try.underlying24 el_Int_3_AskC2 rfl rfl (hS10.rdl 4 rfl) (by omega) (by omega)) ?_
     refine rq 9 (by kernel_rfl) rfl rfl (q_loadInt (k := 0) rfl rfl el_Int_3_AskC2 (hS10.rdl 4 rfl) (by omega) (labU_sub [] rfl (fe))) ?_
     refine rq 10 (by kernel_rfl) rfl rfl (q_assign (v := B (false)) rfl rfl) ?_
     refine rq 11 (by kernel_rfl) rfl rfl (q_assign (v := I (nth K 0)) rfl rfl) ?_
     refine wpR_end (by kernel_rfl) ?_
     exact ⟨(Eq.trans rfl (congrArg B ((decide_eq_false (fun h => hg140 h.1)).symm))), rfl, hS10⟩
   clear y10 y136 y25 y4 y7 y8 y9
   rintro f143 H143 ⟨y9, y10, hS143⟩
   exact ⟨(Eq.trans y9 (congrArg B (by rw [okS, hp138]; rfl))), (Eq.trans y10 (congrArg I (by rw [outS, hp138]; rfl))), hS143⟩
  refine fcr (fun f H => f 4 = PT g4 0 ∧ f 7 = Value.func (.func 57) #[] #[PT g4 0] ∧ f 8 = B (decide (((K.length : Int) = 2) ∧ ((nth K 0) = (nth K 1)))) ∧ f 9 = B (false) ∧ f 10 = I (1) ∧ f 25 = I (n.Op) ∧ f 136 = B (decide (n.Op = 20)) ∧ H10 = H) ?_ ?_
  ·refine lq rfl (q_eql rfl y25 rfl) ?_
   refine la (v := B (decide (n.Op = 20))) rfl rfl rfl ?_
   exact ⟨y4, y7, y8, y9, y10, y25, rfl, rfl⟩
  clear y10 y136 y25 y4 y7 y8 y9
  rintro f144 _ ⟨y4, y7, y8, y9, y10, y25, y136, rfl⟩
  refine wpF_condP y136 (fun hp145 => ?t191) (fun hp145 => ?e191)
  case t191 =>
   refine wpF_skip ?_
   refine wpF_condT (Eq.trans y136 (congrArg B (decide_eq_true hp145))) ?_
   refine wpF_cut (fun f H => f 9 = B (decide ((((K.length : Int) = 2) ∧ ((nth K 0) = (nth K 1))) ∧ (wordS (nth K 0)))) ∧ f 10 = I (nth K 0) ∧ St H0 NoB NoB [bE g7 #[SB (d.Name), vd, I (d.Srt)] 43, bE g4 #[vK] 24, bE g1 #[I (n.Op), vk, I (n.N), I (n.D), SB (n.Name)] 37, rdE vk n.Kids, rdE vK K, rdE vd d.Args] H) ?_ ?_
   ·refine wpF_drawn [] [] (fun _ _ => False) (by kernel_rfl) (by kernel_rfl) ?_
    refine rq 0 (by kernel_rfl) rfl rfl (q_move (v := B (decide (((K.length : Int) = 2) ∧ ((nth K 0) = (nth K 1))))) rfl y8) ?_
    refine rq 1 (by kernel_rfl) rfl rfl (q_move (v := B (decide (((K.length : Int) = 2) ∧ ((nth K 0) = (nth K 1))))) rfl rfl) ?_
    by_cases hg147 : ((K.length : Int) = 2) ∧ ((nth K 0) = (nth K 1))
    ·have hb148 := Eq.trans rfl (congrArg B (decide_eq_true hg147))
     refine wpR_q 2 (by kernel_rfl) rfl (quietAt_g rfl rfl rfl rfl hb148 (q_loadBlk rfl y4 Try.isAgg24 (hS10.blk 1 rfl) rfl (labU_not [] rfl (fe)))) ?_
     refine wpR_q 3 (by kernel_rfl) rfl (quietAt_g rfl rfl rfl rfl hb148 (q_indexRd (k := 0) rfl Try.underlying24 el_Int_3_AskC2 rfl rfl (hS10.rdl 4 rfl) (by omega) (by omega))) ?_
     refine wpR_q 4 (by kernel_rfl) rfl (quietAt_g rfl rfl rfl rfl hb148 (q_loadInt (k := 0) rfl rfl el_Int_3_AskC2 (hS10.rdl 4 rfl) (by omega) (labU_sub [] rfl (fe)))) ?_
     refine rq 7 (by kernel_rfl) rfl rfl (q_loadBlk rfl y4 Try.isAgg24 (hS10.blk 1 rfl) rfl (labU_not [] rfl (fe))) ?_
     refine rq 8 (by kernel_rfl) rfl rfl (q_indexRd (k := 0) rfl Try.underlying24 el_Int_3_AskC2 rfl rfl (hS10.rdl 4 rfl) (by omega) (by omega)) ?_
     refine rq 9 (by kernel_rfl) rfl rfl (q_loadInt (k := 0) rfl rfl el_Int_3_AskC2 (hS10.rdl 4 rfl) (by omega) (labU_sub [] rfl (fe))) ?_
     refine wpR_n [5] (by kernel_rfl) ?_
     refine fa ?_ fe
     refine exE_g rfl rfl rfl rfl hb148 ?_
     refine e_call rfl Try.call51 (arr1 (v0 := I (nth K 0)) rfl) (Word_L (nth K 0)) ?_
     rintro _ H146o5 ⟨hxx, rfl⟩
     have hS146o5 := hS10.ext hxx
     refine ⟨Ext.mono hxx (fun _ h => h.elim), ?_⟩
     refine rq 6 (by kernel_rfl) rfl rfl (q_pickT (v := B (decide (wordS (nth K 0)))) rfl hb148 rfl) ?_
     refine rq 10 (by kernel_rfl) rfl rfl (q_assign (v := B (decide (wordS (nth K 0)))) rfl rfl) ?_
     refine rq 11 (by kernel_rfl) rfl rfl (q_assign (v := I (nth K 0)) rfl rfl) ?_
     refine wpR_end (by kernel_rfl) ?_
     exact ⟨(Eq.trans rfl (congrArg B (decide_congr_of ((Iff.rfl).trans (((and_iff_right hg147).trans Iff.rfl)).symm)))), rfl, hS146o5⟩
    ·have hb149 := Eq.trans rfl (congrArg B (decide_eq_false hg147))
     refine wpR_q 2 (by kernel_rfl) rfl (quietAt_s rfl rfl rfl rfl hb149 rfl) ?_
     refine wpR_q 3 (by kernel_rfl) rfl (quietAt_s rfl rfl rfl rfl hb149 rfl) ?_
     refine wpR_q 4 (by kernel_rfl) rfl (quietAt_s rfl rfl rfl rfl hb149 rfl) ?_
     refine wpR_q 5 (by kernel_rfl) rfl (quietAt_s rfl rfl rfl rfl hb149 rfl) ?_
     refine rq 6 (by kernel_rfl) rfl rfl (q_pickF (v := B (false)) rfl hb149 rfl) ?_
     refine rq 7 (by kernel_rfl) rfl rfl (q_loadBlk rfl y4 Try.isAgg24 (hS10.blk 1 rfl) rfl (labU_not [] rfl (fe))) ?_
     refine rq 8 (by kernel_rfl) rfl rfl (q_indexRd (k := 0) rfl Try.underlying24 el_Int_3_AskC2 rfl rfl (hS10.rdl 4 rfl) (by omega) (by omega)) ?_
     refine rq 9 (by kernel_rfl) rfl rfl (q_loadInt (k := 0) rfl rfl el_Int_3_AskC2 (hS10.rdl 4 rfl) (by omega) (labU_sub [] rfl (fe))) ?_
     refine rq 10 (by kernel_rfl) rfl rfl (q_assign (v := B (false)) rfl rfl) ?_
     refine rq 11 (by kernel_rfl) rfl rfl (q_assign (v := I (nth K 0)) rfl rfl) ?_
     refine wpR_end (by kernel_rfl) ?_
     exact ⟨(Eq.trans rfl (congrArg B ((decide_eq_false (fun h => hg147 h.1)).symm))), rfl, hS10⟩
   clear y10 y136 y25 y4 y7 y8 y9
   rintro f150 H150 ⟨y9, y10, hS150⟩
   exact ⟨(Eq.trans y9 (congrArg B (by rw [okS, hp145]; rfl))), (Eq.trans y10 (congrArg I (by rw [outS, hp145]; rfl))), hS150⟩
  refine wpF_cut (fun f H => f 4 = PT g4 0 ∧ f 7 = Value.func (.func 57) #[] #[PT g4 0] ∧ f 8 = B (decide (((K.length : Int) = 2) ∧ ((nth K 0) = (nth K 1)))) ∧ f 9 = B (false) ∧ f 10 = I (1) ∧ f 25 = I (n.Op) ∧ f 136 = B (decide (n.Op = 21)) ∧ H10 = H) ?_ ?_
  ·refine wpF_region ?_
   refine lq rfl (q_eql rfl y25 rfl) ?_
   refine la (v := B (decide (n.Op = 21))) rfl rfl rfl ?_
   exact ⟨y4, y7, y8, y9, y10, y25, rfl, rfl⟩
  clear y10 y136 y25 y4 y7 y8 y9
  rintro f151 _ ⟨y4, y7, y8, y9, y10, y25, y136, rfl⟩
  refine wpF_condP y136 (fun hp152 => ?t190) (fun hp152 => ?e190)
  case t190 =>
   refine wpF_cut (fun f H => f 9 = B (decide ((((K.length : Int) = 2) ∧ ((nth K 0) = (nth K 1))) ∧ (wordS (nth K 0)))) ∧ f 10 = I (nth K 0) ∧ St H0 NoB NoB [bE g7 #[SB (d.Name), vd, I (d.Srt)] 43, bE g4 #[vK] 24, bE g1 #[I (n.Op), vk, I (n.N), I (n.D), SB (n.Name)] 37, rdE vk n.Kids, rdE vK K, rdE vd d.Args] H) ?_ ?_
   ·refine wpF_drawn [] [] (fun _ _ => False) (by kernel_rfl) (by kernel_rfl) ?_
    refine rq 0 (by kernel_rfl) rfl rfl (q_move (v := B (decide (((K.length : Int) = 2) ∧ ((nth K 0) = (nth K 1))))) rfl y8) ?_
    refine rq 1 (by kernel_rfl) rfl rfl (q_move (v := B (decide (((K.length : Int) = 2) ∧ ((nth K 0) = (nth K 1))))) rfl rfl) ?_
    by_cases hg154 : ((K.length : Int) = 2) ∧ ((nth K 0) = (nth K 1))
    ·have hb155 := Eq.trans rfl (congrArg B (decide_eq_true hg154))
     refine wpR_q 2 (by kernel_rfl) rfl (quietAt_g rfl rfl rfl rfl hb155 (q_loadBlk rfl y4 Try.isAgg24 (hS10.blk 1 rfl) rfl (labU_not [] rfl (fe)))) ?_
     refine wpR_q 3 (by kernel_rfl) rfl (quietAt_g rfl rfl rfl rfl hb155 (q_indexRd (k := 0) rfl Try.underlying24 el_Int_3_AskC2 rfl rfl (hS10.rdl 4 rfl) (by omega) (by omega))) ?_
     refine wpR_q 4 (by kernel_rfl) rfl (quietAt_g rfl rfl rfl rfl hb155 (q_loadInt (k := 0) rfl rfl el_Int_3_AskC2 (hS10.rdl 4 rfl) (by omega) (labU_sub [] rfl (fe)))) ?_
     refine rq 7 (by kernel_rfl) rfl rfl (q_loadBlk rfl y4 Try.isAgg24 (hS10.blk 1 rfl) rfl (labU_not [] rfl (fe))) ?_
     refine rq 8 (by kernel_rfl) rfl rfl (q_indexRd (k := 0) rfl Try.underlying24 el_Int_3_AskC2 rfl rfl (hS10.rdl 4 rfl) (by omega) (by omega)) ?_
     refine rq 9 (by kernel_rfl) rfl rfl (q_loadInt (k := 0) rfl rfl el_Int_3_AskC2 (hS10.rdl 4 rfl) (by omega) (labU_sub [] rfl (fe))) ?_
     refine wpR_n [5] (by kernel_rfl) ?_
     refine fa ?_ fe
     refine exE_g rfl rfl rfl rfl hb155 ?_
     refine e_call rfl Try.call51 (arr1 (v0 := I (nth K 0)) rfl) (Word_L (nth K 0)) ?_
     rintro _ H153o5 ⟨hxx, rfl⟩
     have hS153o5 := hS10.ext hxx
     refine ⟨Ext.mono hxx (fun _ h => h.elim), ?_⟩
     refine rq 6 (by kernel_rfl) rfl rfl (q_pickT (v := B (decide (wordS (nth K 0)))) rfl hb155 rfl) ?_
     refine rq 10 (by kernel_rfl) rfl rfl (q_assign (v := B (decide (wordS (nth K 0)))) rfl rfl) ?_
     refine rq 11 (by kernel_rfl) rfl rfl (q_assign (v := I (nth K 0)) rfl rfl) ?_
     refine wpR_end (by kernel_rfl) ?_
     exact ⟨(Eq.trans rfl (congrArg B (decide_congr_of ((Iff.rfl).trans (((and_iff_right hg154).trans Iff.rfl)).symm)))), rfl, hS153o5⟩
    ·have hb156 := Eq.trans rfl (congrArg B (decide_eq_false hg154))
     refine wpR_q 2 (by kernel_rfl) rfl (quietAt_s rfl rfl rfl rfl hb156 rfl) ?_
     refine wpR_q 3 (by kernel_rfl) rfl (quietAt_s rfl rfl rfl rfl hb156 rfl) ?_
     refine wpR_q 4 (by kernel_rfl) rfl (quietAt_s rfl rfl rfl rfl hb156 rfl) ?_
     refine wpR_q 5 (by kernel_rfl) rfl (quietAt_s rfl rfl rfl rfl hb156 rfl) ?_
     refine rq 6 (by kernel_rfl) rfl rfl (q_pickF (v := B (false)) rfl hb156 rfl) ?_
     refine rq 7 (by kernel_rfl) rfl rfl (q_loadBlk rfl y4 Try.isAgg24 (hS10.blk 1 rfl) rfl (labU_not [] rfl (fe))) ?_
     refine rq 8 (by kernel_rfl) rfl rfl (q_indexRd (k := 0) rfl Try.underlying24 el_Int_3_AskC2 rfl rfl (hS10.rdl 4 rfl) (by omega) (by omega)) ?_
     refine rq 9 (by kernel_rfl) rfl rfl (q_loadInt (k := 0) rfl rfl el_Int_3_AskC2 (hS10.rdl 4 rfl) (by omega) (labU_sub [] rfl (fe))) ?_
     refine rq 10 (by kernel_rfl) rfl rfl (q_assign (v := B (false)) rfl rfl) ?_
     refine rq 11 (by kernel_rfl) rfl rfl (q_assign (v := I (nth K 0)) rfl rfl) ?_
     refine wpR_end (by kernel_rfl) ?_
     exact ⟨(Eq.trans rfl (congrArg B ((decide_eq_false (fun h => hg154 h.1)).symm))), rfl, hS10⟩
   clear y10 y136 y25 y4 y7 y8 y9
   rintro f157 H157 ⟨y9, y10, hS157⟩
   exact ⟨(Eq.trans y9 (congrArg B (by rw [okS, hp152]; rfl))), (Eq.trans y10 (congrArg I (by rw [outS, hp152]; rfl))), hS157⟩
  refine fcr (fun f H => f 4 = PT g4 0 ∧ f 7 = Value.func (.func 57) #[] #[PT g4 0] ∧ f 8 = B (decide (((K.length : Int) = 2) ∧ ((nth K 0) = (nth K 1)))) ∧ f 9 = B (false) ∧ f 10 = I (1) ∧ f 25 = I (n.Op) ∧ f 152 = B (decide (n.Op = 22)) ∧ H10 = H) ?_ ?_
  ·refine lq rfl (q_eql rfl y25 rfl) ?_
   refine la (v := B (decide (n.Op = 22))) rfl rfl rfl ?_
   exact ⟨y4, y7, y8, y9, y10, y25, rfl, rfl⟩
  clear y10 y136 y25 y4 y7 y8 y9
  rintro f158 _ ⟨y4, y7, y8, y9, y10, y25, y152, rfl⟩
  refine wpF_condP y152 (fun hp159 => ?t189) (fun hp159 => ?e189)
  case t189 =>
   refine wpF_cut (fun f H => f 9 = B (decide ((((K.length : Int) = 2) ∧ ((nth K 0) = (nth K 1))) ∧ (wordS (nth K 0)))) ∧ f 10 = I (1) ∧ St H0 NoB NoB [bE g7 #[SB (d.Name), vd, I (d.Srt)] 43, bE g4 #[vK] 24, bE g1 #[I (n.Op), vk, I (n.N), I (n.D), SB (n.Name)] 37, rdE vk n.Kids, rdE vK K, rdE vd d.Args] H) ?_ ?_
   ·refine wpF_region ?_
    refine lm (v := B (decide (((K.length : Int) = 2) ∧ ((nth K 0) = (nth K 1))))) rfl rfl y8 ?_
    refine lm (v := B (decide (((K.length : Int) = 2) ∧ ((nth K 0) = (nth K 1))))) rfl rfl rfl ?_
    by_cases hg160 : ((K.length : Int) = 2) ∧ ((nth K 0) = (nth K 1))
    ·have hb161 := Eq.trans rfl (congrArg B (decide_eq_true hg160))
     refine gq rfl rfl rfl hb161 (q_loadBlk rfl y4 Try.isAgg24 (hS10.blk 1 rfl) rfl (fun h => h)) ?_
     refine gq rfl rfl rfl hb161 (q_indexRd (k := 0) rfl Try.underlying24 el_Int_3_AskC2 rfl rfl (hS10.rdl 4 rfl) (by omega) (by omega)) ?_
     refine gq rfl rfl rfl hb161 (q_loadInt (k := 0) rfl rfl el_Int_3_AskC2 (hS10.rdl 4 rfl) (by omega) (fun _ h => h)) ?_
     refine wpL_go rfl rfl rfl hb161 ?_
     refine e_call rfl Try.call51 (arr1 (v0 := I (nth K 0)) rfl) (Word_L (nth K 0)) ?_
     rintro _ H163 ⟨hxx, rfl⟩
     have hS164 := hS10.ext hxx
     refine lq rfl (q_pickT (v := B (decide (wordS (nth K 0)))) rfl hb161 rfl) ?_
     refine la (v := B (decide (wordS (nth K 0)))) rfl rfl rfl ?_
     exact ⟨(Eq.trans rfl (congrArg B (decide_congr_of ((Iff.rfl).trans (((and_iff_right hg160).trans Iff.rfl)).symm)))), y10, hS164⟩
    ·have hb162 := Eq.trans rfl (congrArg B (decide_eq_false hg160))
     refine wpL_gs rfl rfl rfl hb162 rfl ?_
     refine wpL_gs rfl rfl rfl hb162 rfl ?_
     refine wpL_gs rfl rfl rfl hb162 rfl ?_
     refine wpL_gs rfl rfl rfl hb162 rfl ?_
     refine lq rfl (q_pickF (v := B (false)) rfl hb162 rfl) ?_
     refine la (v := B (false)) rfl rfl rfl ?_
     exact ⟨(Eq.trans rfl (congrArg B ((decide_eq_false (fun h => hg160 h.1)).symm))), y10, hS10⟩
   clear y10 y152 y25 y4 y7 y8 y9
   rintro f166 H166 ⟨y9, y10, hS166⟩
   exact ⟨(Eq.trans y9 (congrArg B (by rw [okS, hp159]; rfl))), (Eq.trans y10 (congrArg I (by rw [outS, hp159]; rfl))), hS166⟩
  refine fcr (fun f H => f 7 = Value.func (.func 57) #[] #[PT g4 0] ∧ f 9 = B (false) ∧ f 10 = I (1) ∧ f 25 = I (n.Op) ∧ f 161 = B (decide (n.Op = 24)) ∧ H10 = H) ?_ ?_
  ·refine lq rfl (q_eql rfl y25 rfl) ?_
   refine la (v := B (decide (n.Op = 24))) rfl rfl rfl ?_
   exact ⟨y7, y9, y10, y25, rfl, rfl⟩
  clear y10 y152 y25 y4 y7 y8 y9
  rintro f167 _ ⟨y7, y9, y10, y25, y161, rfl⟩
  refine wpF_condP y161 (fun hp168 => ?t188) (fun hp168 => ?e188)
  case t188 =>
   refine wpF_cut (fun f H => f 9 = B (decide (K = ([5, 4]))) ∧ f 10 = I (4) ∧ St H0 NoB NoB [bE g7 #[SB (d.Name), vd, I (d.Srt)] 43, bE g4 #[vK] 24, bE g1 #[I (n.Op), vk, I (n.N), I (n.D), SB (n.Name)] 37, rdE vk n.Kids, rdE vK K, rdE vd d.Args] H) ?_ ?_
   ·refine wpF_region ?_
    refine lm (v := Value.func (.func 57) #[] #[PT g4 0]) rfl rfl y7 ?_
    refine lo rfl ?_
    refine e_buildSlice (vs := [I (5), I (4)]) (xs := ([5, 4] : List Int)) rfl Try.underlying24 Try.zeroValue3 rfl Try.sizeOf3 (par2 (v0 := I (5)) (v1 := I (4)) rfl rfl) rfl hS10 (RdVs.cons (Rd.int.2 ⟨rfl, by constructor <;> omega⟩) (RdVs.cons (Rd.int.2 ⟨rfl, by constructor <;> omega⟩) (RdVs.nil))) (by decide) (by decide) (fun v169 H170 hS171 hxx hvv169 => ?_)
    have hS172 : St H0 NoB NoB [rdE v169 ([5, 4] : List Int), bE g7 #[SB (d.Name), vd, I (d.Srt)] 43, bE g4 #[vK] 24, bE g1 #[I (n.Op), vk, I (n.N), I (n.D), SB (n.Name)] 37, rdE vk n.Kids, rdE vK K, rdE vd d.Args] H170 := St.fin hS171
    refine lo rfl ?_
    refine e_callV rfl rfl Try.call57 (arr1 (v0 := v169) rfl) (Sort_1 v169 g4 vK ([5, 4]) K (hS172.blk 2 rfl) (hS172.rdN 0 rfl) (hS172.rdN 5 rfl)) ?_
    rintro _ H173 ⟨hxx, rfl⟩
    have hS174 := hS172.ext hxx
    refine la (v := B (decide (K = ([5, 4])))) rfl rfl rfl ?_
    refine la (v := I (4)) rfl rfl rfl ?_
    exact ⟨rfl, rfl, (hS174.drop (sn (sk (sk (sk (sk (sk (sk (List.Sublist.slnil)))))))))⟩
   clear y10 y161 y25 y7 y9
   rintro f176 H176 ⟨y9, y10, hS176⟩
   exact ⟨(Eq.trans y9 (congrArg B (by rw [okS, hp168]; rfl))), (Eq.trans y10 (congrArg I (by rw [outS, hp168]; rfl))), hS176⟩
  refine fcr (fun f H => f 7 = Value.func (.func 57) #[] #[PT g4 0] ∧ f 9 = B (false) ∧ f 10 = I (1) ∧ f 166 = B (decide (n.Op = 25)) ∧ H10 = H) ?_ ?_
  ·refine lq rfl (q_eql rfl y25 rfl) ?_
   refine la (v := B (decide (n.Op = 25))) rfl rfl rfl ?_
   exact ⟨y7, y9, y10, rfl, rfl⟩
  clear y10 y161 y25 y7 y9
  rintro f177 _ ⟨y7, y9, y10, y166, rfl⟩
  refine wpF_condP y166 (fun hp178 => ?t187) (fun hp178 => ?e187)
  case e187 =>
   refine wpF_skip ?_
   exact ⟨(Eq.trans y9 (congrArg B (by rw [okS, if_neg hp21, if_neg hp24, if_neg hp27, if_neg hp33, if_neg hp39, if_neg hp45, if_neg hp51, if_neg hp61, if_neg hp79, if_neg hp83, if_neg hp89, if_neg hp93, if_neg hp100, if_neg hp106, if_neg hp112, if_neg hp116, if_neg hp120, if_neg hp124, if_neg hp131, if_neg hp138, if_neg hp145, if_neg hp152, if_neg hp159, if_neg hp168, if_neg hp178]))), (Eq.trans y10 (congrArg I (by unfold outS; simp [hp21, hp24, hp27, hp33, hp39, hp45, hp51, hp61, hp79, hp83, hp89, hp93, hp100, hp106, hp112, hp116, hp120, hp124, hp131, hp138, hp145, hp152, hp159, hp168, hp178]))), hS10⟩
  refine wpF_cut (fun f H => f 9 = B (decide (K = ([5, 4, 4]))) ∧ f 10 = I (5) ∧ St H0 NoB NoB [bE g7 #[SB (d.Name), vd, I (d.Srt)] 43, bE g4 #[vK] 24, bE g1 #[I (n.Op), vk, I (n.N), I (n.D), SB (n.Name)] 37, rdE vk n.Kids, rdE vK K, rdE vd d.Args] H) ?_ ?_
  ·refine wpF_region ?_
   refine lm (v := Value.func (.func 57) #[] #[PT g4 0]) rfl rfl y7 ?_
   refine lo rfl ?_
   refine e_buildSlice (vs := [I (5), I (4), I (4)]) (xs := ([5, 4, 4] : List Int)) rfl Try.underlying24 Try.zeroValue3 rfl Try.sizeOf3 (par3 (v0 := I (5)) (v1 := I (4)) (v2 := I (4)) rfl rfl rfl) rfl hS10 (RdVs.cons (Rd.int.2 ⟨rfl, by constructor <;> omega⟩) (RdVs.cons (Rd.int.2 ⟨rfl, by constructor <;> omega⟩) (RdVs.cons (Rd.int.2 ⟨rfl, by constructor <;> omega⟩) (RdVs.nil)))) (by decide) (by decide) (fun v179 H180 hS181 hxx hvv179 => ?_)
   have hS182 : St H0 NoB NoB [rdE v179 ([5, 4, 4] : List Int), bE g7 #[SB (d.Name), vd, I (d.Srt)] 43, bE g4 #[vK] 24, bE g1 #[I (n.Op), vk, I (n.N), I (n.D), SB (n.Name)] 37, rdE vk n.Kids, rdE vK K, rdE vd d.Args] H180 := St.fin hS181
   refine lo rfl ?_
   refine e_callV rfl rfl Try.call57 (arr1 (v0 := v179) rfl) (Sort_1 v179 g4 vK ([5, 4, 4]) K (hS182.blk 2 rfl) (hS182.rdN 0 rfl) (hS182.rdN 5 rfl)) ?_
   rintro _ H183 ⟨hxx, rfl⟩
   have hS184 := hS182.ext hxx
   refine la (v := B (decide (K = ([5, 4, 4])))) rfl rfl rfl ?_
   refine la (v := I (5)) rfl rfl rfl ?_
   exact ⟨rfl, rfl, (hS184.drop (sn (sk (sk (sk (sk (sk (sk (List.Sublist.slnil)))))))))⟩
  clear y10 y166 y7 y9
  rintro f186 H186 ⟨y9, y10, hS186⟩
  exact ⟨(Eq.trans y9 (congrArg B (by rw [okS, hp178]; rfl))), (Eq.trans y10 (congrArg I (by rw [outS, hp178]; rfl))), hS186⟩
 clear y10 y25 y3 y4 y5 y7 y8 y9
 rintro f19 H19 ⟨y9, y10, hS19⟩
 refine wpF_seq ?_
 refine fcr (fun f H => f 10 = I (outS n K d) ∧ f 172 = B (!(okS n K d)) ∧ H19 = H) ?_ ?_
 ·refine lm (v := B (okS n K d)) rfl rfl y9 ?_
  refine lq rfl (q_not rfl rfl) ?_
  exact ⟨y10, rfl, rfl⟩
 clear y10 y9
 rintro f212 _ ⟨y10, y172, rfl⟩
 refine wpF_cond y172 (fun hok => ?t216) (fun hok => ?e216)
 case t216 =>
  refine fcr (fun f H => f 6 = I (0) ∧ H19 = H) ?_ ?_
  ·refine la (v := I (0)) rfl rfl rfl ?_
   exact ⟨rfl, rfl⟩
  clear y10 y172
  rintro f214 _ ⟨y6, rfl⟩
  refine wpF_ret ?_
  refine ⟨_, resT y6 resN, hS19.frame, ?_⟩
  show (I (0)) = I (sortN n K d)
  exact congrArg I (if_neg (by simpa using hok)).symm
 refine wpF_skip ?_
 refine fcr (fun f H => f 6 = I (outS n K d) ∧ H19 = H) ?_ ?_
 ·refine lm (v := I (outS n K d)) rfl rfl y10 ?_
  refine la (v := I (outS n K d)) rfl rfl rfl ?_
  exact ⟨rfl, rfl⟩
 clear y10 y172
 rintro f215 _ ⟨y6, rfl⟩
 refine wpF_ret ?_
 refine ⟨_, resT y6 resN, hS19.frame, ?_⟩
 show (I (outS n K d)) = I (sortN n K d)
 exact congrArg I (if_pos (by simpa using hok)).symm
set_option maxHeartbeats 2000000 in
set_option maxRecDepth 100000 in
theorem node_L {H0 : Heap} (vD vN vH vS : Value) (a : Ask) (i : Nat) (S : List Int) (rvD : Rd NoB H0 vD a.Decls) (rvN : Rd NoB H0 vN a.Nodes) (rvH : Rd NoB H0 vH a.Hold) (rS : Rd NoB H0 vS S) (hi : i < a.Nodes.length) (hSl : S.length = i) : CallsH Try.prog 21 #[Vg #[vD, vN, vH], I ((i : Int)), vS] H0 (fun rv_ H' => Ext NoB H0 H' ∧ rv_ = Value.tuple #[I (nodeF a i S).1, I (nodeF a i S).2]) := by
 have hsN : a.Nodes.length * 64 ≤ 140737488355328 := (Rd.list.1 rvN).bound
 have hsD : a.Decls.length * 48 ≤ 140737488355328 := (Rd.list.1 rvD).bound
 have hS0 : St H0 NoB NoB [rdE vD a.Decls, rdE vN a.Nodes, rdE vH a.Hold, rdE vS S] H0 := St.arg (St.arg (St.arg (St.arg (St.start (fun _ h => h.elim)) (Bl0.nil) rS (fun _ h => h)) (Bl0.cons (Bl0.nil)) rvH (fun _ h => h)) (Bl0.cons (Bl0.cons (Bl0.nil))) rvN (fun _ h => h)) (Bl0.cons (Bl0.cons (Bl0.cons (Bl0.nil)))) rvD (fun _ h => h)
 refine callsH_of_wpF (args := [Vg #[vD, vN, vH], I ((i : Int)), vS]) (rs := [.tmp 6, .tmp 7]) Try.func21 rfl Try.ntmps21 Try.results21 (by kernel_rfl) (Nat.le_of_ble_eq_true rfl) ?_
 have y0 : argF [Vg #[vD, vN, vH], I ((i : Int)), vS] 0 = Vg #[vD, vN, vH] := rfl
 have y1 : argF [Vg #[vD, vN, vH], I ((i : Int)), vS] 1 = I ((i : Int)) := rfl
 have y2 : argF [Vg #[vD, vN, vH], I ((i : Int)), vS] 2 = vS := rfl
 generalize argF [Vg #[vD, vN, vH], I ((i : Int)), vS] = f0 at *
 refine fcr (fun f H => ∃ (g1 : Nat), f 1 = I ((i : Int)) ∧ f 2 = vS ∧ f 3 = PT g1 0 ∧ St H0 NoB NoB [bE g1 #[vD, vN, vH] 26, rdE vD a.Decls, rdE vN a.Nodes, rdE vH a.Hold, rdE vS S] H) ?_ ?_
 ·refine lo rfl ?_
  refine e_box (v := Vg #[vD, vN, vH]) rfl y0 hS0 (fun g1 H2 hS3 hxx => ?_)
  refine la (v := I (0)) rfl rfl rfl ?_
  refine la (v := I (0)) rfl rfl rfl ?_
  exact ⟨g1, y1, y2, rfl, hS3⟩
 clear y0 y1 y2
 rintro f4 H4 ⟨g1, y1, y2, y3, hS4⟩
 refine fcr (fun f H => ∃ (u5n1 : Value), ∃ (g7 : Nat), (In64 (nth a.Nodes i).Op) ∧ (In64 (nth a.Nodes i).N) ∧ (In64 (nth a.Nodes i).D) ∧ ((nth a.Nodes i).Name.size ≤ maxLen) ∧ f 1 = I ((i : Int)) ∧ f 2 = vS ∧ f 3 = PT g1 0 ∧ f 8 = PT g7 0 ∧ St H0 NoB NoB [bE g7 #[I ((nth a.Nodes i).Op), u5n1, I ((nth a.Nodes i).N), I ((nth a.Nodes i).D), SB ((nth a.Nodes i).Name)] 37, rdE u5n1 ((nth a.Nodes i).Kids), bE g1 #[vD, vN, vH] 26, rdE vD a.Decls, rdE vN a.Nodes, rdE vH a.Hold, rdE vS S] H) ?_ ?_
 ·refine lq rfl (q_fieldAddr rfl Try.underlying26 rfl Try.sizeOf23 y3) ?_
  refine lq rfl (q_loadBlk rfl rfl Try.isAgg23 (hS4.blk 0 rfl) rfl (fun h => h)) ?_
  refine lm (v := I ((i : Int))) rfl rfl y1 ?_
  refine lq rfl (q_indexRd (k := i) rfl Try.underlying23 el_Node_37_AskC2 rfl rfl (hS4.rdl 2 rfl) (by omega) (by omega)) ?_
  obtain ⟨u5, huu5, hlu5⟩ := (Rd.list.1 (hS4.rdS 2 rfl)).elem i (by omega)
  obtain ⟨u5n1, rfl, hu50, hu51, hu52, hu53, hu54⟩ := Rd.node.1 huu5
  have hS6 := hS4.rd hu51
  refine lq rfl (q_loadE rfl rfl (hlu5 Try.prog 37 _ el_Node_37_AskC2 (fun _ h => False.elim h))) ?_
  refine lo rfl ?_
  refine e_alloc rfl Try.zeroValue37 hS6 (fun g7 H8 hS9 hxx => ?_)
  refine lo rfl ?_
  refine e_storeBlkA (cs' := #[I ((nth a.Nodes i).Op), u5n1, I ((nth a.Nodes i).N), I ((nth a.Nodes i).D), SB ((nth a.Nodes i).Name)]) rfl rfl rfl Try.sizeOf37 rfl rfl (fa rfl (fa ((oneCell_rdL (hS9.rdl 1 rfl))) (fa rfl (fa rfl (fa rfl fe))))) hS9 (fun H10 hS11 hxx => ?_)
  exact ⟨u5n1, g7, hu50, hu52, hu53, hu54, y1, y2, y3, rfl, hS11⟩
 clear y1 y2 y3
 rintro f12 H12 ⟨u5n1, g7, hu50, hu52, hu53, hu54, y1, y2, y3, y8, hS12⟩
 refine wpF_seq ?_
 refine fcr (fun f H => f 1 = I ((i : Int)) ∧ f 2 = vS ∧ f 3 = PT g1 0 ∧ f 8 = PT g7 0 ∧ f 28 = B (decide ((((nth a.Nodes i).Op) < 1) ∨ (25 < ((nth a.Nodes i).Op)))) ∧ H12 = H) ?_ ?_
 ·refine lq rfl (q_fieldAddr rfl Try.underlying37 rfl Try.sizeOf3 y8) ?_
  refine lq rfl (q_loadBlk rfl rfl Try.isAgg3 (hS12.blk 0 rfl) rfl (fun h => h)) ?_
  refine lq rfl (q_lss rfl rfl rfl) ?_
  refine lm (v := B (decide (((nth a.Nodes i).Op) < 1))) rfl rfl rfl ?_
  by_cases hg13 : ((nth a.Nodes i).Op) < 1
  ·have hb14 := Eq.trans rfl (congrArg B (decide_eq_true hg13))
   refine wpL_gs rfl rfl rfl hb14 rfl ?_
   refine wpL_gs rfl rfl rfl hb14 rfl ?_
   refine wpL_gs rfl rfl rfl hb14 rfl ?_
   refine lq rfl (q_pickT (v := B (true)) rfl hb14 rfl) ?_
   exact ⟨y1, y2, y3, y8, (Eq.trans rfl (congrArg B ((decide_eq_true (Or.inl hg13)).symm))), rfl⟩
  ·have hb15 := Eq.trans rfl (congrArg B (decide_eq_false hg13))
   refine gq rfl rfl rfl hb15 (q_fieldAddr rfl Try.underlying37 rfl Try.sizeOf3 y8) ?_
   refine gq rfl rfl rfl hb15 (q_loadBlk rfl rfl Try.isAgg3 (hS12.blk 0 rfl) rfl (fun h => h)) ?_
   refine gq rfl rfl rfl hb15 (q_gtr rfl rfl rfl) ?_
   refine lq rfl (q_pickF (v := B (decide (25 < ((nth a.Nodes i).Op)))) rfl hb15 rfl) ?_
   exact ⟨y1, y2, y3, y8, (Eq.trans rfl (congrArg B (decide_congr_of ((Iff.rfl).trans (((or_iff_right hg13).trans Iff.rfl)).symm)))), rfl⟩
 clear y1 y2 y3 y8
 rintro f16 _ ⟨y1, y2, y3, y8, y28, rfl⟩
 refine wpF_condP y28 (fun h28 => ?t108) (fun h28 => ?e108)
 case t108 =>
  refine fcr (fun f H => f 6 = I (0) ∧ f 7 = I (4) ∧ H12 = H) ?_ ?_
  ·refine la (v := I (0)) rfl rfl rfl ?_
   refine la (v := I (4)) rfl rfl rfl ?_
   exact ⟨rfl, rfl, rfl⟩
  clear y1 y2 y28 y3 y8
  rintro f18 _ ⟨y6, y7, rfl⟩
  refine wpF_ret ?_
  refine ⟨_, resT y6 (resT y7 resN), hS12.frame, ?_⟩
  show (Value.tuple #[I (0), I (4)]) = Value.tuple #[I (nodeF a i S).1, I (nodeF a i S).2]
  have hq : nodeF a i S = _ := nodeF_op h28
  rw [hq]
 refine wpF_skip ?_
 refine fcr (fun f H => ∃ (g19 : Nat), f 1 = I ((i : Int)) ∧ f 2 = vS ∧ f 3 = PT g1 0 ∧ f 8 = PT g7 0 ∧ f 9 = PT g19 0 ∧ St H0 NoB NoB [blkE g19 (.cells #[SB (ByteArray.mk #[]), nS, I (0)] 43), bE g7 #[I ((nth a.Nodes i).Op), u5n1, I ((nth a.Nodes i).N), I ((nth a.Nodes i).D), SB ((nth a.Nodes i).Name)] 37, rdE u5n1 ((nth a.Nodes i).Kids), bE g1 #[vD, vN, vH] 26, rdE vD a.Decls, rdE vN a.Nodes, rdE vH a.Hold, rdE vS S] H) ?_ ?_
 ·refine lo rfl ?_
  refine e_alloc rfl Try.zeroValue43 hS12 (fun g19 H20 hS21 hxx => ?_)
  exact ⟨g19, y1, y2, y3, y8, rfl, hS21⟩
 clear y1 y2 y28 y3 y8
 rintro f22 H22 ⟨g19, y1, y2, y3, y8, y9, hS22⟩
 refine fcr (fun f H => f 1 = I ((i : Int)) ∧ f 2 = vS ∧ f 3 = PT g1 0 ∧ f 8 = PT g7 0 ∧ f 9 = PT g19 0 ∧ f 10 = I (((kidsN ((nth a.Nodes i).Op)))) ∧ St H0 NoB NoB [blkE g19 (.cells #[SB (ByteArray.mk #[]), nS, I (0)] 43), bE g7 #[I ((nth a.Nodes i).Op), u5n1, I ((nth a.Nodes i).N), I ((nth a.Nodes i).D), SB ((nth a.Nodes i).Name)] 37, rdE u5n1 ((nth a.Nodes i).Kids), bE g1 #[vD, vN, vH] 26, rdE vD a.Decls, rdE vN a.Nodes, rdE vH a.Hold, rdE vS S] H) ?_ ?_
 ·refine lq rfl (q_fieldAddr rfl Try.underlying37 rfl Try.sizeOf3 y8) ?_
  refine lq rfl (q_loadBlk rfl rfl Try.isAgg3 (hS22.blk 1 rfl) rfl (fun h => h)) ?_
  refine lo rfl ?_
  refine e_call rfl Try.call35 (arr1 (v0 := I ((nth a.Nodes i).Op)) rfl) (Kids_L  ((nth a.Nodes i).Op)  ) ?_
  rintro _ H23 ⟨hxx, rfl⟩
  have hS24 := hS22.ext hxx
  refine la (v := I (((kidsN ((nth a.Nodes i).Op))))) rfl rfl rfl ?_
  exact ⟨y1, y2, y3, y8, y9, rfl, hS24⟩
 clear y1 y2 y3 y8 y9
 rintro f26 H26 ⟨y1, y2, y3, y8, y9, y10, hS26⟩
 refine wpF_seq ?_
 refine fcr (fun f H => f 1 = I ((i : Int)) ∧ f 2 = vS ∧ f 3 = PT g1 0 ∧ f 8 = PT g7 0 ∧ f 9 = PT g19 0 ∧ f 10 = I (((kidsN ((nth a.Nodes i).Op)))) ∧ f 34 = B (decide (((nth a.Nodes i).Op) = 9)) ∧ H26 = H) ?_ ?_
 ·refine lq rfl (q_fieldAddr rfl Try.underlying37 rfl Try.sizeOf3 y8) ?_
  refine lq rfl (q_loadBlk rfl rfl Try.isAgg3 (hS26.blk 1 rfl) rfl (fun h => h)) ?_
  refine lq rfl (q_eql rfl rfl rfl) ?_
  exact ⟨y1, y2, y3, y8, y9, y10, rfl, rfl⟩
 clear y1 y10 y2 y3 y8 y9
 rintro f27 _ ⟨y1, y2, y3, y8, y9, y10, y34, rfl⟩
 have hS28 : St H0 NoB NoB [rdE nS ([] : List Int), blkE g19 (.cells #[SB (ByteArray.mk #[]), nS, I (0)] 43), bE g7 #[I ((nth a.Nodes i).Op), u5n1, I ((nth a.Nodes i).N), I ((nth a.Nodes i).D), SB ((nth a.Nodes i).Name)] 37, rdE u5n1 ((nth a.Nodes i).Kids), bE g1 #[vD, vN, vH] 26, rdE vD a.Decls, rdE vN a.Nodes, rdE vH a.Hold, rdE vS S] H26 := hS26.rd rdNil
 refine wpF_cut (fun f H => ∃ (vA : Value), (¬ ((nth a.Nodes i).Op = 9 ∧ findD a.Decls (nth a.Nodes i).Name < 0)) ∧ ((declOf a (nth a.Nodes i)).Name.size ≤ maxLen) ∧ (In64 (declOf a (nth a.Nodes i)).Srt) ∧ f 1 = I ((i : Int)) ∧ f 2 = vS ∧ f 8 = PT g7 0 ∧ f 9 = PT g19 0 ∧ f 10 = I (wantN a (nth a.Nodes i)) ∧ St H0 NoB NoB [bE g19 #[SB ((declOf a (nth a.Nodes i)).Name), vA, I ((declOf a (nth a.Nodes i)).Srt)] 43, bE g7 #[I ((nth a.Nodes i).Op), u5n1, I ((nth a.Nodes i).N), I ((nth a.Nodes i).D), SB ((nth a.Nodes i).Name)] 37, rdE vA ((declOf a (nth a.Nodes i)).Args), rdE u5n1 ((nth a.Nodes i).Kids), rdE vD a.Decls, rdE vN a.Nodes, rdE vH a.Hold, rdE vS S, bE g1 #[vD, vN, vH] 26] H) ?_ ?_
 ·refine wpF_condP y34 (fun h34 => ?t47) (fun h34 => ?e47)
  case e47 =>
   refine wpF_skip ?_
   exact ⟨nS, (fun h => h34 h.1), (by rw [declOf_no h34]; exact Nat.zero_le _), (by rw [declOf_no h34]; constructor <;> decide), y1, y2, y8, y9, (Eq.trans y10 (congrArg I (wantN_no h34).symm)), (by have h__ := (St.drop (show St H0 NoB NoB [blkE g19 (.cells #[SB (ByteArray.mk #[]), nS, I (0)] 43), bE g7 #[I ((nth a.Nodes i).Op), u5n1, I ((nth a.Nodes i).N), I ((nth a.Nodes i).D), SB ((nth a.Nodes i).Name)] 37, rdE nS ([] : List Int), rdE u5n1 ((nth a.Nodes i).Kids), rdE vD a.Decls, rdE vN a.Nodes, rdE vH a.Hold, rdE vS S, bE g1 #[vD, vN, vH] 26] H26 from ((((((((hS28.front 8 rfl).front 8 rfl).front 8 rfl).front 8 rfl).front 7 rfl).front 5 rfl).front 7 rfl).front 7 rfl)) (sk (sk (sk (sk (sk (sk (sk (sk (sk (List.Sublist.slnil))))))))))); rw [declOf_no h34]; exact h__)⟩
  refine fcr (fun f H => f 1 = I ((i : Int)) ∧ f 2 = vS ∧ f 3 = PT g1 0 ∧ f 8 = PT g7 0 ∧ f 9 = PT g19 0 ∧ f 11 = I (findD a.Decls ((nth a.Nodes i).Name)) ∧ St H0 NoB NoB [rdE nS ([] : List Int), blkE g19 (.cells #[SB (ByteArray.mk #[]), nS, I (0)] 43), bE g7 #[I ((nth a.Nodes i).Op), u5n1, I ((nth a.Nodes i).N), I ((nth a.Nodes i).D), SB ((nth a.Nodes i).Name)] 37, rdE u5n1 ((nth a.Nodes i).Kids), bE g1 #[vD, vN, vH] 26, rdE vD a.Decls, rdE vN a.Nodes, rdE vH a.Hold, rdE vS S] H) ?_ ?_
  ·refine lq rfl (q_loadBlkA rfl y3 Try.isAgg26 Try.sizeOf26 rfl (hS28.blk 4 rfl) (fun h => h)) ?_
   refine lq rfl (q_fieldAddr rfl Try.underlying37 rfl Try.sizeOf9 y8) ?_
   refine lq rfl (q_loadBlk rfl rfl Try.isAgg9 (hS28.blk 2 rfl) rfl (fun h => h)) ?_
   refine lo rfl ?_
   refine e_call rfl Try.call36 (arr2 (v0 := Vg #[vD, vN, vH]) (v1 := SB ((nth a.Nodes i).Name)) rfl rfl) (Find_L vD vN vH a ((nth a.Nodes i).Name) (hS28.rdN 5 rfl) (hS28.rdN 6 rfl) (hS28.rdN 7 rfl)) ?_
   rintro _ H31 ⟨hxx, rfl⟩
   have hS32 := hS28.ext hxx
   refine la (v := I (findD a.Decls ((nth a.Nodes i).Name))) rfl rfl rfl ?_
   exact ⟨y1, y2, y3, y8, y9, rfl, hS32⟩
  clear y1 y10 y2 y3 y34 y8 y9
  rintro f34 H34 ⟨y1, y2, y3, y8, y9, y11, hS34⟩
  refine wpF_seq ?_
  refine fcr (fun f H => f 1 = I ((i : Int)) ∧ f 2 = vS ∧ f 3 = PT g1 0 ∧ f 8 = PT g7 0 ∧ f 9 = PT g19 0 ∧ f 11 = I (findD a.Decls ((nth a.Nodes i).Name)) ∧ f 40 = B (decide ((findD a.Decls ((nth a.Nodes i).Name)) < 0)) ∧ H34 = H) ?_ ?_
  ·refine lm (v := I (findD a.Decls ((nth a.Nodes i).Name))) rfl rfl y11 ?_
   refine lq rfl (q_lss rfl rfl rfl) ?_
   exact ⟨y1, y2, y3, y8, y9, y11, rfl, rfl⟩
  clear y1 y11 y2 y3 y8 y9
  rintro f35 _ ⟨y1, y2, y3, y8, y9, y11, y40, rfl⟩
  refine wpF_condP y40 (fun h40 => ?t45) (fun h40 => ?e45)
  case t45 =>
   refine fcr (fun f H => f 6 = I (0) ∧ f 7 = I (6) ∧ H34 = H) ?_ ?_
   ·refine la (v := I (0)) rfl rfl rfl ?_
    refine la (v := I (6)) rfl rfl rfl ?_
    exact ⟨rfl, rfl, rfl⟩
   clear y1 y11 y2 y3 y40 y8 y9
   rintro f37 _ ⟨y6, y7, rfl⟩
   refine wpF_ret ?_
   refine ⟨_, resT y6 (resT y7 resN), hS34.frame, ?_⟩
   show (Value.tuple #[I (0), I (6)]) = Value.tuple #[I (nodeF a i S).1, I (nodeF a i S).2]
   have hq : nodeF a i S = _ := nodeF_none h28 h34 h40
   rw [hq]
  have hfl := findD_lt (l := a.Decls) (nm := (nth a.Nodes i).Name)
  refine wpF_skip ?_
  refine fcr (fun f H => ∃ (u38n1 : Value), ((nth a.Decls ((findD a.Decls ((nth a.Nodes i).Name)).toNat)).Name.size ≤ maxLen) ∧ (In64 (nth a.Decls ((findD a.Decls ((nth a.Nodes i).Name)).toNat)).Srt) ∧ f 1 = I ((i : Int)) ∧ f 2 = vS ∧ f 8 = PT g7 0 ∧ f 9 = PT g19 0 ∧ St H0 NoB NoB [bE g19 #[SB ((nth a.Decls ((findD a.Decls ((nth a.Nodes i).Name)).toNat)).Name), u38n1, I ((nth a.Decls ((findD a.Decls ((nth a.Nodes i).Name)).toNat)).Srt)] 43, rdE u38n1 ((nth a.Decls ((findD a.Decls ((nth a.Nodes i).Name)).toNat)).Args), bE g7 #[I ((nth a.Nodes i).Op), u5n1, I ((nth a.Nodes i).N), I ((nth a.Nodes i).D), SB ((nth a.Nodes i).Name)] 37, rdE u5n1 ((nth a.Nodes i).Kids), bE g1 #[vD, vN, vH] 26, rdE vD a.Decls, rdE vN a.Nodes, rdE vH a.Hold, rdE vS S] H) ?_ ?_
  ·refine lq rfl (q_fieldAddr rfl Try.underlying26 rfl Try.sizeOf22 y3) ?_
   refine lq rfl (q_loadBlk rfl rfl Try.isAgg22 (hS34.blk 4 rfl) rfl (fun h => h)) ?_
   refine lm (v := I (findD a.Decls ((nth a.Nodes i).Name))) rfl rfl y11 ?_
   refine lq rfl (q_indexRd (k := (findD a.Decls ((nth a.Nodes i).Name)).toNat) rfl Try.underlying22 el_Decl_43_AskC2 rfl rfl (hS34.rdl 5 rfl) (by omega) (by omega)) ?_
   obtain ⟨u38, huu38, hlu38⟩ := (Rd.list.1 (hS34.rdS 5 rfl)).elem ((findD a.Decls ((nth a.Nodes i).Name)).toNat) (by omega)
   obtain ⟨u38n1, rfl, hu380, hu381, hu382⟩ := Rd.decl.1 huu38
   have hS39 := hS34.rd hu381
   refine lq rfl (q_loadE rfl rfl (hlu38 Try.prog 43 _ el_Decl_43_AskC2 (fun _ h => False.elim h))) ?_
   refine lo rfl ?_
   refine e_storeBlkA (cs' := #[SB ((nth a.Decls ((findD a.Decls ((nth a.Nodes i).Name)).toNat)).Name), u38n1, I ((nth a.Decls ((findD a.Decls ((nth a.Nodes i).Name)).toNat)).Srt)]) rfl y9 rfl Try.sizeOf43 rfl rfl (fa rfl (fa ((oneCell_rdL (hS39.rdl 0 rfl))) (fa rfl fe))) (hS39.front 2 rfl) (fun H40 hS41 hxx => ?_)
   exact ⟨u38n1, hu380, hu382, y1, y2, y8, y9, (hS41.drop (sk (sk (sn (sk (sk (sk (sk (sk (sk (sk (List.Sublist.slnil))))))))))))⟩
  clear y1 y11 y2 y3 y40 y8 y9
  rintro f42 H42 ⟨u38n1, hu380, hu382, y1, y2, y8, y9, hS42⟩
  refine wpF_cut (fun f H => f 1 = I ((i : Int)) ∧ f 2 = vS ∧ f 8 = PT g7 0 ∧ f 9 = PT g19 0 ∧ f 10 = I ((((nth a.Decls ((findD a.Decls ((nth a.Nodes i).Name)).toNat)).Args).length : Int)) ∧ H42 = H) ?_ ?_
  ·refine wpF_region ?_
   refine lq rfl (q_fieldAddr rfl Try.underlying43 rfl Try.sizeOf24 y9) ?_
   refine lq rfl (q_loadBlk rfl rfl Try.isAgg24 (hS42.blk 0 rfl) rfl (fun h => h)) ?_
   refine lq rfl (q_lenRd rfl Try.underlying24 rfl (hS42.rdl 1 rfl)) ?_
   refine la (v := I ((((nth a.Decls ((findD a.Decls ((nth a.Nodes i).Name)).toNat)).Args).length : Int))) rfl rfl rfl ?_
   exact ⟨y1, y2, y8, y9, rfl, rfl⟩
  clear y1 y2 y8 y9
  rintro f43 _ ⟨y1, y2, y8, y9, y10, rfl⟩
  exact ⟨u38n1, (fun h => h40 h.2), (by rw [declOf_yes h34]; assumption), (by rw [declOf_yes h34]; assumption), y1, y2, y8, y9, (Eq.trans y10 (congrArg I (wantN_yes h34).symm)), (by have h__ := (St.drop (show St H0 NoB NoB [bE g19 #[SB ((nth a.Decls ((findD a.Decls ((nth a.Nodes i).Name)).toNat)).Name), u38n1, I ((nth a.Decls ((findD a.Decls ((nth a.Nodes i).Name)).toNat)).Srt)] 43, bE g7 #[I ((nth a.Nodes i).Op), u5n1, I ((nth a.Nodes i).N), I ((nth a.Nodes i).D), SB ((nth a.Nodes i).Name)] 37, rdE u38n1 ((nth a.Decls ((findD a.Decls ((nth a.Nodes i).Name)).toNat)).Args), rdE u5n1 ((nth a.Nodes i).Kids), rdE vD a.Decls, rdE vN a.Nodes, rdE vH a.Hold, rdE vS S, bE g1 #[vD, vN, vH] 26] H42 from ((((((((hS42.front 8 rfl).front 8 rfl).front 8 rfl).front 8 rfl).front 7 rfl).front 6 rfl).front 7 rfl).front 7 rfl)) (sk (sk (sk (sk (sk (sk (sk (sk (sk (List.Sublist.slnil))))))))))); rw [declOf_yes h34]; exact h__)⟩
 clear y1 y10 y2 y3 y34 y8 y9
 rintro f29 H29 ⟨vA, hF, hds, hdi, y1, y2, y8, y9, y10, hS29⟩
 refine wpF_seq ?_
 refine fcr (fun f H => f 1 = I ((i : Int)) ∧ f 2 = vS ∧ f 8 = PT g7 0 ∧ f 9 = PT g19 0 ∧ f 63 = B (decide (((0 ≤ (wantN a (nth a.Nodes i))) ∧ ((((nth a.Nodes i).Kids).length : Int) ≠ (wantN a (nth a.Nodes i)))) ∨ (8 < (((nth a.Nodes i).Kids).length : Int)))) ∧ H29 = H) ?_ ?_
 ·refine lm (v := I (wantN a (nth a.Nodes i))) rfl rfl y10 ?_
  refine lq rfl (q_geq rfl rfl rfl) ?_
  refine lm (v := B (decide (0 ≤ (wantN a (nth a.Nodes i))))) rfl rfl rfl ?_
  by_cases hg48 : 0 ≤ (wantN a (nth a.Nodes i))
  ·have hb49 := Eq.trans rfl (congrArg B (decide_eq_true hg48))
   refine gq rfl rfl rfl hb49 (q_fieldAddr rfl Try.underlying37 rfl Try.sizeOf24 y8) ?_
   refine gq rfl rfl rfl hb49 (q_loadBlk rfl rfl Try.isAgg24 (hS29.blk 1 rfl) rfl (fun h => h)) ?_
   refine gq rfl rfl rfl hb49 (q_lenRd rfl Try.underlying24 rfl (hS29.rdl 3 rfl)) ?_
   refine gq rfl rfl rfl hb49 (q_move (v := I (wantN a (nth a.Nodes i))) rfl y10) ?_
   refine gq rfl rfl rfl hb49 (q_neq rfl rfl rfl) ?_
   refine lq rfl (q_pickT (v := B (decide ((((nth a.Nodes i).Kids).length : Int) ≠ (wantN a (nth a.Nodes i))))) rfl hb49 rfl) ?_
   refine lm (v := B (decide ((((nth a.Nodes i).Kids).length : Int) ≠ (wantN a (nth a.Nodes i))))) rfl rfl rfl ?_
   by_cases hg51 : (((nth a.Nodes i).Kids).length : Int) ≠ (wantN a (nth a.Nodes i))
   ·have hb52 := Eq.trans rfl (congrArg B (decide_eq_true hg51))
    refine wpL_gs rfl rfl rfl hb52 rfl ?_
    refine wpL_gs rfl rfl rfl hb52 rfl ?_
    refine wpL_gs rfl rfl rfl hb52 rfl ?_
    refine wpL_gs rfl rfl rfl hb52 rfl ?_
    refine lq rfl (q_pickT (v := B (true)) rfl hb52 rfl) ?_
    exact ⟨y1, y2, y8, y9, (Eq.trans rfl (congrArg B ((decide_eq_true (Or.inl ⟨hg48, hg51⟩)).symm))), rfl⟩
   ·have hb53 := Eq.trans rfl (congrArg B (decide_eq_false hg51))
    refine gq rfl rfl rfl hb53 (q_fieldAddr rfl Try.underlying37 rfl Try.sizeOf24 y8) ?_
    refine gq rfl rfl rfl hb53 (q_loadBlk rfl rfl Try.isAgg24 (hS29.blk 1 rfl) rfl (fun h => h)) ?_
    refine gq rfl rfl rfl hb53 (q_lenRd rfl Try.underlying24 rfl (hS29.rdl 3 rfl)) ?_
    refine gq rfl rfl rfl hb53 (q_gtr rfl rfl rfl) ?_
    refine lq rfl (q_pickF (v := B (decide (8 < (((nth a.Nodes i).Kids).length : Int)))) rfl hb53 rfl) ?_
    exact ⟨y1, y2, y8, y9, (Eq.trans rfl (congrArg B (decide_congr_of ((Iff.rfl).trans (((or_iff_right (fun h => hg51 h.2)).trans Iff.rfl)).symm)))), rfl⟩
  ·have hb50 := Eq.trans rfl (congrArg B (decide_eq_false hg48))
   refine wpL_gs rfl rfl rfl hb50 rfl ?_
   refine wpL_gs rfl rfl rfl hb50 rfl ?_
   refine wpL_gs rfl rfl rfl hb50 rfl ?_
   refine wpL_gs rfl rfl rfl hb50 rfl ?_
   refine wpL_gs rfl rfl rfl hb50 rfl ?_
   refine lq rfl (q_pickF (v := B (false)) rfl hb50 rfl) ?_
   refine lm (v := B (false)) rfl rfl rfl ?_
   refine gq rfl rfl rfl rfl (q_fieldAddr rfl Try.underlying37 rfl Try.sizeOf24 y8) ?_
   refine gq rfl rfl rfl rfl (q_loadBlk rfl rfl Try.isAgg24 (hS29.blk 1 rfl) rfl (fun h => h)) ?_
   refine gq rfl rfl rfl rfl (q_lenRd rfl Try.underlying24 rfl (hS29.rdl 3 rfl)) ?_
   refine gq rfl rfl rfl rfl (q_gtr rfl rfl rfl) ?_
   refine lq rfl (q_pickF (v := B (decide (8 < (((nth a.Nodes i).Kids).length : Int)))) rfl rfl rfl) ?_
   exact ⟨y1, y2, y8, y9, (Eq.trans rfl (congrArg B (decide_congr_of ((Iff.rfl).trans (((or_iff_right (fun h => hg48 h.1)).trans Iff.rfl)).symm)))), rfl⟩
 clear y1 y10 y2 y8 y9
 rintro f54 _ ⟨y1, y2, y8, y9, y63, rfl⟩
 refine wpF_condP y63 (fun h63 => ?t107) (fun h63 => ?e107)
 case t107 =>
  refine fcr (fun f H => f 6 = I (0) ∧ f 7 = I (9) ∧ H29 = H) ?_ ?_
  ·refine la (v := I (0)) rfl rfl rfl ?_
   refine la (v := I (9)) rfl rfl rfl ?_
   exact ⟨rfl, rfl, rfl⟩
  clear y1 y2 y63 y8 y9
  rintro f56 _ ⟨y6, y7, rfl⟩
  refine wpF_ret ?_
  refine ⟨_, resT y6 (resT y7 resN), hS29.frame, ?_⟩
  show (Value.tuple #[I (0), I (9)]) = Value.tuple #[I (nodeF a i S).1, I (nodeF a i S).2]
  have hq : nodeF a i S = _ := nodeF_size h28 hF h63
  rw [hq]
 refine wpF_skip ?_
 refine fcr (fun f H => f 1 = I ((i : Int)) ∧ f 2 = vS ∧ f 8 = PT g7 0 ∧ f 9 = PT g19 0 ∧ f 12 = nS ∧ H29 = H) ?_ ?_
 ·refine la (v := nS) rfl rfl rfl ?_
  exact ⟨y1, y2, y8, y9, rfl, rfl⟩
 clear y1 y2 y63 y8 y9
 rintro f57 _ ⟨y1, y2, y8, y9, y12, rfl⟩
 have hS58 : St H0 NoB NoB [rowE 3 nS ([] : List Int), bE g19 #[SB ((declOf a (nth a.Nodes i)).Name), vA, I ((declOf a (nth a.Nodes i)).Srt)] 43, bE g7 #[I ((nth a.Nodes i).Op), u5n1, I ((nth a.Nodes i).N), I ((nth a.Nodes i).D), SB ((nth a.Nodes i).Name)] 37, rdE vA ((declOf a (nth a.Nodes i)).Args), rdE u5n1 ((nth a.Nodes i).Kids), rdE vD a.Decls, rdE vN a.Nodes, rdE vH a.Hold, rdE vS S, bE g1 #[vD, vN, vH] 26] H29 := hS29.row0 3
 refine wpF_seq ?_
 refine fcr (fun f H => f 1 = I ((i : Int)) ∧ f 2 = vS ∧ f 8 = PT g7 0 ∧ f 9 = PT g19 0 ∧ f 12 = nS ∧ f 65 = u5n1 ∧ f 66 = I ((((nth a.Nodes i).Kids).length : Int)) ∧ f 67 = I (0) ∧ H29 = H) ?_ ?_
 ·refine lq rfl (q_fieldAddr rfl Try.underlying37 rfl Try.sizeOf24 y8) ?_
  refine lq rfl (q_loadBlk rfl rfl Try.isAgg24 (hS58.blk 2 rfl) rfl (fun h => h)) ?_
  refine lq rfl (q_lenRd rfl Try.underlying24 rfl (hS58.rdl 4 rfl)) ?_
  refine lm (v := I (0)) rfl rfl rfl ?_
  exact ⟨y1, y2, y8, y9, y12, rfl, rfl, rfl, rfl⟩
 clear y1 y12 y2 y8 y9
 rintro f59 _ ⟨y1, y2, y8, y9, y12, y65, y66, y67, rfl⟩
 refine wpF_block ?_
 refine wpF_loop (fun mz f H => ∃ (j : Nat), ∃ (vo : Value), mz = (nth a.Nodes i).Kids.length - j ∧ (j ≤ (nth a.Nodes i).Kids.length) ∧ (∀ k, k < j → ¬ kidBad i (nth (nth a.Nodes i).Kids k)) ∧ f 1 = I ((i : Int)) ∧ f 2 = vS ∧ f 8 = PT g7 0 ∧ f 9 = PT g19 0 ∧ f 12 = vo ∧ f 65 = u5n1 ∧ f 66 = I ((((nth a.Nodes i).Kids).length : Int)) ∧ f 67 = I ((j : Int)) ∧ St H0 NoB NoB [rowE 3 vo (kidS S ((nth a.Nodes i).Kids.take j) : List Int), bE g19 #[SB ((declOf a (nth a.Nodes i)).Name), vA, I ((declOf a (nth a.Nodes i)).Srt)] 43, bE g7 #[I ((nth a.Nodes i).Op), u5n1, I ((nth a.Nodes i).N), I ((nth a.Nodes i).D), SB ((nth a.Nodes i).Name)] 37, rdE vA ((declOf a (nth a.Nodes i)).Args), rdE u5n1 ((nth a.Nodes i).Kids), rdE vD a.Decls, rdE vN a.Nodes, rdE vH a.Hold, rdE vS S, bE g1 #[vD, vN, vH] 26] H) ((nth a.Nodes i).Kids.length - 0) ?_ ?_
 ·exact ⟨0, nS, rfl, Nat.zero_le _, (fun j hj => absurd hj (Nat.not_lt_zero j)), y1, y2, y8, y9, y12, y65, y66, (Eq.trans y67 (congrArg I (by omega))), (show St H0 NoB NoB [rowE 3 nS (kidS S ((nth a.Nodes i).Kids.take 0) : List Int), bE g19 #[SB ((declOf a (nth a.Nodes i)).Name), vA, I ((declOf a (nth a.Nodes i)).Srt)] 43, bE g7 #[I ((nth a.Nodes i).Op), u5n1, I ((nth a.Nodes i).N), I ((nth a.Nodes i).D), SB ((nth a.Nodes i).Name)] 37, rdE vA ((declOf a (nth a.Nodes i)).Args), rdE u5n1 ((nth a.Nodes i).Kids), rdE vD a.Decls, rdE vN a.Nodes, rdE vH a.Hold, rdE vS S, bE g1 #[vD, vN, vH] 26] H29 from hS58)⟩
 intro m60 f60 H60 hI60
 clear y1 y12 y2 y65 y66 y67 y8 y9
 obtain ⟨j, vo, hm60, hj, hno, y1, y2, y8, y9, y12, y65, y66, y67, hS60⟩ := hI60
 refine fcr (fun f H => f 1 = I ((i : Int)) ∧ f 2 = vS ∧ f 8 = PT g7 0 ∧ f 9 = PT g19 0 ∧ f 12 = vo ∧ f 65 = u5n1 ∧ f 66 = I ((((nth a.Nodes i).Kids).length : Int)) ∧ f 67 = I ((j : Int)) ∧ f 68 = B (decide ((j : Int) < (((nth a.Nodes i).Kids).length : Int))) ∧ H60 = H) ?_ ?_
 ·refine lq rfl (q_lss rfl y67 y66) ?_
  exact ⟨y1, y2, y8, y9, y12, y65, y66, y67, rfl, rfl⟩
 clear y1 y12 y2 y65 y66 y67 y8 y9
 rintro f61 _ ⟨y1, y2, y8, y9, y12, y65, y66, y67, y68, rfl⟩
 refine wpF_seq ?_
 refine wpF_condP y68 (fun hlt => ?t106) (fun hlt => ?e106)
 case t106 =>
  refine wpF_skip ?_
  refine wpF_seq ?_
  refine wpF_block ?_
  refine fcr (fun f H => f 1 = I ((i : Int)) ∧ f 2 = vS ∧ f 8 = PT g7 0 ∧ f 9 = PT g19 0 ∧ f 12 = vo ∧ f 14 = I (nth ((nth a.Nodes i).Kids) j) ∧ f 65 = u5n1 ∧ f 66 = I ((((nth a.Nodes i).Kids).length : Int)) ∧ f 67 = I ((j : Int)) ∧ H60 = H) ?_ ?_
  ·refine lq rfl (q_indexRd (k := j) rfl Try.underlying24 el_Int_3_AskC2 y65 y67 (hS60.rdl 4 rfl) (by omega) (by omega)) ?_
   refine lq rfl (q_loadInt (k := j) rfl rfl el_Int_3_AskC2 (hS60.rdl 4 rfl) (by omega) (fun _ h => h)) ?_
   refine la (v := I (nth ((nth a.Nodes i).Kids) j)) rfl rfl rfl ?_
   exact ⟨y1, y2, y8, y9, y12, rfl, y65, y66, y67, rfl⟩
  clear y1 y12 y2 y65 y66 y67 y68 y8 y9
  rintro f64 _ ⟨y1, y2, y8, y9, y12, y14, y65, y66, y67, rfl⟩
  refine wpF_seq ?_
  refine fcr (fun f H => f 1 = I ((i : Int)) ∧ f 2 = vS ∧ f 8 = PT g7 0 ∧ f 9 = PT g19 0 ∧ f 12 = vo ∧ f 14 = I (nth ((nth a.Nodes i).Kids) j) ∧ f 65 = u5n1 ∧ f 66 = I ((((nth a.Nodes i).Kids).length : Int)) ∧ f 67 = I ((j : Int)) ∧ f 77 = B (decide (((nth ((nth a.Nodes i).Kids) j) < 0) ∨ ((i : Int) ≤ (nth ((nth a.Nodes i).Kids) j)))) ∧ H60 = H) ?_ ?_
  ·refine lm (v := I (nth ((nth a.Nodes i).Kids) j)) rfl rfl y14 ?_
   refine lq rfl (q_lss rfl rfl rfl) ?_
   refine lm (v := B (decide ((nth ((nth a.Nodes i).Kids) j) < 0))) rfl rfl rfl ?_
   by_cases hg65 : (nth ((nth a.Nodes i).Kids) j) < 0
   ·have hb66 := Eq.trans rfl (congrArg B (decide_eq_true hg65))
    refine wpL_gs rfl rfl rfl hb66 rfl ?_
    refine wpL_gs rfl rfl rfl hb66 rfl ?_
    refine wpL_gs rfl rfl rfl hb66 rfl ?_
    refine lq rfl (q_pickT (v := B (true)) rfl hb66 rfl) ?_
    exact ⟨y1, y2, y8, y9, y12, y14, y65, y66, y67, (Eq.trans rfl (congrArg B ((decide_eq_true (Or.inl hg65)).symm))), rfl⟩
   ·have hb67 := Eq.trans rfl (congrArg B (decide_eq_false hg65))
    refine gq rfl rfl rfl hb67 (q_move (v := I (nth ((nth a.Nodes i).Kids) j)) rfl y14) ?_
    refine gq rfl rfl rfl hb67 (q_move (v := I ((i : Int))) rfl y1) ?_
    refine gq rfl rfl rfl hb67 (q_geq rfl rfl rfl) ?_
    refine lq rfl (q_pickF (v := B (decide ((i : Int) ≤ (nth ((nth a.Nodes i).Kids) j)))) rfl hb67 rfl) ?_
    exact ⟨y1, y2, y8, y9, y12, y14, y65, y66, y67, (Eq.trans rfl (congrArg B (decide_congr_of ((Iff.rfl).trans (((or_iff_right hg65).trans Iff.rfl)).symm)))), rfl⟩
  clear y1 y12 y14 y2 y65 y66 y67 y8 y9
  rintro f68 _ ⟨y1, y2, y8, y9, y12, y14, y65, y66, y67, y77, rfl⟩
  refine wpF_condP y77 (fun h77 => ?t82) (fun h77 => ?e82)
  case t82 =>
   refine fcr (fun f H => f 6 = I (0) ∧ f 7 = I (3) ∧ H60 = H) ?_ ?_
   ·refine la (v := I (0)) rfl rfl rfl ?_
    refine la (v := I (3)) rfl rfl rfl ?_
    exact ⟨rfl, rfl, rfl⟩
   clear y1 y12 y14 y2 y65 y66 y67 y77 y8 y9
   rintro f70 _ ⟨y6, y7, rfl⟩
   refine wpF_ret ?_
   refine ⟨_, resT y6 (resT y7 resN), hS60.frame, ?_⟩
   show (Value.tuple #[I (0), I (3)]) = Value.tuple #[I (nodeF a i S).1, I (nodeF a i S).2]
   have hq : nodeF a i S = _ := nodeF_range h28 hF h63 (nth_mem (by omega)) h77
   rw [hq]
  refine wpF_skip ?_
  have h6s := (Rd.list.1 rS).in64 (k := (nth (nth a.Nodes i).Kids j).toNat) (by omega)
  refine wpF_cut (fun f H => ∃ (v76 : Value), f 1 = I ((i : Int)) ∧ f 2 = vS ∧ f 8 = PT g7 0 ∧ f 9 = PT g19 0 ∧ f 12 = v76 ∧ f 65 = u5n1 ∧ f 66 = I ((((nth a.Nodes i).Kids).length : Int)) ∧ f 67 = I ((j : Int)) ∧ St H0 NoB NoB [rowE 3 v76 (kidS S ((nth a.Nodes i).Kids.take (j + 1)) : List Int), bE g19 #[SB ((declOf a (nth a.Nodes i)).Name), vA, I ((declOf a (nth a.Nodes i)).Srt)] 43, bE g7 #[I ((nth a.Nodes i).Op), u5n1, I ((nth a.Nodes i).N), I ((nth a.Nodes i).D), SB ((nth a.Nodes i).Name)] 37, rdE vA ((declOf a (nth a.Nodes i)).Args), rdE u5n1 ((nth a.Nodes i).Kids), rdE vD a.Decls, rdE vN a.Nodes, rdE vH a.Hold, rdE vS S, bE g1 #[vD, vN, vH] 26] H) ?_ ?_
  ·refine wpF_region ?_
   refine lm (v := vo) rfl rfl y12 ?_
   refine lm (v := vS) rfl rfl y2 ?_
   refine lm (v := I (nth ((nth a.Nodes i).Kids) j)) rfl rfl y14 ?_
   refine lq rfl (q_indexRd (k := (nth ((nth a.Nodes i).Kids) j).toNat) rfl Try.underlying24 el_Int_3_AskC2 rfl rfl (hS60.rdl 8 rfl) (by omega) (by omega)) ?_
   refine lq rfl (q_loadInt (k := (nth ((nth a.Nodes i).Kids) j).toNat) rfl rfl el_Int_3_AskC2 (hS60.rdl 8 rfl) (by omega) (fun _ h => h)) ?_
   refine lo rfl ?_
   refine e_buildSlice (vs := [I (nth S ((nth ((nth a.Nodes i).Kids) j).toNat))]) (xs := ([nth S ((nth ((nth a.Nodes i).Kids) j).toNat)] : List Int)) rfl Try.underlying24 Try.zeroValue3 rfl Try.sizeOf3 (par1 (v0 := I (nth S ((nth ((nth a.Nodes i).Kids) j).toNat))) rfl) rfl hS60 (RdVs.cons (Rd.int.2 ⟨rfl, by first | assumption | (constructor <;> omega)⟩) (RdVs.nil)) (by decide) (by decide) (fun v71 H72 hS73 hxx hvv71 => ?_)
   have hS74 : St H0 NoB NoB [rdE v71 ([nth S ((nth ((nth a.Nodes i).Kids) j).toNat)] : List Int), rowE 3 vo (kidS S ((nth a.Nodes i).Kids.take j) : List Int), bE g19 #[SB ((declOf a (nth a.Nodes i)).Name), vA, I ((declOf a (nth a.Nodes i)).Srt)] 43, bE g7 #[I ((nth a.Nodes i).Op), u5n1, I ((nth a.Nodes i).N), I ((nth a.Nodes i).D), SB ((nth a.Nodes i).Name)] 37, rdE vA ((declOf a (nth a.Nodes i)).Args), rdE u5n1 ((nth a.Nodes i).Kids), rdE vD a.Decls, rdE vN a.Nodes, rdE vH a.Hold, rdE vS S, bE g1 #[vD, vN, vH] 26] H72 := St.fin hS73
   have hS75 := (hS74.front 1 rfl)
   refine lo rfl ?_
   refine e_append rfl Try.underlying24 em_Int_3_AskC2 rfl rfl hS75 (hS75.rdS 1 rfl) (fun _ h => h) (by have hb : GoT.bytes Int = 8 := rfl; have hkl := kidS_len (S := S) (l := (nth a.Nodes i).Kids.take j); rw [List.length_take] at hkl; simp [hb]; omega) (by decide) (fun v76 H77 hS78 hxx => ?_)
   have hS79 : St H0 NoB NoB [rowE 3 v76 (kidS S ((nth a.Nodes i).Kids.take (j + 1)) : List Int), rdE v71 ([nth S ((nth ((nth a.Nodes i).Kids) j).toNat)] : List Int), bE g19 #[SB ((declOf a (nth a.Nodes i)).Name), vA, I ((declOf a (nth a.Nodes i)).Srt)] 43, bE g7 #[I ((nth a.Nodes i).Op), u5n1, I ((nth a.Nodes i).N), I ((nth a.Nodes i).D), SB ((nth a.Nodes i).Name)] 37, rdE vA ((declOf a (nth a.Nodes i)).Args), rdE u5n1 ((nth a.Nodes i).Kids), rdE vD a.Decls, rdE vN a.Nodes, rdE vH a.Hold, rdE vS S, bE g1 #[vD, vN, vH] 26] H77 := by rw [show (kidS S ((nth a.Nodes i).Kids.take (j + 1))) = ((kidS S ((nth a.Nodes i).Kids.take j)) ++ ([nth S ((nth ((nth a.Nodes i).Kids) j).toNat)])) from (kidS_next (by omega)).symm]; exact hS78
   refine la (v := v76) rfl rfl rfl ?_
   exact ⟨v76, y1, y2, y8, y9, rfl, y65, y66, y67, (hS79.drop (sk (sn (sk (sk (sk (sk (sk (sk (sk (sk (sk (List.Sublist.slnil)))))))))))))⟩
  clear y1 y12 y14 y2 y65 y66 y67 y77 y8 y9
  rintro f80 H80 ⟨v76, y1, y2, y8, y9, y12, y65, y66, y67, hS80⟩
  refine wpF_cut (fun f H => f 1 = I ((i : Int)) ∧ f 2 = vS ∧ f 8 = PT g7 0 ∧ f 9 = PT g19 0 ∧ f 12 = v76 ∧ f 65 = u5n1 ∧ f 66 = I ((((nth a.Nodes i).Kids).length : Int)) ∧ f 67 = I ((j : Int) + 1) ∧ H80 = H) ?_ ?_
  ·refine wpF_region ?_
   refine lq rfl (q_add rfl y67 rfl (by constructor <;> omega)) ?_
   refine lm (v := I ((j : Int) + 1)) rfl rfl rfl ?_
   exact ⟨y1, y2, y8, y9, y12, y65, y66, rfl, rfl⟩
  clear y1 y12 y2 y65 y66 y67 y8 y9
  rintro f81 _ ⟨y1, y2, y8, y9, y12, y65, y66, y67, rfl⟩
  refine ⟨_, ?_, j + 1, v76, rfl, (by omega), (all_succ hno h77), y1, y2, y8, y9, y12, y65, y66, (Eq.trans y67 (congrArg I (by omega))), hS80⟩
  omega
 have hS63 : St H0 NoB NoB [rowE 3 vo (kidS S (nth a.Nodes i).Kids : List Int), bE g19 #[SB ((declOf a (nth a.Nodes i)).Name), vA, I ((declOf a (nth a.Nodes i)).Srt)] 43, bE g7 #[I ((nth a.Nodes i).Op), u5n1, I ((nth a.Nodes i).N), I ((nth a.Nodes i).D), SB ((nth a.Nodes i).Name)] 37, rdE vA ((declOf a (nth a.Nodes i)).Args), rdE u5n1 ((nth a.Nodes i).Kids), rdE vD a.Decls, rdE vN a.Nodes, rdE vH a.Hold, rdE vS S, bE g1 #[vD, vN, vH] 26] H60 := by have h__ := hS60; rw [List.take_of_length_le (show (nth a.Nodes i).Kids.length ≤ j by omega)] at h__; exact h__
 refine wpF_exit ?_
 refine atX_here ?_
 refine wpF_seq ?_
 refine wpF_block ?_
 refine fcr (fun f H => f 8 = PT g7 0 ∧ f 9 = PT g19 0 ∧ f 12 = vo ∧ f 86 = B (decide (¬ (formedN (nth a.Nodes i)))) ∧ St H0 NoB NoB [rowE 3 vo (kidS S (nth a.Nodes i).Kids : List Int), bE g19 #[SB ((declOf a (nth a.Nodes i)).Name), vA, I ((declOf a (nth a.Nodes i)).Srt)] 43, bE g7 #[I ((nth a.Nodes i).Op), u5n1, I ((nth a.Nodes i).N), I ((nth a.Nodes i).D), SB ((nth a.Nodes i).Name)] 37, rdE vA ((declOf a (nth a.Nodes i)).Args), rdE u5n1 ((nth a.Nodes i).Kids), rdE vD a.Decls, rdE vN a.Nodes, rdE vH a.Hold, rdE vS S, bE g1 #[vD, vN, vH] 26] H) ?_ ?_
 ·refine lq rfl (q_loadBlkA rfl y8 Try.isAgg37 Try.sizeOf37 rfl (hS63.blk 2 rfl) (fun h => h)) ?_
  refine lo rfl ?_
  refine e_call rfl Try.call37 (arr1 (v0 := Vg #[I ((nth a.Nodes i).Op), u5n1, I ((nth a.Nodes i).N), I ((nth a.Nodes i).D), SB ((nth a.Nodes i).Name)]) rfl) (formed_L u5n1 (nth a.Nodes i) (by first | assumption | (constructor <;> omega)) (hS63.rdN 4 rfl) (by first | assumption | (constructor <;> omega)) (by first | assumption | (constructor <;> omega)) (by first | assumption | exact Nat.zero_le _) ) ?_
  rintro _ H83 ⟨hxx, rfl⟩
  have hS84 := hS63.ext hxx
  refine lq rfl (q_notP rfl rfl) ?_
  refine la (v := B (decide (¬ (formedN (nth a.Nodes i))))) rfl rfl rfl ?_
  exact ⟨y8, y9, y12, rfl, hS84⟩
 clear y1 y12 y2 y65 y66 y67 y68 y8 y9
 rintro f86 H86 ⟨y8, y9, y12, y86, hS86⟩
 refine wpF_condP y86 (fun h86 => ?t105) (fun h86 => ?e105)
 case t105 =>
  refine fcr (fun f H => f 6 = I (0) ∧ f 7 = I (5) ∧ H86 = H) ?_ ?_
  ·refine la (v := I (0)) rfl rfl rfl ?_
   refine la (v := I (5)) rfl rfl rfl ?_
   exact ⟨rfl, rfl, rfl⟩
  clear y12 y8 y86 y9
  rintro f88 _ ⟨y6, y7, rfl⟩
  refine wpF_ret ?_
  refine ⟨_, resT y6 (resT y7 resN), hS86.frame, ?_⟩
  show (Value.tuple #[I (0), I (5)]) = Value.tuple #[I (nodeF a i S).1, I (nodeF a i S).2]
  have hq : nodeF a i S = _ := nodeF_form h28 hF h63 (kids_no hno (by omega)) (by simpa using h86)
  rw [hq]
 refine fcr (fun f H => f 8 = PT g7 0 ∧ f 9 = PT g19 0 ∧ f 12 = vo ∧ f 90 = B (!(numsB (nth a.Nodes i))) ∧ St H0 NoB NoB [rowE 3 vo (kidS S (nth a.Nodes i).Kids : List Int), bE g19 #[SB ((declOf a (nth a.Nodes i)).Name), vA, I ((declOf a (nth a.Nodes i)).Srt)] 43, bE g7 #[I ((nth a.Nodes i).Op), u5n1, I ((nth a.Nodes i).N), I ((nth a.Nodes i).D), SB ((nth a.Nodes i).Name)] 37, rdE vA ((declOf a (nth a.Nodes i)).Args), rdE u5n1 ((nth a.Nodes i).Kids), rdE vD a.Decls, rdE vN a.Nodes, rdE vH a.Hold, rdE vS S, bE g1 #[vD, vN, vH] 26] H) ?_ ?_
 ·refine lq rfl (q_loadBlkA rfl y8 Try.isAgg37 Try.sizeOf37 rfl (hS86.blk 2 rfl) (fun h => h)) ?_
  refine lo rfl ?_
  refine e_call rfl Try.call38 (arr1 (v0 := Vg #[I ((nth a.Nodes i).Op), u5n1, I ((nth a.Nodes i).N), I ((nth a.Nodes i).D), SB ((nth a.Nodes i).Name)]) rfl) (numbers_L u5n1 (nth a.Nodes i) (by first | assumption | (constructor <;> omega)) (hS86.rdN 4 rfl) (by first | assumption | (constructor <;> omega)) (by first | assumption | (constructor <;> omega)) (by first | assumption | exact Nat.zero_le _) ) ?_
  rintro _ H89 ⟨hxx, rfl⟩
  have hS90 := hS86.ext hxx
  refine lq rfl (q_not rfl rfl) ?_
  refine la (v := B (!(numsB (nth a.Nodes i)))) rfl rfl rfl ?_
  exact ⟨y8, y9, y12, rfl, hS90⟩
 clear y12 y8 y86 y9
 rintro f92 H92 ⟨y8, y9, y12, y90, hS92⟩
 refine wpF_cond y90 (fun h90 => ?t104) (fun h90 => ?e104)
 case t104 =>
  refine fcr (fun f H => f 6 = I (0) ∧ f 7 = I (3) ∧ H92 = H) ?_ ?_
  ·refine la (v := I (0)) rfl rfl rfl ?_
   refine la (v := I (3)) rfl rfl rfl ?_
   exact ⟨rfl, rfl, rfl⟩
  clear y12 y8 y9 y90
  rintro f94 _ ⟨y6, y7, rfl⟩
  refine wpF_ret ?_
  refine ⟨_, resT y6 (resT y7 resN), hS92.frame, ?_⟩
  show (Value.tuple #[I (0), I (3)]) = Value.tuple #[I (nodeF a i S).1, I (nodeF a i S).2]
  have hq : nodeF a i S = _ := nodeF_num h28 hF h63 (kids_no hno (by omega)) (Decidable.of_not_not h86) (by simpa using h90)
  rw [hq]
 refine wpF_skip ?_
 refine fcr (fun f H => f 15 = I (((sortN (nth a.Nodes i) (kidS S (nth a.Nodes i).Kids) (declOf a (nth a.Nodes i))))) ∧ St H0 NoB NoB [rowE 3 vo (kidS S (nth a.Nodes i).Kids : List Int), bE g19 #[SB ((declOf a (nth a.Nodes i)).Name), vA, I ((declOf a (nth a.Nodes i)).Srt)] 43, bE g7 #[I ((nth a.Nodes i).Op), u5n1, I ((nth a.Nodes i).N), I ((nth a.Nodes i).D), SB ((nth a.Nodes i).Name)] 37, rdE vA ((declOf a (nth a.Nodes i)).Args), rdE u5n1 ((nth a.Nodes i).Kids), rdE vD a.Decls, rdE vN a.Nodes, rdE vH a.Hold, rdE vS S, bE g1 #[vD, vN, vH] 26] H) ?_ ?_
 ·refine lq rfl (q_loadBlkA rfl y8 Try.isAgg37 Try.sizeOf37 rfl (hS92.blk 2 rfl) (fun h => h)) ?_
  refine lm (v := vo) rfl rfl y12 ?_
  refine lq rfl (q_loadBlkA rfl y9 Try.isAgg43 Try.sizeOf43 rfl (hS92.blk 1 rfl) (fun h => h)) ?_
  refine lo rfl ?_
  refine e_call rfl Try.call39 (arr3 (v0 := Vg #[I ((nth a.Nodes i).Op), u5n1, I ((nth a.Nodes i).N), I ((nth a.Nodes i).D), SB ((nth a.Nodes i).Name)]) (v1 := vo) (v2 := Vg #[SB ((declOf a (nth a.Nodes i)).Name), vA, I ((declOf a (nth a.Nodes i)).Srt)]) rfl rfl rfl) (Sort_L u5n1 vo vA (nth a.Nodes i) (kidS S (nth a.Nodes i).Kids) (declOf a (nth a.Nodes i)) (by first | assumption | (constructor <;> omega)) (hS92.rdN 4 rfl) (by first | assumption | (constructor <;> omega)) (by first | assumption | (constructor <;> omega)) (by first | assumption | exact Nat.zero_le _) (hS92.rowN 0 rfl) (by first | assumption | exact Nat.zero_le _) (hS92.rdN 3 rfl) (by first | assumption | (constructor <;> omega)) (sort_len h63) (sort_D h90)) ?_
  rintro _ H95 ⟨hxx, rfl⟩
  have hS96 := hS92.ext hxx
  refine la (v := I (((sortN (nth a.Nodes i) (kidS S (nth a.Nodes i).Kids) (declOf a (nth a.Nodes i)))))) rfl rfl rfl ?_
  exact ⟨rfl, hS96⟩
 clear y12 y8 y9 y90
 rintro f98 H98 ⟨y15, hS98⟩
 refine wpF_seq ?_
 refine fcr (fun f H => f 15 = I (((sortN (nth a.Nodes i) (kidS S (nth a.Nodes i).Kids) (declOf a (nth a.Nodes i))))) ∧ f 99 = B (decide (((sortN (nth a.Nodes i) (kidS S (nth a.Nodes i).Kids) (declOf a (nth a.Nodes i)))) = 0)) ∧ H98 = H) ?_ ?_
 ·refine lm (v := I (((sortN (nth a.Nodes i) (kidS S (nth a.Nodes i).Kids) (declOf a (nth a.Nodes i)))))) rfl rfl y15 ?_
  refine lq rfl (q_eql rfl rfl rfl) ?_
  exact ⟨y15, rfl, rfl⟩
 clear y15
 rintro f99 _ ⟨y15, y99, rfl⟩
 refine wpF_condP y99 (fun h99 => ?t103) (fun h99 => ?e103)
 case t103 =>
  refine fcr (fun f H => f 6 = I (0) ∧ f 7 = I (8) ∧ H98 = H) ?_ ?_
  ·refine la (v := I (0)) rfl rfl rfl ?_
   refine la (v := I (8)) rfl rfl rfl ?_
   exact ⟨rfl, rfl, rfl⟩
  clear y15 y99
  rintro f101 _ ⟨y6, y7, rfl⟩
  refine wpF_ret ?_
  refine ⟨_, resT y6 (resT y7 resN), hS98.frame, ?_⟩
  show (Value.tuple #[I (0), I (8)]) = Value.tuple #[I (nodeF a i S).1, I (nodeF a i S).2]
  have hq : nodeF a i S = _ := nodeF_sort h28 hF h63 (kids_no hno (by omega)) (Decidable.of_not_not h86) h90 h99
  rw [hq]
 refine wpF_skip ?_
 refine fcr (fun f H => f 6 = I (((sortN (nth a.Nodes i) (kidS S (nth a.Nodes i).Kids) (declOf a (nth a.Nodes i))))) ∧ f 7 = I (0) ∧ H98 = H) ?_ ?_
 ·refine lm (v := I (((sortN (nth a.Nodes i) (kidS S (nth a.Nodes i).Kids) (declOf a (nth a.Nodes i)))))) rfl rfl y15 ?_
  refine la (v := I (((sortN (nth a.Nodes i) (kidS S (nth a.Nodes i).Kids) (declOf a (nth a.Nodes i)))))) rfl rfl rfl ?_
  refine la (v := I (0)) rfl rfl rfl ?_
  exact ⟨rfl, rfl, rfl⟩
 clear y15 y99
 rintro f102 _ ⟨y6, y7, rfl⟩
 refine wpF_ret ?_
 refine ⟨_, resT y6 (resT y7 resN), hS98.frame, ?_⟩
 show (Value.tuple #[I (((sortN (nth a.Nodes i) (kidS S (nth a.Nodes i).Kids) (declOf a (nth a.Nodes i))))), I (0)]) = Value.tuple #[I (nodeF a i S).1, I (nodeF a i S).2]
 have hq : nodeF a i S = _ := nodeF_ok h28 hF h63 (kids_no hno (by omega)) (Decidable.of_not_not h86) h90 h99
 rw [hq]
end Go.Um
