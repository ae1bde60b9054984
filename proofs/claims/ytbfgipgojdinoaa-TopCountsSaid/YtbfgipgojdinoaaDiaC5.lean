import Derived.Test.YtbfgipgojdinoaaProg
import Derived.Test.YtbfgipgojdinoaaDiaC4
import Derived.Test.YtbfgipgojdinoaaUmTopCountsC
namespace Go.Um
open Go.Proofs
open GoT (sz ag rdc)
open KeyT (kv)
theorem el_Bool_4_DiaC5 : ElT Try.prog Bool 4 := ⟨Try.isAgg4, Try.sizeOf4⟩
theorem el_Chc_125_DiaC5 : ElT Try.prog Chc 125 := ⟨Try.isAgg125, Try.sizeOf125⟩
set_option maxHeartbeats 4000000 in
set_option maxRecDepth 100000 in
theorem visit_D : ∀ (nn : Nat) {H0 : Heap} (S : Nat → Prop) (gdn gd gvi gnx : Nat) (vdn vx : Value) (ch : List Cho) (rt N i nx n r : Nat) (_hg : Given S [rowE 4 vdn (doneL (ch.length + 2) nx : List Bool), bE gdn #[vdn] 31, bE gnx #[I (((nx : Nat) : Int))] 3, bE gd #[vx, I ((rt : Int))] 51, blkE gvi (.cells #[Value.func (.func 83) #[] #[PT gdn 0, PT gd 0, PT gvi 0, PT gnx 0]] 108)] H0) (_rx : Rd S H0 vx (chI ch)) (_hW : WFc N ch) (_hil : i < ch.length + 2) (_hnx : 2 ≤ nx) (_hv : visF ch n i nx = some r) (_hn : i = nn), CallsH Try.prog 83 #[I ((i : Int)), PT gdn 0, PT gd 0, PT gvi 0, PT gnx 0] H0 (fun rv_ H' => Ext (own [rowE 4 vdn (doneL (ch.length + 2) nx : List Bool), bE gdn #[vdn] 31, bE gnx #[I (((nx : Nat) : Int))] 3, bE gd #[vx, I ((rt : Int))] 51, blkE gvi (.cells #[Value.func (.func 83) #[] #[PT gdn 0, PT gd 0, PT gvi 0, PT gnx 0]] 108)]) H0 H' ∧ rv_ = B true ∧ Gone S [rowE 4 vdn (doneL (ch.length + 2) nx : List Bool), bE gdn #[vdn] 31, bE gnx #[I (((nx : Nat) : Int))] 3, bE gd #[vx, I ((rt : Int))] 51, blkE gvi (.cells #[Value.func (.func 83) #[] #[PT gdn 0, PT gd 0, PT gvi 0, PT gnx 0]] 108)] [rowE 4 vdn (doneL (ch.length + 2) r : List Bool), bE gdn #[vdn] 31, bE gnx #[I (((r : Nat) : Int))] 3, bE gd #[vx, I ((rt : Int))] 51, blkE gvi (.cells #[Value.func (.func 83) #[] #[PT gdn 0, PT gd 0, PT gvi 0, PT gnx 0]] 108)] H0 H') := by
 intro nn
 induction nn using Nat.strongRecOn with
 | _ nn ih =>
 intro H0 S gdn gd gvi gnx vdn vx ch rt N i nx n r hg rx hW hil hnx hv hnn
 have hS0 : St H0 (own [rowE 4 vdn (doneL (ch.length + 2) nx : List Bool), bE gdn #[vdn] 31, bE gnx #[I (((nx : Nat) : Int))] 3, bE gd #[vx, I ((rt : Int))] 51, blkE gvi (.cells #[Value.func (.func 83) #[] #[PT gdn 0, PT gd 0, PT gvi 0, PT gnx 0]] 108)]) (fun b => S b ∧ ¬ own [rowE 4 vdn (doneL (ch.length + 2) nx : List Bool), bE gdn #[vdn] 31, bE gnx #[I (((nx : Nat) : Int))] 3, bE gd #[vx, I ((rt : Int))] 51, blkE gvi (.cells #[Value.func (.func 83) #[] #[PT gdn 0, PT gd 0, PT gvi 0, PT gnx 0]] 108)] b) [rdE vx (chI ch), rowE 4 vdn (doneL (ch.length + 2) nx : List Bool), bE gdn #[vdn] 31, bE gnx #[I (((nx : Nat) : Int))] 3, bE gd #[vx, I ((rt : Int))] 51, blkE gvi (.cells #[Value.func (.func 83) #[] #[PT gdn 0, PT gd 0, PT gvi 0, PT gnx 0]] 108)] H0 := (hg.st.rdG rx fun b hb => hg.sub hb)
 have hsm := (Rd.list.1 rx).bound
 have hb24 : GoT.bytes Chc = 24 := rfl
 have hcl := chI_len (ch := ch)
 rw [hb24] at hsm
 have hdl := doneL_len (len := ch.length + 2) (nx := nx)
 refine callsH_of_wpF (args := [I ((i : Int)), PT gdn 0, PT gd 0, PT gvi 0, PT gnx 0]) (rs := [.tmp 6]) Try.func83 rfl Try.ntmps83 Try.results83 (by kernel_rfl) (Nat.le_of_ble_eq_true rfl) ?_
 have y0 : argF [I ((i : Int)), PT gdn 0, PT gd 0, PT gvi 0, PT gnx 0] 0 = I ((i : Int)) := rfl
 have y1 : argF [I ((i : Int)), PT gdn 0, PT gd 0, PT gvi 0, PT gnx 0] 1 = PT gdn 0 := rfl
 have y2 : argF [I ((i : Int)), PT gdn 0, PT gd 0, PT gvi 0, PT gnx 0] 2 = PT gd 0 := rfl
 have y3 : argF [I ((i : Int)), PT gdn 0, PT gd 0, PT gvi 0, PT gnx 0] 3 = PT gvi 0 := rfl
 have y4 : argF [I ((i : Int)), PT gdn 0, PT gd 0, PT gvi 0, PT gnx 0] 4 = PT gnx 0 := rfl
 generalize argF [I ((i : Int)), PT gdn 0, PT gd 0, PT gvi 0, PT gnx 0] = f0 at *
 refine wpF_seq ?_
 refine wpF_region ?_
 refine la (v := B (false)) rfl rfl rfl ?_
 refine wpL_nil ?_
 refine wpF_seq ?_
 refine fcr (fun f H => f 0 = I ((i : Int)) ∧ f 1 = PT gdn 0 ∧ f 2 = PT gd 0 ∧ f 3 = PT gvi 0 ∧ f 4 = PT gnx 0 ∧ f 15 = B (decide (((i : Int) < 2) ∨ ((nth (doneL (ch.length + 2) nx) i) = true))) ∧ H0 = H) ?_ ?_
 ·refine lm (v := I ((i : Int))) rfl rfl y0 ?_
  refine lq rfl (q_lss rfl rfl rfl) ?_
  refine lm (v := B (decide ((i : Int) < 2))) rfl rfl rfl ?_
  by_cases hg1 : (i : Int) < 2
  ·have hb2 := Eq.trans rfl (congrArg B (decide_eq_true hg1))
   refine wpL_gs rfl rfl rfl hb2 rfl ?_
   refine wpL_gs rfl rfl rfl hb2 rfl ?_
   refine wpL_gs rfl rfl rfl hb2 rfl ?_
   refine wpL_gs rfl rfl rfl hb2 rfl ?_
   refine lq rfl (q_pickT (v := B (true)) rfl hb2 rfl) ?_
   exact ⟨y0, y1, y2, y3, y4, (Eq.trans rfl (congrArg B ((decide_eq_true (Or.inl hg1)).symm))), rfl⟩
  ·have hb3 := Eq.trans rfl (congrArg B (decide_eq_false hg1))
   refine gq rfl rfl rfl hb3 (q_loadBlk rfl y1 Try.isAgg31 (hS0.blk 2 rfl) rfl (fun h => h)) ?_
   refine gq rfl rfl rfl hb3 (q_move (v := I ((i : Int))) rfl y0) ?_
   refine gq rfl rfl rfl hb3 (q_indexRd (k := i) rfl Try.underlying31 el_Bool_4_DiaC5 rfl rfl (hS0.rowl 1 rfl) (by omega) (by omega)) ?_
   refine gq rfl rfl rfl hb3 (q_loadBool (k := i) rfl rfl el_Bool_4_DiaC5 (hS0.rowl 1 rfl) (by omega) (fun _ h => h)) ?_
   refine lq rfl (q_pickF (v := B (nth (doneL (ch.length + 2) nx) i)) rfl hb3 rfl) ?_
   exact ⟨y0, y1, y2, y3, y4, (Eq.trans rfl (congrArg B (bool_congr_of ((Iff.rfl).trans (((or_iff_right hg1).trans Iff.rfl)).symm)))), rfl⟩
 clear y0 y1 y2 y3 y4
 rintro f4 _ ⟨y0, y1, y2, y3, y4, y15, rfl⟩
 refine wpF_condP y15 (fun h15 => ?t28) (fun h15 => ?e28)
 case t28 =>
  refine wpF_seq ?_
  refine wpF_region ?_
  refine la (v := B (true)) rfl rfl rfl ?_
  refine wpL_nil ?_
  refine wpF_ret ?_
  refine ⟨_, resT rfl resN, hS0.frameM, ?_⟩
  show (B (true)) = B true ∧ Gone S [rowE 4 vdn (doneL (ch.length + 2) nx : List Bool), bE gdn #[vdn] 31, bE gnx #[I (((nx : Nat) : Int))] 3, bE gd #[vx, I ((rt : Int))] 51, blkE gvi (.cells #[Value.func (.func 83) #[] #[PT gdn 0, PT gd 0, PT gvi 0, PT gnx 0]] 108)] [rowE 4 vdn (doneL (ch.length + 2) r : List Bool), bE gdn #[vdn] 31, bE gnx #[I (((r : Nat) : Int))] 3, bE gd #[vx, I ((rt : Int))] 51, blkE gvi (.cells #[Value.func (.func 83) #[] #[PT gdn 0, PT gd 0, PT gvi 0, PT gnx 0]] 108)] H0 H0
  have hr_ : nx = r := (vis_stop hv (vis_or (by omega) h15)).symm
  subst hr_
  have hL : St H0 (own [rowE 4 vdn (doneL (ch.length + 2) nx : List Bool), bE gdn #[vdn] 31, bE gnx #[I (((nx : Nat) : Int))] 3, bE gd #[vx, I ((rt : Int))] 51, blkE gvi (.cells #[Value.func (.func 83) #[] #[PT gdn 0, PT gd 0, PT gvi 0, PT gnx 0]] 108)]) (fun b => S b ∧ ¬ own [rowE 4 vdn (doneL (ch.length + 2) nx : List Bool), bE gdn #[vdn] 31, bE gnx #[I (((nx : Nat) : Int))] 3, bE gd #[vx, I ((rt : Int))] 51, blkE gvi (.cells #[Value.func (.func 83) #[] #[PT gdn 0, PT gd 0, PT gvi 0, PT gnx 0]] 108)] b) [rowE 4 vdn (doneL (ch.length + 2) nx : List Bool), bE gdn #[vdn] 31, bE gnx #[I (((nx : Nat) : Int))] 3, bE gd #[vx, I ((rt : Int))] 51, blkE gvi (.cells #[Value.func (.func 83) #[] #[PT gdn 0, PT gd 0, PT gvi 0, PT gnx 0]] 108)] H0 := (hS0.drop (sn (sk (sk (sk (sk (sk (List.Sublist.slnil))))))))
  exact ⟨rfl, St.leave3 hL⟩
 have hno : ¬ (i < 2 ∨ i < nx) := vis_nor (by omega) h15
 obtain ⟨m, n1, hv1, hv2, hr2⟩ := vis_step hv hno
 have hck := hW.each (i - 2) (by omega)
 have hlo : (nth ch (i - 2)).2.1 < i := by have := hck.lo; omega
 have hhi : (nth ch (i - 2)).2.2 < i := by have := hck.hi; omega
 have hti : ((i : Int) - 2).toNat = i - 2 := by omega
 obtain ⟨he1, he2, he3⟩ : (nth (chI ch) ((i : Int) - 2).toNat).Var = ((nth ch (i - 2)).1 : Int) ∧ (nth (chI ch) ((i : Int) - 2).toNat).Low = ((nth ch (i - 2)).2.1 : Int) ∧ (nth (chI ch) ((i : Int) - 2).toNat).High = ((nth ch (i - 2)).2.2 : Int) := by rw [hti]; exact chI_at (by omega)
 have hle1 := vis_le hv1
 have hdli := doneL_len (len := ch.length + 2) (nx := i)
 refine wpF_skip ?_
 refine wpF_seq ?_
 refine wpF_region ?_
 refine lq rfl (q_fieldAddr rfl Try.underlying51 rfl Try.sizeOf49 y2) ?_
 refine lq rfl (q_loadBlk rfl rfl Try.isAgg49 (hS0.blk 4 rfl) rfl (fun h => h)) ?_
 refine lm (v := I ((i : Int))) rfl rfl y0 ?_
 refine lq rfl (q_sub rfl rfl rfl (by constructor <;> omega)) ?_
 refine lq rfl (q_indexRd (k := ((i : Int) - 2).toNat) rfl Try.underlying49 el_Chc_125_DiaC5 rfl rfl (hS0.rdl 0 rfl) (by omega) (by omega)) ?_
 obtain ⟨u6, huu6, hlu6⟩ := (Rd.list.1 (hS0.rdS 0 rfl)).elem (((i : Int) - 2).toNat) (by omega)
 obtain ⟨rfl, hu60, hu61, hu62⟩ := Rd.chc.1 huu6
 refine lq rfl (q_loadE rfl rfl (hlu6 Try.prog 125 _ el_Chc_125_DiaC5 (fun _ h => False.elim h))) ?_
 refine lo rfl ?_
 refine e_alloc rfl Try.zeroValue125 hS0 (fun g7 H8 hS9 hxx => ?_)
 refine lo rfl ?_
 refine e_storeBlkA (cs' := #[I ((nth (chI ch) (((i : Int) - 2).toNat)).Var), I ((nth (chI ch) (((i : Int) - 2).toNat)).Low), I ((nth (chI ch) (((i : Int) - 2).toNat)).High)]) rfl rfl rfl Try.sizeOf125 rfl rfl (fa rfl (fa rfl (fa rfl fe))) hS9 (fun H10 hS11 hxx => ?_)
 refine wpL_nil ?_
 refine wpF_seq ?_
 refine wpF_seq ?_
 refine wpF_region ?_
 refine lq rfl (q_loadBlk rfl y3 Try.isAgg108 (hS11.blk 6 rfl) rfl (fun h => h)) ?_
 refine lq rfl (q_fieldAddr rfl Try.underlying125 rfl Try.sizeOf3 rfl) ?_
 refine lq rfl (q_loadBlk rfl rfl Try.isAgg3 (hS11.blk 0 rfl) rfl (fun h => h)) ?_
 have hS12 := (St.drop (show St H0 (own [rowE 4 vdn (doneL (ch.length + 2) nx : List Bool), bE gdn #[vdn] 31, bE gnx #[I (((nx : Nat) : Int))] 3, bE gd #[vx, I ((rt : Int))] 51, blkE gvi (.cells #[Value.func (.func 83) #[] #[PT gdn 0, PT gd 0, PT gvi 0, PT gnx 0]] 108)]) (fun b => S b ∧ ¬ own [rowE 4 vdn (doneL (ch.length + 2) nx : List Bool), bE gdn #[vdn] 31, bE gnx #[I (((nx : Nat) : Int))] 3, bE gd #[vx, I ((rt : Int))] 51, blkE gvi (.cells #[Value.func (.func 83) #[] #[PT gdn 0, PT gd 0, PT gvi 0, PT gnx 0]] 108)] b) [rowE 4 vdn (doneL (ch.length + 2) nx : List Bool), bE gdn #[vdn] 31, bE gnx #[I (((nx : Nat) : Int))] 3, bE gd #[vx, I ((rt : Int))] 51, blkE gvi (.cells #[Value.func (.func 83) #[] #[PT gdn 0, PT gd 0, PT gvi 0, PT gnx 0]] 108), bE g7 #[I ((nth (chI ch) (((i : Int) - 2).toNat)).Var), I ((nth (chI ch) (((i : Int) - 2).toNat)).Low), I ((nth (chI ch) (((i : Int) - 2).toNat)).High)] 125, rdE vx (chI ch)] H10 from (((((hS11.front 6 rfl).front 6 rfl).front 6 rfl).front 6 rfl).front 6 rfl)) (sk (sk (sk (sk (sk (sk (sk (List.Sublist.slnil)))))))))
 refine lo rfl ?_
 refine e_callV rfl rfl Try.call83 (arr1 (v0 := I ((nth (chI ch) (((i : Int) - 2).toNat)).Low)) rfl) ((by have h__ := ih _ (hnn ▸ hlo) _ gdn gd gvi gnx vdn vx ch rt N ((nth ch (i - 2)).2.1) nx m n1 (St.give (A := [rowE 4 vdn (doneL (ch.length + 2) nx : List Bool), bE gdn #[vdn] 31, bE gnx #[I (((nx : Nat) : Int))] 3, bE gd #[vx, I ((rt : Int))] 51, blkE gvi (.cells #[Value.func (.func 83) #[] #[PT gdn 0, PT gd 0, PT gvi 0, PT gnx 0]] 108)]) (L := [bE g7 #[I ((nth (chI ch) (((i : Int) - 2).toNat)).Var), I ((nth (chI ch) (((i : Int) - 2).toNat)).Low), I ((nth (chI ch) (((i : Int) - 2).toNat)).High)] 125, rdE vx (chI ch)]) hS12) (hS12.rdS 6 rfl) hW (by omega) (by omega) hv1 rfl; rw [show (((nth ch (i - 2)).2.1 : Nat) : Int) = _ from he2.symm] at h__; exact h__)) ?_
 rintro _ H13 ⟨hxx, rfl, hgo⟩
 have hS14 : St H0 (own [rowE 4 vdn (doneL (ch.length + 2) nx : List Bool), bE gdn #[vdn] 31, bE gnx #[I (((nx : Nat) : Int))] 3, bE gd #[vx, I ((rt : Int))] 51, blkE gvi (.cells #[Value.func (.func 83) #[] #[PT gdn 0, PT gd 0, PT gvi 0, PT gnx 0]] 108)]) (fun b => S b ∧ ¬ own [rowE 4 vdn (doneL (ch.length + 2) nx : List Bool), bE gdn #[vdn] 31, bE gnx #[I (((nx : Nat) : Int))] 3, bE gd #[vx, I ((rt : Int))] 51, blkE gvi (.cells #[Value.func (.func 83) #[] #[PT gdn 0, PT gd 0, PT gvi 0, PT gnx 0]] 108)] b) [rowE 4 vdn (doneL (ch.length + 2) n1 : List Bool), bE gdn #[vdn] 31, bE gnx #[I ((n1 : Int))] 3, bE gd #[vx, I ((rt : Int))] 51, blkE gvi (.cells #[Value.func (.func 83) #[] #[PT gdn 0, PT gd 0, PT gvi 0, PT gnx 0]] 108), bE g7 #[I ((nth (chI ch) (((i : Int) - 2).toNat)).Var), I ((nth (chI ch) (((i : Int) - 2).toNat)).Low), I ((nth (chI ch) (((i : Int) - 2).toNat)).High)] 125, rdE vx (chI ch)] H13 := St.back3 (A := [rowE 4 vdn (doneL (ch.length + 2) nx : List Bool), bE gdn #[vdn] 31, bE gnx #[I (((nx : Nat) : Int))] 3, bE gd #[vx, I ((rt : Int))] 51, blkE gvi (.cells #[Value.func (.func 83) #[] #[PT gdn 0, PT gd 0, PT gvi 0, PT gnx 0]] 108)]) (A' := [rowE 4 vdn (doneL (ch.length + 2) n1 : List Bool), bE gdn #[vdn] 31, bE gnx #[I ((n1 : Int))] 3, bE gd #[vx, I ((rt : Int))] 51, blkE gvi (.cells #[Value.func (.func 83) #[] #[PT gdn 0, PT gd 0, PT gvi 0, PT gnx 0]] 108)]) (L := [bE g7 #[I ((nth (chI ch) (((i : Int) - 2).toNat)).Var), I ((nth (chI ch) (((i : Int) - 2).toNat)).Low), I ((nth (chI ch) (((i : Int) - 2).toNat)).High)] 125, rdE vx (chI ch)]) hS12 hxx hgo
 refine lq rfl (q_not rfl rfl) ?_
 refine lm (v := B (false)) rfl rfl rfl ?_
 refine gq rfl rfl rfl rfl (q_loadBlk rfl y3 Try.isAgg108 (hS14.blk 4 rfl) rfl (fun h => h)) ?_
 refine gq rfl rfl rfl rfl (q_fieldAddr rfl Try.underlying125 rfl Try.sizeOf3 rfl) ?_
 refine gq rfl rfl rfl rfl (q_loadBlk rfl rfl Try.isAgg3 (hS14.blk 5 rfl) rfl (fun h => h)) ?_
 have hS16 := hS14
 refine wpL_go rfl rfl rfl rfl ?_
 refine e_callV rfl rfl Try.call83 (arr1 (v0 := I ((nth (chI ch) (((i : Int) - 2).toNat)).High)) rfl) ((by have h__ := ih _ (hnn ▸ hhi) _ gdn gd gvi gnx vdn vx ch rt N ((nth ch (i - 2)).2.2) n1 m i (St.give (A := [rowE 4 vdn (doneL (ch.length + 2) n1 : List Bool), bE gdn #[vdn] 31, bE gnx #[I ((n1 : Int))] 3, bE gd #[vx, I ((rt : Int))] 51, blkE gvi (.cells #[Value.func (.func 83) #[] #[PT gdn 0, PT gd 0, PT gvi 0, PT gnx 0]] 108)]) (L := [bE g7 #[I ((nth (chI ch) (((i : Int) - 2).toNat)).Var), I ((nth (chI ch) (((i : Int) - 2).toNat)).Low), I ((nth (chI ch) (((i : Int) - 2).toNat)).High)] 125, rdE vx (chI ch)]) hS16) (hS16.rdS 6 rfl) hW (by omega) (by omega) hv2 rfl; rw [show (((nth ch (i - 2)).2.2 : Nat) : Int) = _ from he3.symm] at h__; exact h__)) ?_
 rintro _ H17 ⟨hxx, rfl, hgo⟩
 have hS18 : St H0 (own [rowE 4 vdn (doneL (ch.length + 2) nx : List Bool), bE gdn #[vdn] 31, bE gnx #[I (((nx : Nat) : Int))] 3, bE gd #[vx, I ((rt : Int))] 51, blkE gvi (.cells #[Value.func (.func 83) #[] #[PT gdn 0, PT gd 0, PT gvi 0, PT gnx 0]] 108)]) (fun b => S b ∧ ¬ own [rowE 4 vdn (doneL (ch.length + 2) nx : List Bool), bE gdn #[vdn] 31, bE gnx #[I (((nx : Nat) : Int))] 3, bE gd #[vx, I ((rt : Int))] 51, blkE gvi (.cells #[Value.func (.func 83) #[] #[PT gdn 0, PT gd 0, PT gvi 0, PT gnx 0]] 108)] b) [rowE 4 vdn (doneL (ch.length + 2) i : List Bool), bE gdn #[vdn] 31, bE gnx #[I ((i : Int))] 3, bE gd #[vx, I ((rt : Int))] 51, blkE gvi (.cells #[Value.func (.func 83) #[] #[PT gdn 0, PT gd 0, PT gvi 0, PT gnx 0]] 108), bE g7 #[I ((nth (chI ch) (((i : Int) - 2).toNat)).Var), I ((nth (chI ch) (((i : Int) - 2).toNat)).Low), I ((nth (chI ch) (((i : Int) - 2).toNat)).High)] 125, rdE vx (chI ch)] H17 := St.back3 (A := [rowE 4 vdn (doneL (ch.length + 2) n1 : List Bool), bE gdn #[vdn] 31, bE gnx #[I ((n1 : Int))] 3, bE gd #[vx, I ((rt : Int))] 51, blkE gvi (.cells #[Value.func (.func 83) #[] #[PT gdn 0, PT gd 0, PT gvi 0, PT gnx 0]] 108)]) (A' := [rowE 4 vdn (doneL (ch.length + 2) i : List Bool), bE gdn #[vdn] 31, bE gnx #[I ((i : Int))] 3, bE gd #[vx, I ((rt : Int))] 51, blkE gvi (.cells #[Value.func (.func 83) #[] #[PT gdn 0, PT gd 0, PT gvi 0, PT gnx 0]] 108)]) (L := [bE g7 #[I ((nth (chI ch) (((i : Int) - 2).toNat)).Var), I ((nth (chI ch) (((i : Int) - 2).toNat)).Low), I ((nth (chI ch) (((i : Int) - 2).toNat)).High)] 125, rdE vx (chI ch)]) hS16 hxx hgo
 refine gq rfl rfl rfl rfl (q_not rfl rfl) ?_
 refine lq rfl (q_pickF (v := B (false)) rfl rfl rfl) ?_
 refine lm (v := B (false)) rfl rfl rfl ?_
 refine gq rfl rfl rfl rfl (q_move (v := I ((i : Int))) rfl y0) ?_
 refine gq rfl rfl rfl rfl (q_loadBlk rfl y4 Try.isAgg3 (hS18.blk 2 rfl) rfl (fun h => h)) ?_
 refine gq rfl rfl rfl rfl (q_neq rfl rfl rfl) ?_
 refine lq rfl (q_pickF (v := B (decide ((i : Int) ≠ (i : Int)))) rfl rfl rfl) ?_
 refine wpL_nil ?_
 refine wpF_condP rfl (fun h38 => ?t27) (fun h38 => ?e27)
 case t27 =>
  exact absurd rfl h38
 refine wpF_skip ?_
 refine wpF_seq ?_
 refine wpF_region ?_
 refine lq rfl (q_loadBlk rfl y1 Try.isAgg31 (hS18.blk 1 rfl) rfl (fun h => h)) ?_
 refine lm (v := I ((i : Int))) rfl rfl y0 ?_
 refine lq rfl (q_indexRd (k := i) rfl Try.underlying31 el_Bool_4_DiaC5 rfl rfl (hS18.rowl 0 rfl) (by omega) (by first | omega | (rw [doneL_len]; omega))) ?_
 have hS21 := hS18
 refine lo rfl ?_
 refine e_rowSet (k := i) (u := B (true)) rfl rfl rfl rfl Try.sizeOf4 (by first | (simp; omega) | omega) hS21 (Rd.bool.2 rfl) (fun H22 hS23 hxx => ?_)
 refine wpL_nil ?_
 have hS24 : St H0 (own [rowE 4 vdn (doneL (ch.length + 2) nx : List Bool), bE gdn #[vdn] 31, bE gnx #[I (((nx : Nat) : Int))] 3, bE gd #[vx, I ((rt : Int))] 51, blkE gvi (.cells #[Value.func (.func 83) #[] #[PT gdn 0, PT gd 0, PT gvi 0, PT gnx 0]] 108)]) (fun b => S b ∧ ¬ own [rowE 4 vdn (doneL (ch.length + 2) nx : List Bool), bE gdn #[vdn] 31, bE gnx #[I (((nx : Nat) : Int))] 3, bE gd #[vx, I ((rt : Int))] 51, blkE gvi (.cells #[Value.func (.func 83) #[] #[PT gdn 0, PT gd 0, PT gvi 0, PT gnx 0]] 108)] b) [rowE 4 vdn (doneL (ch.length + 2) (i + 1) : List Bool), bE gdn #[vdn] 31, bE gnx #[I ((i : Int))] 3, bE gd #[vx, I ((rt : Int))] 51, blkE gvi (.cells #[Value.func (.func 83) #[] #[PT gdn 0, PT gd 0, PT gvi 0, PT gnx 0]] 108), bE g7 #[I ((nth (chI ch) (((i : Int) - 2).toNat)).Var), I ((nth (chI ch) (((i : Int) - 2).toNat)).Low), I ((nth (chI ch) (((i : Int) - 2).toNat)).High)] 125, rdE vx (chI ch)] H22 := by have h__ := hS23; rw [doneL_set (by omega) (by omega)] at h__; exact h__
 refine wpF_seq ?_
 refine wpF_region ?_
 refine lq rfl (q_loadBlk rfl y4 Try.isAgg3 (hS24.blk 2 rfl) rfl (fun h => h)) ?_
 refine lq rfl (q_add rfl rfl rfl (by constructor <;> omega)) ?_
 refine lo rfl ?_
 refine e_storeBlk (v := I ((i : Int) + 1)) rfl y4 rfl rfl Try.sizeOf3 (by show _ < 1; decide) (hS24.front 2 rfl) (fun H25 hS26 hxx => ?_)
 refine wpL_nil ?_
 refine wpF_seq ?_
 refine wpF_region ?_
 refine la (v := B (true)) rfl rfl rfl ?_
 refine wpL_nil ?_
 refine wpF_ret ?_
 refine ⟨_, resT rfl resN, hS26.frameM, ?_⟩
 show (B (true)) = B true ∧ Gone S [rowE 4 vdn (doneL (ch.length + 2) nx : List Bool), bE gdn #[vdn] 31, bE gnx #[I (((nx : Nat) : Int))] 3, bE gd #[vx, I ((rt : Int))] 51, blkE gvi (.cells #[Value.func (.func 83) #[] #[PT gdn 0, PT gd 0, PT gvi 0, PT gnx 0]] 108)] [rowE 4 vdn (doneL (ch.length + 2) r : List Bool), bE gdn #[vdn] 31, bE gnx #[I (((r : Nat) : Int))] 3, bE gd #[vx, I ((rt : Int))] 51, blkE gvi (.cells #[Value.func (.func 83) #[] #[PT gdn 0, PT gd 0, PT gvi 0, PT gnx 0]] 108)] H0 H25
 subst hr2
 have hL : St H0 (own [rowE 4 vdn (doneL (ch.length + 2) nx : List Bool), bE gdn #[vdn] 31, bE gnx #[I (((nx : Nat) : Int))] 3, bE gd #[vx, I ((rt : Int))] 51, blkE gvi (.cells #[Value.func (.func 83) #[] #[PT gdn 0, PT gd 0, PT gvi 0, PT gnx 0]] 108)]) (fun b => S b ∧ ¬ own [rowE 4 vdn (doneL (ch.length + 2) nx : List Bool), bE gdn #[vdn] 31, bE gnx #[I (((nx : Nat) : Int))] 3, bE gd #[vx, I ((rt : Int))] 51, blkE gvi (.cells #[Value.func (.func 83) #[] #[PT gdn 0, PT gd 0, PT gvi 0, PT gnx 0]] 108)] b) [rowE 4 vdn (doneL (ch.length + 2) (i + 1) : List Bool), bE gdn #[vdn] 31, bE gnx #[I ((i : Int) + 1)] 3, bE gd #[vx, I ((rt : Int))] 51, blkE gvi (.cells #[Value.func (.func 83) #[] #[PT gdn 0, PT gd 0, PT gvi 0, PT gnx 0]] 108)] H25 := (St.drop (show St H0 (own [rowE 4 vdn (doneL (ch.length + 2) nx : List Bool), bE gdn #[vdn] 31, bE gnx #[I (((nx : Nat) : Int))] 3, bE gd #[vx, I ((rt : Int))] 51, blkE gvi (.cells #[Value.func (.func 83) #[] #[PT gdn 0, PT gd 0, PT gvi 0, PT gnx 0]] 108)]) (fun b => S b ∧ ¬ own [rowE 4 vdn (doneL (ch.length + 2) nx : List Bool), bE gdn #[vdn] 31, bE gnx #[I (((nx : Nat) : Int))] 3, bE gd #[vx, I ((rt : Int))] 51, blkE gvi (.cells #[Value.func (.func 83) #[] #[PT gdn 0, PT gd 0, PT gvi 0, PT gnx 0]] 108)] b) [rowE 4 vdn (doneL (ch.length + 2) (i + 1) : List Bool), bE gdn #[vdn] 31, bE gnx #[I ((i : Int) + 1)] 3, bE gd #[vx, I ((rt : Int))] 51, blkE gvi (.cells #[Value.func (.func 83) #[] #[PT gdn 0, PT gd 0, PT gvi 0, PT gnx 0]] 108), bE g7 #[I ((nth (chI ch) (((i : Int) - 2).toNat)).Var), I ((nth (chI ch) (((i : Int) - 2).toNat)).Low), I ((nth (chI ch) (((i : Int) - 2).toNat)).High)] 125, rdE vx (chI ch)] H25 from ((hS26.front 2 rfl).front 2 rfl)) (sk (sk (sk (sk (sk (sn (sn (List.Sublist.slnil)))))))))
 exact ⟨rfl, St.leave3 hL⟩
end Go.Um
