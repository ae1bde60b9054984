import Derived.Test.YtacphjgolmolmaaProg
import Derived.Test.YtacphjgolmolmaaAskC3
import Derived.Test.YtacphjgolmolmaaUmArrDownC
namespace Go.Um
open Go.Proofs
open GoT (sz ag rdc)
open KeyT (kv)
theorem el_Int_3_ArrC1 : ElT Try.prog Int 3 := ⟨Try.isAgg3, Try.sizeOf3⟩
theorem el_Node_37_ArrC1 : ElT Try.prog Node 37 := ⟨Try.isAgg37, Try.sizeOf37⟩
theorem em_Node_37_ArrC1 : ElemOk Try.prog Node 37 := ⟨Try.t37, (.agg #[(.int .i64 0), (.slice none 0 0), (.int .i64 0), (.int .i64 0), (.string (ByteArray.mk #[]))]), by kernel_rfl, by kernel_rfl, by kernel_rfl, by kernel_rfl, by kernel_rfl⟩
set_option maxRecDepth 100000 in
theorem put_M {H0 : Heap} (S : Nat → Prop) (g : Nat) (vd ve vh vn vt vk : Value) (N : List Node) (n : Node) (hg : Given S [rowE 37 vn (N : List Node), bE g #[vd, ve, vh, vn, vt] 57] H0) (h6nOp : In64 n.Op) (rvk : Rd S H0 vk n.Kids) (h6nN : In64 n.N) (h6nD : In64 n.D) (h6nName : n.Name.size ≤ maxLen) (hN : N.length ≤ 1000000) : CallsH Try.prog 19 #[PT g 0, Vg #[I (n.Op), vk, I (n.N), I (n.D), SB (n.Name)]] H0 (fun rv_ H' => Ext (own [rowE 37 vn (N : List Node), bE g #[vd, ve, vh, vn, vt] 57]) H0 H' ∧ ∃ vn_, rv_ = I (N.length : Int) ∧ Gone S [rowE 37 vn (N : List Node), bE g #[vd, ve, vh, vn, vt] 57] [rowE 37 vn_ (N ++ [n] : List Node), bE g #[vd, ve, vh, vn_, vt] 57] H0 H') := by
 have hS0 : St H0 (own [rowE 37 vn (N : List Node), bE g #[vd, ve, vh, vn, vt] 57]) (fun b => S b ∧ ¬ own [rowE 37 vn (N : List Node), bE g #[vd, ve, vh, vn, vt] 57] b) [rdE vk n.Kids, rowE 37 vn (N : List Node), bE g #[vd, ve, vh, vn, vt] 57] H0 := (hg.st.rdG rvk fun b hb => hg.sub hb)
 refine callsH_of_wpF (args := [PT g 0, Vg #[I (n.Op), vk, I (n.N), I (n.D), SB (n.Name)]]) (rs := [.tmp 4]) Try.func19 rfl Try.ntmps19 Try.results19 (by kernel_rfl) (Nat.le_of_ble_eq_true rfl) ?_
 have y0 : argF [PT g 0, Vg #[I (n.Op), vk, I (n.N), I (n.D), SB (n.Name)]] 0 = PT g 0 := rfl
 have y1 : argF [PT g 0, Vg #[I (n.Op), vk, I (n.N), I (n.D), SB (n.Name)]] 1 = Vg #[I (n.Op), vk, I (n.N), I (n.D), SB (n.Name)] := rfl
 generalize argF [PT g 0, Vg #[I (n.Op), vk, I (n.N), I (n.D), SB (n.Name)]] = f0 at *
 refine fcr (fun f H => ∃ (g1 : Nat), f 0 = PT g 0 ∧ f 3 = PT g1 0 ∧ St H0 (own [rowE 37 vn (N : List Node), bE g #[vd, ve, vh, vn, vt] 57]) (fun b => S b ∧ ¬ own [rowE 37 vn (N : List Node), bE g #[vd, ve, vh, vn, vt] 57] b) [bE g1 #[I (n.Op), vk, I (n.N), I (n.D), SB (n.Name)] 37, rdE vk n.Kids, rowE 37 vn (N : List Node), bE g #[vd, ve, vh, vn, vt] 57] H) ?_ ?_
 ·refine lo rfl ?_
  refine e_box (v := Vg #[I (n.Op), vk, I (n.N), I (n.D), SB (n.Name)]) rfl y1 hS0 (fun g1 H2 hS3 hxx => ?_)
  refine la (v := I (0)) rfl rfl rfl ?_
  exact ⟨g1, y0, rfl, hS3⟩
 clear y0 y1
 rintro f4 H4 ⟨g1, y0, y3, hS4⟩
 refine sc (fun f H => ∃ (v5o7 : Value), f 0 = PT g 0 ∧ St H0 (own [rowE 37 vn (N : List Node), bE g #[vd, ve, vh, vn, vt] 57]) (fun b => S b ∧ ¬ own [rowE 37 vn (N : List Node), bE g #[vd, ve, vh, vn, vt] 57] b) [bE g #[vd, ve, vh, v5o7, vt] 57, rowE 37 v5o7 (N ++ ([n]) : List Node), bE g1 #[I (n.Op), vk, I (n.N), I (n.D), SB (n.Name)] 37, rdE vk n.Kids] H) ?_ ?_
 ·refine wpF_drawn [none, none, none, none, none, none, none, some 0, none, none, some 1] [[0], [], [], [], [], [], [], [], [], [], []] (fun l b => match l with | 0 => rowB vn b | 1 => True | _ => False) (by kernel_rfl) (by kernel_rfl) ?_
  refine rq 0 (by kernel_rfl) rfl rfl (q_move (v := PT g 0) rfl y0) ?_
  refine rq 1 (by kernel_rfl) rfl rfl (q_move (v := PT g 0) rfl y0) ?_
  refine rq 2 (by kernel_rfl) rfl rfl (q_nilCheck rfl rfl) ?_
  refine rq 3 (by kernel_rfl) rfl rfl (q_fieldAddr rfl Try.underlying57 rfl Try.sizeOf23 rfl) ?_
  refine rq 4 (by kernel_rfl) rfl rfl (q_loadBlk rfl rfl Try.isAgg23 (hS4.blk 3 rfl) rfl (labU_not [] rfl (fe))) ?_
  refine rq 5 (by kernel_rfl) rfl rfl (q_loadBlkA rfl y3 Try.isAgg37 Try.sizeOf37 rfl (hS4.blk 0 rfl) (labU_not [] rfl (fe))) ?_
  refine wpR_n [6] (by kernel_rfl) ?_
  refine fa ?_ fe
  refine exE rfl rfl ?_
  refine e_buildSlice (vs := [Vg #[I (n.Op), vk, I (n.N), I (n.D), SB (n.Name)]]) (xs := ([n] : List Node)) rfl Try.underlying23 Try.zeroValue37 rfl Try.sizeOf37 (par1 (v0 := Vg #[I (n.Op), vk, I (n.N), I (n.D), SB (n.Name)]) rfl) rfl hS4 (RdVs.cons (Rd.node.2 ⟨_, rfl, (by first | assumption | (constructor <;> (try dsimp only) <;> omega)), (hS4.rdS 1 rfl), (by first | assumption | (constructor <;> (try dsimp only) <;> omega)), (by first | assumption | (constructor <;> (try dsimp only) <;> omega)), (by first | assumption | exact Nat.zero_le _ | exact Nat.le_of_ble_eq_true rfl)⟩) (RdVs.nil)) (by decide) (by decide) (fun v5o6 H5o6 hS5o6 hxx hvv5o6 => ?_)
  refine ⟨Ext.mono hxx (fun _ h => h.elim), ?_⟩
  refine wpR_n [7] (by kernel_rfl) ?_
  refine fa ?_ fe
  have hS5o7 : St H0 (own [rowE 37 vn (N : List Node), bE g #[vd, ve, vh, vn, vt] 57]) (fun b => S b ∧ ¬ own [rowE 37 vn (N : List Node), bE g #[vd, ve, vh, vn, vt] 57] b) [rdE v5o6 ([n] : List Node), bE g1 #[I (n.Op), vk, I (n.N), I (n.D), SB (n.Name)] 37, rdE vk n.Kids, rowE 37 vn (N : List Node), bE g #[vd, ve, vh, vn, vt] 57] H5o6 := St.fin hS5o6
  have hS5o7x2 := (hS5o7.front 3 rfl)
  refine exE rfl rfl ?_
  refine e_append rfl Try.underlying23 em_Node_37_ArrC1 rfl rfl hS5o7x2 (hS5o7x2.rdS 1 rfl) (fun _ h => h) (by have hb : GoT.bytes Node = 64 := rfl; rw [hb]; simp only [List.length_append, List.length_cons, List.length_nil]; omega) (by decide) (fun v5o7 H5o7 hS5o7x3 hxx => ?_)
  refine ⟨Ext.mono hxx (labS_of 0 rfl (fun b hb => hb)), ?_⟩
  refine rq 8 (by kernel_rfl) rfl rfl (q_nilCheck rfl rfl) ?_
  refine rq 9 (by kernel_rfl) rfl rfl (q_fieldAddr rfl Try.underlying57 rfl Try.sizeOf23 rfl) ?_
  refine wpR_n [10] (by kernel_rfl) ?_
  refine fa ?_ fe
  refine exE rfl rfl ?_
  refine e_storeBlk (v := v5o7) rfl rfl rfl (oneCell_rdL (hS5o7x3.rowl 0 rfl)) Try.sizeOf23 (by show _ < 5; decide) (hS5o7x3.front 4 rfl) (fun H5o10 hS5o10 hxx => ?_)
  refine ⟨Ext.mono hxx (labS_of 1 rfl (fun _ _ => trivial)), ?_⟩
  refine wpR_end (by kernel_rfl) ?_
  exact ⟨v5o7, y0, (hS5o10.drop (sk (sk (sn (sk (sk (List.Sublist.slnil)))))))⟩
 clear y0 y3
 rintro f6 H6 ⟨v5o7, y0, hS6⟩
 refine fcr (fun f H => f 4 = I (((N ++ ([n])).length : Int) - 1) ∧ H6 = H) ?_ ?_
 ·refine lm (v := PT g 0) rfl rfl y0 ?_
  refine lq rfl (q_nilCheck rfl rfl) ?_
  refine lq rfl (q_fieldAddr rfl Try.underlying57 rfl Try.sizeOf23 rfl) ?_
  refine lq rfl (q_loadBlk rfl rfl Try.isAgg23 (hS6.blk 0 rfl) rfl (fun h => h)) ?_
  refine lq rfl (q_lenRd rfl Try.underlying23 rfl (hS6.rowl 1 rfl)) ?_
  refine lq rfl (q_sub rfl rfl rfl (by simp only [List.length_append, List.length_cons, List.length_nil]; constructor <;> omega)) ?_
  refine la (v := I (((N ++ ([n])).length : Int) - 1)) rfl rfl rfl ?_
  exact ⟨rfl, rfl⟩
 clear y0
 rintro f7 _ ⟨y4, rfl⟩
 refine wpF_ret ?_
 refine ⟨_, resT y4 resN, hS6.frameM, ?_⟩
 show ∃ vn_, (I (((N ++ ([n])).length : Int) - 1)) = I (N.length : Int) ∧ Gone S [rowE 37 vn (N : List Node), bE g #[vd, ve, vh, vn, vt] 57] [rowE 37 vn_ (N ++ [n] : List Node), bE g #[vd, ve, vh, vn_, vt] 57] H0 H6
 exact ⟨v5o7, congrArg I (by simp), St.leave3 (St.drop (show St H0 (own [rowE 37 vn (N : List Node), bE g #[vd, ve, vh, vn, vt] 57]) (fun b => S b ∧ ¬ own [rowE 37 vn (N : List Node), bE g #[vd, ve, vh, vn, vt] 57] b) [rowE 37 v5o7 (N ++ ([n]) : List Node), bE g #[vd, ve, vh, v5o7, vt] 57, bE g1 #[I (n.Op), vk, I (n.N), I (n.D), SB (n.Name)] 37, rdE vk n.Kids] H6 from (hS6.front 1 rfl)) (sk (sk (sn (sn (List.Sublist.slnil))))))⟩
set_option maxHeartbeats 4000000 in
set_option maxRecDepth 100000 in
theorem read_M : ∀ (nn : Nat) {H0 : Heap} (S : Nat → Prop) (g : Nat) (vd ve vh vn vt : Value) (a : Ask) (N : List Node) (T : List Int) (z x : Int) (_hg : Given S [rowE 37 vn (N : List Node), rowE 3 vt (T : List Int), bE g #[vd, ve, vh, vn, vt] 57] H0) (_re : Rd S H0 ve a.Nodes) (_hz : 0 ≤ z) (_hc : Chain a T.length z.toNat) (_hx : In64 x) (_hN : N.length ≤ 200) (_hm : a.Nodes.length ≤ 250) (_hn : z.toNat = nn), CallsH Try.prog 18 #[PT g 0, I (z), I (x)] H0 (fun rv_ H' => Ext (own [rowE 37 vn (N : List Node), rowE 3 vt (T : List Int), bE g #[vd, ve, vh, vn, vt] 57]) H0 H' ∧ ∃ vn_, rv_ = I (((getL a T x N z.toNat).length : Int) - 1) ∧ Gone S [rowE 37 vn (N : List Node), rowE 3 vt (T : List Int), bE g #[vd, ve, vh, vn, vt] 57] [rowE 37 vn_ (getL a T x N z.toNat : List Node), rowE 3 vt (T : List Int), bE g #[vd, ve, vh, vn_, vt] 57] H0 H') := by
 intro nn
 induction nn using Nat.strongRecOn with
 | _ nn ih =>
 intro H0 S g vd ve vh vn vt a N T z x hg re hz hc hx hN hm hnn
 have hS0 : St H0 (own [rowE 37 vn (N : List Node), rowE 3 vt (T : List Int), bE g #[vd, ve, vh, vn, vt] 57]) (fun b => S b ∧ ¬ own [rowE 37 vn (N : List Node), rowE 3 vt (T : List Int), bE g #[vd, ve, vh, vn, vt] 57] b) [rdE ve a.Nodes, rowE 37 vn (N : List Node), rowE 3 vt (T : List Int), bE g #[vd, ve, vh, vn, vt] 57] H0 := (hg.st.rdG re fun b hb => hg.sub hb)
 have hlt := hc.lt
 refine callsH_of_wpF (args := [PT g 0, I (z), I (x)]) (rs := [.tmp 6]) Try.func18 rfl Try.ntmps18 Try.results18 (by kernel_rfl) (Nat.le_of_ble_eq_true rfl) ?_
 have y0 : argF [PT g 0, I (z), I (x)] 0 = PT g 0 := rfl
 have y1 : argF [PT g 0, I (z), I (x)] 1 = I (z) := rfl
 have y2 : argF [PT g 0, I (z), I (x)] 2 = I (x) := rfl
 generalize argF [PT g 0, I (z), I (x)] = f0 at *
 refine fcr (fun f H => f 0 = PT g 0 ∧ f 1 = I (z) ∧ f 2 = I (x) ∧ H0 = H) ?_ ?_
 ·refine la (v := I (0)) rfl rfl rfl ?_
  exact ⟨y0, y1, y2, rfl⟩
 clear y0 y1 y2
 rintro f1 _ ⟨y0, y1, y2, rfl⟩
 refine fcr (fun f H => ∃ (u2n1 : Value), ∃ (g4 : Nat), (In64 (nth a.Nodes ((z).toNat)).Op) ∧ (In64 (nth a.Nodes ((z).toNat)).N) ∧ (In64 (nth a.Nodes ((z).toNat)).D) ∧ ((nth a.Nodes ((z).toNat)).Name.size ≤ maxLen) ∧ f 0 = PT g 0 ∧ f 2 = I (x) ∧ f 7 = PT g4 0 ∧ St H0 (own [rowE 37 vn (N : List Node), rowE 3 vt (T : List Int), bE g #[vd, ve, vh, vn, vt] 57]) (fun b => S b ∧ ¬ own [rowE 37 vn (N : List Node), rowE 3 vt (T : List Int), bE g #[vd, ve, vh, vn, vt] 57] b) [bE g4 #[I ((nth a.Nodes ((z).toNat)).Op), u2n1, I ((nth a.Nodes ((z).toNat)).N), I ((nth a.Nodes ((z).toNat)).D), SB ((nth a.Nodes ((z).toNat)).Name)] 37, rdE u2n1 ((nth a.Nodes ((z).toNat)).Kids), rdE ve a.Nodes, rowE 37 vn (N : List Node), rowE 3 vt (T : List Int), bE g #[vd, ve, vh, vn, vt] 57] H) ?_ ?_
 ·refine lm (v := PT g 0) rfl rfl y0 ?_
  refine lq rfl (q_nilCheck rfl rfl) ?_
  refine lq rfl (q_fieldAddr rfl Try.underlying57 rfl Try.sizeOf26 rfl) ?_
  refine lq rfl (q_fieldAddr rfl Try.underlying26 rfl Try.sizeOf23 rfl) ?_
  refine lq rfl (q_loadBlk rfl rfl Try.isAgg23 (hS0.blk 3 rfl) rfl (fun h => h)) ?_
  refine lm (v := I (z)) rfl rfl y1 ?_
  refine lq rfl (q_indexRd (k := (z).toNat) rfl Try.underlying23 el_Node_37_ArrC1 rfl rfl (hS0.rdl 0 rfl) (by omega) (by omega)) ?_
  obtain ⟨u2, huu2, hlu2⟩ := (Rd.list.1 (hS0.rdS 0 rfl)).elem ((z).toNat) (by omega)
  obtain ⟨u2n1, rfl, hu20, hu21, hu22, hu23, hu24⟩ := Rd.node.1 huu2
  have hS3 := hS0.rd hu21
  refine lq rfl (q_loadE rfl rfl (hlu2 Try.prog 37 _ el_Node_37_ArrC1 (fun _ h => False.elim h))) ?_
  refine lo rfl ?_
  refine e_alloc rfl Try.zeroValue37 hS3 (fun g4 H5 hS6 hxx => ?_)
  refine lo rfl ?_
  refine e_storeBlkA (cs' := #[I ((nth a.Nodes ((z).toNat)).Op), u2n1, I ((nth a.Nodes ((z).toNat)).N), I ((nth a.Nodes ((z).toNat)).D), SB ((nth a.Nodes ((z).toNat)).Name)]) rfl rfl rfl Try.sizeOf37 rfl rfl (fa rfl (fa ((oneCell_rdL (hS6.rdl 1 rfl))) (fa rfl (fa rfl (fa rfl fe))))) hS6 (fun H7 hS8 hxx => ?_)
  exact ⟨u2n1, g4, hu20, hu22, hu23, hu24, y0, y2, rfl, hS8⟩
 clear y0 y1 y2
 rintro f9 H9 ⟨u2n1, g4, hu20, hu22, hu23, hu24, y0, y2, y7, hS9⟩
 refine wpF_seq ?_
 refine fcr (fun f H => f 0 = PT g 0 ∧ f 2 = I (x) ∧ f 7 = PT g4 0 ∧ f 28 = B (decide ((((nth a.Nodes ((z).toNat)).Op) = 9) ∨ (200 < (N.length : Int)))) ∧ H9 = H) ?_ ?_
 ·refine lq rfl (q_fieldAddr rfl Try.underlying37 rfl Try.sizeOf3 y7) ?_
  refine lq rfl (q_loadBlk rfl rfl Try.isAgg3 (hS9.blk 0 rfl) rfl (fun h => h)) ?_
  refine lq rfl (q_eql rfl rfl rfl) ?_
  refine lm (v := B (decide (((nth a.Nodes ((z).toNat)).Op) = 9))) rfl rfl rfl ?_
  by_cases hg10 : ((nth a.Nodes ((z).toNat)).Op) = 9
  ·have hb11 := Eq.trans rfl (congrArg B (decide_eq_true hg10))
   refine wpL_gs rfl rfl rfl hb11 rfl ?_
   refine wpL_gs rfl rfl rfl hb11 rfl ?_
   refine wpL_gs rfl rfl rfl hb11 rfl ?_
   refine wpL_gs rfl rfl rfl hb11 rfl ?_
   refine wpL_gs rfl rfl rfl hb11 rfl ?_
   refine wpL_gs rfl rfl rfl hb11 rfl ?_
   refine lq rfl (q_pickT (v := B (true)) rfl hb11 rfl) ?_
   exact ⟨y0, y2, y7, (Eq.trans rfl (congrArg B ((decide_eq_true (Or.inl hg10)).symm))), rfl⟩
  ·have hb12 := Eq.trans rfl (congrArg B (decide_eq_false hg10))
   refine gq rfl rfl rfl hb12 (q_move (v := PT g 0) rfl y0) ?_
   refine gq rfl rfl rfl hb12 (q_nilCheck rfl rfl) ?_
   refine gq rfl rfl rfl hb12 (q_fieldAddr rfl Try.underlying57 rfl Try.sizeOf23 rfl) ?_
   refine gq rfl rfl rfl hb12 (q_loadBlk rfl rfl Try.isAgg23 (hS9.blk 5 rfl) rfl (fun h => h)) ?_
   refine gq rfl rfl rfl hb12 (q_lenRd rfl Try.underlying23 rfl (hS9.rowl 3 rfl)) ?_
   refine gq rfl rfl rfl hb12 (q_gtr rfl rfl rfl) ?_
   refine lq rfl (q_pickF (v := B (decide (200 < (N.length : Int)))) rfl hb12 rfl) ?_
   exact ⟨y0, y2, y7, (Eq.trans rfl (congrArg B (decide_congr_of ((Iff.rfl).trans (((or_iff_right hg10).trans Iff.rfl)).symm)))), rfl⟩
 clear y0 y2 y7
 rintro f13 _ ⟨y0, y2, y7, y28, rfl⟩
 refine wpF_condP y28 (fun h28 => ?t35) (fun h28 => ?e35)
 case t35 =>
  have h9 : (nth a.Nodes z.toNat).Op = 9 := h28.resolve_right (by omega)
  refine fcr (fun f H => ∃ (r20 : Value), f 6 = I ((N.length : Int)) ∧ St H0 (own [rowE 37 vn (N : List Node), rowE 3 vt (T : List Int), bE g #[vd, ve, vh, vn, vt] 57]) (fun b => S b ∧ ¬ own [rowE 37 vn (N : List Node), rowE 3 vt (T : List Int), bE g #[vd, ve, vh, vn, vt] 57] b) [rowE 37 r20 (N ++ [(Node.mk 9 ([x]) 0 0 ((nth a.Nodes ((z).toNat)).Name))] : List Node), bE g #[vd, ve, vh, r20, vt] 57, bE g4 #[I ((nth a.Nodes ((z).toNat)).Op), u2n1, I ((nth a.Nodes ((z).toNat)).N), I ((nth a.Nodes ((z).toNat)).D), SB ((nth a.Nodes ((z).toNat)).Name)] 37, rdE u2n1 ((nth a.Nodes ((z).toNat)).Kids), rdE ve a.Nodes, rowE 3 vt (T : List Int)] H) ?_ ?_
  ·refine lm (v := PT g 0) rfl rfl y0 ?_
   refine lq rfl (q_fieldAddr rfl Try.underlying37 rfl Try.sizeOf9 y7) ?_
   refine lq rfl (q_loadBlk rfl rfl Try.isAgg9 (hS9.blk 0 rfl) rfl (fun h => h)) ?_
   refine lm (v := I (x)) rfl rfl y2 ?_
   refine lo rfl ?_
   refine e_buildSlice (vs := [I (x)]) (xs := ([x] : List Int)) rfl Try.underlying24 Try.zeroValue3 rfl Try.sizeOf3 (par1 (v0 := I (x)) rfl) rfl hS9 (RdVs.cons (Rd.int.2 ⟨rfl, by first | assumption | (constructor <;> omega)⟩) (RdVs.nil)) (by decide) (by decide) (fun v15 H16 hS17 hxx hvv15 => ?_)
   refine lq rfl (q_build (v := Vg #[I (9), v15, I (0), I (0), SB ((nth a.Nodes ((z).toNat)).Name)]) rfl (par3 (v0 := I (9)) (v1 := SB ((nth a.Nodes ((z).toNat)).Name)) (v2 := v15) rfl rfl rfl) ((hS17.rowl 0 rfl).slc (fun zz0 => ∀ w__, (Instr.build 37 #[(0, I (9)), (4, SB ((nth a.Nodes ((z).toNat)).Name)), (1, zz0)]).run Try.prog w__ = .ok (Vg #[I (9), zz0, I (0), I (0), SB ((nth a.Nodes ((z).toNat)).Name)]) w__) (fun a0 n0 c0 => (fun w__ => by kernel_rfl)))) ?_
   have hS18 : St H0 (own [rowE 37 vn (N : List Node), rowE 3 vt (T : List Int), bE g #[vd, ve, vh, vn, vt] 57]) (fun b => S b ∧ ¬ own [rowE 37 vn (N : List Node), rowE 3 vt (T : List Int), bE g #[vd, ve, vh, vn, vt] 57] b) [rdE v15 ([x] : List Int), bE g4 #[I ((nth a.Nodes ((z).toNat)).Op), u2n1, I ((nth a.Nodes ((z).toNat)).N), I ((nth a.Nodes ((z).toNat)).D), SB ((nth a.Nodes ((z).toNat)).Name)] 37, rdE u2n1 ((nth a.Nodes ((z).toNat)).Kids), rdE ve a.Nodes, rowE 37 vn (N : List Node), rowE 3 vt (T : List Int), bE g #[vd, ve, vh, vn, vt] 57] H16 := St.fin hS17
   have hS19 := (St.drop (show St H0 (own [rowE 37 vn (N : List Node), rowE 3 vt (T : List Int), bE g #[vd, ve, vh, vn, vt] 57]) (fun b => S b ∧ ¬ own [rowE 37 vn (N : List Node), rowE 3 vt (T : List Int), bE g #[vd, ve, vh, vn, vt] 57] b) [rowE 37 vn (N : List Node), bE g #[vd, ve, vh, vn, vt] 57, rdE v15 ([x] : List Int), bE g4 #[I ((nth a.Nodes ((z).toNat)).Op), u2n1, I ((nth a.Nodes ((z).toNat)).N), I ((nth a.Nodes ((z).toNat)).D), SB ((nth a.Nodes ((z).toNat)).Name)] 37, rdE u2n1 ((nth a.Nodes ((z).toNat)).Kids), rdE ve a.Nodes, rowE 3 vt (T : List Int)] H16 from ((hS18.front 6 rfl).front 5 rfl)) (sk (sk (sk (sk (sk (sk (sk (List.Sublist.slnil)))))))))
   refine lo rfl ?_
   refine e_call rfl Try.call19 (arr2 (v0 := PT g 0) (v1 := Vg #[I (9), v15, I (0), I (0), SB ((nth a.Nodes ((z).toNat)).Name)]) rfl rfl) (put_M _ g vd ve vh vn vt v15 N (Node.mk 9 ([x]) 0 0 ((nth a.Nodes ((z).toNat)).Name)) (St.give (A := [rowE 37 vn (N : List Node), bE g #[vd, ve, vh, vn, vt] 57]) (L := [rdE v15 ([x] : List Int), bE g4 #[I ((nth a.Nodes ((z).toNat)).Op), u2n1, I ((nth a.Nodes ((z).toNat)).N), I ((nth a.Nodes ((z).toNat)).D), SB ((nth a.Nodes ((z).toNat)).Name)] 37, rdE u2n1 ((nth a.Nodes ((z).toNat)).Kids), rdE ve a.Nodes, rowE 3 vt (T : List Int)]) hS19) (by first | assumption | (constructor <;> (dsimp only; omega))) (hS19.rdS 2 rfl) (by first | assumption | (constructor <;> (dsimp only; omega))) (by first | assumption | (constructor <;> (dsimp only; omega))) (by first | assumption | exact Nat.zero_le _)  (by first | omega | (simp only [List.length_append, List.length_cons, List.length_nil]; omega))) ?_
   rintro _ H21 ⟨hxx, r20, rfl, hgo⟩
   have hS22 : St H0 (own [rowE 37 vn (N : List Node), rowE 3 vt (T : List Int), bE g #[vd, ve, vh, vn, vt] 57]) (fun b => S b ∧ ¬ own [rowE 37 vn (N : List Node), rowE 3 vt (T : List Int), bE g #[vd, ve, vh, vn, vt] 57] b) [rowE 37 r20 (N ++ [(Node.mk 9 ([x]) 0 0 ((nth a.Nodes ((z).toNat)).Name))] : List Node), bE g #[vd, ve, vh, r20, vt] 57, rdE v15 ([x] : List Int), bE g4 #[I ((nth a.Nodes ((z).toNat)).Op), u2n1, I ((nth a.Nodes ((z).toNat)).N), I ((nth a.Nodes ((z).toNat)).D), SB ((nth a.Nodes ((z).toNat)).Name)] 37, rdE u2n1 ((nth a.Nodes ((z).toNat)).Kids), rdE ve a.Nodes, rowE 3 vt (T : List Int)] H21 := St.back3 (A := [rowE 37 vn (N : List Node), bE g #[vd, ve, vh, vn, vt] 57]) (A' := [rowE 37 r20 (N ++ [(Node.mk 9 ([x]) 0 0 ((nth a.Nodes ((z).toNat)).Name))] : List Node), bE g #[vd, ve, vh, r20, vt] 57]) (L := [rdE v15 ([x] : List Int), bE g4 #[I ((nth a.Nodes ((z).toNat)).Op), u2n1, I ((nth a.Nodes ((z).toNat)).N), I ((nth a.Nodes ((z).toNat)).D), SB ((nth a.Nodes ((z).toNat)).Name)] 37, rdE u2n1 ((nth a.Nodes ((z).toNat)).Kids), rdE ve a.Nodes, rowE 3 vt (T : List Int)]) hS19 hxx hgo
   refine la (v := I ((N.length : Int))) rfl rfl rfl ?_
   exact ⟨r20, rfl, (hS22.drop (sk (sk (sn (sk (sk (sk (sk (List.Sublist.slnil)))))))))⟩
  clear y0 y2 y28 y7
  rintro f24 H24 ⟨r20, y6, hS24⟩
  refine wpF_ret ?_
  refine ⟨_, resT y6 resN, hS24.frameM, ?_⟩
  show ∃ vn_, (I ((N.length : Int))) = I (((getL a T x N z.toNat).length : Int) - 1) ∧ Gone S [rowE 37 vn (N : List Node), rowE 3 vt (T : List Int), bE g #[vd, ve, vh, vn, vt] 57] [rowE 37 vn_ (getL a T x N z.toNat : List Node), rowE 3 vt (T : List Int), bE g #[vd, ve, vh, vn_, vt] 57] H0 H24
  rw [getL_name h9]
  exact ⟨r20, congrArg I (by simp only [List.length_append, List.length_cons, List.length_nil, kidN]; omega), St.leave3 (show St H0 (own [rowE 37 vn (N : List Node), rowE 3 vt (T : List Int), bE g #[vd, ve, vh, vn, vt] 57]) (fun b => S b ∧ ¬ own [rowE 37 vn (N : List Node), rowE 3 vt (T : List Int), bE g #[vd, ve, vh, vn, vt] 57] b) [rowE 37 r20 (N ++ [(Node.mk 9 ([x]) 0 0 ((nth a.Nodes ((z).toNat)).Name))] : List Node), rowE 3 vt (T : List Int), bE g #[vd, ve, vh, r20, vt] 57] H24 from (St.drop (show St H0 (own [rowE 37 vn (N : List Node), rowE 3 vt (T : List Int), bE g #[vd, ve, vh, vn, vt] 57]) (fun b => S b ∧ ¬ own [rowE 37 vn (N : List Node), rowE 3 vt (T : List Int), bE g #[vd, ve, vh, vn, vt] 57] b) [rowE 37 r20 (N ++ [(Node.mk 9 ([x]) 0 0 ((nth a.Nodes ((z).toNat)).Name))] : List Node), rowE 3 vt (T : List Int), bE g #[vd, ve, vh, r20, vt] 57, bE g4 #[I ((nth a.Nodes ((z).toNat)).Op), u2n1, I ((nth a.Nodes ((z).toNat)).N), I ((nth a.Nodes ((z).toNat)).D), SB ((nth a.Nodes ((z).toNat)).Name)] 37, rdE u2n1 ((nth a.Nodes ((z).toNat)).Kids), rdE ve a.Nodes] H24 from ((hS24.front 5 rfl).front 1 rfl)) (sk (sk (sk (sn (sn (sn (List.Sublist.slnil)))))))))⟩
 have h9 : ¬ (nth a.Nodes z.toNat).Op = 9 := fun e => h28 (.inl e)
 obtain ⟨hl3, hp3, hk0, hk1, hk2, hcc⟩ := hc.inv h9
 have hp0 := hp3 0 (by omega)
 have hp1 := hp3 1 (by omega)
 have hp2 := hp3 2 (by omega)
 unfold kidN at hk0 hk1 hk2 hcc
 have hgl := getL_len (a := a) (to := T) (x := x) (N := N) (nth (nth a.Nodes z.toNat).Kids 0).toNat
 refine wpF_skip ?_
 refine fcr (fun f H => ∃ (r26 : Value), f 0 = PT g 0 ∧ f 2 = I (x) ∧ f 7 = PT g4 0 ∧ f 8 = I (((getL a T x N (nth ((nth a.Nodes ((z).toNat)).Kids) 0).toNat).length : Int) - 1) ∧ St H0 (own [rowE 37 vn (N : List Node), rowE 3 vt (T : List Int), bE g #[vd, ve, vh, vn, vt] 57]) (fun b => S b ∧ ¬ own [rowE 37 vn (N : List Node), rowE 3 vt (T : List Int), bE g #[vd, ve, vh, vn, vt] 57] b) [rowE 37 r26 (getL a T x N (nth ((nth a.Nodes ((z).toNat)).Kids) 0).toNat : List Node), rowE 3 vt (T : List Int), bE g #[vd, ve, vh, r26, vt] 57, bE g4 #[I ((nth a.Nodes ((z).toNat)).Op), u2n1, I ((nth a.Nodes ((z).toNat)).N), I ((nth a.Nodes ((z).toNat)).D), SB ((nth a.Nodes ((z).toNat)).Name)] 37, rdE u2n1 ((nth a.Nodes ((z).toNat)).Kids), rdE ve a.Nodes] H) ?_ ?_
 ·refine lm (v := PT g 0) rfl rfl y0 ?_
  refine lq rfl (q_fieldAddr rfl Try.underlying37 rfl Try.sizeOf24 y7) ?_
  refine lq rfl (q_loadBlk rfl rfl Try.isAgg24 (hS9.blk 0 rfl) rfl (fun h => h)) ?_
  refine lq rfl (q_indexRd (k := 0) rfl Try.underlying24 el_Int_3_ArrC1 rfl rfl (hS9.rdl 1 rfl) (by omega) (by omega)) ?_
  refine lq rfl (q_loadInt (k := 0) rfl rfl el_Int_3_ArrC1 (hS9.rdl 1 rfl) (by omega) (fun _ h => h)) ?_
  refine lm (v := I (x)) rfl rfl y2 ?_
  have hS25 := (St.drop (show St H0 (own [rowE 37 vn (N : List Node), rowE 3 vt (T : List Int), bE g #[vd, ve, vh, vn, vt] 57]) (fun b => S b ∧ ¬ own [rowE 37 vn (N : List Node), rowE 3 vt (T : List Int), bE g #[vd, ve, vh, vn, vt] 57] b) [rowE 37 vn (N : List Node), rowE 3 vt (T : List Int), bE g #[vd, ve, vh, vn, vt] 57, bE g4 #[I ((nth a.Nodes ((z).toNat)).Op), u2n1, I ((nth a.Nodes ((z).toNat)).N), I ((nth a.Nodes ((z).toNat)).D), SB ((nth a.Nodes ((z).toNat)).Name)] 37, rdE u2n1 ((nth a.Nodes ((z).toNat)).Kids), rdE ve a.Nodes] H9 from (((hS9.front 5 rfl).front 5 rfl).front 5 rfl)) (sk (sk (sk (sk (sk (sk (List.Sublist.slnil))))))))
  refine lo rfl ?_
  refine e_call rfl Try.call18 (arr3 (v0 := PT g 0) (v1 := I (nth ((nth a.Nodes ((z).toNat)).Kids) 0)) (v2 := I (x)) rfl rfl rfl) (ih _ (hnn ▸ hk0) _ g vd ve vh vn vt a N T (nth ((nth a.Nodes ((z).toNat)).Kids) 0) x (St.give (A := [rowE 37 vn (N : List Node), rowE 3 vt (T : List Int), bE g #[vd, ve, vh, vn, vt] 57]) (L := [bE g4 #[I ((nth a.Nodes ((z).toNat)).Op), u2n1, I ((nth a.Nodes ((z).toNat)).N), I ((nth a.Nodes ((z).toNat)).D), SB ((nth a.Nodes ((z).toNat)).Name)] 37, rdE u2n1 ((nth a.Nodes ((z).toNat)).Kids), rdE ve a.Nodes]) hS25) (hS25.rdS 5 rfl) hp0 hcc hx hN hm rfl) ?_
  rintro _ H27 ⟨hxx, r26, rfl, hgo⟩
  have hS28 : St H0 (own [rowE 37 vn (N : List Node), rowE 3 vt (T : List Int), bE g #[vd, ve, vh, vn, vt] 57]) (fun b => S b ∧ ¬ own [rowE 37 vn (N : List Node), rowE 3 vt (T : List Int), bE g #[vd, ve, vh, vn, vt] 57] b) [rowE 37 r26 (getL a T x N (nth ((nth a.Nodes ((z).toNat)).Kids) 0).toNat : List Node), rowE 3 vt (T : List Int), bE g #[vd, ve, vh, r26, vt] 57, bE g4 #[I ((nth a.Nodes ((z).toNat)).Op), u2n1, I ((nth a.Nodes ((z).toNat)).N), I ((nth a.Nodes ((z).toNat)).D), SB ((nth a.Nodes ((z).toNat)).Name)] 37, rdE u2n1 ((nth a.Nodes ((z).toNat)).Kids), rdE ve a.Nodes] H27 := St.back3 (A := [rowE 37 vn (N : List Node), rowE 3 vt (T : List Int), bE g #[vd, ve, vh, vn, vt] 57]) (A' := [rowE 37 r26 (getL a T x N (nth ((nth a.Nodes ((z).toNat)).Kids) 0).toNat : List Node), rowE 3 vt (T : List Int), bE g #[vd, ve, vh, r26, vt] 57]) (L := [bE g4 #[I ((nth a.Nodes ((z).toNat)).Op), u2n1, I ((nth a.Nodes ((z).toNat)).N), I ((nth a.Nodes ((z).toNat)).D), SB ((nth a.Nodes ((z).toNat)).Name)] 37, rdE u2n1 ((nth a.Nodes ((z).toNat)).Kids), rdE ve a.Nodes]) hS25 hxx hgo
  refine la (v := I (((getL a T x N (nth ((nth a.Nodes ((z).toNat)).Kids) 0).toNat).length : Int) - 1)) rfl rfl rfl ?_
  exact ⟨r26, y0, y2, y7, rfl, hS28⟩
 clear y0 y2 y28 y7
 rintro f30 H30 ⟨r26, y0, y2, y7, y8, hS30⟩
 refine wpF_seq ?_
 have h6t1 := (hS30.rowl 1 rfl).in64 (k := (nth (nth a.Nodes z.toNat).Kids 1).toNat) (by omega)
 have h6t2 := (hS30.rowl 1 rfl).in64 (k := (nth (nth a.Nodes z.toNat).Kids 2).toNat) (by omega)
 refine wpF_cut (fun f H => ∃ (r31o14 : Value), f 0 = PT g 0 ∧ f 7 = PT g4 0 ∧ f 8 = I (((getL a T x N (nth ((nth a.Nodes ((z).toNat)).Kids) 0).toNat).length : Int) - 1) ∧ f 9 = I (((getL a T x N (nth ((nth a.Nodes ((z).toNat)).Kids) 0).toNat).length : Int)) ∧ St H0 (own [rowE 37 vn (N : List Node), rowE 3 vt (T : List Int), bE g #[vd, ve, vh, vn, vt] 57]) (fun b => S b ∧ ¬ own [rowE 37 vn (N : List Node), rowE 3 vt (T : List Int), bE g #[vd, ve, vh, vn, vt] 57] b) [rowE 37 r31o14 ((getL a T x N (nth ((nth a.Nodes ((z).toNat)).Kids) 0).toNat) ++ [(Node.mk 8 ([nth T ((nth ((nth a.Nodes ((z).toNat)).Kids) 1).toNat), x]) 0 0 (ByteArray.mk #[]))] : List Node), bE g #[vd, ve, vh, r31o14, vt] 57, rowE 3 vt (T : List Int), bE g4 #[I ((nth a.Nodes ((z).toNat)).Op), u2n1, I ((nth a.Nodes ((z).toNat)).N), I ((nth a.Nodes ((z).toNat)).D), SB ((nth a.Nodes ((z).toNat)).Name)] 37, rdE u2n1 ((nth a.Nodes ((z).toNat)).Kids), rdE ve a.Nodes] H) ?_ ?_
 ·refine wpF_drawn [none, none, none, none, none, none, none, none, none, none, none, none, none, none, some 0, none] [[], [], [], [], [], [], [], [], [], [], [], [], [], [], [], []] (fun l b => match l with | 0 => True | _ => False) (by kernel_rfl) (by kernel_rfl) ?_
  refine rq 0 (by kernel_rfl) rfl rfl (q_move (v := PT g 0) rfl y0) ?_
  refine rq 1 (by kernel_rfl) rfl rfl (q_move (v := PT g 0) rfl y0) ?_
  refine rq 2 (by kernel_rfl) rfl rfl (q_nilCheck rfl rfl) ?_
  refine rq 3 (by kernel_rfl) rfl rfl (q_fieldAddr rfl Try.underlying57 rfl Try.sizeOf24 rfl) ?_
  refine rq 4 (by kernel_rfl) rfl rfl (q_loadBlk rfl rfl Try.isAgg24 (hS30.blk 2 rfl) rfl (labU_not [] rfl (fe))) ?_
  refine rq 5 (by kernel_rfl) rfl rfl (q_fieldAddr rfl Try.underlying37 rfl Try.sizeOf24 y7) ?_
  refine rq 6 (by kernel_rfl) rfl rfl (q_loadBlk rfl rfl Try.isAgg24 (hS30.blk 3 rfl) rfl (labU_not [] rfl (fe))) ?_
  refine rq 7 (by kernel_rfl) rfl rfl (q_indexRd (k := 1) rfl Try.underlying24 el_Int_3_ArrC1 rfl rfl (hS30.rdl 4 rfl) (by omega) (by omega)) ?_
  refine rq 8 (by kernel_rfl) rfl rfl (q_loadInt (k := 1) rfl rfl el_Int_3_ArrC1 (hS30.rdl 4 rfl) (by omega) (labU_sub [] rfl (fe))) ?_
  refine rq 9 (by kernel_rfl) rfl rfl (q_indexRd (k := (nth ((nth a.Nodes ((z).toNat)).Kids) 1).toNat) rfl Try.underlying24 el_Int_3_ArrC1 rfl rfl (hS30.rowl 1 rfl) (by omega) (by omega)) ?_
  refine rq 10 (by kernel_rfl) rfl rfl (q_loadInt (k := (nth ((nth a.Nodes ((z).toNat)).Kids) 1).toNat) rfl rfl el_Int_3_ArrC1 (hS30.rowl 1 rfl) (by omega) (labU_sub [] rfl (fe))) ?_
  refine rq 11 (by kernel_rfl) rfl rfl (q_move (v := I (x)) rfl y2) ?_
  refine wpR_n [12] (by kernel_rfl) ?_
  refine fa ?_ fe
  refine exE rfl rfl ?_
  refine e_buildSlice (vs := [I (nth T ((nth ((nth a.Nodes ((z).toNat)).Kids) 1).toNat)), I (x)]) (xs := ([nth T ((nth ((nth a.Nodes ((z).toNat)).Kids) 1).toNat), x] : List Int)) rfl Try.underlying24 Try.zeroValue3 rfl Try.sizeOf3 (par2 (v0 := I (nth T ((nth ((nth a.Nodes ((z).toNat)).Kids) 1).toNat))) (v1 := I (x)) rfl rfl) rfl hS30 (RdVs.cons (Rd.int.2 ⟨rfl, by first | assumption | (constructor <;> omega)⟩) (RdVs.cons (Rd.int.2 ⟨rfl, by first | assumption | (constructor <;> omega)⟩) (RdVs.nil))) (by decide) (by decide) (fun v31o12 H31o12 hS31o12 hxx hvv31o12 => ?_)
  refine ⟨Ext.mono hxx (fun _ h => h.elim), ?_⟩
  refine rq 13 (by kernel_rfl) rfl rfl (q_build (v := Vg #[I (8), v31o12, I (0), I (0), SB (ByteArray.mk #[])]) rfl (par2 (v0 := I (8)) (v1 := v31o12) rfl rfl) ((hS31o12.rowl 0 rfl).slc (fun zz0 => ∀ w__, (Instr.build 37 #[(0, I (8)), (1, zz0)]).run Try.prog w__ = .ok (Vg #[I (8), zz0, I (0), I (0), SB (ByteArray.mk #[])]) w__) (fun a0 n0 c0 => (fun w__ => by kernel_rfl)))) ?_
  refine wpR_n [14] (by kernel_rfl) ?_
  refine fa ?_ fe
  have hS31o14 : St H0 (own [rowE 37 vn (N : List Node), rowE 3 vt (T : List Int), bE g #[vd, ve, vh, vn, vt] 57]) (fun b => S b ∧ ¬ own [rowE 37 vn (N : List Node), rowE 3 vt (T : List Int), bE g #[vd, ve, vh, vn, vt] 57] b) [rdE v31o12 ([nth T ((nth ((nth a.Nodes ((z).toNat)).Kids) 1).toNat), x] : List Int), rowE 37 r26 (getL a T x N (nth ((nth a.Nodes ((z).toNat)).Kids) 0).toNat : List Node), rowE 3 vt (T : List Int), bE g #[vd, ve, vh, r26, vt] 57, bE g4 #[I ((nth a.Nodes ((z).toNat)).Op), u2n1, I ((nth a.Nodes ((z).toNat)).N), I ((nth a.Nodes ((z).toNat)).D), SB ((nth a.Nodes ((z).toNat)).Name)] 37, rdE u2n1 ((nth a.Nodes ((z).toNat)).Kids), rdE ve a.Nodes] H31o12 := St.fin hS31o12
  have hS31o14x2 := (St.drop (show St H0 (own [rowE 37 vn (N : List Node), rowE 3 vt (T : List Int), bE g #[vd, ve, vh, vn, vt] 57]) (fun b => S b ∧ ¬ own [rowE 37 vn (N : List Node), rowE 3 vt (T : List Int), bE g #[vd, ve, vh, vn, vt] 57] b) [rowE 37 r26 (getL a T x N (nth ((nth a.Nodes ((z).toNat)).Kids) 0).toNat : List Node), bE g #[vd, ve, vh, r26, vt] 57, rdE v31o12 ([nth T ((nth ((nth a.Nodes ((z).toNat)).Kids) 1).toNat), x] : List Int), rowE 3 vt (T : List Int), bE g4 #[I ((nth a.Nodes ((z).toNat)).Op), u2n1, I ((nth a.Nodes ((z).toNat)).N), I ((nth a.Nodes ((z).toNat)).D), SB ((nth a.Nodes ((z).toNat)).Name)] 37, rdE u2n1 ((nth a.Nodes ((z).toNat)).Kids), rdE ve a.Nodes] H31o12 from ((hS31o14.front 3 rfl).front 2 rfl)) (sk (sk (sk (sk (sk (sk (sk (List.Sublist.slnil)))))))))
  refine exE rfl rfl ?_
  refine e_call rfl Try.call19 (arr2 (v0 := PT g 0) (v1 := Vg #[I (8), v31o12, I (0), I (0), SB (ByteArray.mk #[])]) rfl rfl) (put_M _ g vd ve vh r26 vt v31o12 (getL a T x N (nth ((nth a.Nodes ((z).toNat)).Kids) 0).toNat) (Node.mk 8 ([nth T ((nth ((nth a.Nodes ((z).toNat)).Kids) 1).toNat), x]) 0 0 (ByteArray.mk #[])) (St.give (A := [rowE 37 r26 (getL a T x N (nth ((nth a.Nodes ((z).toNat)).Kids) 0).toNat : List Node), bE g #[vd, ve, vh, r26, vt] 57]) (L := [rdE v31o12 ([nth T ((nth ((nth a.Nodes ((z).toNat)).Kids) 1).toNat), x] : List Int), rowE 3 vt (T : List Int), bE g4 #[I ((nth a.Nodes ((z).toNat)).Op), u2n1, I ((nth a.Nodes ((z).toNat)).N), I ((nth a.Nodes ((z).toNat)).D), SB ((nth a.Nodes ((z).toNat)).Name)] 37, rdE u2n1 ((nth a.Nodes ((z).toNat)).Kids), rdE ve a.Nodes]) hS31o14x2) (by first | assumption | (constructor <;> (dsimp only; omega))) (hS31o14x2.rdS 2 rfl) (by first | assumption | (constructor <;> (dsimp only; omega))) (by first | assumption | (constructor <;> (dsimp only; omega))) (by first | assumption | exact Nat.zero_le _)  (by first | omega | (simp only [List.length_append, List.length_cons, List.length_nil]; omega))) ?_
  rintro _ H31o14 ⟨hxx, r31o14, rfl, hgo⟩
  have hS31o14x3 : St H0 (own [rowE 37 vn (N : List Node), rowE 3 vt (T : List Int), bE g #[vd, ve, vh, vn, vt] 57]) (fun b => S b ∧ ¬ own [rowE 37 vn (N : List Node), rowE 3 vt (T : List Int), bE g #[vd, ve, vh, vn, vt] 57] b) [rowE 37 r31o14 ((getL a T x N (nth ((nth a.Nodes ((z).toNat)).Kids) 0).toNat) ++ [(Node.mk 8 ([nth T ((nth ((nth a.Nodes ((z).toNat)).Kids) 1).toNat), x]) 0 0 (ByteArray.mk #[]))] : List Node), bE g #[vd, ve, vh, r31o14, vt] 57, rdE v31o12 ([nth T ((nth ((nth a.Nodes ((z).toNat)).Kids) 1).toNat), x] : List Int), rowE 3 vt (T : List Int), bE g4 #[I ((nth a.Nodes ((z).toNat)).Op), u2n1, I ((nth a.Nodes ((z).toNat)).N), I ((nth a.Nodes ((z).toNat)).D), SB ((nth a.Nodes ((z).toNat)).Name)] 37, rdE u2n1 ((nth a.Nodes ((z).toNat)).Kids), rdE ve a.Nodes] H31o14 := St.back3 (A := [rowE 37 r26 (getL a T x N (nth ((nth a.Nodes ((z).toNat)).Kids) 0).toNat : List Node), bE g #[vd, ve, vh, r26, vt] 57]) (A' := [rowE 37 r31o14 ((getL a T x N (nth ((nth a.Nodes ((z).toNat)).Kids) 0).toNat) ++ [(Node.mk 8 ([nth T ((nth ((nth a.Nodes ((z).toNat)).Kids) 1).toNat), x]) 0 0 (ByteArray.mk #[]))] : List Node), bE g #[vd, ve, vh, r31o14, vt] 57]) (L := [rdE v31o12 ([nth T ((nth ((nth a.Nodes ((z).toNat)).Kids) 1).toNat), x] : List Int), rowE 3 vt (T : List Int), bE g4 #[I ((nth a.Nodes ((z).toNat)).Op), u2n1, I ((nth a.Nodes ((z).toNat)).N), I ((nth a.Nodes ((z).toNat)).D), SB ((nth a.Nodes ((z).toNat)).Name)] 37, rdE u2n1 ((nth a.Nodes ((z).toNat)).Kids), rdE ve a.Nodes]) hS31o14x2 hxx hgo
  refine ⟨Ext.mono hxx (labS_of 0 rfl (fun _ _ => trivial)), ?_⟩
  refine rq 15 (by kernel_rfl) rfl rfl (q_assign (v := I (((getL a T x N (nth ((nth a.Nodes ((z).toNat)).Kids) 0).toNat).length : Int))) rfl rfl) ?_
  refine wpR_end (by kernel_rfl) ?_
  exact ⟨r31o14, y0, y7, y8, rfl, (hS31o14x3.drop (sk (sk (sn (sk (sk (sk (sk (List.Sublist.slnil)))))))))⟩
 clear y0 y2 y7 y8
 rintro f32 H32 ⟨r31o14, y0, y7, y8, y9, hS32⟩
 refine sc (fun f H => ∃ (r33o15 : Value), f 6 = I ((((getL a T x N (nth ((nth a.Nodes ((z).toNat)).Kids) 0).toNat) ++ [(Node.mk 8 ([nth T ((nth ((nth a.Nodes ((z).toNat)).Kids) 1).toNat), x]) 0 0 (ByteArray.mk #[]))]).length : Int)) ∧ St H0 (own [rowE 37 vn (N : List Node), rowE 3 vt (T : List Int), bE g #[vd, ve, vh, vn, vt] 57]) (fun b => S b ∧ ¬ own [rowE 37 vn (N : List Node), rowE 3 vt (T : List Int), bE g #[vd, ve, vh, vn, vt] 57] b) [rowE 37 r33o15 (((getL a T x N (nth ((nth a.Nodes ((z).toNat)).Kids) 0).toNat) ++ [(Node.mk 8 ([nth T ((nth ((nth a.Nodes ((z).toNat)).Kids) 1).toNat), x]) 0 0 (ByteArray.mk #[]))]) ++ [(Node.mk 7 ([((getL a T x N (nth ((nth a.Nodes ((z).toNat)).Kids) 0).toNat).length : Int), nth T ((nth ((nth a.Nodes ((z).toNat)).Kids) 2).toNat), ((getL a T x N (nth ((nth a.Nodes ((z).toNat)).Kids) 0).toNat).length : Int) - 1]) 0 0 (ByteArray.mk #[]))] : List Node), bE g #[vd, ve, vh, r33o15, vt] 57, rowE 3 vt (T : List Int), bE g4 #[I ((nth a.Nodes ((z).toNat)).Op), u2n1, I ((nth a.Nodes ((z).toNat)).N), I ((nth a.Nodes ((z).toNat)).D), SB ((nth a.Nodes ((z).toNat)).Name)] 37, rdE u2n1 ((nth a.Nodes ((z).toNat)).Kids), rdE ve a.Nodes] H) ?_ ?_
 ·refine wpF_drawn [none, none, none, none, none, none, none, none, none, none, none, none, none, none, none, some 0, none] [[], [], [], [], [], [], [], [], [], [], [], [], [], [], [], [], []] (fun l b => match l with | 0 => True | _ => False) (by kernel_rfl) (by kernel_rfl) ?_
  refine rq 0 (by kernel_rfl) rfl rfl (q_move (v := PT g 0) rfl y0) ?_
  refine rq 1 (by kernel_rfl) rfl rfl (q_move (v := I (((getL a T x N (nth ((nth a.Nodes ((z).toNat)).Kids) 0).toNat).length : Int))) rfl y9) ?_
  refine rq 2 (by kernel_rfl) rfl rfl (q_move (v := PT g 0) rfl y0) ?_
  refine rq 3 (by kernel_rfl) rfl rfl (q_nilCheck rfl rfl) ?_
  refine rq 4 (by kernel_rfl) rfl rfl (q_fieldAddr rfl Try.underlying57 rfl Try.sizeOf24 rfl) ?_
  refine rq 5 (by kernel_rfl) rfl rfl (q_loadBlk rfl rfl Try.isAgg24 (hS32.blk 1 rfl) rfl (labU_not [] rfl (fe))) ?_
  refine rq 6 (by kernel_rfl) rfl rfl (q_fieldAddr rfl Try.underlying37 rfl Try.sizeOf24 y7) ?_
  refine rq 7 (by kernel_rfl) rfl rfl (q_loadBlk rfl rfl Try.isAgg24 (hS32.blk 3 rfl) rfl (labU_not [] rfl (fe))) ?_
  refine rq 8 (by kernel_rfl) rfl rfl (q_indexRd (k := 2) rfl Try.underlying24 el_Int_3_ArrC1 rfl rfl (hS32.rdl 4 rfl) (by omega) (by omega)) ?_
  refine rq 9 (by kernel_rfl) rfl rfl (q_loadInt (k := 2) rfl rfl el_Int_3_ArrC1 (hS32.rdl 4 rfl) (by omega) (labU_sub [] rfl (fe))) ?_
  refine rq 10 (by kernel_rfl) rfl rfl (q_indexRd (k := (nth ((nth a.Nodes ((z).toNat)).Kids) 2).toNat) rfl Try.underlying24 el_Int_3_ArrC1 rfl rfl (hS32.rowl 2 rfl) (by omega) (by omega)) ?_
  refine rq 11 (by kernel_rfl) rfl rfl (q_loadInt (k := (nth ((nth a.Nodes ((z).toNat)).Kids) 2).toNat) rfl rfl el_Int_3_ArrC1 (hS32.rowl 2 rfl) (by omega) (labU_sub [] rfl (fe))) ?_
  refine rq 12 (by kernel_rfl) rfl rfl (q_move (v := I (((getL a T x N (nth ((nth a.Nodes ((z).toNat)).Kids) 0).toNat).length : Int) - 1)) rfl y8) ?_
  refine wpR_n [13] (by kernel_rfl) ?_
  refine fa ?_ fe
  refine exE rfl rfl ?_
  refine e_buildSlice (vs := [I (((getL a T x N (nth ((nth a.Nodes ((z).toNat)).Kids) 0).toNat).length : Int)), I (nth T ((nth ((nth a.Nodes ((z).toNat)).Kids) 2).toNat)), I (((getL a T x N (nth ((nth a.Nodes ((z).toNat)).Kids) 0).toNat).length : Int) - 1)]) (xs := ([((getL a T x N (nth ((nth a.Nodes ((z).toNat)).Kids) 0).toNat).length : Int), nth T ((nth ((nth a.Nodes ((z).toNat)).Kids) 2).toNat), ((getL a T x N (nth ((nth a.Nodes ((z).toNat)).Kids) 0).toNat).length : Int) - 1] : List Int)) rfl Try.underlying24 Try.zeroValue3 rfl Try.sizeOf3 (par3 (v0 := I (((getL a T x N (nth ((nth a.Nodes ((z).toNat)).Kids) 0).toNat).length : Int))) (v1 := I (nth T ((nth ((nth a.Nodes ((z).toNat)).Kids) 2).toNat))) (v2 := I (((getL a T x N (nth ((nth a.Nodes ((z).toNat)).Kids) 0).toNat).length : Int) - 1)) rfl rfl rfl) rfl hS32 (RdVs.cons (Rd.int.2 ⟨rfl, by first | assumption | (constructor <;> omega)⟩) (RdVs.cons (Rd.int.2 ⟨rfl, by first | assumption | (constructor <;> omega)⟩) (RdVs.cons (Rd.int.2 ⟨rfl, by first | assumption | (constructor <;> omega)⟩) (RdVs.nil)))) (by decide) (by decide) (fun v33o13 H33o13 hS33o13 hxx hvv33o13 => ?_)
  refine ⟨Ext.mono hxx (fun _ h => h.elim), ?_⟩
  refine rq 14 (by kernel_rfl) rfl rfl (q_build (v := Vg #[I (7), v33o13, I (0), I (0), SB (ByteArray.mk #[])]) rfl (par2 (v0 := I (7)) (v1 := v33o13) rfl rfl) ((hS33o13.rowl 0 rfl).slc (fun zz0 => ∀ w__, (Instr.build 37 #[(0, I (7)), (1, zz0)]).run Try.prog w__ = .ok (Vg #[I (7), zz0, I (0), I (0), SB (ByteArray.mk #[])]) w__) (fun a0 n0 c0 => (fun w__ => by kernel_rfl)))) ?_
  refine wpR_n [15] (by kernel_rfl) ?_
  refine fa ?_ fe
  have hS33o15 : St H0 (own [rowE 37 vn (N : List Node), rowE 3 vt (T : List Int), bE g #[vd, ve, vh, vn, vt] 57]) (fun b => S b ∧ ¬ own [rowE 37 vn (N : List Node), rowE 3 vt (T : List Int), bE g #[vd, ve, vh, vn, vt] 57] b) [rdE v33o13 ([((getL a T x N (nth ((nth a.Nodes ((z).toNat)).Kids) 0).toNat).length : Int), nth T ((nth ((nth a.Nodes ((z).toNat)).Kids) 2).toNat), ((getL a T x N (nth ((nth a.Nodes ((z).toNat)).Kids) 0).toNat).length : Int) - 1] : List Int), rowE 37 r31o14 ((getL a T x N (nth ((nth a.Nodes ((z).toNat)).Kids) 0).toNat) ++ [(Node.mk 8 ([nth T ((nth ((nth a.Nodes ((z).toNat)).Kids) 1).toNat), x]) 0 0 (ByteArray.mk #[]))] : List Node), bE g #[vd, ve, vh, r31o14, vt] 57, rowE 3 vt (T : List Int), bE g4 #[I ((nth a.Nodes ((z).toNat)).Op), u2n1, I ((nth a.Nodes ((z).toNat)).N), I ((nth a.Nodes ((z).toNat)).D), SB ((nth a.Nodes ((z).toNat)).Name)] 37, rdE u2n1 ((nth a.Nodes ((z).toNat)).Kids), rdE ve a.Nodes] H33o13 := St.fin hS33o13
  have hS33o15x2 := (St.drop (show St H0 (own [rowE 37 vn (N : List Node), rowE 3 vt (T : List Int), bE g #[vd, ve, vh, vn, vt] 57]) (fun b => S b ∧ ¬ own [rowE 37 vn (N : List Node), rowE 3 vt (T : List Int), bE g #[vd, ve, vh, vn, vt] 57] b) [rowE 37 r31o14 ((getL a T x N (nth ((nth a.Nodes ((z).toNat)).Kids) 0).toNat) ++ [(Node.mk 8 ([nth T ((nth ((nth a.Nodes ((z).toNat)).Kids) 1).toNat), x]) 0 0 (ByteArray.mk #[]))] : List Node), bE g #[vd, ve, vh, r31o14, vt] 57, rdE v33o13 ([((getL a T x N (nth ((nth a.Nodes ((z).toNat)).Kids) 0).toNat).length : Int), nth T ((nth ((nth a.Nodes ((z).toNat)).Kids) 2).toNat), ((getL a T x N (nth ((nth a.Nodes ((z).toNat)).Kids) 0).toNat).length : Int) - 1] : List Int), rowE 3 vt (T : List Int), bE g4 #[I ((nth a.Nodes ((z).toNat)).Op), u2n1, I ((nth a.Nodes ((z).toNat)).N), I ((nth a.Nodes ((z).toNat)).D), SB ((nth a.Nodes ((z).toNat)).Name)] 37, rdE u2n1 ((nth a.Nodes ((z).toNat)).Kids), rdE ve a.Nodes] H33o13 from ((hS33o15.front 2 rfl).front 2 rfl)) (sk (sk (sk (sk (sk (sk (sk (List.Sublist.slnil)))))))))
  refine exE rfl rfl ?_
  refine e_call rfl Try.call19 (arr2 (v0 := PT g 0) (v1 := Vg #[I (7), v33o13, I (0), I (0), SB (ByteArray.mk #[])]) rfl rfl) (put_M _ g vd ve vh r31o14 vt v33o13 ((getL a T x N (nth ((nth a.Nodes ((z).toNat)).Kids) 0).toNat) ++ [(Node.mk 8 ([nth T ((nth ((nth a.Nodes ((z).toNat)).Kids) 1).toNat), x]) 0 0 (ByteArray.mk #[]))]) (Node.mk 7 ([((getL a T x N (nth ((nth a.Nodes ((z).toNat)).Kids) 0).toNat).length : Int), nth T ((nth ((nth a.Nodes ((z).toNat)).Kids) 2).toNat), ((getL a T x N (nth ((nth a.Nodes ((z).toNat)).Kids) 0).toNat).length : Int) - 1]) 0 0 (ByteArray.mk #[])) (St.give (A := [rowE 37 r31o14 ((getL a T x N (nth ((nth a.Nodes ((z).toNat)).Kids) 0).toNat) ++ [(Node.mk 8 ([nth T ((nth ((nth a.Nodes ((z).toNat)).Kids) 1).toNat), x]) 0 0 (ByteArray.mk #[]))] : List Node), bE g #[vd, ve, vh, r31o14, vt] 57]) (L := [rdE v33o13 ([((getL a T x N (nth ((nth a.Nodes ((z).toNat)).Kids) 0).toNat).length : Int), nth T ((nth ((nth a.Nodes ((z).toNat)).Kids) 2).toNat), ((getL a T x N (nth ((nth a.Nodes ((z).toNat)).Kids) 0).toNat).length : Int) - 1] : List Int), rowE 3 vt (T : List Int), bE g4 #[I ((nth a.Nodes ((z).toNat)).Op), u2n1, I ((nth a.Nodes ((z).toNat)).N), I ((nth a.Nodes ((z).toNat)).D), SB ((nth a.Nodes ((z).toNat)).Name)] 37, rdE u2n1 ((nth a.Nodes ((z).toNat)).Kids), rdE ve a.Nodes]) hS33o15x2) (by first | assumption | (constructor <;> (dsimp only; omega))) (hS33o15x2.rdS 2 rfl) (by first | assumption | (constructor <;> (dsimp only; omega))) (by first | assumption | (constructor <;> (dsimp only; omega))) (by first | assumption | exact Nat.zero_le _)  (by first | omega | (simp only [List.length_append, List.length_cons, List.length_nil]; omega))) ?_
  rintro _ H33o15 ⟨hxx, r33o15, rfl, hgo⟩
  have hS33o15x3 : St H0 (own [rowE 37 vn (N : List Node), rowE 3 vt (T : List Int), bE g #[vd, ve, vh, vn, vt] 57]) (fun b => S b ∧ ¬ own [rowE 37 vn (N : List Node), rowE 3 vt (T : List Int), bE g #[vd, ve, vh, vn, vt] 57] b) [rowE 37 r33o15 (((getL a T x N (nth ((nth a.Nodes ((z).toNat)).Kids) 0).toNat) ++ [(Node.mk 8 ([nth T ((nth ((nth a.Nodes ((z).toNat)).Kids) 1).toNat), x]) 0 0 (ByteArray.mk #[]))]) ++ [(Node.mk 7 ([((getL a T x N (nth ((nth a.Nodes ((z).toNat)).Kids) 0).toNat).length : Int), nth T ((nth ((nth a.Nodes ((z).toNat)).Kids) 2).toNat), ((getL a T x N (nth ((nth a.Nodes ((z).toNat)).Kids) 0).toNat).length : Int) - 1]) 0 0 (ByteArray.mk #[]))] : List Node), bE g #[vd, ve, vh, r33o15, vt] 57, rdE v33o13 ([((getL a T x N (nth ((nth a.Nodes ((z).toNat)).Kids) 0).toNat).length : Int), nth T ((nth ((nth a.Nodes ((z).toNat)).Kids) 2).toNat), ((getL a T x N (nth ((nth a.Nodes ((z).toNat)).Kids) 0).toNat).length : Int) - 1] : List Int), rowE 3 vt (T : List Int), bE g4 #[I ((nth a.Nodes ((z).toNat)).Op), u2n1, I ((nth a.Nodes ((z).toNat)).N), I ((nth a.Nodes ((z).toNat)).D), SB ((nth a.Nodes ((z).toNat)).Name)] 37, rdE u2n1 ((nth a.Nodes ((z).toNat)).Kids), rdE ve a.Nodes] H33o15 := St.back3 (A := [rowE 37 r31o14 ((getL a T x N (nth ((nth a.Nodes ((z).toNat)).Kids) 0).toNat) ++ [(Node.mk 8 ([nth T ((nth ((nth a.Nodes ((z).toNat)).Kids) 1).toNat), x]) 0 0 (ByteArray.mk #[]))] : List Node), bE g #[vd, ve, vh, r31o14, vt] 57]) (A' := [rowE 37 r33o15 (((getL a T x N (nth ((nth a.Nodes ((z).toNat)).Kids) 0).toNat) ++ [(Node.mk 8 ([nth T ((nth ((nth a.Nodes ((z).toNat)).Kids) 1).toNat), x]) 0 0 (ByteArray.mk #[]))]) ++ [(Node.mk 7 ([((getL a T x N (nth ((nth a.Nodes ((z).toNat)).Kids) 0).toNat).length : Int), nth T ((nth ((nth a.Nodes ((z).toNat)).Kids) 2).toNat), ((getL a T x N (nth ((nth a.Nodes ((z).toNat)).Kids) 0).toNat).length : Int) - 1]) 0 0 (ByteArray.mk #[]))] : List Node), bE g #[vd, ve, vh, r33o15, vt] 57]) (L := [rdE v33o13 ([((getL a T x N (nth ((nth a.Nodes ((z).toNat)).Kids) 0).toNat).length : Int), nth T ((nth ((nth a.Nodes ((z).toNat)).Kids) 2).toNat), ((getL a T x N (nth ((nth a.Nodes ((z).toNat)).Kids) 0).toNat).length : Int) - 1] : List Int), rowE 3 vt (T : List Int), bE g4 #[I ((nth a.Nodes ((z).toNat)).Op), u2n1, I ((nth a.Nodes ((z).toNat)).N), I ((nth a.Nodes ((z).toNat)).D), SB ((nth a.Nodes ((z).toNat)).Name)] 37, rdE u2n1 ((nth a.Nodes ((z).toNat)).Kids), rdE ve a.Nodes]) hS33o15x2 hxx hgo
  refine ⟨Ext.mono hxx (labS_of 0 rfl (fun _ _ => trivial)), ?_⟩
  refine rq 16 (by kernel_rfl) rfl rfl (q_assign (v := I ((((getL a T x N (nth ((nth a.Nodes ((z).toNat)).Kids) 0).toNat) ++ [(Node.mk 8 ([nth T ((nth ((nth a.Nodes ((z).toNat)).Kids) 1).toNat), x]) 0 0 (ByteArray.mk #[]))]).length : Int))) rfl rfl) ?_
  refine wpR_end (by kernel_rfl) ?_
  exact ⟨r33o15, rfl, (hS33o15x3.drop (sk (sk (sn (sk (sk (sk (sk (List.Sublist.slnil)))))))))⟩
 clear y0 y7 y8 y9
 rintro f34 H34 ⟨r33o15, y6, hS34⟩
 refine wpF_ret ?_
 refine ⟨_, resT y6 resN, hS34.frameM, ?_⟩
 show ∃ vn_, (I ((((getL a T x N (nth ((nth a.Nodes ((z).toNat)).Kids) 0).toNat) ++ [(Node.mk 8 ([nth T ((nth ((nth a.Nodes ((z).toNat)).Kids) 1).toNat), x]) 0 0 (ByteArray.mk #[]))]).length : Int))) = I (((getL a T x N z.toNat).length : Int) - 1) ∧ Gone S [rowE 37 vn (N : List Node), rowE 3 vt (T : List Int), bE g #[vd, ve, vh, vn, vt] 57] [rowE 37 vn_ (getL a T x N z.toNat : List Node), rowE 3 vt (T : List Int), bE g #[vd, ve, vh, vn_, vt] 57] H0 H34
 rw [getL_put h9 hk0]
 exact ⟨r33o15, congrArg I (by simp only [List.length_append, List.length_cons, List.length_nil, kidN]; omega), St.leave3 (show St H0 (own [rowE 37 vn (N : List Node), rowE 3 vt (T : List Int), bE g #[vd, ve, vh, vn, vt] 57]) (fun b => S b ∧ ¬ own [rowE 37 vn (N : List Node), rowE 3 vt (T : List Int), bE g #[vd, ve, vh, vn, vt] 57] b) [rowE 37 r33o15 (((getL a T x N (nth ((nth a.Nodes ((z).toNat)).Kids) 0).toNat) ++ [(Node.mk 8 ([nth T ((nth ((nth a.Nodes ((z).toNat)).Kids) 1).toNat), x]) 0 0 (ByteArray.mk #[]))]) ++ [(Node.mk 7 ([((getL a T x N (nth ((nth a.Nodes ((z).toNat)).Kids) 0).toNat).length : Int), nth T ((nth ((nth a.Nodes ((z).toNat)).Kids) 2).toNat), ((getL a T x N (nth ((nth a.Nodes ((z).toNat)).Kids) 0).toNat).length : Int) - 1]) 0 0 (ByteArray.mk #[]))] : List Node), rowE 3 vt (T : List Int), bE g #[vd, ve, vh, r33o15, vt] 57] H34 from (St.drop (show St H0 (own [rowE 37 vn (N : List Node), rowE 3 vt (T : List Int), bE g #[vd, ve, vh, vn, vt] 57]) (fun b => S b ∧ ¬ own [rowE 37 vn (N : List Node), rowE 3 vt (T : List Int), bE g #[vd, ve, vh, vn, vt] 57] b) [rowE 37 r33o15 (((getL a T x N (nth ((nth a.Nodes ((z).toNat)).Kids) 0).toNat) ++ [(Node.mk 8 ([nth T ((nth ((nth a.Nodes ((z).toNat)).Kids) 1).toNat), x]) 0 0 (ByteArray.mk #[]))]) ++ [(Node.mk 7 ([((getL a T x N (nth ((nth a.Nodes ((z).toNat)).Kids) 0).toNat).length : Int), nth T ((nth ((nth a.Nodes ((z).toNat)).Kids) 2).toNat), ((getL a T x N (nth ((nth a.Nodes ((z).toNat)).Kids) 0).toNat).length : Int) - 1]) 0 0 (ByteArray.mk #[]))] : List Node), rowE 3 vt (T : List Int), bE g #[vd, ve, vh, r33o15, vt] 57, bE g4 #[I ((nth a.Nodes ((z).toNat)).Op), u2n1, I ((nth a.Nodes ((z).toNat)).N), I ((nth a.Nodes ((z).toNat)).D), SB ((nth a.Nodes ((z).toNat)).Name)] 37, rdE u2n1 ((nth a.Nodes ((z).toNat)).Kids), rdE ve a.Nodes] H34 from ((hS34.front 2 rfl).front 1 rfl)) (sk (sk (sk (sn (sn (sn (List.Sublist.slnil)))))))))⟩
end Go.Um
