import Derived.Test.YtacphjgolmolmaaGreatProg
import Derived.Test.YtacphjgolmolmaaGreatAskC3Z
import Derived.Test.YtacphjgolmolmaaGreatUmArrUpC
namespace Go.Um
open Go.Proofs
open GoT (sz ag rdc)
open KeyT (kv)
theorem el_Int_3_ArrC1 : ElT Tryz.prog Int 3 := ⟨Tryz.isAgg3, Tryz.sizeOf3⟩
theorem el_Node_52_ArrC1 : ElT Tryz.prog Node 52 := ⟨Tryz.isAgg52, Tryz.sizeOf52⟩
theorem em_Node_52_ArrC1 : ElemOk Tryz.prog Node 52 := ⟨Tryz.t52, (.agg #[(.int .i64 0), (.slice none 0 0), (.int .i64 0), (.int .i64 0), (.string (ByteArray.mk #[]))]), by kernel_rfl, by kernel_rfl, by kernel_rfl, by kernel_rfl, by kernel_rfl⟩
set_option maxRecDepth 100000 in
theorem put_M {H0 : Heap} (S : Nat → Prop) (g : Nat) (vd ve vh vn vt vk : Value) (N : List Node) (n : Node) (hg : Given S [rowE 52 vn (N : List Node), bE g #[vd, ve, vh, vn, vt] 50] H0) (h6nOp : In64 n.Op) (rvk : Rd S H0 vk n.Kids) (h6nN : In64 n.N) (h6nD : In64 n.D) (h6nName : n.Name.size ≤ maxLen) (hN : N.length ≤ 1000000) : CallsH Tryz.prog 15 #[PT g 0, Vg #[I (n.Op), vk, I (n.N), I (n.D), SB (n.Name)]] H0 (fun rv_ H' => Ext (own [rowE 52 vn (N : List Node), bE g #[vd, ve, vh, vn, vt] 50]) H0 H' ∧ ∃ vn_, rv_ = I (N.length : Int) ∧ Gone S [rowE 52 vn (N : List Node), bE g #[vd, ve, vh, vn, vt] 50] [rowE 52 vn_ (N ++ [n] : List Node), bE g #[vd, ve, vh, vn_, vt] 50] H0 H') := by
 have hS0 : St H0 (own [rowE 52 vn (N : List Node), bE g #[vd, ve, vh, vn, vt] 50]) (fun b => S b ∧ ¬ own [rowE 52 vn (N : List Node), bE g #[vd, ve, vh, vn, vt] 50] b) [rdE vk n.Kids, rowE 52 vn (N : List Node), bE g #[vd, ve, vh, vn, vt] 50] H0 := (hg.st.rdG rvk fun b hb => hg.sub hb)
 refine callsH_of_wpF (args := [PT g 0, Vg #[I (n.Op), vk, I (n.N), I (n.D), SB (n.Name)]]) (rs := [.tmp 4]) Tryz.func15 rfl Tryz.ntmps15 Tryz.results15 (by kernel_rfl) (Nat.le_of_ble_eq_true rfl) ?_
 have y0 : argF [PT g 0, Vg #[I (n.Op), vk, I (n.N), I (n.D), SB (n.Name)]] 0 = PT g 0 := rfl
 have y1 : argF [PT g 0, Vg #[I (n.Op), vk, I (n.N), I (n.D), SB (n.Name)]] 1 = Vg #[I (n.Op), vk, I (n.N), I (n.D), SB (n.Name)] := rfl
 generalize argF [PT g 0, Vg #[I (n.Op), vk, I (n.N), I (n.D), SB (n.Name)]] = f0 at *
 refine wpF_seq ?_
 refine wpF_region ?_
 refine lo rfl ?_
 refine e_box (v := Vg #[I (n.Op), vk, I (n.N), I (n.D), SB (n.Name)]) rfl y1 hS0 (fun g1 H2 hS3 hxx => ?_)
 refine la (v := I (0)) rfl rfl rfl ?_
 refine wpL_nil ?_
 refine wpF_seq ?_
 refine wpF_drawn [none, none, none, none, none, none, none, some 0, none, none, some 1] [[0], [], [], [], [], [], [], [], [], [], []] (fun l b => match l with | 0 => rowB vn b | 1 => True | _ => False) (by kernel_rfl) (by kernel_rfl) ?_
 refine rq 0 (by kernel_rfl) rfl rfl (q_move (v := PT g 0) rfl y0) ?_
 refine rq 1 (by kernel_rfl) rfl rfl (q_move (v := PT g 0) rfl y0) ?_
 refine rq 2 (by kernel_rfl) rfl rfl (q_nilCheck rfl rfl) ?_
 refine rq 3 (by kernel_rfl) rfl rfl (q_fieldAddr rfl Tryz.underlying50 rfl Tryz.sizeOf23 rfl) ?_
 refine rq 4 (by kernel_rfl) rfl rfl (q_loadBlk rfl rfl Tryz.isAgg23 (hS3.blk 3 rfl) rfl (labU_not [] rfl (fe))) ?_
 refine rq 5 (by kernel_rfl) rfl rfl (q_loadBlkA rfl rfl Tryz.isAgg52 Tryz.sizeOf52 rfl (hS3.blk 0 rfl) (labU_not [] rfl (fe))) ?_
 refine wpR_n [6] (by kernel_rfl) ?_
 refine fa ?_ fe
 refine exE rfl rfl ?_
 refine e_buildSlice (vs := [Vg #[I (n.Op), vk, I (n.N), I (n.D), SB (n.Name)]]) (xs := ([n] : List Node)) rfl Tryz.underlying23 Tryz.zeroValue52 rfl Tryz.sizeOf52 (par1 (v0 := Vg #[I (n.Op), vk, I (n.N), I (n.D), SB (n.Name)]) rfl) rfl hS3 (RdVs.cons (Rd.node.2 ⟨_, rfl, (by first | assumption | (constructor <;> (try dsimp only) <;> omega)), (hS3.rdS 1 rfl), (by first | assumption | (constructor <;> (try dsimp only) <;> omega)), (by first | assumption | (constructor <;> (try dsimp only) <;> omega)), (by first | assumption | exact Nat.zero_le _ | exact Nat.le_of_ble_eq_true rfl)⟩) (RdVs.nil)) (by decide) (by decide) (fun v4o6 H4o6 hS4o6 hxx hvv4o6 => ?_)
 refine ⟨Ext.mono hxx (fun _ h => h.elim), ?_⟩
 refine wpR_n [7] (by kernel_rfl) ?_
 refine fa ?_ fe
 have hS4o7 : St H0 (own [rowE 52 vn (N : List Node), bE g #[vd, ve, vh, vn, vt] 50]) (fun b => S b ∧ ¬ own [rowE 52 vn (N : List Node), bE g #[vd, ve, vh, vn, vt] 50] b) [rdE v4o6 ([n] : List Node), bE g1 #[I (n.Op), vk, I (n.N), I (n.D), SB (n.Name)] 52, rdE vk n.Kids, rowE 52 vn (N : List Node), bE g #[vd, ve, vh, vn, vt] 50] H4o6 := St.fin hS4o6
 have hS4o7x2 := (hS4o7.front 3 rfl)
 refine exE rfl rfl ?_
 refine e_append rfl Tryz.underlying23 em_Node_52_ArrC1 rfl rfl hS4o7x2 (hS4o7x2.rdS 1 rfl) (fun _ h => h) (by have hb : GoT.bytes Node = 64 := rfl; rw [hb]; simp only [List.length_append, List.length_cons, List.length_nil]; omega) (by decide) (fun v4o7 H4o7 hS4o7x3 hxx => ?_)
 refine ⟨Ext.mono hxx (labS_of 0 rfl (fun b hb => hb)), ?_⟩
 refine rq 8 (by kernel_rfl) rfl rfl (q_nilCheck rfl rfl) ?_
 refine rq 9 (by kernel_rfl) rfl rfl (q_fieldAddr rfl Tryz.underlying50 rfl Tryz.sizeOf23 rfl) ?_
 refine wpR_n [10] (by kernel_rfl) ?_
 refine fa ?_ fe
 refine exE rfl rfl ?_
 refine e_storeBlk (v := v4o7) rfl rfl rfl (oneCell_rdL (hS4o7x3.rowl 0 rfl)) Tryz.sizeOf23 (by show _ < 5; decide) (hS4o7x3.front 4 rfl) (fun H4o10 hS4o10 hxx => ?_)
 refine ⟨Ext.mono hxx (labS_of 1 rfl (fun _ _ => trivial)), ?_⟩
 refine wpR_end (by kernel_rfl) ?_
 skip
 refine wpF_seq ?_
 refine wpF_region ?_
 refine lm (v := PT g 0) rfl rfl y0 ?_
 refine lq rfl (q_nilCheck rfl rfl) ?_
 refine lq rfl (q_fieldAddr rfl Tryz.underlying50 rfl Tryz.sizeOf23 rfl) ?_
 refine lq rfl (q_loadBlk rfl rfl Tryz.isAgg23 (hS4o10.blk 0 rfl) rfl (fun h => h)) ?_
 refine lq rfl (q_lenRd rfl Tryz.underlying23 rfl (hS4o10.rowl 1 rfl)) ?_
 refine lq rfl (q_sub rfl rfl rfl (by simp only [List.length_append, List.length_cons, List.length_nil]; constructor <;> omega)) ?_
 refine la (v := I (((N ++ ([n])).length : Int) - 1)) rfl rfl rfl ?_
 refine wpL_nil ?_
 refine wpF_ret ?_
 refine ⟨_, resT rfl resN, hS4o10.frameM, ?_⟩
 show ∃ vn_, (I (((N ++ ([n])).length : Int) - 1)) = I (N.length : Int) ∧ Gone S [rowE 52 vn (N : List Node), bE g #[vd, ve, vh, vn, vt] 50] [rowE 52 vn_ (N ++ [n] : List Node), bE g #[vd, ve, vh, vn_, vt] 50] H0 H4o10
 exact ⟨v4o7, congrArg I (by simp), St.leave3 (St.drop (show St H0 (own [rowE 52 vn (N : List Node), bE g #[vd, ve, vh, vn, vt] 50]) (fun b => S b ∧ ¬ own [rowE 52 vn (N : List Node), bE g #[vd, ve, vh, vn, vt] 50] b) [rowE 52 v4o7 (N ++ ([n]) : List Node), bE g #[vd, ve, vh, v4o7, vt] 50, rdE v4o6 ([n] : List Node), bE g1 #[I (n.Op), vk, I (n.N), I (n.D), SB (n.Name)] 52, rdE vk n.Kids] H4o10 from (hS4o10.front 1 rfl)) (sk (sk (sn (sn (sn (List.Sublist.slnil)))))))⟩
set_option maxHeartbeats 4000000 in
set_option maxRecDepth 100000 in
theorem read_M : ∀ (nn : Nat) {H0 : Heap} (S : Nat → Prop) (g : Nat) (vd ve vh vn vt : Value) (a : Ask) (N : List Node) (T : List Int) (z x : Int) (_hg : Given S [rowE 52 vn (N : List Node), rowE 3 vt (T : List Int), bE g #[vd, ve, vh, vn, vt] 50] H0) (_re : Rd S H0 ve a.Nodes) (_hz : 0 ≤ z) (_hc : Chain a T.length z.toNat) (_hx : In64 x) (_hN : N.length ≤ 200) (_hm : a.Nodes.length ≤ 250) (_hn : z.toNat = nn), CallsH Tryz.prog 14 #[PT g 0, I (z), I (x)] H0 (fun rv_ H' => Ext (own [rowE 52 vn (N : List Node), rowE 3 vt (T : List Int), bE g #[vd, ve, vh, vn, vt] 50]) H0 H' ∧ ∃ vn_, rv_ = I (((getL a T x N z.toNat).length : Int) - 1) ∧ Gone S [rowE 52 vn (N : List Node), rowE 3 vt (T : List Int), bE g #[vd, ve, vh, vn, vt] 50] [rowE 52 vn_ (getL a T x N z.toNat : List Node), rowE 3 vt (T : List Int), bE g #[vd, ve, vh, vn_, vt] 50] H0 H') := by
 intro nn
 induction nn using Nat.strongRecOn with
 | _ nn ih =>
 intro H0 S g vd ve vh vn vt a N T z x hg re hz hc hx hN hm hnn
 have hS0 : St H0 (own [rowE 52 vn (N : List Node), rowE 3 vt (T : List Int), bE g #[vd, ve, vh, vn, vt] 50]) (fun b => S b ∧ ¬ own [rowE 52 vn (N : List Node), rowE 3 vt (T : List Int), bE g #[vd, ve, vh, vn, vt] 50] b) [rdE ve a.Nodes, rowE 52 vn (N : List Node), rowE 3 vt (T : List Int), bE g #[vd, ve, vh, vn, vt] 50] H0 := (hg.st.rdG re fun b hb => hg.sub hb)
 have hlt := hc.lt
 refine callsH_of_wpF (args := [PT g 0, I (z), I (x)]) (rs := [.tmp 6]) Tryz.func14 rfl Tryz.ntmps14 Tryz.results14 (by kernel_rfl) (Nat.le_of_ble_eq_true rfl) ?_
 have y0 : argF [PT g 0, I (z), I (x)] 0 = PT g 0 := rfl
 have y1 : argF [PT g 0, I (z), I (x)] 1 = I (z) := rfl
 have y2 : argF [PT g 0, I (z), I (x)] 2 = I (x) := rfl
 generalize argF [PT g 0, I (z), I (x)] = f0 at *
 refine wpF_seq ?_
 refine wpF_region ?_
 refine la (v := I (0)) rfl rfl rfl ?_
 refine wpL_nil ?_
 refine wpF_seq ?_
 refine wpF_region ?_
 refine lm (v := PT g 0) rfl rfl y0 ?_
 refine lq rfl (q_nilCheck rfl rfl) ?_
 refine lq rfl (q_fieldAddr rfl Tryz.underlying50 rfl Tryz.sizeOf26 rfl) ?_
 refine lq rfl (q_fieldAddr rfl Tryz.underlying26 rfl Tryz.sizeOf23 rfl) ?_
 refine lq rfl (q_loadBlk rfl rfl Tryz.isAgg23 (hS0.blk 3 rfl) rfl (fun h => h)) ?_
 refine lm (v := I (z)) rfl rfl y1 ?_
 refine lq rfl (q_indexRd (k := (z).toNat) rfl Tryz.underlying23 el_Node_52_ArrC1 rfl rfl (hS0.rdl 0 rfl) (by omega) (by omega)) ?_
 obtain ⟨u1, huu1, hlu1⟩ := (Rd.list.1 (hS0.rdS 0 rfl)).elem ((z).toNat) (by omega)
 obtain ⟨u1n1, rfl, hu10, hu11, hu12, hu13, hu14⟩ := Rd.node.1 huu1
 have hS2 := hS0.rd hu11
 refine lq rfl (q_loadE rfl rfl (hlu1 Tryz.prog 52 _ el_Node_52_ArrC1 (fun _ h => False.elim h))) ?_
 refine lo rfl ?_
 refine e_alloc rfl Tryz.zeroValue52 hS2 (fun g3 H4 hS5 hxx => ?_)
 refine lo rfl ?_
 refine e_storeBlkA (cs' := #[I ((nth a.Nodes ((z).toNat)).Op), u1n1, I ((nth a.Nodes ((z).toNat)).N), I ((nth a.Nodes ((z).toNat)).D), SB ((nth a.Nodes ((z).toNat)).Name)]) rfl rfl rfl Tryz.sizeOf52 rfl rfl (fa rfl (fa ((oneCell_rdL (hS5.rdl 1 rfl))) (fa rfl (fa rfl (fa rfl fe))))) hS5 (fun H6 hS7 hxx => ?_)
 refine wpL_nil ?_
 refine wpF_seq ?_
 refine fcr (fun f H => f 0 = PT g 0 ∧ f 2 = I (x) ∧ f 7 = PT g3 0 ∧ f 28 = B (decide ((((nth a.Nodes ((z).toNat)).Op) = 9) ∨ (200 < (N.length : Int)))) ∧ H6 = H) ?_ ?_
 ·refine lq rfl (q_fieldAddr rfl Tryz.underlying52 rfl Tryz.sizeOf3 rfl) ?_
  refine lq rfl (q_loadBlk rfl rfl Tryz.isAgg3 (hS7.blk 0 rfl) rfl (fun h => h)) ?_
  refine lq rfl (q_eql rfl rfl rfl) ?_
  refine lm (v := B (decide (((nth a.Nodes ((z).toNat)).Op) = 9))) rfl rfl rfl ?_
  by_cases hg8 : ((nth a.Nodes ((z).toNat)).Op) = 9
  ·have hb9 := Eq.trans rfl (congrArg B (decide_eq_true hg8))
   refine wpL_gs rfl rfl rfl hb9 rfl ?_
   refine wpL_gs rfl rfl rfl hb9 rfl ?_
   refine wpL_gs rfl rfl rfl hb9 rfl ?_
   refine wpL_gs rfl rfl rfl hb9 rfl ?_
   refine wpL_gs rfl rfl rfl hb9 rfl ?_
   refine wpL_gs rfl rfl rfl hb9 rfl ?_
   refine lq rfl (q_pickT (v := B (true)) rfl hb9 rfl) ?_
   exact ⟨y0, y2, rfl, (Eq.trans rfl (congrArg B ((decide_eq_true (Or.inl hg8)).symm))), rfl⟩
  ·have hb10 := Eq.trans rfl (congrArg B (decide_eq_false hg8))
   refine gq rfl rfl rfl hb10 (q_move (v := PT g 0) rfl y0) ?_
   refine gq rfl rfl rfl hb10 (q_nilCheck rfl rfl) ?_
   refine gq rfl rfl rfl hb10 (q_fieldAddr rfl Tryz.underlying50 rfl Tryz.sizeOf23 rfl) ?_
   refine gq rfl rfl rfl hb10 (q_loadBlk rfl rfl Tryz.isAgg23 (hS7.blk 5 rfl) rfl (fun h => h)) ?_
   refine gq rfl rfl rfl hb10 (q_lenRd rfl Tryz.underlying23 rfl (hS7.rowl 3 rfl)) ?_
   refine gq rfl rfl rfl hb10 (q_gtr rfl rfl rfl) ?_
   refine lq rfl (q_pickF (v := B (decide (200 < (N.length : Int)))) rfl hb10 rfl) ?_
   exact ⟨y0, y2, rfl, (Eq.trans rfl (congrArg B (decide_congr_of ((Iff.rfl).trans (((or_iff_right hg8).trans Iff.rfl)).symm)))), rfl⟩
 clear y0 y2
 rintro f11 _ ⟨y0, y2, y7, y28, rfl⟩
 refine wpF_condP y28 (fun h28 => ?t30) (fun h28 => ?e30)
 case t30 =>
  have h9 : (nth a.Nodes z.toNat).Op = 9 := h28.resolve_right (by omega)
  refine wpF_seq ?_
  refine wpF_region ?_
  refine lm (v := PT g 0) rfl rfl y0 ?_
  refine lq rfl (q_fieldAddr rfl Tryz.underlying52 rfl Tryz.sizeOf9 y7) ?_
  refine lq rfl (q_loadBlk rfl rfl Tryz.isAgg9 (hS7.blk 0 rfl) rfl (fun h => h)) ?_
  refine lm (v := I (x)) rfl rfl y2 ?_
  refine lo rfl ?_
  refine e_buildSlice (vs := [I (x)]) (xs := ([x] : List Int)) rfl Tryz.underlying24 Tryz.zeroValue3 rfl Tryz.sizeOf3 (par1 (v0 := I (x)) rfl) rfl hS7 (RdVs.cons (Rd.int.2 ⟨rfl, by first | assumption | (constructor <;> omega)⟩) (RdVs.nil)) (by decide) (by decide) (fun v13 H14 hS15 hxx hvv13 => ?_)
  refine lq rfl (q_build (v := Vg #[I (9), v13, I (0), I (0), SB ((nth a.Nodes ((z).toNat)).Name)]) rfl (par3 (v0 := I (9)) (v1 := SB ((nth a.Nodes ((z).toNat)).Name)) (v2 := v13) rfl rfl rfl) ((hS15.rowl 0 rfl).slc (fun zz0 => ∀ w__, (Instr.build 52 #[(0, I (9)), (4, SB ((nth a.Nodes ((z).toNat)).Name)), (1, zz0)]).run Tryz.prog w__ = .ok (Vg #[I (9), zz0, I (0), I (0), SB ((nth a.Nodes ((z).toNat)).Name)]) w__) (fun a0 n0 c0 => (fun w__ => by kernel_rfl)))) ?_
  have hS16 : St H0 (own [rowE 52 vn (N : List Node), rowE 3 vt (T : List Int), bE g #[vd, ve, vh, vn, vt] 50]) (fun b => S b ∧ ¬ own [rowE 52 vn (N : List Node), rowE 3 vt (T : List Int), bE g #[vd, ve, vh, vn, vt] 50] b) [rdE v13 ([x] : List Int), bE g3 #[I ((nth a.Nodes ((z).toNat)).Op), u1n1, I ((nth a.Nodes ((z).toNat)).N), I ((nth a.Nodes ((z).toNat)).D), SB ((nth a.Nodes ((z).toNat)).Name)] 52, rdE u1n1 ((nth a.Nodes ((z).toNat)).Kids), rdE ve a.Nodes, rowE 52 vn (N : List Node), rowE 3 vt (T : List Int), bE g #[vd, ve, vh, vn, vt] 50] H14 := St.fin hS15
  have hS17 := (St.drop (show St H0 (own [rowE 52 vn (N : List Node), rowE 3 vt (T : List Int), bE g #[vd, ve, vh, vn, vt] 50]) (fun b => S b ∧ ¬ own [rowE 52 vn (N : List Node), rowE 3 vt (T : List Int), bE g #[vd, ve, vh, vn, vt] 50] b) [rowE 52 vn (N : List Node), bE g #[vd, ve, vh, vn, vt] 50, rdE v13 ([x] : List Int), bE g3 #[I ((nth a.Nodes ((z).toNat)).Op), u1n1, I ((nth a.Nodes ((z).toNat)).N), I ((nth a.Nodes ((z).toNat)).D), SB ((nth a.Nodes ((z).toNat)).Name)] 52, rdE u1n1 ((nth a.Nodes ((z).toNat)).Kids), rdE ve a.Nodes, rowE 3 vt (T : List Int)] H14 from ((hS16.front 6 rfl).front 5 rfl)) (sk (sk (sk (sk (sk (sk (sk (List.Sublist.slnil)))))))))
  refine lo rfl ?_
  refine e_call rfl Tryz.call15 (arr2 (v0 := PT g 0) (v1 := Vg #[I (9), v13, I (0), I (0), SB ((nth a.Nodes ((z).toNat)).Name)]) rfl rfl) (put_M _ g vd ve vh vn vt v13 N (Node.mk 9 ([x]) 0 0 ((nth a.Nodes ((z).toNat)).Name)) (St.give (A := [rowE 52 vn (N : List Node), bE g #[vd, ve, vh, vn, vt] 50]) (L := [rdE v13 ([x] : List Int), bE g3 #[I ((nth a.Nodes ((z).toNat)).Op), u1n1, I ((nth a.Nodes ((z).toNat)).N), I ((nth a.Nodes ((z).toNat)).D), SB ((nth a.Nodes ((z).toNat)).Name)] 52, rdE u1n1 ((nth a.Nodes ((z).toNat)).Kids), rdE ve a.Nodes, rowE 3 vt (T : List Int)]) hS17) (by first | assumption | (constructor <;> (dsimp only; omega))) (hS17.rdS 2 rfl) (by first | assumption | (constructor <;> (dsimp only; omega))) (by first | assumption | (constructor <;> (dsimp only; omega))) (by first | assumption | exact Nat.zero_le _)  (by first | omega | (simp only [List.length_append, List.length_cons, List.length_nil]; omega))) ?_
  rintro _ H19 ⟨hxx, r18, rfl, hgo⟩
  have hS20 : St H0 (own [rowE 52 vn (N : List Node), rowE 3 vt (T : List Int), bE g #[vd, ve, vh, vn, vt] 50]) (fun b => S b ∧ ¬ own [rowE 52 vn (N : List Node), rowE 3 vt (T : List Int), bE g #[vd, ve, vh, vn, vt] 50] b) [rowE 52 r18 (N ++ [(Node.mk 9 ([x]) 0 0 ((nth a.Nodes ((z).toNat)).Name))] : List Node), bE g #[vd, ve, vh, r18, vt] 50, rdE v13 ([x] : List Int), bE g3 #[I ((nth a.Nodes ((z).toNat)).Op), u1n1, I ((nth a.Nodes ((z).toNat)).N), I ((nth a.Nodes ((z).toNat)).D), SB ((nth a.Nodes ((z).toNat)).Name)] 52, rdE u1n1 ((nth a.Nodes ((z).toNat)).Kids), rdE ve a.Nodes, rowE 3 vt (T : List Int)] H19 := St.back3 (A := [rowE 52 vn (N : List Node), bE g #[vd, ve, vh, vn, vt] 50]) (A' := [rowE 52 r18 (N ++ [(Node.mk 9 ([x]) 0 0 ((nth a.Nodes ((z).toNat)).Name))] : List Node), bE g #[vd, ve, vh, r18, vt] 50]) (L := [rdE v13 ([x] : List Int), bE g3 #[I ((nth a.Nodes ((z).toNat)).Op), u1n1, I ((nth a.Nodes ((z).toNat)).N), I ((nth a.Nodes ((z).toNat)).D), SB ((nth a.Nodes ((z).toNat)).Name)] 52, rdE u1n1 ((nth a.Nodes ((z).toNat)).Kids), rdE ve a.Nodes, rowE 3 vt (T : List Int)]) hS17 hxx hgo
  refine la (v := I ((N.length : Int))) rfl rfl rfl ?_
  refine wpL_nil ?_
  refine wpF_ret ?_
  refine ⟨_, resT rfl resN, hS20.frameM, ?_⟩
  show ∃ vn_, (I ((N.length : Int))) = I (((getL a T x N z.toNat).length : Int) - 1) ∧ Gone S [rowE 52 vn (N : List Node), rowE 3 vt (T : List Int), bE g #[vd, ve, vh, vn, vt] 50] [rowE 52 vn_ (getL a T x N z.toNat : List Node), rowE 3 vt (T : List Int), bE g #[vd, ve, vh, vn_, vt] 50] H0 H19
  rw [getL_name h9]
  exact ⟨r18, congrArg I (by simp only [List.length_append, List.length_cons, List.length_nil, kidN]; omega), St.leave3 (show St H0 (own [rowE 52 vn (N : List Node), rowE 3 vt (T : List Int), bE g #[vd, ve, vh, vn, vt] 50]) (fun b => S b ∧ ¬ own [rowE 52 vn (N : List Node), rowE 3 vt (T : List Int), bE g #[vd, ve, vh, vn, vt] 50] b) [rowE 52 r18 (N ++ [(Node.mk 9 ([x]) 0 0 ((nth a.Nodes ((z).toNat)).Name))] : List Node), rowE 3 vt (T : List Int), bE g #[vd, ve, vh, r18, vt] 50] H19 from (St.drop (show St H0 (own [rowE 52 vn (N : List Node), rowE 3 vt (T : List Int), bE g #[vd, ve, vh, vn, vt] 50]) (fun b => S b ∧ ¬ own [rowE 52 vn (N : List Node), rowE 3 vt (T : List Int), bE g #[vd, ve, vh, vn, vt] 50] b) [rowE 52 r18 (N ++ [(Node.mk 9 ([x]) 0 0 ((nth a.Nodes ((z).toNat)).Name))] : List Node), rowE 3 vt (T : List Int), bE g #[vd, ve, vh, r18, vt] 50, rdE v13 ([x] : List Int), bE g3 #[I ((nth a.Nodes ((z).toNat)).Op), u1n1, I ((nth a.Nodes ((z).toNat)).N), I ((nth a.Nodes ((z).toNat)).D), SB ((nth a.Nodes ((z).toNat)).Name)] 52, rdE u1n1 ((nth a.Nodes ((z).toNat)).Kids), rdE ve a.Nodes] H19 from ((hS20.front 6 rfl).front 1 rfl)) (sk (sk (sk (sn (sn (sn (sn (List.Sublist.slnil))))))))))⟩
 have h9 : ¬ (nth a.Nodes z.toNat).Op = 9 := fun e => h28 (.inl e)
 obtain ⟨hl3, hp3, hk0, hk1, hk2, hcc⟩ := hc.inv h9
 have hp0 := hp3 0 (by omega)
 have hp1 := hp3 1 (by omega)
 have hp2 := hp3 2 (by omega)
 unfold kidN at hk0 hk1 hk2 hcc
 have hgl := getL_len (a := a) (to := T) (x := x) (N := N) (nth (nth a.Nodes z.toNat).Kids 0).toNat
 refine wpF_skip ?_
 refine wpF_seq ?_
 refine wpF_region ?_
 refine lm (v := PT g 0) rfl rfl y0 ?_
 refine lq rfl (q_fieldAddr rfl Tryz.underlying52 rfl Tryz.sizeOf24 y7) ?_
 refine lq rfl (q_loadBlk rfl rfl Tryz.isAgg24 (hS7.blk 0 rfl) rfl (fun h => h)) ?_
 refine lq rfl (q_indexRd (k := 0) rfl Tryz.underlying24 el_Int_3_ArrC1 rfl rfl (hS7.rdl 1 rfl) (by omega) (by omega)) ?_
 refine lq rfl (q_loadInt (k := 0) rfl rfl el_Int_3_ArrC1 (hS7.rdl 1 rfl) (by omega) (fun _ h => h)) ?_
 refine lm (v := I (x)) rfl rfl y2 ?_
 have hS22 := (St.drop (show St H0 (own [rowE 52 vn (N : List Node), rowE 3 vt (T : List Int), bE g #[vd, ve, vh, vn, vt] 50]) (fun b => S b ∧ ¬ own [rowE 52 vn (N : List Node), rowE 3 vt (T : List Int), bE g #[vd, ve, vh, vn, vt] 50] b) [rowE 52 vn (N : List Node), rowE 3 vt (T : List Int), bE g #[vd, ve, vh, vn, vt] 50, bE g3 #[I ((nth a.Nodes ((z).toNat)).Op), u1n1, I ((nth a.Nodes ((z).toNat)).N), I ((nth a.Nodes ((z).toNat)).D), SB ((nth a.Nodes ((z).toNat)).Name)] 52, rdE u1n1 ((nth a.Nodes ((z).toNat)).Kids), rdE ve a.Nodes] H6 from (((hS7.front 5 rfl).front 5 rfl).front 5 rfl)) (sk (sk (sk (sk (sk (sk (List.Sublist.slnil))))))))
 refine lo rfl ?_
 refine e_call rfl Tryz.call14 (arr3 (v0 := PT g 0) (v1 := I (nth ((nth a.Nodes ((z).toNat)).Kids) 0)) (v2 := I (x)) rfl rfl rfl) (ih _ (hnn ▸ hk0) _ g vd ve vh vn vt a N T (nth ((nth a.Nodes ((z).toNat)).Kids) 0) x (St.give (A := [rowE 52 vn (N : List Node), rowE 3 vt (T : List Int), bE g #[vd, ve, vh, vn, vt] 50]) (L := [bE g3 #[I ((nth a.Nodes ((z).toNat)).Op), u1n1, I ((nth a.Nodes ((z).toNat)).N), I ((nth a.Nodes ((z).toNat)).D), SB ((nth a.Nodes ((z).toNat)).Name)] 52, rdE u1n1 ((nth a.Nodes ((z).toNat)).Kids), rdE ve a.Nodes]) hS22) (hS22.rdS 5 rfl) hp0 hcc hx hN hm rfl) ?_
 rintro _ H24 ⟨hxx, r23, rfl, hgo⟩
 have hS25 : St H0 (own [rowE 52 vn (N : List Node), rowE 3 vt (T : List Int), bE g #[vd, ve, vh, vn, vt] 50]) (fun b => S b ∧ ¬ own [rowE 52 vn (N : List Node), rowE 3 vt (T : List Int), bE g #[vd, ve, vh, vn, vt] 50] b) [rowE 52 r23 (getL a T x N (nth ((nth a.Nodes ((z).toNat)).Kids) 0).toNat : List Node), rowE 3 vt (T : List Int), bE g #[vd, ve, vh, r23, vt] 50, bE g3 #[I ((nth a.Nodes ((z).toNat)).Op), u1n1, I ((nth a.Nodes ((z).toNat)).N), I ((nth a.Nodes ((z).toNat)).D), SB ((nth a.Nodes ((z).toNat)).Name)] 52, rdE u1n1 ((nth a.Nodes ((z).toNat)).Kids), rdE ve a.Nodes] H24 := St.back3 (A := [rowE 52 vn (N : List Node), rowE 3 vt (T : List Int), bE g #[vd, ve, vh, vn, vt] 50]) (A' := [rowE 52 r23 (getL a T x N (nth ((nth a.Nodes ((z).toNat)).Kids) 0).toNat : List Node), rowE 3 vt (T : List Int), bE g #[vd, ve, vh, r23, vt] 50]) (L := [bE g3 #[I ((nth a.Nodes ((z).toNat)).Op), u1n1, I ((nth a.Nodes ((z).toNat)).N), I ((nth a.Nodes ((z).toNat)).D), SB ((nth a.Nodes ((z).toNat)).Name)] 52, rdE u1n1 ((nth a.Nodes ((z).toNat)).Kids), rdE ve a.Nodes]) hS22 hxx hgo
 refine la (v := I (((getL a T x N (nth ((nth a.Nodes ((z).toNat)).Kids) 0).toNat).length : Int) - 1)) rfl rfl rfl ?_
 refine wpL_nil ?_
 refine wpF_seq ?_
 have h6t1 := (hS25.rowl 1 rfl).in64 (k := (nth (nth a.Nodes z.toNat).Kids 1).toNat) (by omega)
 have h6t2 := (hS25.rowl 1 rfl).in64 (k := (nth (nth a.Nodes z.toNat).Kids 2).toNat) (by omega)
 refine wpF_drawn [none, none, none, none, none, none, none, none, none, none, none, none, none, none, some 0, none] [[], [], [], [], [], [], [], [], [], [], [], [], [], [], [], []] (fun l b => match l with | 0 => True | _ => False) (by kernel_rfl) (by kernel_rfl) ?_
 refine rq 0 (by kernel_rfl) rfl rfl (q_move (v := PT g 0) rfl y0) ?_
 refine rq 1 (by kernel_rfl) rfl rfl (q_move (v := PT g 0) rfl y0) ?_
 refine rq 2 (by kernel_rfl) rfl rfl (q_nilCheck rfl rfl) ?_
 refine rq 3 (by kernel_rfl) rfl rfl (q_fieldAddr rfl Tryz.underlying50 rfl Tryz.sizeOf24 rfl) ?_
 refine rq 4 (by kernel_rfl) rfl rfl (q_loadBlk rfl rfl Tryz.isAgg24 (hS25.blk 2 rfl) rfl (labU_not [] rfl (fe))) ?_
 refine rq 5 (by kernel_rfl) rfl rfl (q_fieldAddr rfl Tryz.underlying52 rfl Tryz.sizeOf24 y7) ?_
 refine rq 6 (by kernel_rfl) rfl rfl (q_loadBlk rfl rfl Tryz.isAgg24 (hS25.blk 3 rfl) rfl (labU_not [] rfl (fe))) ?_
 refine rq 7 (by kernel_rfl) rfl rfl (q_indexRd (k := 1) rfl Tryz.underlying24 el_Int_3_ArrC1 rfl rfl (hS25.rdl 4 rfl) (by omega) (by omega)) ?_
 refine rq 8 (by kernel_rfl) rfl rfl (q_loadInt (k := 1) rfl rfl el_Int_3_ArrC1 (hS25.rdl 4 rfl) (by omega) (labU_sub [] rfl (fe))) ?_
 refine rq 9 (by kernel_rfl) rfl rfl (q_indexRd (k := (nth ((nth a.Nodes ((z).toNat)).Kids) 1).toNat) rfl Tryz.underlying24 el_Int_3_ArrC1 rfl rfl (hS25.rowl 1 rfl) (by omega) (by omega)) ?_
 refine rq 10 (by kernel_rfl) rfl rfl (q_loadInt (k := (nth ((nth a.Nodes ((z).toNat)).Kids) 1).toNat) rfl rfl el_Int_3_ArrC1 (hS25.rowl 1 rfl) (by omega) (labU_sub [] rfl (fe))) ?_
 refine rq 11 (by kernel_rfl) rfl rfl (q_move (v := I (x)) rfl y2) ?_
 refine wpR_n [12] (by kernel_rfl) ?_
 refine fa ?_ fe
 refine exE rfl rfl ?_
 refine e_buildSlice (vs := [I (nth T ((nth ((nth a.Nodes ((z).toNat)).Kids) 1).toNat)), I (x)]) (xs := ([nth T ((nth ((nth a.Nodes ((z).toNat)).Kids) 1).toNat), x] : List Int)) rfl Tryz.underlying24 Tryz.zeroValue3 rfl Tryz.sizeOf3 (par2 (v0 := I (nth T ((nth ((nth a.Nodes ((z).toNat)).Kids) 1).toNat))) (v1 := I (x)) rfl rfl) rfl hS25 (RdVs.cons (Rd.int.2 ⟨rfl, by first | assumption | (constructor <;> omega)⟩) (RdVs.cons (Rd.int.2 ⟨rfl, by first | assumption | (constructor <;> omega)⟩) (RdVs.nil))) (by decide) (by decide) (fun v27o12 H27o12 hS27o12 hxx hvv27o12 => ?_)
 refine ⟨Ext.mono hxx (fun _ h => h.elim), ?_⟩
 refine rq 13 (by kernel_rfl) rfl rfl (q_build (v := Vg #[I (8), v27o12, I (0), I (0), SB (ByteArray.mk #[])]) rfl (par2 (v0 := I (8)) (v1 := v27o12) rfl rfl) ((hS27o12.rowl 0 rfl).slc (fun zz0 => ∀ w__, (Instr.build 52 #[(0, I (8)), (1, zz0)]).run Tryz.prog w__ = .ok (Vg #[I (8), zz0, I (0), I (0), SB (ByteArray.mk #[])]) w__) (fun a0 n0 c0 => (fun w__ => by kernel_rfl)))) ?_
 refine wpR_n [14] (by kernel_rfl) ?_
 refine fa ?_ fe
 have hS27o14 : St H0 (own [rowE 52 vn (N : List Node), rowE 3 vt (T : List Int), bE g #[vd, ve, vh, vn, vt] 50]) (fun b => S b ∧ ¬ own [rowE 52 vn (N : List Node), rowE 3 vt (T : List Int), bE g #[vd, ve, vh, vn, vt] 50] b) [rdE v27o12 ([nth T ((nth ((nth a.Nodes ((z).toNat)).Kids) 1).toNat), x] : List Int), rowE 52 r23 (getL a T x N (nth ((nth a.Nodes ((z).toNat)).Kids) 0).toNat : List Node), rowE 3 vt (T : List Int), bE g #[vd, ve, vh, r23, vt] 50, bE g3 #[I ((nth a.Nodes ((z).toNat)).Op), u1n1, I ((nth a.Nodes ((z).toNat)).N), I ((nth a.Nodes ((z).toNat)).D), SB ((nth a.Nodes ((z).toNat)).Name)] 52, rdE u1n1 ((nth a.Nodes ((z).toNat)).Kids), rdE ve a.Nodes] H27o12 := St.fin hS27o12
 have hS27o14x2 := (St.drop (show St H0 (own [rowE 52 vn (N : List Node), rowE 3 vt (T : List Int), bE g #[vd, ve, vh, vn, vt] 50]) (fun b => S b ∧ ¬ own [rowE 52 vn (N : List Node), rowE 3 vt (T : List Int), bE g #[vd, ve, vh, vn, vt] 50] b) [rowE 52 r23 (getL a T x N (nth ((nth a.Nodes ((z).toNat)).Kids) 0).toNat : List Node), bE g #[vd, ve, vh, r23, vt] 50, rdE v27o12 ([nth T ((nth ((nth a.Nodes ((z).toNat)).Kids) 1).toNat), x] : List Int), rowE 3 vt (T : List Int), bE g3 #[I ((nth a.Nodes ((z).toNat)).Op), u1n1, I ((nth a.Nodes ((z).toNat)).N), I ((nth a.Nodes ((z).toNat)).D), SB ((nth a.Nodes ((z).toNat)).Name)] 52, rdE u1n1 ((nth a.Nodes ((z).toNat)).Kids), rdE ve a.Nodes] H27o12 from ((hS27o14.front 3 rfl).front 2 rfl)) (sk (sk (sk (sk (sk (sk (sk (List.Sublist.slnil)))))))))
 refine exE rfl rfl ?_
 refine e_call rfl Tryz.call15 (arr2 (v0 := PT g 0) (v1 := Vg #[I (8), v27o12, I (0), I (0), SB (ByteArray.mk #[])]) rfl rfl) (put_M _ g vd ve vh r23 vt v27o12 (getL a T x N (nth ((nth a.Nodes ((z).toNat)).Kids) 0).toNat) (Node.mk 8 ([nth T ((nth ((nth a.Nodes ((z).toNat)).Kids) 1).toNat), x]) 0 0 (ByteArray.mk #[])) (St.give (A := [rowE 52 r23 (getL a T x N (nth ((nth a.Nodes ((z).toNat)).Kids) 0).toNat : List Node), bE g #[vd, ve, vh, r23, vt] 50]) (L := [rdE v27o12 ([nth T ((nth ((nth a.Nodes ((z).toNat)).Kids) 1).toNat), x] : List Int), rowE 3 vt (T : List Int), bE g3 #[I ((nth a.Nodes ((z).toNat)).Op), u1n1, I ((nth a.Nodes ((z).toNat)).N), I ((nth a.Nodes ((z).toNat)).D), SB ((nth a.Nodes ((z).toNat)).Name)] 52, rdE u1n1 ((nth a.Nodes ((z).toNat)).Kids), rdE ve a.Nodes]) hS27o14x2) (by first | assumption | (constructor <;> (dsimp only; omega))) (hS27o14x2.rdS 2 rfl) (by first | assumption | (constructor <;> (dsimp only; omega))) (by first | assumption | (constructor <;> (dsimp only; omega))) (by first | assumption | exact Nat.zero_le _)  (by first | omega | (simp only [List.length_append, List.length_cons, List.length_nil]; omega))) ?_
 rintro _ H27o14 ⟨hxx, r27o14, rfl, hgo⟩
 have hS27o14x3 : St H0 (own [rowE 52 vn (N : List Node), rowE 3 vt (T : List Int), bE g #[vd, ve, vh, vn, vt] 50]) (fun b => S b ∧ ¬ own [rowE 52 vn (N : List Node), rowE 3 vt (T : List Int), bE g #[vd, ve, vh, vn, vt] 50] b) [rowE 52 r27o14 ((getL a T x N (nth ((nth a.Nodes ((z).toNat)).Kids) 0).toNat) ++ [(Node.mk 8 ([nth T ((nth ((nth a.Nodes ((z).toNat)).Kids) 1).toNat), x]) 0 0 (ByteArray.mk #[]))] : List Node), bE g #[vd, ve, vh, r27o14, vt] 50, rdE v27o12 ([nth T ((nth ((nth a.Nodes ((z).toNat)).Kids) 1).toNat), x] : List Int), rowE 3 vt (T : List Int), bE g3 #[I ((nth a.Nodes ((z).toNat)).Op), u1n1, I ((nth a.Nodes ((z).toNat)).N), I ((nth a.Nodes ((z).toNat)).D), SB ((nth a.Nodes ((z).toNat)).Name)] 52, rdE u1n1 ((nth a.Nodes ((z).toNat)).Kids), rdE ve a.Nodes] H27o14 := St.back3 (A := [rowE 52 r23 (getL a T x N (nth ((nth a.Nodes ((z).toNat)).Kids) 0).toNat : List Node), bE g #[vd, ve, vh, r23, vt] 50]) (A' := [rowE 52 r27o14 ((getL a T x N (nth ((nth a.Nodes ((z).toNat)).Kids) 0).toNat) ++ [(Node.mk 8 ([nth T ((nth ((nth a.Nodes ((z).toNat)).Kids) 1).toNat), x]) 0 0 (ByteArray.mk #[]))] : List Node), bE g #[vd, ve, vh, r27o14, vt] 50]) (L := [rdE v27o12 ([nth T ((nth ((nth a.Nodes ((z).toNat)).Kids) 1).toNat), x] : List Int), rowE 3 vt (T : List Int), bE g3 #[I ((nth a.Nodes ((z).toNat)).Op), u1n1, I ((nth a.Nodes ((z).toNat)).N), I ((nth a.Nodes ((z).toNat)).D), SB ((nth a.Nodes ((z).toNat)).Name)] 52, rdE u1n1 ((nth a.Nodes ((z).toNat)).Kids), rdE ve a.Nodes]) hS27o14x2 hxx hgo
 refine ⟨Ext.mono hxx (labS_of 0 rfl (fun _ _ => trivial)), ?_⟩
 refine rq 15 (by kernel_rfl) rfl rfl (q_assign (v := I (((getL a T x N (nth ((nth a.Nodes ((z).toNat)).Kids) 0).toNat).length : Int))) rfl rfl) ?_
 refine wpR_end (by kernel_rfl) ?_
 skip
 refine sc (fun f H => ∃ (r28o15 : Value), f 6 = I ((((getL a T x N (nth ((nth a.Nodes ((z).toNat)).Kids) 0).toNat) ++ [(Node.mk 8 ([nth T ((nth ((nth a.Nodes ((z).toNat)).Kids) 1).toNat), x]) 0 0 (ByteArray.mk #[]))]).length : Int)) ∧ St H0 (own [rowE 52 vn (N : List Node), rowE 3 vt (T : List Int), bE g #[vd, ve, vh, vn, vt] 50]) (fun b => S b ∧ ¬ own [rowE 52 vn (N : List Node), rowE 3 vt (T : List Int), bE g #[vd, ve, vh, vn, vt] 50] b) [rowE 52 r28o15 (((getL a T x N (nth ((nth a.Nodes ((z).toNat)).Kids) 0).toNat) ++ [(Node.mk 8 ([nth T ((nth ((nth a.Nodes ((z).toNat)).Kids) 1).toNat), x]) 0 0 (ByteArray.mk #[]))]) ++ [(Node.mk 7 ([((getL a T x N (nth ((nth a.Nodes ((z).toNat)).Kids) 0).toNat).length : Int), nth T ((nth ((nth a.Nodes ((z).toNat)).Kids) 2).toNat), ((getL a T x N (nth ((nth a.Nodes ((z).toNat)).Kids) 0).toNat).length : Int) - 1]) 0 0 (ByteArray.mk #[]))] : List Node), bE g #[vd, ve, vh, r28o15, vt] 50, rowE 3 vt (T : List Int), bE g3 #[I ((nth a.Nodes ((z).toNat)).Op), u1n1, I ((nth a.Nodes ((z).toNat)).N), I ((nth a.Nodes ((z).toNat)).D), SB ((nth a.Nodes ((z).toNat)).Name)] 52, rdE u1n1 ((nth a.Nodes ((z).toNat)).Kids), rdE ve a.Nodes] H) ?_ ?_
 ·refine wpF_drawn [none, none, none, none, none, none, none, none, none, none, none, none, none, none, none, some 0, none] [[], [], [], [], [], [], [], [], [], [], [], [], [], [], [], [], []] (fun l b => match l with | 0 => True | _ => False) (by kernel_rfl) (by kernel_rfl) ?_
  refine rq 0 (by kernel_rfl) rfl rfl (q_move (v := PT g 0) rfl y0) ?_
  refine rq 1 (by kernel_rfl) rfl rfl (q_move (v := I (((getL a T x N (nth ((nth a.Nodes ((z).toNat)).Kids) 0).toNat).length : Int))) rfl rfl) ?_
  refine rq 2 (by kernel_rfl) rfl rfl (q_move (v := PT g 0) rfl y0) ?_
  refine rq 3 (by kernel_rfl) rfl rfl (q_nilCheck rfl rfl) ?_
  refine rq 4 (by kernel_rfl) rfl rfl (q_fieldAddr rfl Tryz.underlying50 rfl Tryz.sizeOf24 rfl) ?_
  refine rq 5 (by kernel_rfl) rfl rfl (q_loadBlk rfl rfl Tryz.isAgg24 (hS27o14x3.blk 1 rfl) rfl (labU_not [] rfl (fe))) ?_
  refine rq 6 (by kernel_rfl) rfl rfl (q_fieldAddr rfl Tryz.underlying52 rfl Tryz.sizeOf24 y7) ?_
  refine rq 7 (by kernel_rfl) rfl rfl (q_loadBlk rfl rfl Tryz.isAgg24 (hS27o14x3.blk 4 rfl) rfl (labU_not [] rfl (fe))) ?_
  refine rq 8 (by kernel_rfl) rfl rfl (q_indexRd (k := 2) rfl Tryz.underlying24 el_Int_3_ArrC1 rfl rfl (hS27o14x3.rdl 5 rfl) (by omega) (by omega)) ?_
  refine rq 9 (by kernel_rfl) rfl rfl (q_loadInt (k := 2) rfl rfl el_Int_3_ArrC1 (hS27o14x3.rdl 5 rfl) (by omega) (labU_sub [] rfl (fe))) ?_
  refine rq 10 (by kernel_rfl) rfl rfl (q_indexRd (k := (nth ((nth a.Nodes ((z).toNat)).Kids) 2).toNat) rfl Tryz.underlying24 el_Int_3_ArrC1 rfl rfl (hS27o14x3.rowl 3 rfl) (by omega) (by omega)) ?_
  refine rq 11 (by kernel_rfl) rfl rfl (q_loadInt (k := (nth ((nth a.Nodes ((z).toNat)).Kids) 2).toNat) rfl rfl el_Int_3_ArrC1 (hS27o14x3.rowl 3 rfl) (by omega) (labU_sub [] rfl (fe))) ?_
  refine rq 12 (by kernel_rfl) rfl rfl (q_move (v := I (((getL a T x N (nth ((nth a.Nodes ((z).toNat)).Kids) 0).toNat).length : Int) - 1)) rfl rfl) ?_
  refine wpR_n [13] (by kernel_rfl) ?_
  refine fa ?_ fe
  refine exE rfl rfl ?_
  refine e_buildSlice (vs := [I (((getL a T x N (nth ((nth a.Nodes ((z).toNat)).Kids) 0).toNat).length : Int)), I (nth T ((nth ((nth a.Nodes ((z).toNat)).Kids) 2).toNat)), I (((getL a T x N (nth ((nth a.Nodes ((z).toNat)).Kids) 0).toNat).length : Int) - 1)]) (xs := ([((getL a T x N (nth ((nth a.Nodes ((z).toNat)).Kids) 0).toNat).length : Int), nth T ((nth ((nth a.Nodes ((z).toNat)).Kids) 2).toNat), ((getL a T x N (nth ((nth a.Nodes ((z).toNat)).Kids) 0).toNat).length : Int) - 1] : List Int)) rfl Tryz.underlying24 Tryz.zeroValue3 rfl Tryz.sizeOf3 (par3 (v0 := I (((getL a T x N (nth ((nth a.Nodes ((z).toNat)).Kids) 0).toNat).length : Int))) (v1 := I (nth T ((nth ((nth a.Nodes ((z).toNat)).Kids) 2).toNat))) (v2 := I (((getL a T x N (nth ((nth a.Nodes ((z).toNat)).Kids) 0).toNat).length : Int) - 1)) rfl rfl rfl) rfl hS27o14x3 (RdVs.cons (Rd.int.2 ⟨rfl, by first | assumption | (constructor <;> omega)⟩) (RdVs.cons (Rd.int.2 ⟨rfl, by first | assumption | (constructor <;> omega)⟩) (RdVs.cons (Rd.int.2 ⟨rfl, by first | assumption | (constructor <;> omega)⟩) (RdVs.nil)))) (by decide) (by decide) (fun v28o13 H28o13 hS28o13 hxx hvv28o13 => ?_)
  refine ⟨Ext.mono hxx (fun _ h => h.elim), ?_⟩
  refine rq 14 (by kernel_rfl) rfl rfl (q_build (v := Vg #[I (7), v28o13, I (0), I (0), SB (ByteArray.mk #[])]) rfl (par2 (v0 := I (7)) (v1 := v28o13) rfl rfl) ((hS28o13.rowl 0 rfl).slc (fun zz0 => ∀ w__, (Instr.build 52 #[(0, I (7)), (1, zz0)]).run Tryz.prog w__ = .ok (Vg #[I (7), zz0, I (0), I (0), SB (ByteArray.mk #[])]) w__) (fun a0 n0 c0 => (fun w__ => by kernel_rfl)))) ?_
  refine wpR_n [15] (by kernel_rfl) ?_
  refine fa ?_ fe
  have hS28o15 : St H0 (own [rowE 52 vn (N : List Node), rowE 3 vt (T : List Int), bE g #[vd, ve, vh, vn, vt] 50]) (fun b => S b ∧ ¬ own [rowE 52 vn (N : List Node), rowE 3 vt (T : List Int), bE g #[vd, ve, vh, vn, vt] 50] b) [rdE v28o13 ([((getL a T x N (nth ((nth a.Nodes ((z).toNat)).Kids) 0).toNat).length : Int), nth T ((nth ((nth a.Nodes ((z).toNat)).Kids) 2).toNat), ((getL a T x N (nth ((nth a.Nodes ((z).toNat)).Kids) 0).toNat).length : Int) - 1] : List Int), rowE 52 r27o14 ((getL a T x N (nth ((nth a.Nodes ((z).toNat)).Kids) 0).toNat) ++ [(Node.mk 8 ([nth T ((nth ((nth a.Nodes ((z).toNat)).Kids) 1).toNat), x]) 0 0 (ByteArray.mk #[]))] : List Node), bE g #[vd, ve, vh, r27o14, vt] 50, rdE v27o12 ([nth T ((nth ((nth a.Nodes ((z).toNat)).Kids) 1).toNat), x] : List Int), rowE 3 vt (T : List Int), bE g3 #[I ((nth a.Nodes ((z).toNat)).Op), u1n1, I ((nth a.Nodes ((z).toNat)).N), I ((nth a.Nodes ((z).toNat)).D), SB ((nth a.Nodes ((z).toNat)).Name)] 52, rdE u1n1 ((nth a.Nodes ((z).toNat)).Kids), rdE ve a.Nodes] H28o13 := St.fin hS28o13
  have hS28o15x2 := (St.drop (show St H0 (own [rowE 52 vn (N : List Node), rowE 3 vt (T : List Int), bE g #[vd, ve, vh, vn, vt] 50]) (fun b => S b ∧ ¬ own [rowE 52 vn (N : List Node), rowE 3 vt (T : List Int), bE g #[vd, ve, vh, vn, vt] 50] b) [rowE 52 r27o14 ((getL a T x N (nth ((nth a.Nodes ((z).toNat)).Kids) 0).toNat) ++ [(Node.mk 8 ([nth T ((nth ((nth a.Nodes ((z).toNat)).Kids) 1).toNat), x]) 0 0 (ByteArray.mk #[]))] : List Node), bE g #[vd, ve, vh, r27o14, vt] 50, rdE v28o13 ([((getL a T x N (nth ((nth a.Nodes ((z).toNat)).Kids) 0).toNat).length : Int), nth T ((nth ((nth a.Nodes ((z).toNat)).Kids) 2).toNat), ((getL a T x N (nth ((nth a.Nodes ((z).toNat)).Kids) 0).toNat).length : Int) - 1] : List Int), rdE v27o12 ([nth T ((nth ((nth a.Nodes ((z).toNat)).Kids) 1).toNat), x] : List Int), rowE 3 vt (T : List Int), bE g3 #[I ((nth a.Nodes ((z).toNat)).Op), u1n1, I ((nth a.Nodes ((z).toNat)).N), I ((nth a.Nodes ((z).toNat)).D), SB ((nth a.Nodes ((z).toNat)).Name)] 52, rdE u1n1 ((nth a.Nodes ((z).toNat)).Kids), rdE ve a.Nodes] H28o13 from ((hS28o15.front 2 rfl).front 2 rfl)) (sk (sk (sk (sk (sk (sk (sk (sk (List.Sublist.slnil))))))))))
  refine exE rfl rfl ?_
  refine e_call rfl Tryz.call15 (arr2 (v0 := PT g 0) (v1 := Vg #[I (7), v28o13, I (0), I (0), SB (ByteArray.mk #[])]) rfl rfl) (put_M _ g vd ve vh r27o14 vt v28o13 ((getL a T x N (nth ((nth a.Nodes ((z).toNat)).Kids) 0).toNat) ++ [(Node.mk 8 ([nth T ((nth ((nth a.Nodes ((z).toNat)).Kids) 1).toNat), x]) 0 0 (ByteArray.mk #[]))]) (Node.mk 7 ([((getL a T x N (nth ((nth a.Nodes ((z).toNat)).Kids) 0).toNat).length : Int), nth T ((nth ((nth a.Nodes ((z).toNat)).Kids) 2).toNat), ((getL a T x N (nth ((nth a.Nodes ((z).toNat)).Kids) 0).toNat).length : Int) - 1]) 0 0 (ByteArray.mk #[])) (St.give (A := [rowE 52 r27o14 ((getL a T x N (nth ((nth a.Nodes ((z).toNat)).Kids) 0).toNat) ++ [(Node.mk 8 ([nth T ((nth ((nth a.Nodes ((z).toNat)).Kids) 1).toNat), x]) 0 0 (ByteArray.mk #[]))] : List Node), bE g #[vd, ve, vh, r27o14, vt] 50]) (L := [rdE v28o13 ([((getL a T x N (nth ((nth a.Nodes ((z).toNat)).Kids) 0).toNat).length : Int), nth T ((nth ((nth a.Nodes ((z).toNat)).Kids) 2).toNat), ((getL a T x N (nth ((nth a.Nodes ((z).toNat)).Kids) 0).toNat).length : Int) - 1] : List Int), rdE v27o12 ([nth T ((nth ((nth a.Nodes ((z).toNat)).Kids) 1).toNat), x] : List Int), rowE 3 vt (T : List Int), bE g3 #[I ((nth a.Nodes ((z).toNat)).Op), u1n1, I ((nth a.Nodes ((z).toNat)).N), I ((nth a.Nodes ((z).toNat)).D), SB ((nth a.Nodes ((z).toNat)).Name)] 52, rdE u1n1 ((nth a.Nodes ((z).toNat)).Kids), rdE ve a.Nodes]) hS28o15x2) (by first | assumption | (constructor <;> (dsimp only; omega))) (hS28o15x2.rdS 2 rfl) (by first | assumption | (constructor <;> (dsimp only; omega))) (by first | assumption | (constructor <;> (dsimp only; omega))) (by first | assumption | exact Nat.zero_le _)  (by first | omega | (simp only [List.length_append, List.length_cons, List.length_nil]; omega))) ?_
  rintro _ H28o15 ⟨hxx, r28o15, rfl, hgo⟩
  have hS28o15x3 : St H0 (own [rowE 52 vn (N : List Node), rowE 3 vt (T : List Int), bE g #[vd, ve, vh, vn, vt] 50]) (fun b => S b ∧ ¬ own [rowE 52 vn (N : List Node), rowE 3 vt (T : List Int), bE g #[vd, ve, vh, vn, vt] 50] b) [rowE 52 r28o15 (((getL a T x N (nth ((nth a.Nodes ((z).toNat)).Kids) 0).toNat) ++ [(Node.mk 8 ([nth T ((nth ((nth a.Nodes ((z).toNat)).Kids) 1).toNat), x]) 0 0 (ByteArray.mk #[]))]) ++ [(Node.mk 7 ([((getL a T x N (nth ((nth a.Nodes ((z).toNat)).Kids) 0).toNat).length : Int), nth T ((nth ((nth a.Nodes ((z).toNat)).Kids) 2).toNat), ((getL a T x N (nth ((nth a.Nodes ((z).toNat)).Kids) 0).toNat).length : Int) - 1]) 0 0 (ByteArray.mk #[]))] : List Node), bE g #[vd, ve, vh, r28o15, vt] 50, rdE v28o13 ([((getL a T x N (nth ((nth a.Nodes ((z).toNat)).Kids) 0).toNat).length : Int), nth T ((nth ((nth a.Nodes ((z).toNat)).Kids) 2).toNat), ((getL a T x N (nth ((nth a.Nodes ((z).toNat)).Kids) 0).toNat).length : Int) - 1] : List Int), rdE v27o12 ([nth T ((nth ((nth a.Nodes ((z).toNat)).Kids) 1).toNat), x] : List Int), rowE 3 vt (T : List Int), bE g3 #[I ((nth a.Nodes ((z).toNat)).Op), u1n1, I ((nth a.Nodes ((z).toNat)).N), I ((nth a.Nodes ((z).toNat)).D), SB ((nth a.Nodes ((z).toNat)).Name)] 52, rdE u1n1 ((nth a.Nodes ((z).toNat)).Kids), rdE ve a.Nodes] H28o15 := St.back3 (A := [rowE 52 r27o14 ((getL a T x N (nth ((nth a.Nodes ((z).toNat)).Kids) 0).toNat) ++ [(Node.mk 8 ([nth T ((nth ((nth a.Nodes ((z).toNat)).Kids) 1).toNat), x]) 0 0 (ByteArray.mk #[]))] : List Node), bE g #[vd, ve, vh, r27o14, vt] 50]) (A' := [rowE 52 r28o15 (((getL a T x N (nth ((nth a.Nodes ((z).toNat)).Kids) 0).toNat) ++ [(Node.mk 8 ([nth T ((nth ((nth a.Nodes ((z).toNat)).Kids) 1).toNat), x]) 0 0 (ByteArray.mk #[]))]) ++ [(Node.mk 7 ([((getL a T x N (nth ((nth a.Nodes ((z).toNat)).Kids) 0).toNat).length : Int), nth T ((nth ((nth a.Nodes ((z).toNat)).Kids) 2).toNat), ((getL a T x N (nth ((nth a.Nodes ((z).toNat)).Kids) 0).toNat).length : Int) - 1]) 0 0 (ByteArray.mk #[]))] : List Node), bE g #[vd, ve, vh, r28o15, vt] 50]) (L := [rdE v28o13 ([((getL a T x N (nth ((nth a.Nodes ((z).toNat)).Kids) 0).toNat).length : Int), nth T ((nth ((nth a.Nodes ((z).toNat)).Kids) 2).toNat), ((getL a T x N (nth ((nth a.Nodes ((z).toNat)).Kids) 0).toNat).length : Int) - 1] : List Int), rdE v27o12 ([nth T ((nth ((nth a.Nodes ((z).toNat)).Kids) 1).toNat), x] : List Int), rowE 3 vt (T : List Int), bE g3 #[I ((nth a.Nodes ((z).toNat)).Op), u1n1, I ((nth a.Nodes ((z).toNat)).N), I ((nth a.Nodes ((z).toNat)).D), SB ((nth a.Nodes ((z).toNat)).Name)] 52, rdE u1n1 ((nth a.Nodes ((z).toNat)).Kids), rdE ve a.Nodes]) hS28o15x2 hxx hgo
  refine ⟨Ext.mono hxx (labS_of 0 rfl (fun _ _ => trivial)), ?_⟩
  refine rq 16 (by kernel_rfl) rfl rfl (q_assign (v := I ((((getL a T x N (nth ((nth a.Nodes ((z).toNat)).Kids) 0).toNat) ++ [(Node.mk 8 ([nth T ((nth ((nth a.Nodes ((z).toNat)).Kids) 1).toNat), x]) 0 0 (ByteArray.mk #[]))]).length : Int))) rfl rfl) ?_
  refine wpR_end (by kernel_rfl) ?_
  exact ⟨r28o15, rfl, (hS28o15x3.drop (sk (sk (sn (sn (sk (sk (sk (sk (List.Sublist.slnil))))))))))⟩
 clear y0 y7
 rintro f29 H29 ⟨r28o15, y6, hS29⟩
 refine wpF_ret ?_
 refine ⟨_, resT y6 resN, hS29.frameM, ?_⟩
 show ∃ vn_, (I ((((getL a T x N (nth ((nth a.Nodes ((z).toNat)).Kids) 0).toNat) ++ [(Node.mk 8 ([nth T ((nth ((nth a.Nodes ((z).toNat)).Kids) 1).toNat), x]) 0 0 (ByteArray.mk #[]))]).length : Int))) = I (((getL a T x N z.toNat).length : Int) - 1) ∧ Gone S [rowE 52 vn (N : List Node), rowE 3 vt (T : List Int), bE g #[vd, ve, vh, vn, vt] 50] [rowE 52 vn_ (getL a T x N z.toNat : List Node), rowE 3 vt (T : List Int), bE g #[vd, ve, vh, vn_, vt] 50] H0 H29
 rw [getL_put h9 hk0]
 exact ⟨r28o15, congrArg I (by simp only [List.length_append, List.length_cons, List.length_nil, kidN]; omega), St.leave3 (show St H0 (own [rowE 52 vn (N : List Node), rowE 3 vt (T : List Int), bE g #[vd, ve, vh, vn, vt] 50]) (fun b => S b ∧ ¬ own [rowE 52 vn (N : List Node), rowE 3 vt (T : List Int), bE g #[vd, ve, vh, vn, vt] 50] b) [rowE 52 r28o15 (((getL a T x N (nth ((nth a.Nodes ((z).toNat)).Kids) 0).toNat) ++ [(Node.mk 8 ([nth T ((nth ((nth a.Nodes ((z).toNat)).Kids) 1).toNat), x]) 0 0 (ByteArray.mk #[]))]) ++ [(Node.mk 7 ([((getL a T x N (nth ((nth a.Nodes ((z).toNat)).Kids) 0).toNat).length : Int), nth T ((nth ((nth a.Nodes ((z).toNat)).Kids) 2).toNat), ((getL a T x N (nth ((nth a.Nodes ((z).toNat)).Kids) 0).toNat).length : Int) - 1]) 0 0 (ByteArray.mk #[]))] : List Node), rowE 3 vt (T : List Int), bE g #[vd, ve, vh, r28o15, vt] 50] H29 from (St.drop (show St H0 (own [rowE 52 vn (N : List Node), rowE 3 vt (T : List Int), bE g #[vd, ve, vh, vn, vt] 50]) (fun b => S b ∧ ¬ own [rowE 52 vn (N : List Node), rowE 3 vt (T : List Int), bE g #[vd, ve, vh, vn, vt] 50] b) [rowE 52 r28o15 (((getL a T x N (nth ((nth a.Nodes ((z).toNat)).Kids) 0).toNat) ++ [(Node.mk 8 ([nth T ((nth ((nth a.Nodes ((z).toNat)).Kids) 1).toNat), x]) 0 0 (ByteArray.mk #[]))]) ++ [(Node.mk 7 ([((getL a T x N (nth ((nth a.Nodes ((z).toNat)).Kids) 0).toNat).length : Int), nth T ((nth ((nth a.Nodes ((z).toNat)).Kids) 2).toNat), ((getL a T x N (nth ((nth a.Nodes ((z).toNat)).Kids) 0).toNat).length : Int) - 1]) 0 0 (ByteArray.mk #[]))] : List Node), rowE 3 vt (T : List Int), bE g #[vd, ve, vh, r28o15, vt] 50, bE g3 #[I ((nth a.Nodes ((z).toNat)).Op), u1n1, I ((nth a.Nodes ((z).toNat)).N), I ((nth a.Nodes ((z).toNat)).D), SB ((nth a.Nodes ((z).toNat)).Name)] 52, rdE u1n1 ((nth a.Nodes ((z).toNat)).Kids), rdE ve a.Nodes] H29 from ((hS29.front 2 rfl).front 1 rfl)) (sk (sk (sk (sn (sn (sn (List.Sublist.slnil)))))))))⟩
end Go.Um
