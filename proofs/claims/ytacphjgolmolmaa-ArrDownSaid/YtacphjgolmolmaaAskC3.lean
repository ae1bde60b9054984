import Derived.Test.YtacphjgolmolmaaProg
import Derived.Test.YtacphjgolmolmaaAskC2
import Derived.Test.YtacphjgolmolmaaUmArrDownB
namespace Go.Um
open Go.Proofs
open GoT (sz ag rdc)
open KeyT (kv)
theorem el_Int_3_AskC3 : ElT Try.prog Int 3 := ⟨Try.isAgg3, Try.sizeOf3⟩
theorem em_Int_3_AskC3 : ElemOk Try.prog Int 3 := ⟨Try.t3, (.int .i64 0), by kernel_rfl, by kernel_rfl, by kernel_rfl, by kernel_rfl, by kernel_rfl⟩
set_option maxHeartbeats 2000000 in
set_option maxRecDepth 100000 in
theorem Sorts_L {H0 : Heap} {S : Nat → Prop} (vD vN vH : Value) (a : Ask) (rvD : Rd S H0 vD a.Decls) (rvN : Rd S H0 vN a.Nodes) (rvH : Rd S H0 vH a.Hold) : CallsH Try.prog 7 #[Vg #[vD, vN, vH]] H0 (fun rv_ H' => Ext NoB H0 H' ∧ ∃ w0_, rv_ = Value.tuple #[w0_, Vg #[I ((sortsF a)).1, I ((sortsF a)).2]] ∧ Rd (SZ S H0) H' w0_ (sortsL a)) := by
 have hsN : a.Nodes.length * 64 ≤ 140737488355328 := (Rd.list.1 rvN).bound
 have hsH := (Rd.list.1 rvH).small
 have hS0 : St H0 NoB (SZ S H0) [rdE vD a.Decls, rdE vN a.Nodes, rdE vH a.Hold] H0 := St.arg (St.arg (St.arg (St.start (fun _ h => h.2)) (Bl0.nil) rvH (fun _ h => h.1)) (Bl0.cons (Bl0.nil)) rvN (fun _ h => h.1)) (Bl0.cons (Bl0.cons (Bl0.nil))) rvD (fun _ h => h.1)
 refine callsH_of_wpF (args := [Vg #[vD, vN, vH]]) (rs := [.tmp 2, .cell 3 28]) Try.func7 rfl Try.ntmps7 Try.results7 (by kernel_rfl) (Nat.le_of_ble_eq_true rfl) ?_
 have y0 : argF [Vg #[vD, vN, vH]] 0 = Vg #[vD, vN, vH] := rfl
 generalize argF [Vg #[vD, vN, vH]] = f0 at *
 refine fcr (fun f H => ∃ (g1 : Nat), ∃ (g4 : Nat), f 1 = PT g1 0 ∧ f 3 = PT g4 0 ∧ St H0 NoB (SZ S H0) [bE g4 #[I (0), I (0)] 28, bE g1 #[vD, vN, vH] 26, rdE vD a.Decls, rdE vN a.Nodes, rdE vH a.Hold] H) ?_ ?_
 ·refine lo rfl ?_
  refine e_box (v := Vg #[vD, vN, vH]) rfl y0 hS0 (fun g1 H2 hS3 hxx => ?_)
  refine la (v := nS) rfl rfl rfl ?_
  refine lo rfl ?_
  refine e_alloc rfl Try.zeroValue28 hS3 (fun g4 H5 hS6 hxx => ?_)
  exact ⟨g1, g4, rfl, rfl, hS6⟩
 clear y0
 rintro f7 H7 ⟨g1, g4, y1, y3, hS7⟩
 refine wpF_seq ?_
 refine fcr (fun f H => ∃ (g11 : Nat), f 1 = PT g1 0 ∧ f 3 = PT g4 0 ∧ f 4 = PT g11 0 ∧ St H0 NoB (SZ S H0) [bE g11 #[I (((declsF a.Decls)).1), I (((declsF a.Decls)).2)] 28, bE g4 #[I (0), I (0)] 28, bE g1 #[vD, vN, vH] 26, rdE vD a.Decls, rdE vN a.Nodes, rdE vH a.Hold] H) ?_ ?_
 ·refine lq rfl (q_fieldAddr rfl Try.underlying26 rfl Try.sizeOf22 y1) ?_
  refine lq rfl (q_loadBlk rfl rfl Try.isAgg22 (hS7.blk 1 rfl) rfl (fun h => h)) ?_
  refine lo rfl ?_
  refine e_call rfl Try.call20 (arr1 (v0 := vD) rfl) (checkDecls_L vD a.Decls (hS7.rdN 2 rfl) ) ?_
  rintro _ H8 ⟨hxx, rfl⟩
  have hS9 := hS7.ext hxx
  refine lo rfl ?_
  refine e_alloc rfl Try.zeroValue28 hS9 (fun g11 H12 hS13 hxx => ?_)
  refine lo rfl ?_
  refine e_storeBlkA (cs' := #[I (((declsF a.Decls)).1), I (((declsF a.Decls)).2)]) rfl rfl rfl Try.sizeOf28 rfl rfl (fa rfl (fa rfl fe)) hS13 (fun H14 hS15 hxx => ?_)
  exact ⟨g11, y1, y3, rfl, hS15⟩
 clear y1 y3
 rintro f16 H16 ⟨g11, y1, y3, y4, hS16⟩
 refine fcr (fun f H => f 1 = PT g1 0 ∧ f 3 = PT g4 0 ∧ f 4 = PT g11 0 ∧ f 16 = B (decide ((((declsF a.Decls)).1) ≠ 0)) ∧ H16 = H) ?_ ?_
 ·refine lq rfl (q_fieldAddr rfl Try.underlying28 rfl Try.sizeOf3 y4) ?_
  refine lq rfl (q_loadBlk rfl rfl Try.isAgg3 (hS16.blk 0 rfl) rfl (fun h => h)) ?_
  refine lq rfl (q_neq rfl rfl rfl) ?_
  exact ⟨y1, y3, y4, rfl, rfl⟩
 clear y1 y3 y4
 rintro f17 _ ⟨y1, y3, y4, y16, rfl⟩
 refine wpF_condP y16 (fun h16 => ?t88) (fun h16 => ?e88)
 case t88 =>
  refine sc (fun f H => f 2 = nS ∧ f 3 = PT g4 0 ∧ St H0 NoB (SZ S H0) [bE g4 #[I (((declsF a.Decls)).1), I (((declsF a.Decls)).2)] 28, bE g11 #[I (((declsF a.Decls)).1), I (((declsF a.Decls)).2)] 28, bE g1 #[vD, vN, vH] 26, rdE vD a.Decls, rdE vN a.Nodes, rdE vH a.Hold] H) ?_ ?_
  ·refine wpF_drawn [none, none, some 0] [[], [], []] (fun l b => match l with | 0 => True | _ => False) (by kernel_rfl) (by kernel_rfl) ?_
   refine rq 0 (by kernel_rfl) rfl rfl (q_loadBlkA rfl y4 Try.isAgg28 Try.sizeOf28 rfl (hS16.blk 0 rfl) (labU_not [] rfl (fe))) ?_
   refine rq 1 (by kernel_rfl) rfl rfl (q_assign (v := nS) rfl rfl) ?_
   refine wpR_n [2] (by kernel_rfl) ?_
   refine fa ?_ fe
   refine exE rfl rfl ?_
   refine e_storeBlkA (cs' := #[I (((declsF a.Decls)).1), I (((declsF a.Decls)).2)]) rfl y3 rfl Try.sizeOf28 rfl rfl (fa rfl (fa rfl fe)) (hS16.front 1 rfl) (fun H19o2 hS19o2 hxx => ?_)
   refine ⟨Ext.mono hxx (labS_of 0 rfl (fun _ _ => trivial)), ?_⟩
   refine wpR_end (by kernel_rfl) ?_
   exact ⟨rfl, y3, hS19o2⟩
  clear y1 y16 y3 y4
  rintro f20 H20 ⟨y2, y3, hS20⟩
  refine wpF_ret ?_
  refine ⟨_, resT y2 (resC y3 (loadV_blkA Try.isAgg28 Try.sizeOf28 rfl (hS20.blk 0 rfl)) (resN)), hS20.frame, ?_⟩
  show ∃ w0_, (Value.tuple #[nS, Vg #[I (((declsF a.Decls)).1), I (((declsF a.Decls)).2)]]) = Value.tuple #[w0_, Vg #[I ((sortsF a)).1, I ((sortsF a)).2]] ∧ Rd (SZ S H0) H20 w0_ (sortsL a)
  have hq_ : sortsF a = _ := sortsF_decl h16
  exact ⟨_, by rw [hq_], by rw [sortsL_bad (by rw [hq_]; exact h16)]; exact rdNil⟩
 refine wpF_skip ?_
 refine wpF_seq ?_
 refine fcr (fun f H => f 1 = PT g1 0 ∧ f 3 = PT g4 0 ∧ f 21 = B (decide (200 < (a.Nodes.length : Int))) ∧ H16 = H) ?_ ?_
 ·refine lq rfl (q_fieldAddr rfl Try.underlying26 rfl Try.sizeOf23 y1) ?_
  refine lq rfl (q_loadBlk rfl rfl Try.isAgg23 (hS16.blk 2 rfl) rfl (fun h => h)) ?_
  refine lq rfl (q_lenRd rfl Try.underlying23 rfl (hS16.rdl 4 rfl)) ?_
  refine lq rfl (q_gtr rfl rfl rfl) ?_
  exact ⟨y1, y3, rfl, rfl⟩
 clear y1 y16 y3 y4
 rintro f21 _ ⟨y1, y3, y21, rfl⟩
 refine wpF_condP y21 (fun h21 => ?t87) (fun h21 => ?e87)
 case t87 =>
  refine fcr (fun f H => f 2 = nS ∧ f 3 = PT g4 0 ∧ St H0 NoB (SZ S H0) [bE g4 #[I (2), I (0)] 28, bE g11 #[I (((declsF a.Decls)).1), I (((declsF a.Decls)).2)] 28, bE g1 #[vD, vN, vH] 26, rdE vD a.Decls, rdE vN a.Nodes, rdE vH a.Hold] H) ?_ ?_
  ·refine lq rfl (q_build (v := Vg #[I (2), I (0)]) rfl (par1 (v0 := I (2)) rfl) (fun w__ => by kernel_rfl)) ?_
   refine la (v := nS) rfl rfl rfl ?_
   refine lo rfl ?_
   refine e_storeBlkA (cs' := #[I (2), I (0)]) rfl y3 rfl Try.sizeOf28 rfl rfl (fa rfl (fa rfl fe)) (hS16.front 1 rfl) (fun H23 hS24 hxx => ?_)
   exact ⟨rfl, y3, hS24⟩
  clear y1 y21 y3
  rintro f25 H25 ⟨y2, y3, hS25⟩
  refine wpF_ret ?_
  refine ⟨_, resT y2 (resC y3 (loadV_blkA Try.isAgg28 Try.sizeOf28 rfl (hS25.blk 0 rfl)) (resN)), hS25.frame, ?_⟩
  show ∃ w0_, (Value.tuple #[nS, Vg #[I (2), I (0)]]) = Value.tuple #[w0_, Vg #[I ((sortsF a)).1, I ((sortsF a)).2]] ∧ Rd (SZ S H0) H25 w0_ (sortsL a)
  have hq_ : sortsF a = _ := sortsF_many h16 h21
  exact ⟨_, by rw [hq_], by rw [sortsL_bad (by rw [hq_]; decide)]; exact rdNil⟩
 refine wpF_skip ?_
 refine fcr (fun f H => f 1 = PT g1 0 ∧ f 3 = PT g4 0 ∧ f 5 = nS ∧ H16 = H) ?_ ?_
 ·refine la (v := nS) rfl rfl rfl ?_
  exact ⟨y1, y3, rfl, rfl⟩
 clear y1 y21 y3
 rintro f26 _ ⟨y1, y3, y5, rfl⟩
 have hS27 : St H0 NoB (SZ S H0) [rowE 3 nS ([] : List Int), bE g11 #[I (((declsF a.Decls)).1), I (((declsF a.Decls)).2)] 28, bE g4 #[I (0), I (0)] 28, bE g1 #[vD, vN, vH] 26, rdE vD a.Decls, rdE vN a.Nodes, rdE vH a.Hold] H16 := hS16.row0 3
 refine wpF_seq ?_
 refine fcr (fun f H => f 1 = PT g1 0 ∧ f 3 = PT g4 0 ∧ f 5 = nS ∧ f 25 = I ((a.Nodes.length : Int)) ∧ f 26 = I (0) ∧ H16 = H) ?_ ?_
 ·refine lq rfl (q_fieldAddr rfl Try.underlying26 rfl Try.sizeOf23 y1) ?_
  refine lq rfl (q_loadBlk rfl rfl Try.isAgg23 (hS27.blk 3 rfl) rfl (fun h => h)) ?_
  refine lq rfl (q_lenRd rfl Try.underlying23 rfl (hS27.rdl 5 rfl)) ?_
  refine lm (v := I (0)) rfl rfl rfl ?_
  exact ⟨y1, y3, y5, rfl, rfl, rfl⟩
 clear y1 y3 y5
 rintro f28 _ ⟨y1, y3, y5, y25, y26, rfl⟩
 refine wpF_block ?_
 refine wpF_loop (fun mz f H => ∃ (k : Nat), ∃ (vo : Value), mz = a.Nodes.length - k ∧ (k ≤ a.Nodes.length) ∧ (∀ j, j < k → (nodeF a j (sortsTo a j)).2 = 0) ∧ f 1 = PT g1 0 ∧ f 3 = PT g4 0 ∧ f 5 = vo ∧ f 25 = I ((a.Nodes.length : Int)) ∧ f 26 = I ((k : Int)) ∧ St H0 NoB (SZ S H0) [rowE 3 vo (sortsTo a k : List Int), bE g11 #[I (((declsF a.Decls)).1), I (((declsF a.Decls)).2)] 28, bE g4 #[I (0), I (0)] 28, bE g1 #[vD, vN, vH] 26, rdE vD a.Decls, rdE vN a.Nodes, rdE vH a.Hold] H) (a.Nodes.length - 0) ?_ ?_
 ·exact ⟨0, nS, rfl, Nat.zero_le _, (fun j hj => absurd hj (Nat.not_lt_zero j)), y1, y3, y5, y25, (Eq.trans y26 (congrArg I (by omega))), (show St H0 NoB (SZ S H0) [rowE 3 nS (sortsTo a 0 : List Int), bE g11 #[I (((declsF a.Decls)).1), I (((declsF a.Decls)).2)] 28, bE g4 #[I (0), I (0)] 28, bE g1 #[vD, vN, vH] 26, rdE vD a.Decls, rdE vN a.Nodes, rdE vH a.Hold] H16 from hS27)⟩
 intro m29 f29 H29 hI29
 clear y1 y25 y26 y3 y5
 obtain ⟨k, vo, hm29, hk, hp, y1, y3, y5, y25, y26, hS29⟩ := hI29
 refine fcr (fun f H => f 1 = PT g1 0 ∧ f 3 = PT g4 0 ∧ f 5 = vo ∧ f 25 = I ((a.Nodes.length : Int)) ∧ f 26 = I ((k : Int)) ∧ f 27 = B (decide ((k : Int) < (a.Nodes.length : Int))) ∧ H29 = H) ?_ ?_
 ·refine lq rfl (q_lss rfl y26 y25) ?_
  exact ⟨y1, y3, y5, y25, y26, rfl, rfl⟩
 clear y1 y25 y26 y3 y5
 rintro f30 _ ⟨y1, y3, y5, y25, y26, y27, rfl⟩
 refine wpF_seq ?_
 refine wpF_condP y27 (fun hlt => ?t86) (fun hlt => ?e86)
 case t86 =>
  have hrg := nodeF_rng (a := a) (i := k) (S := sortsTo a k) (Decidable.of_not_not h16) (sortsTo_rng (Decidable.of_not_not h16) k)
  have hsk := sortsTo_len (a := a) k
  unfold sortR at hrg
  refine wpF_skip ?_
  refine wpF_seq ?_
  refine wpF_block ?_
  refine fcr (fun f H => f 1 = PT g1 0 ∧ f 3 = PT g4 0 ∧ f 5 = vo ∧ f 6 = I ((k : Int)) ∧ f 25 = I ((a.Nodes.length : Int)) ∧ f 26 = I ((k : Int)) ∧ H29 = H) ?_ ?_
  ·refine lm (v := I ((k : Int))) rfl rfl y26 ?_
   refine la (v := I ((k : Int))) rfl rfl rfl ?_
   exact ⟨y1, y3, y5, rfl, y25, y26, rfl⟩
  clear y1 y25 y26 y27 y3 y5
  rintro f32 _ ⟨y1, y3, y5, y6, y25, y26, rfl⟩
  refine fcr (fun f H => f 1 = PT g1 0 ∧ f 3 = PT g4 0 ∧ f 5 = vo ∧ f 6 = I ((k : Int)) ∧ f 7 = I ((nodeF a k (sortsTo a k)).1) ∧ f 8 = I ((nodeF a k (sortsTo a k)).2) ∧ f 25 = I ((a.Nodes.length : Int)) ∧ f 26 = I ((k : Int)) ∧ St H0 NoB (SZ S H0) [rowE 3 vo (sortsTo a k : List Int), bE g11 #[I (((declsF a.Decls)).1), I (((declsF a.Decls)).2)] 28, bE g4 #[I (0), I (0)] 28, bE g1 #[vD, vN, vH] 26, rdE vD a.Decls, rdE vN a.Nodes, rdE vH a.Hold] H) ?_ ?_
  ·refine lq rfl (q_loadBlkA rfl y1 Try.isAgg26 Try.sizeOf26 rfl (hS29.blk 3 rfl) (fun h => h)) ?_
   refine lm (v := I ((k : Int))) rfl rfl y6 ?_
   refine lm (v := vo) rfl rfl y5 ?_
   refine lo rfl ?_
   refine e_call rfl Try.call21 (arr3 (v0 := Vg #[vD, vN, vH]) (v1 := I ((k : Int))) (v2 := vo) rfl rfl rfl) (node_L vD vN vH vo a k (sortsTo a k) (hS29.rdN 4 rfl) (hS29.rdN 5 rfl) (hS29.rdN 6 rfl) (hS29.rowN 0 rfl) (by omega) (sortsTo_len _)) ?_
   rintro _ H33 ⟨hxx, rfl⟩
   have hS34 := hS29.ext hxx
   refine lm (v := Value.tuple #[I ((nodeF a k (sortsTo a k)).1), I ((nodeF a k (sortsTo a k)).2)]) rfl rfl rfl ?_
   refine lq rfl (q_extract (vs := #[I ((nodeF a k (sortsTo a k)).1), I ((nodeF a k (sortsTo a k)).2)]) (v := I ((nodeF a k (sortsTo a k)).1)) rfl rfl rfl) ?_
   refine lq rfl (q_extract (vs := #[I ((nodeF a k (sortsTo a k)).1), I ((nodeF a k (sortsTo a k)).2)]) (v := I ((nodeF a k (sortsTo a k)).2)) rfl rfl rfl) ?_
   refine la (v := I ((nodeF a k (sortsTo a k)).1)) rfl rfl rfl ?_
   refine la (v := I ((nodeF a k (sortsTo a k)).2)) rfl rfl rfl ?_
   exact ⟨y1, y3, y5, y6, rfl, rfl, y25, y26, hS34⟩
  clear y1 y25 y26 y3 y5 y6
  rintro f36 H36 ⟨y1, y3, y5, y6, y7, y8, y25, y26, hS36⟩
  refine wpF_seq ?_
  refine fcr (fun f H => f 1 = PT g1 0 ∧ f 3 = PT g4 0 ∧ f 5 = vo ∧ f 6 = I ((k : Int)) ∧ f 7 = I ((nodeF a k (sortsTo a k)).1) ∧ f 8 = I ((nodeF a k (sortsTo a k)).2) ∧ f 25 = I ((a.Nodes.length : Int)) ∧ f 26 = I ((k : Int)) ∧ f 37 = B (decide (((nodeF a k (sortsTo a k)).2) ≠ 0)) ∧ H36 = H) ?_ ?_
  ·refine lm (v := I ((nodeF a k (sortsTo a k)).2)) rfl rfl y8 ?_
   refine lq rfl (q_neq rfl rfl rfl) ?_
   exact ⟨y1, y3, y5, y6, y7, y8, y25, y26, rfl, rfl⟩
  clear y1 y25 y26 y3 y5 y6 y7 y8
  rintro f37 _ ⟨y1, y3, y5, y6, y7, y8, y25, y26, y37, rfl⟩
  refine wpF_condP y37 (fun h37 => ?t53) (fun h37 => ?e53)
  case t53 =>
   refine fcr (fun f H => f 2 = nS ∧ f 3 = PT g4 0 ∧ St H0 NoB (SZ S H0) [bE g4 #[I ((nodeF a k (sortsTo a k)).2), I ((k : Int))] 28, rowE 3 vo (sortsTo a k : List Int), bE g11 #[I (((declsF a.Decls)).1), I (((declsF a.Decls)).2)] 28, bE g1 #[vD, vN, vH] 26, rdE vD a.Decls, rdE vN a.Nodes, rdE vH a.Hold] H) ?_ ?_
   ·refine lm (v := I ((nodeF a k (sortsTo a k)).2)) rfl rfl y8 ?_
    refine lm (v := I ((k : Int))) rfl rfl y6 ?_
    refine lq rfl (q_build (v := Vg #[I ((nodeF a k (sortsTo a k)).2), I ((k : Int))]) rfl (par2 (v0 := I ((nodeF a k (sortsTo a k)).2)) (v1 := I ((k : Int))) rfl rfl) (fun w__ => by kernel_rfl)) ?_
    refine la (v := nS) rfl rfl rfl ?_
    refine lo rfl ?_
    refine e_storeBlkA (cs' := #[I ((nodeF a k (sortsTo a k)).2), I ((k : Int))]) rfl y3 rfl Try.sizeOf28 rfl rfl (fa rfl (fa rfl fe)) (hS36.front 2 rfl) (fun H39 hS40 hxx => ?_)
    exact ⟨rfl, y3, hS40⟩
   clear y1 y25 y26 y3 y37 y5 y6 y7 y8
   rintro f41 H41 ⟨y2, y3, hS41⟩
   refine wpF_ret ?_
   refine ⟨_, resT y2 (resC y3 (loadV_blkA Try.isAgg28 Try.sizeOf28 rfl (hS41.blk 0 rfl)) (resN)), hS41.frame, ?_⟩
   show ∃ w0_, (Value.tuple #[nS, Vg #[I ((nodeF a k (sortsTo a k)).2), I ((k : Int))]]) = Value.tuple #[w0_, Vg #[I ((sortsF a)).1, I ((sortsF a)).2]] ∧ Rd (SZ S H0) H41 w0_ (sortsL a)
   have hq_ : sortsF a = _ := sortsF_node h16 h21 (by omega) hp h37
   exact ⟨_, by rw [hq_], by rw [sortsL_bad (by rw [hq_]; exact h37)]; exact rdNil⟩
  refine wpF_skip ?_
  refine wpF_cut (fun f H => ∃ (v47 : Value), f 1 = PT g1 0 ∧ f 3 = PT g4 0 ∧ f 5 = v47 ∧ f 25 = I ((a.Nodes.length : Int)) ∧ f 26 = I ((k : Int)) ∧ St H0 NoB (SZ S H0) [rowE 3 v47 (sortsTo a (k + 1) : List Int), bE g11 #[I (((declsF a.Decls)).1), I (((declsF a.Decls)).2)] 28, bE g4 #[I (0), I (0)] 28, bE g1 #[vD, vN, vH] 26, rdE vD a.Decls, rdE vN a.Nodes, rdE vH a.Hold] H) ?_ ?_
  ·refine wpF_region ?_
   refine lm (v := vo) rfl rfl y5 ?_
   refine lm (v := I ((nodeF a k (sortsTo a k)).1)) rfl rfl y7 ?_
   refine lo rfl ?_
   refine e_buildSlice (vs := [I ((nodeF a k (sortsTo a k)).1)]) (xs := ([(nodeF a k (sortsTo a k)).1] : List Int)) rfl Try.underlying24 Try.zeroValue3 rfl Try.sizeOf3 (par1 (v0 := I ((nodeF a k (sortsTo a k)).1)) rfl) rfl hS36 (RdVs.cons (Rd.int.2 ⟨rfl, by first | assumption | (constructor <;> omega)⟩) (RdVs.nil)) (by decide) (by decide) (fun v42 H43 hS44 hxx hvv42 => ?_)
   have hS45 : St H0 NoB (SZ S H0) [rdE v42 ([(nodeF a k (sortsTo a k)).1] : List Int), rowE 3 vo (sortsTo a k : List Int), bE g11 #[I (((declsF a.Decls)).1), I (((declsF a.Decls)).2)] 28, bE g4 #[I (0), I (0)] 28, bE g1 #[vD, vN, vH] 26, rdE vD a.Decls, rdE vN a.Nodes, rdE vH a.Hold] H43 := St.fin hS44
   have hS46 := (hS45.front 1 rfl)
   refine lo rfl ?_
   refine e_append rfl Try.underlying24 em_Int_3_AskC3 rfl rfl hS46 (hS46.rdS 1 rfl) (fun _ h => h) (by have hb : GoT.bytes Int = 8 := rfl; rw [hb]; simp only [List.length_append, List.length_cons, List.length_nil]; omega) (by decide) (fun v47 H48 hS49 hxx => ?_)
   have hS50 : St H0 NoB (SZ S H0) [rowE 3 v47 (sortsTo a (k + 1) : List Int), rdE v42 ([(nodeF a k (sortsTo a k)).1] : List Int), bE g11 #[I (((declsF a.Decls)).1), I (((declsF a.Decls)).2)] 28, bE g4 #[I (0), I (0)] 28, bE g1 #[vD, vN, vH] 26, rdE vD a.Decls, rdE vN a.Nodes, rdE vH a.Hold] H48 := by rw [show (sortsTo a (k + 1)) = ((sortsTo a k) ++ ([(nodeF a k (sortsTo a k)).1])) from rfl]; exact hS49
   refine la (v := v47) rfl rfl rfl ?_
   exact ⟨v47, y1, y3, rfl, y25, y26, (hS50.drop (sk (sn (sk (sk (sk (sk (sk (sk (List.Sublist.slnil))))))))))⟩
  clear y1 y25 y26 y3 y37 y5 y6 y7 y8
  rintro f51 H51 ⟨v47, y1, y3, y5, y25, y26, hS51⟩
  refine wpF_cut (fun f H => f 1 = PT g1 0 ∧ f 3 = PT g4 0 ∧ f 5 = v47 ∧ f 25 = I ((a.Nodes.length : Int)) ∧ f 26 = I ((k : Int) + 1) ∧ H51 = H) ?_ ?_
  ·refine wpF_region ?_
   refine lq rfl (q_add rfl y26 rfl (by constructor <;> omega)) ?_
   refine lm (v := I ((k : Int) + 1)) rfl rfl rfl ?_
   exact ⟨y1, y3, y5, y25, rfl, rfl⟩
  clear y1 y25 y26 y3 y5
  rintro f52 _ ⟨y1, y3, y5, y25, y26, rfl⟩
  refine ⟨_, ?_, k + 1, v47, rfl, (by omega), (all_succ hp (Decidable.of_not_not h37)), y1, y3, y5, y25, (Eq.trans y26 (congrArg I (by omega))), hS51⟩
  omega
 obtain rfl : k = a.Nodes.length := by omega
 have hsk := sortsTo_len (a := a) a.Nodes.length
 refine wpF_exit ?_
 refine atX_here ?_
 refine wpF_seq ?_
 refine fcr (fun f H => f 1 = PT g1 0 ∧ f 3 = PT g4 0 ∧ f 5 = vo ∧ f 49 = B (decide (200 < (a.Hold.length : Int))) ∧ H29 = H) ?_ ?_
 ·refine lq rfl (q_fieldAddr rfl Try.underlying26 rfl Try.sizeOf24 y1) ?_
  refine lq rfl (q_loadBlk rfl rfl Try.isAgg24 (hS29.blk 3 rfl) rfl (fun h => h)) ?_
  refine lq rfl (q_lenRd rfl Try.underlying24 rfl (hS29.rdl 6 rfl)) ?_
  refine lq rfl (q_gtr rfl rfl rfl) ?_
  exact ⟨y1, y3, y5, rfl, rfl⟩
 clear y1 y25 y26 y27 y3 y5
 rintro f54 _ ⟨y1, y3, y5, y49, rfl⟩
 refine wpF_condP y49 (fun h49 => ?t85) (fun h49 => ?e85)
 case t85 =>
  refine fcr (fun f H => f 2 = nS ∧ f 3 = PT g4 0 ∧ St H0 NoB (SZ S H0) [bE g4 #[I (2), I (0)] 28, rowE 3 vo (sortsTo a a.Nodes.length : List Int), bE g11 #[I (((declsF a.Decls)).1), I (((declsF a.Decls)).2)] 28, bE g1 #[vD, vN, vH] 26, rdE vD a.Decls, rdE vN a.Nodes, rdE vH a.Hold] H) ?_ ?_
  ·refine lq rfl (q_build (v := Vg #[I (2), I (0)]) rfl (par1 (v0 := I (2)) rfl) (fun w__ => by kernel_rfl)) ?_
   refine la (v := nS) rfl rfl rfl ?_
   refine lo rfl ?_
   refine e_storeBlkA (cs' := #[I (2), I (0)]) rfl y3 rfl Try.sizeOf28 rfl rfl (fa rfl (fa rfl fe)) (hS29.front 2 rfl) (fun H56 hS57 hxx => ?_)
   exact ⟨rfl, y3, hS57⟩
  clear y1 y3 y49 y5
  rintro f58 H58 ⟨y2, y3, hS58⟩
  refine wpF_ret ?_
  refine ⟨_, resT y2 (resC y3 (loadV_blkA Try.isAgg28 Try.sizeOf28 rfl (hS58.blk 0 rfl)) (resN)), hS58.frame, ?_⟩
  show ∃ w0_, (Value.tuple #[nS, Vg #[I (2), I (0)]]) = Value.tuple #[w0_, Vg #[I ((sortsF a)).1, I ((sortsF a)).2]] ∧ Rd (SZ S H0) H58 w0_ (sortsL a)
  have hq_ : sortsF a = _ := sortsF_holds h16 h21 hp h49
  exact ⟨_, by rw [hq_], by rw [sortsL_bad (by rw [hq_]; decide)]; exact rdNil⟩
 refine wpF_skip ?_
 refine wpF_seq ?_
 refine fcr (fun f H => f 3 = PT g4 0 ∧ f 5 = vo ∧ f 52 = vH ∧ f 53 = I ((a.Hold.length : Int)) ∧ f 54 = I (0) ∧ H29 = H) ?_ ?_
 ·refine lq rfl (q_fieldAddr rfl Try.underlying26 rfl Try.sizeOf24 y1) ?_
  refine lq rfl (q_loadBlk rfl rfl Try.isAgg24 (hS29.blk 3 rfl) rfl (fun h => h)) ?_
  refine lq rfl (q_lenRd rfl Try.underlying24 rfl (hS29.rdl 6 rfl)) ?_
  refine lm (v := I (0)) rfl rfl rfl ?_
  exact ⟨y3, y5, rfl, rfl, rfl, rfl⟩
 clear y1 y3 y49 y5
 rintro f59 _ ⟨y3, y5, y52, y53, y54, rfl⟩
 refine wpF_block ?_
 refine wpF_loop (fun mz f H => ∃ (u : Nat), mz = a.Hold.length - u ∧ (u ≤ a.Hold.length) ∧ (∀ j, j < u → holdBad a j = none) ∧ f 3 = PT g4 0 ∧ f 5 = vo ∧ f 52 = vH ∧ f 53 = I ((a.Hold.length : Int)) ∧ f 54 = I ((u : Int)) ∧ St H0 NoB (SZ S H0) [rowE 3 vo (sortsTo a a.Nodes.length : List Int), bE g11 #[I (((declsF a.Decls)).1), I (((declsF a.Decls)).2)] 28, bE g4 #[I (0), I (0)] 28, bE g1 #[vD, vN, vH] 26, rdE vD a.Decls, rdE vN a.Nodes, rdE vH a.Hold] H) (a.Hold.length - 0) ?_ ?_
 ·exact ⟨0, rfl, Nat.zero_le _, (fun j hj => absurd hj (Nat.not_lt_zero j)), y3, y5, y52, y53, (Eq.trans y54 (congrArg I (by omega))), hS29⟩
 intro m60 f60 H60 hI60
 clear y3 y5 y52 y53 y54
 obtain ⟨u, hm60, hu, hq, y3, y5, y52, y53, y54, hS60⟩ := hI60
 refine fcr (fun f H => f 3 = PT g4 0 ∧ f 5 = vo ∧ f 52 = vH ∧ f 53 = I ((a.Hold.length : Int)) ∧ f 54 = I ((u : Int)) ∧ f 55 = B (decide ((u : Int) < (a.Hold.length : Int))) ∧ H60 = H) ?_ ?_
 ·refine lq rfl (q_lss rfl y54 y53) ?_
  exact ⟨y3, y5, y52, y53, y54, rfl, rfl⟩
 clear y3 y5 y52 y53 y54
 rintro f61 _ ⟨y3, y5, y52, y53, y54, y55, rfl⟩
 refine wpF_seq ?_
 refine wpF_condP y55 (fun hlt2 => ?t84) (fun hlt2 => ?e84)
 case e84 =>
  refine wpF_exit ?_
  refine atX_here ?_
  refine fcr (fun f H => f 2 = vo ∧ f 3 = PT g4 0 ∧ St H0 NoB (SZ S H0) [bE g4 #[I (0), I (0)] 28, rowE 3 vo (sortsTo a a.Nodes.length : List Int), bE g11 #[I (((declsF a.Decls)).1), I (((declsF a.Decls)).2)] 28, bE g1 #[vD, vN, vH] 26, rdE vD a.Decls, rdE vN a.Nodes, rdE vH a.Hold] H) ?_ ?_
  ·refine lm (v := vo) rfl rfl y5 ?_
   refine lq rfl (q_build (v := Vg #[I (0), I (0)]) rfl par0 (fun w__ => by kernel_rfl)) ?_
   refine la (v := vo) rfl rfl rfl ?_
   refine lo rfl ?_
   refine e_storeBlkA (cs' := #[I (0), I (0)]) rfl y3 rfl Try.sizeOf28 rfl rfl (fa rfl (fa rfl fe)) (hS60.front 2 rfl) (fun H80 hS81 hxx => ?_)
   exact ⟨rfl, y3, hS81⟩
  clear y3 y5 y52 y53 y54 y55
  rintro f82 H82 ⟨y2, y3, hS82⟩
  refine wpF_ret ?_
  refine ⟨_, resT y2 (resC y3 (loadV_blkA Try.isAgg28 Try.sizeOf28 rfl (hS82.blk 0 rfl)) (resN)), hS82.frame, ?_⟩
  show ∃ w0_, (Value.tuple #[vo, Vg #[I (0), I (0)]]) = Value.tuple #[w0_, Vg #[I ((sortsF a)).1, I ((sortsF a)).2]] ∧ Rd (SZ S H0) H82 w0_ (sortsL a)
  have hS83 : St H0 NoB (SZ S H0) [rdE vo (sortsTo a a.Nodes.length), bE g4 #[I (0), I (0)] 28, bE g11 #[I (((declsF a.Decls)).1), I (((declsF a.Decls)).2)] 28, bE g1 #[vD, vN, vH] 26, rdE vD a.Decls, rdE vN a.Nodes, rdE vH a.Hold] H82 := St.fin (hS82.front 1 rfl)
  have hq_ : sortsF a = _ := sortsF_ok h16 h21 hp h49 fun j hj => hq j (by omega)
  exact ⟨_, by rw [hq_], by rw [sortsL_ok hq_]; exact (hS83.result (hS83.rdS 0 rfl))⟩
 refine wpF_skip ?_
 refine wpF_seq ?_
 refine wpF_block ?_
 refine fcr (fun f H => f 3 = PT g4 0 ∧ f 5 = vo ∧ f 9 = I ((u : Int)) ∧ f 10 = I (nth a.Hold u) ∧ f 52 = vH ∧ f 53 = I ((a.Hold.length : Int)) ∧ f 54 = I ((u : Int)) ∧ H60 = H) ?_ ?_
 ·refine lm (v := I ((u : Int))) rfl rfl y54 ?_
  refine lq rfl (q_indexRd (k := u) rfl Try.underlying24 el_Int_3_AskC3 y52 y54 (hS60.rdl 6 rfl) (by omega) (by omega)) ?_
  refine lq rfl (q_loadInt (k := u) rfl rfl el_Int_3_AskC3 (hS60.rdl 6 rfl) (by omega) (fun _ h => h)) ?_
  refine la (v := I ((u : Int))) rfl rfl rfl ?_
  refine la (v := I (nth a.Hold u)) rfl rfl rfl ?_
  exact ⟨y3, y5, rfl, rfl, y52, y53, y54, rfl⟩
 clear y3 y5 y52 y53 y54 y55
 rintro f63 _ ⟨y3, y5, y9, y10, y52, y53, y54, rfl⟩
 refine wpF_block ?_
 refine fcr (fun f H => f 3 = PT g4 0 ∧ f 5 = vo ∧ f 9 = I ((u : Int)) ∧ f 10 = I (nth a.Hold u) ∧ f 52 = vH ∧ f 53 = I ((a.Hold.length : Int)) ∧ f 54 = I ((u : Int)) ∧ f 59 = B (decide (((nth a.Hold u) < 0) ∨ (((sortsTo a a.Nodes.length).length : Int) ≤ (nth a.Hold u)))) ∧ H60 = H) ?_ ?_
 ·refine lm (v := I (nth a.Hold u)) rfl rfl y10 ?_
  refine lq rfl (q_lss rfl rfl rfl) ?_
  refine lm (v := B (decide ((nth a.Hold u) < 0))) rfl rfl rfl ?_
  by_cases hg64 : (nth a.Hold u) < 0
  ·have hb65 := Eq.trans rfl (congrArg B (decide_eq_true hg64))
   refine wpL_gs rfl rfl rfl hb65 rfl ?_
   refine wpL_gs rfl rfl rfl hb65 rfl ?_
   refine wpL_gs rfl rfl rfl hb65 rfl ?_
   refine wpL_gs rfl rfl rfl hb65 rfl ?_
   refine lq rfl (q_pickT (v := B (true)) rfl hb65 rfl) ?_
   refine la (v := B (true)) rfl rfl rfl ?_
   exact ⟨y3, y5, y9, y10, y52, y53, y54, (Eq.trans rfl (congrArg B ((decide_eq_true (Or.inl hg64)).symm))), rfl⟩
  ·have hb66 := Eq.trans rfl (congrArg B (decide_eq_false hg64))
   refine gq rfl rfl rfl hb66 (q_move (v := I (nth a.Hold u)) rfl y10) ?_
   refine gq rfl rfl rfl hb66 (q_move (v := vo) rfl y5) ?_
   refine gq rfl rfl rfl hb66 (q_lenRd rfl Try.underlying24 rfl (hS60.rowl 0 rfl)) ?_
   refine gq rfl rfl rfl hb66 (q_geq rfl rfl rfl) ?_
   refine lq rfl (q_pickF (v := B (decide (((sortsTo a a.Nodes.length).length : Int) ≤ (nth a.Hold u)))) rfl hb66 rfl) ?_
   refine la (v := B (decide (((sortsTo a a.Nodes.length).length : Int) ≤ (nth a.Hold u)))) rfl rfl rfl ?_
   exact ⟨y3, y5, y9, y10, y52, y53, y54, (Eq.trans rfl (congrArg B (decide_congr_of ((Iff.rfl).trans (((or_iff_right hg64).trans Iff.rfl)).symm)))), rfl⟩
 clear y10 y3 y5 y52 y53 y54 y9
 rintro f67 _ ⟨y3, y5, y9, y10, y52, y53, y54, y59, rfl⟩
 refine wpF_condP y59 (fun h59 => ?t79) (fun h59 => ?e79)
 case t79 =>
  refine fcr (fun f H => f 2 = nS ∧ f 3 = PT g4 0 ∧ St H0 NoB (SZ S H0) [bE g4 #[I (3), I ((u : Int))] 28, rowE 3 vo (sortsTo a a.Nodes.length : List Int), bE g11 #[I (((declsF a.Decls)).1), I (((declsF a.Decls)).2)] 28, bE g1 #[vD, vN, vH] 26, rdE vD a.Decls, rdE vN a.Nodes, rdE vH a.Hold] H) ?_ ?_
  ·refine lm (v := I ((u : Int))) rfl rfl y9 ?_
   refine lq rfl (q_build (v := Vg #[I (3), I ((u : Int))]) rfl (par2 (v0 := I (3)) (v1 := I ((u : Int))) rfl rfl) (fun w__ => by kernel_rfl)) ?_
   refine la (v := nS) rfl rfl rfl ?_
   refine lo rfl ?_
   refine e_storeBlkA (cs' := #[I (3), I ((u : Int))]) rfl y3 rfl Try.sizeOf28 rfl rfl (fa rfl (fa rfl fe)) (hS60.front 2 rfl) (fun H69 hS70 hxx => ?_)
   exact ⟨rfl, y3, hS70⟩
  clear y10 y3 y5 y52 y53 y54 y59 y9
  rintro f71 H71 ⟨y2, y3, hS71⟩
  refine wpF_ret ?_
  refine ⟨_, resT y2 (resC y3 (loadV_blkA Try.isAgg28 Try.sizeOf28 rfl (hS71.blk 0 rfl)) (resN)), hS71.frame, ?_⟩
  show ∃ w0_, (Value.tuple #[nS, Vg #[I (3), I ((u : Int))]]) = Value.tuple #[w0_, Vg #[I ((sortsF a)).1, I ((sortsF a)).2]] ∧ Rd (SZ S H0) H71 w0_ (sortsL a)
  have hq_ : sortsF a = _ := sortsF_hold h16 h21 hp h49 (by omega) hq (holdBad_range (by rw [sortsTo_len] at h59; exact h59))
  exact ⟨_, by rw [hq_], by rw [sortsL_bad (by rw [hq_]; exact (by decide : (3 : Int) ≠ 0))]; exact rdNil⟩
 refine fcr (fun f H => f 3 = PT g4 0 ∧ f 5 = vo ∧ f 9 = I ((u : Int)) ∧ f 52 = vH ∧ f 53 = I ((a.Hold.length : Int)) ∧ f 54 = I ((u : Int)) ∧ f 70 = B (decide ((nth (sortsTo a a.Nodes.length) ((nth a.Hold u).toNat)) ≠ 1)) ∧ H60 = H) ?_ ?_
 ·refine lm (v := vo) rfl rfl y5 ?_
  refine lm (v := I (nth a.Hold u)) rfl rfl y10 ?_
  refine lq rfl (q_indexRd (k := (nth a.Hold u).toNat) rfl Try.underlying24 el_Int_3_AskC3 rfl rfl (hS60.rowl 0 rfl) (by omega) (by omega)) ?_
  refine lq rfl (q_loadInt (k := (nth a.Hold u).toNat) rfl rfl el_Int_3_AskC3 (hS60.rowl 0 rfl) (by omega) (fun _ h => h)) ?_
  refine lq rfl (q_neq rfl rfl rfl) ?_
  refine la (v := B (decide ((nth (sortsTo a a.Nodes.length) ((nth a.Hold u).toNat)) ≠ 1))) rfl rfl rfl ?_
  exact ⟨y3, y5, y9, y52, y53, y54, rfl, rfl⟩
 clear y10 y3 y5 y52 y53 y54 y59 y9
 rintro f72 _ ⟨y3, y5, y9, y52, y53, y54, y70, rfl⟩
 refine wpF_condP y70 (fun h70 => ?t78) (fun h70 => ?e78)
 case e78 =>
  refine wpF_skip ?_
  refine wpF_cut (fun f H => f 3 = PT g4 0 ∧ f 5 = vo ∧ f 52 = vH ∧ f 53 = I ((a.Hold.length : Int)) ∧ f 54 = I ((u : Int) + 1) ∧ H60 = H) ?_ ?_
  ·refine wpF_region ?_
   refine lq rfl (q_add rfl y54 rfl (by constructor <;> omega)) ?_
   refine lm (v := I ((u : Int) + 1)) rfl rfl rfl ?_
   exact ⟨y3, y5, y52, y53, rfl, rfl⟩
  clear y3 y5 y52 y53 y54 y70 y9
  rintro f77 _ ⟨y3, y5, y52, y53, y54, rfl⟩
  refine ⟨_, ?_, u + 1, rfl, (by omega), (all_succ hq (holdBad_no (by rw [sortsTo_len] at h59; exact h59) h70)), y3, y5, y52, y53, (Eq.trans y54 (congrArg I (by omega))), hS60⟩
  omega
 refine fcr (fun f H => f 2 = nS ∧ f 3 = PT g4 0 ∧ St H0 NoB (SZ S H0) [bE g4 #[I (8), I ((u : Int))] 28, rowE 3 vo (sortsTo a a.Nodes.length : List Int), bE g11 #[I (((declsF a.Decls)).1), I (((declsF a.Decls)).2)] 28, bE g1 #[vD, vN, vH] 26, rdE vD a.Decls, rdE vN a.Nodes, rdE vH a.Hold] H) ?_ ?_
 ·refine lm (v := I ((u : Int))) rfl rfl y9 ?_
  refine lq rfl (q_build (v := Vg #[I (8), I ((u : Int))]) rfl (par2 (v0 := I (8)) (v1 := I ((u : Int))) rfl rfl) (fun w__ => by kernel_rfl)) ?_
  refine la (v := nS) rfl rfl rfl ?_
  refine lo rfl ?_
  refine e_storeBlkA (cs' := #[I (8), I ((u : Int))]) rfl y3 rfl Try.sizeOf28 rfl rfl (fa rfl (fa rfl fe)) (hS60.front 2 rfl) (fun H74 hS75 hxx => ?_)
  exact ⟨rfl, y3, hS75⟩
 clear y3 y5 y52 y53 y54 y70 y9
 rintro f76 H76 ⟨y2, y3, hS76⟩
 refine wpF_ret ?_
 refine ⟨_, resT y2 (resC y3 (loadV_blkA Try.isAgg28 Try.sizeOf28 rfl (hS76.blk 0 rfl)) (resN)), hS76.frame, ?_⟩
 show ∃ w0_, (Value.tuple #[nS, Vg #[I (8), I ((u : Int))]]) = Value.tuple #[w0_, Vg #[I ((sortsF a)).1, I ((sortsF a)).2]] ∧ Rd (SZ S H0) H76 w0_ (sortsL a)
 have hq_ : sortsF a = _ := sortsF_hold h16 h21 hp h49 (by omega) hq (holdBad_sort (by rw [sortsTo_len] at h59; exact h59) h70)
 exact ⟨_, by rw [hq_], by rw [sortsL_bad (by rw [hq_]; exact (by decide : (8 : Int) ≠ 0))]; exact rdNil⟩
end Go.Um
