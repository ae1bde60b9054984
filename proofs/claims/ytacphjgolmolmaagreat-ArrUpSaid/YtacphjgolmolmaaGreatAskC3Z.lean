import Derived.Test.YtacphjgolmolmaaGreatProg
import Derived.Test.YtacphjgolmolmaaGreatAskC2Z
import Derived.Test.YtacphjgolmolmaaGreatUmArrUpB
namespace Go.Um
open Go.Proofs
open GoT (sz ag rdc)
open KeyT (kv)
theorem el_Int_3_AskC3 : ElT Tryz.prog Int 3 := ⟨Tryz.isAgg3, Tryz.sizeOf3⟩
theorem em_Int_3_AskC3 : ElemOk Tryz.prog Int 3 := ⟨Tryz.t3, (.int .i64 0), by kernel_rfl, by kernel_rfl, by kernel_rfl, by kernel_rfl, by kernel_rfl⟩
set_option maxHeartbeats 2000000 in
set_option maxRecDepth 100000 in
theorem Sorts_L {H0 : Heap} {S : Nat → Prop} (vD vN vH : Value) (a : Ask) (rvD : Rd S H0 vD a.Decls) (rvN : Rd S H0 vN a.Nodes) (rvH : Rd S H0 vH a.Hold) : CallsH Tryz.prog 12 #[Vg #[vD, vN, vH]] H0 (fun rv_ H' => Ext NoB H0 H' ∧ ∃ w0_, rv_ = Value.tuple #[w0_, Vg #[I ((sortsF a)).1, I ((sortsF a)).2]] ∧ Rd (SZ S H0) H' w0_ (sortsL a)) := by
 have hsN : a.Nodes.length * 64 ≤ 140737488355328 := (Rd.list.1 rvN).bound
 have hsH := (Rd.list.1 rvH).small
 have hS0 : St H0 NoB (SZ S H0) [rdE vD a.Decls, rdE vN a.Nodes, rdE vH a.Hold] H0 := St.arg (St.arg (St.arg (St.start (fun _ h => h.2)) (Bl0.nil) rvH (fun _ h => h.1)) (Bl0.cons (Bl0.nil)) rvN (fun _ h => h.1)) (Bl0.cons (Bl0.cons (Bl0.nil))) rvD (fun _ h => h.1)
 refine callsH_of_wpF (args := [Vg #[vD, vN, vH]]) (rs := [.tmp 2, .cell 3 32]) Tryz.func12 rfl Tryz.ntmps12 Tryz.results12 (by kernel_rfl) (Nat.le_of_ble_eq_true rfl) ?_
 have y0 : argF [Vg #[vD, vN, vH]] 0 = Vg #[vD, vN, vH] := rfl
 generalize argF [Vg #[vD, vN, vH]] = f0 at *
 refine wpF_seq ?_
 refine wpF_region ?_
 refine lo rfl ?_
 refine e_box (v := Vg #[vD, vN, vH]) rfl y0 hS0 (fun g1 H2 hS3 hxx => ?_)
 refine la (v := nS) rfl rfl rfl ?_
 refine lo rfl ?_
 refine e_alloc rfl Tryz.zeroValue32 hS3 (fun g4 H5 hS6 hxx => ?_)
 refine wpL_nil ?_
 refine wpF_seq ?_
 refine wpF_seq ?_
 refine wpF_region ?_
 refine lq rfl (q_fieldAddr rfl Tryz.underlying26 rfl Tryz.sizeOf22 rfl) ?_
 refine lq rfl (q_loadBlk rfl rfl Tryz.isAgg22 (hS6.blk 1 rfl) rfl (fun h => h)) ?_
 refine lo rfl ?_
 refine e_call rfl Tryz.call26 (arr1 (v0 := vD) rfl) (checkDecls_L vD a.Decls (hS6.rdN 2 rfl) ) ?_
 rintro _ H7 ⟨hxx, rfl⟩
 have hS8 := hS6.ext hxx
 refine lo rfl ?_
 refine e_alloc rfl Tryz.zeroValue32 hS8 (fun g10 H11 hS12 hxx => ?_)
 refine lo rfl ?_
 refine e_storeBlkA (cs' := #[I (((declsF a.Decls)).1), I (((declsF a.Decls)).2)]) rfl rfl rfl Tryz.sizeOf32 rfl rfl (fa rfl (fa rfl fe)) hS12 (fun H13 hS14 hxx => ?_)
 refine wpL_nil ?_
 refine wpF_seq ?_
 refine wpF_region ?_
 refine lq rfl (q_fieldAddr rfl Tryz.underlying32 rfl Tryz.sizeOf3 rfl) ?_
 refine lq rfl (q_loadBlk rfl rfl Tryz.isAgg3 (hS14.blk 0 rfl) rfl (fun h => h)) ?_
 refine lq rfl (q_neq rfl rfl rfl) ?_
 refine wpL_nil ?_
 refine wpF_condP rfl (fun h16 => ?t63) (fun h16 => ?e63)
 case t63 =>
  refine wpF_seq ?_
  refine wpF_drawn [none, none, some 0] [[], [], []] (fun l b => match l with | 0 => True | _ => False) (by kernel_rfl) (by kernel_rfl) ?_
  refine rq 0 (by kernel_rfl) rfl rfl (q_loadBlkA rfl rfl Tryz.isAgg32 Tryz.sizeOf32 rfl (hS14.blk 0 rfl) (labU_not [] rfl (fe))) ?_
  refine rq 1 (by kernel_rfl) rfl rfl (q_assign (v := nS) rfl rfl) ?_
  refine wpR_n [2] (by kernel_rfl) ?_
  refine fa ?_ fe
  refine exE rfl rfl ?_
  refine e_storeBlkA (cs' := #[I (((declsF a.Decls)).1), I (((declsF a.Decls)).2)]) rfl rfl rfl Tryz.sizeOf32 rfl rfl (fa rfl (fa rfl fe)) (hS14.front 1 rfl) (fun H16o2 hS16o2 hxx => ?_)
  refine ⟨Ext.mono hxx (labS_of 0 rfl (fun _ _ => trivial)), ?_⟩
  refine wpR_end (by kernel_rfl) ?_
  skip
  refine wpF_ret ?_
  refine ⟨_, resT rfl (resC rfl (loadV_blkA Tryz.isAgg32 Tryz.sizeOf32 rfl (hS16o2.blk 0 rfl)) (resN)), hS16o2.frame, ?_⟩
  show ∃ w0_, (Value.tuple #[nS, Vg #[I (((declsF a.Decls)).1), I (((declsF a.Decls)).2)]]) = Value.tuple #[w0_, Vg #[I ((sortsF a)).1, I ((sortsF a)).2]] ∧ Rd (SZ S H0) H16o2 w0_ (sortsL a)
  have hq_ : sortsF a = _ := sortsF_decl h16
  exact ⟨_, by rw [hq_], by rw [sortsL_bad (by rw [hq_]; exact h16)]; exact rdNil⟩
 refine wpF_skip ?_
 refine wpF_seq ?_
 refine wpF_seq ?_
 refine wpF_region ?_
 refine lq rfl (q_fieldAddr rfl Tryz.underlying26 rfl Tryz.sizeOf23 rfl) ?_
 refine lq rfl (q_loadBlk rfl rfl Tryz.isAgg23 (hS14.blk 2 rfl) rfl (fun h => h)) ?_
 refine lq rfl (q_lenRd rfl Tryz.underlying23 rfl (hS14.rdl 4 rfl)) ?_
 refine lq rfl (q_gtr rfl rfl rfl) ?_
 refine wpL_nil ?_
 refine wpF_condP rfl (fun h21 => ?t62) (fun h21 => ?e62)
 case t62 =>
  refine wpF_seq ?_
  refine wpF_region ?_
  refine lq rfl (q_build (v := Vg #[I (2), I (0)]) rfl (par1 (v0 := I (2)) rfl) (fun w__ => by kernel_rfl)) ?_
  refine la (v := nS) rfl rfl rfl ?_
  refine lo rfl ?_
  refine e_storeBlkA (cs' := #[I (2), I (0)]) rfl rfl rfl Tryz.sizeOf32 rfl rfl (fa rfl (fa rfl fe)) (hS14.front 1 rfl) (fun H18 hS19 hxx => ?_)
  refine wpL_nil ?_
  refine wpF_ret ?_
  refine ⟨_, resT rfl (resC rfl (loadV_blkA Tryz.isAgg32 Tryz.sizeOf32 rfl (hS19.blk 0 rfl)) (resN)), hS19.frame, ?_⟩
  show ∃ w0_, (Value.tuple #[nS, Vg #[I (2), I (0)]]) = Value.tuple #[w0_, Vg #[I ((sortsF a)).1, I ((sortsF a)).2]] ∧ Rd (SZ S H0) H18 w0_ (sortsL a)
  have hq_ : sortsF a = _ := sortsF_many h16 h21
  exact ⟨_, by rw [hq_], by rw [sortsL_bad (by rw [hq_]; decide)]; exact rdNil⟩
 refine wpF_skip ?_
 refine wpF_seq ?_
 refine wpF_region ?_
 refine la (v := nS) rfl rfl rfl ?_
 refine wpL_nil ?_
 have hS20 : St H0 NoB (SZ S H0) [rowE 3 nS ([] : List Int), bE g10 #[I (((declsF a.Decls)).1), I (((declsF a.Decls)).2)] 32, bE g4 #[I (0), I (0)] 32, bE g1 #[vD, vN, vH] 26, rdE vD a.Decls, rdE vN a.Nodes, rdE vH a.Hold] H13 := hS14.row0 3
 refine wpF_seq ?_
 refine wpF_seq ?_
 refine wpF_region ?_
 refine lq rfl (q_fieldAddr rfl Tryz.underlying26 rfl Tryz.sizeOf23 rfl) ?_
 refine lq rfl (q_loadBlk rfl rfl Tryz.isAgg23 (hS20.blk 3 rfl) rfl (fun h => h)) ?_
 refine lq rfl (q_lenRd rfl Tryz.underlying23 rfl (hS20.rdl 5 rfl)) ?_
 refine lm (v := I (0)) rfl rfl rfl ?_
 refine wpL_nil ?_
 refine wpF_block ?_
 refine wpF_loop (fun mz f H => ∃ (k : Nat), ∃ (vo : Value), mz = a.Nodes.length - k ∧ (k ≤ a.Nodes.length) ∧ (∀ j, j < k → (nodeF a j (sortsTo a j)).2 = 0) ∧ f 1 = PT g1 0 ∧ f 3 = PT g4 0 ∧ f 5 = vo ∧ f 25 = I ((a.Nodes.length : Int)) ∧ f 26 = I ((k : Int)) ∧ St H0 NoB (SZ S H0) [rowE 3 vo (sortsTo a k : List Int), bE g10 #[I (((declsF a.Decls)).1), I (((declsF a.Decls)).2)] 32, bE g4 #[I (0), I (0)] 32, bE g1 #[vD, vN, vH] 26, rdE vD a.Decls, rdE vN a.Nodes, rdE vH a.Hold] H) (a.Nodes.length - 0) ?_ ?_
 ·exact ⟨0, nS, rfl, Nat.zero_le _, (fun j hj => absurd hj (Nat.not_lt_zero j)), rfl, rfl, rfl, rfl, (Eq.trans rfl (congrArg I (by omega))), (show St H0 NoB (SZ S H0) [rowE 3 nS (sortsTo a 0 : List Int), bE g10 #[I (((declsF a.Decls)).1), I (((declsF a.Decls)).2)] 32, bE g4 #[I (0), I (0)] 32, bE g1 #[vD, vN, vH] 26, rdE vD a.Decls, rdE vN a.Nodes, rdE vH a.Hold] H13 from hS20)⟩
 intro m21 f21 H21 hI21
 obtain ⟨k, vo, hm21, hk, hp, y1, y3, y5, y25, y26, hS21⟩ := hI21
 refine wpF_seq ?_
 refine wpF_region ?_
 refine lq rfl (q_lss rfl y26 y25) ?_
 refine wpL_nil ?_
 refine wpF_seq ?_
 refine wpF_condP rfl (fun hlt => ?t61) (fun hlt => ?e61)
 case t61 =>
  have hrg := nodeF_rng (a := a) (i := k) (S := sortsTo a k) (Decidable.of_not_not h16) (sortsTo_rng (Decidable.of_not_not h16) k)
  have hsk := sortsTo_len (a := a) k
  unfold sortR at hrg
  refine wpF_skip ?_
  refine wpF_seq ?_
  refine wpF_block ?_
  refine wpF_seq ?_
  refine wpF_region ?_
  refine lm (v := I ((k : Int))) rfl rfl y26 ?_
  refine la (v := I ((k : Int))) rfl rfl rfl ?_
  refine wpL_nil ?_
  refine wpF_seq ?_
  refine wpF_region ?_
  refine lq rfl (q_loadBlkA rfl y1 Tryz.isAgg26 Tryz.sizeOf26 rfl (hS21.blk 3 rfl) (fun h => h)) ?_
  refine lm (v := I ((k : Int))) rfl rfl rfl ?_
  refine lm (v := vo) rfl rfl y5 ?_
  refine lo rfl ?_
  refine e_call rfl Tryz.call27 (arr3 (v0 := Vg #[vD, vN, vH]) (v1 := I ((k : Int))) (v2 := vo) rfl rfl rfl) (node_L vD vN vH vo a k (sortsTo a k) (hS21.rdN 4 rfl) (hS21.rdN 5 rfl) (hS21.rdN 6 rfl) (hS21.rowN 0 rfl) (by omega) (sortsTo_len _)) ?_
  rintro _ H23 ⟨hxx, rfl⟩
  have hS24 := hS21.ext hxx
  refine lm (v := Value.tuple #[I ((nodeF a k (sortsTo a k)).1), I ((nodeF a k (sortsTo a k)).2)]) rfl rfl rfl ?_
  refine lq rfl (q_extract (vs := #[I ((nodeF a k (sortsTo a k)).1), I ((nodeF a k (sortsTo a k)).2)]) (v := I ((nodeF a k (sortsTo a k)).1)) rfl rfl rfl) ?_
  refine lq rfl (q_extract (vs := #[I ((nodeF a k (sortsTo a k)).1), I ((nodeF a k (sortsTo a k)).2)]) (v := I ((nodeF a k (sortsTo a k)).2)) rfl rfl rfl) ?_
  refine la (v := I ((nodeF a k (sortsTo a k)).1)) rfl rfl rfl ?_
  refine la (v := I ((nodeF a k (sortsTo a k)).2)) rfl rfl rfl ?_
  refine wpL_nil ?_
  refine wpF_seq ?_
  refine wpF_seq ?_
  refine wpF_region ?_
  refine lm (v := I ((nodeF a k (sortsTo a k)).2)) rfl rfl rfl ?_
  refine lq rfl (q_neq rfl rfl rfl) ?_
  refine wpL_nil ?_
  refine wpF_condP rfl (fun h37 => ?t38) (fun h37 => ?e38)
  case t38 =>
   refine wpF_seq ?_
   refine wpF_region ?_
   refine lm (v := I ((nodeF a k (sortsTo a k)).2)) rfl rfl rfl ?_
   refine lm (v := I ((k : Int))) rfl rfl rfl ?_
   refine lq rfl (q_build (v := Vg #[I ((nodeF a k (sortsTo a k)).2), I ((k : Int))]) rfl (par2 (v0 := I ((nodeF a k (sortsTo a k)).2)) (v1 := I ((k : Int))) rfl rfl) (fun w__ => by kernel_rfl)) ?_
   refine la (v := nS) rfl rfl rfl ?_
   refine lo rfl ?_
   refine e_storeBlkA (cs' := #[I ((nodeF a k (sortsTo a k)).2), I ((k : Int))]) rfl y3 rfl Tryz.sizeOf32 rfl rfl (fa rfl (fa rfl fe)) (hS24.front 2 rfl) (fun H27 hS28 hxx => ?_)
   refine wpL_nil ?_
   refine wpF_ret ?_
   refine ⟨_, resT rfl (resC y3 (loadV_blkA Tryz.isAgg32 Tryz.sizeOf32 rfl (hS28.blk 0 rfl)) (resN)), hS28.frame, ?_⟩
   show ∃ w0_, (Value.tuple #[nS, Vg #[I ((nodeF a k (sortsTo a k)).2), I ((k : Int))]]) = Value.tuple #[w0_, Vg #[I ((sortsF a)).1, I ((sortsF a)).2]] ∧ Rd (SZ S H0) H27 w0_ (sortsL a)
   have hq_ : sortsF a = _ := sortsF_node h16 h21 (by omega) hp h37
   exact ⟨_, by rw [hq_], by rw [sortsL_bad (by rw [hq_]; exact h37)]; exact rdNil⟩
  refine wpF_skip ?_
  refine wpF_region ?_
  refine lm (v := vo) rfl rfl y5 ?_
  refine lm (v := I ((nodeF a k (sortsTo a k)).1)) rfl rfl rfl ?_
  refine lo rfl ?_
  refine e_buildSlice (vs := [I ((nodeF a k (sortsTo a k)).1)]) (xs := ([(nodeF a k (sortsTo a k)).1] : List Int)) rfl Tryz.underlying24 Tryz.zeroValue3 rfl Tryz.sizeOf3 (par1 (v0 := I ((nodeF a k (sortsTo a k)).1)) rfl) rfl hS24 (RdVs.cons (Rd.int.2 ⟨rfl, by first | assumption | (constructor <;> omega)⟩) (RdVs.nil)) (by decide) (by decide) (fun v29 H30 hS31 hxx hvv29 => ?_)
  have hS32 : St H0 NoB (SZ S H0) [rdE v29 ([(nodeF a k (sortsTo a k)).1] : List Int), rowE 3 vo (sortsTo a k : List Int), bE g10 #[I (((declsF a.Decls)).1), I (((declsF a.Decls)).2)] 32, bE g4 #[I (0), I (0)] 32, bE g1 #[vD, vN, vH] 26, rdE vD a.Decls, rdE vN a.Nodes, rdE vH a.Hold] H30 := St.fin hS31
  have hS33 := (hS32.front 1 rfl)
  refine lo rfl ?_
  refine e_append rfl Tryz.underlying24 em_Int_3_AskC3 rfl rfl hS33 (hS33.rdS 1 rfl) (fun _ h => h) (by have hb : GoT.bytes Int = 8 := rfl; rw [hb]; simp only [List.length_append, List.length_cons, List.length_nil]; omega) (by decide) (fun v34 H35 hS36 hxx => ?_)
  have hS37 : St H0 NoB (SZ S H0) [rowE 3 v34 (sortsTo a (k + 1) : List Int), rdE v29 ([(nodeF a k (sortsTo a k)).1] : List Int), bE g10 #[I (((declsF a.Decls)).1), I (((declsF a.Decls)).2)] 32, bE g4 #[I (0), I (0)] 32, bE g1 #[vD, vN, vH] 26, rdE vD a.Decls, rdE vN a.Nodes, rdE vH a.Hold] H35 := by rw [show (sortsTo a (k + 1)) = ((sortsTo a k) ++ ([(nodeF a k (sortsTo a k)).1])) from rfl]; exact hS36
  refine la (v := v34) rfl rfl rfl ?_
  refine wpL_nil ?_
  refine wpF_region ?_
  refine lq rfl (q_add rfl y26 rfl (by constructor <;> omega)) ?_
  refine lm (v := I ((k : Int) + 1)) rfl rfl rfl ?_
  refine wpL_nil ?_
  refine ⟨_, ?_, k + 1, v34, rfl, (by omega), (all_succ hp (Decidable.of_not_not h37)), y1, y3, rfl, y25, (Eq.trans rfl (congrArg I (by omega))), (hS37.drop (sk (sn (sk (sk (sk (sk (sk (sk (List.Sublist.slnil))))))))))⟩
  omega
 obtain rfl : k = a.Nodes.length := by omega
 have hsk := sortsTo_len (a := a) a.Nodes.length
 refine wpF_exit ?_
 refine atX_here ?_
 refine wpF_seq ?_
 refine wpF_seq ?_
 refine wpF_region ?_
 refine lq rfl (q_fieldAddr rfl Tryz.underlying26 rfl Tryz.sizeOf24 y1) ?_
 refine lq rfl (q_loadBlk rfl rfl Tryz.isAgg24 (hS21.blk 3 rfl) rfl (fun h => h)) ?_
 refine lq rfl (q_lenRd rfl Tryz.underlying24 rfl (hS21.rdl 6 rfl)) ?_
 refine lq rfl (q_gtr rfl rfl rfl) ?_
 refine wpL_nil ?_
 refine wpF_condP rfl (fun h49 => ?t60) (fun h49 => ?e60)
 case t60 =>
  refine wpF_seq ?_
  refine wpF_region ?_
  refine lq rfl (q_build (v := Vg #[I (2), I (0)]) rfl (par1 (v0 := I (2)) rfl) (fun w__ => by kernel_rfl)) ?_
  refine la (v := nS) rfl rfl rfl ?_
  refine lo rfl ?_
  refine e_storeBlkA (cs' := #[I (2), I (0)]) rfl y3 rfl Tryz.sizeOf32 rfl rfl (fa rfl (fa rfl fe)) (hS21.front 2 rfl) (fun H40 hS41 hxx => ?_)
  refine wpL_nil ?_
  refine wpF_ret ?_
  refine ⟨_, resT rfl (resC y3 (loadV_blkA Tryz.isAgg32 Tryz.sizeOf32 rfl (hS41.blk 0 rfl)) (resN)), hS41.frame, ?_⟩
  show ∃ w0_, (Value.tuple #[nS, Vg #[I (2), I (0)]]) = Value.tuple #[w0_, Vg #[I ((sortsF a)).1, I ((sortsF a)).2]] ∧ Rd (SZ S H0) H40 w0_ (sortsL a)
  have hq_ : sortsF a = _ := sortsF_holds h16 h21 hp h49
  exact ⟨_, by rw [hq_], by rw [sortsL_bad (by rw [hq_]; decide)]; exact rdNil⟩
 refine wpF_skip ?_
 refine wpF_seq ?_
 refine wpF_seq ?_
 refine wpF_region ?_
 refine lq rfl (q_fieldAddr rfl Tryz.underlying26 rfl Tryz.sizeOf24 y1) ?_
 refine lq rfl (q_loadBlk rfl rfl Tryz.isAgg24 (hS21.blk 3 rfl) rfl (fun h => h)) ?_
 refine lq rfl (q_lenRd rfl Tryz.underlying24 rfl (hS21.rdl 6 rfl)) ?_
 refine lm (v := I (0)) rfl rfl rfl ?_
 refine wpL_nil ?_
 refine wpF_block ?_
 refine wpF_loop (fun mz f H => ∃ (u : Nat), mz = a.Hold.length - u ∧ (u ≤ a.Hold.length) ∧ (∀ j, j < u → holdBad a j = none) ∧ f 3 = PT g4 0 ∧ f 5 = vo ∧ f 52 = vH ∧ f 53 = I ((a.Hold.length : Int)) ∧ f 54 = I ((u : Int)) ∧ St H0 NoB (SZ S H0) [rowE 3 vo (sortsTo a a.Nodes.length : List Int), bE g10 #[I (((declsF a.Decls)).1), I (((declsF a.Decls)).2)] 32, bE g4 #[I (0), I (0)] 32, bE g1 #[vD, vN, vH] 26, rdE vD a.Decls, rdE vN a.Nodes, rdE vH a.Hold] H) (a.Hold.length - 0) ?_ ?_
 ·exact ⟨0, rfl, Nat.zero_le _, (fun j hj => absurd hj (Nat.not_lt_zero j)), y3, y5, rfl, rfl, (Eq.trans rfl (congrArg I (by omega))), hS21⟩
 intro m42 f42 H42 hI42
 clear y3 y5
 obtain ⟨u, hm42, hu, hq, y3, y5, y52, y53, y54, hS42⟩ := hI42
 refine wpF_seq ?_
 refine wpF_region ?_
 refine lq rfl (q_lss rfl y54 y53) ?_
 refine wpL_nil ?_
 refine wpF_seq ?_
 refine wpF_condP rfl (fun hlt2 => ?t59) (fun hlt2 => ?e59)
 case e59 =>
  refine wpF_exit ?_
  refine atX_here ?_
  refine wpF_seq ?_
  refine wpF_region ?_
  refine lm (v := vo) rfl rfl y5 ?_
  refine lq rfl (q_build (v := Vg #[I (0), I (0)]) rfl par0 (fun w__ => by kernel_rfl)) ?_
  refine la (v := vo) rfl rfl rfl ?_
  refine lo rfl ?_
  refine e_storeBlkA (cs' := #[I (0), I (0)]) rfl y3 rfl Tryz.sizeOf32 rfl rfl (fa rfl (fa rfl fe)) (hS42.front 2 rfl) (fun H56 hS57 hxx => ?_)
  refine wpL_nil ?_
  refine wpF_ret ?_
  refine ⟨_, resT rfl (resC y3 (loadV_blkA Tryz.isAgg32 Tryz.sizeOf32 rfl (hS57.blk 0 rfl)) (resN)), hS57.frame, ?_⟩
  show ∃ w0_, (Value.tuple #[vo, Vg #[I (0), I (0)]]) = Value.tuple #[w0_, Vg #[I ((sortsF a)).1, I ((sortsF a)).2]] ∧ Rd (SZ S H0) H56 w0_ (sortsL a)
  have hS58 : St H0 NoB (SZ S H0) [rdE vo (sortsTo a a.Nodes.length), bE g4 #[I (0), I (0)] 32, bE g10 #[I (((declsF a.Decls)).1), I (((declsF a.Decls)).2)] 32, bE g1 #[vD, vN, vH] 26, rdE vD a.Decls, rdE vN a.Nodes, rdE vH a.Hold] H56 := St.fin (hS57.front 1 rfl)
  have hq_ : sortsF a = _ := sortsF_ok h16 h21 hp h49 fun j hj => hq j (by omega)
  exact ⟨_, by rw [hq_], by rw [sortsL_ok hq_]; exact (hS58.result (hS58.rdS 0 rfl))⟩
 refine wpF_skip ?_
 refine wpF_seq ?_
 refine wpF_block ?_
 refine wpF_seq ?_
 refine wpF_region ?_
 refine lm (v := I ((u : Int))) rfl rfl y54 ?_
 refine lq rfl (q_indexRd (k := u) rfl Tryz.underlying24 el_Int_3_AskC3 y52 y54 (hS42.rdl 6 rfl) (by omega) (by omega)) ?_
 refine lq rfl (q_loadInt (k := u) rfl rfl el_Int_3_AskC3 (hS42.rdl 6 rfl) (by omega) (fun _ h => h)) ?_
 refine la (v := I ((u : Int))) rfl rfl rfl ?_
 refine la (v := I (nth a.Hold u)) rfl rfl rfl ?_
 refine wpL_nil ?_
 refine wpF_block ?_
 refine fcr (fun f H => f 3 = PT g4 0 ∧ f 5 = vo ∧ f 9 = I ((u : Int)) ∧ f 10 = I (nth a.Hold u) ∧ f 52 = vH ∧ f 53 = I ((a.Hold.length : Int)) ∧ f 54 = I ((u : Int)) ∧ f 59 = B (decide (((nth a.Hold u) < 0) ∨ (((sortsTo a a.Nodes.length).length : Int) ≤ (nth a.Hold u)))) ∧ H42 = H) ?_ ?_
 ·refine lm (v := I (nth a.Hold u)) rfl rfl rfl ?_
  refine lq rfl (q_lss rfl rfl rfl) ?_
  refine lm (v := B (decide ((nth a.Hold u) < 0))) rfl rfl rfl ?_
  by_cases hg44 : (nth a.Hold u) < 0
  ·have hb45 := Eq.trans rfl (congrArg B (decide_eq_true hg44))
   refine wpL_gs rfl rfl rfl hb45 rfl ?_
   refine wpL_gs rfl rfl rfl hb45 rfl ?_
   refine wpL_gs rfl rfl rfl hb45 rfl ?_
   refine wpL_gs rfl rfl rfl hb45 rfl ?_
   refine lq rfl (q_pickT (v := B (true)) rfl hb45 rfl) ?_
   refine la (v := B (true)) rfl rfl rfl ?_
   exact ⟨y3, y5, rfl, rfl, y52, y53, y54, (Eq.trans rfl (congrArg B ((decide_eq_true (Or.inl hg44)).symm))), rfl⟩
  ·have hb46 := Eq.trans rfl (congrArg B (decide_eq_false hg44))
   refine gq rfl rfl rfl hb46 (q_move (v := I (nth a.Hold u)) rfl rfl) ?_
   refine gq rfl rfl rfl hb46 (q_move (v := vo) rfl y5) ?_
   refine gq rfl rfl rfl hb46 (q_lenRd rfl Tryz.underlying24 rfl (hS42.rowl 0 rfl)) ?_
   refine gq rfl rfl rfl hb46 (q_geq rfl rfl rfl) ?_
   refine lq rfl (q_pickF (v := B (decide (((sortsTo a a.Nodes.length).length : Int) ≤ (nth a.Hold u)))) rfl hb46 rfl) ?_
   refine la (v := B (decide (((sortsTo a a.Nodes.length).length : Int) ≤ (nth a.Hold u)))) rfl rfl rfl ?_
   exact ⟨y3, y5, rfl, rfl, y52, y53, y54, (Eq.trans rfl (congrArg B (decide_congr_of ((Iff.rfl).trans (((or_iff_right hg44).trans Iff.rfl)).symm)))), rfl⟩
 clear y3 y5 y52 y53 y54
 rintro f47 _ ⟨y3, y5, y9, y10, y52, y53, y54, y59, rfl⟩
 refine wpF_condP y59 (fun h59 => ?t55) (fun h59 => ?e55)
 case t55 =>
  refine wpF_seq ?_
  refine wpF_region ?_
  refine lm (v := I ((u : Int))) rfl rfl y9 ?_
  refine lq rfl (q_build (v := Vg #[I (3), I ((u : Int))]) rfl (par2 (v0 := I (3)) (v1 := I ((u : Int))) rfl rfl) (fun w__ => by kernel_rfl)) ?_
  refine la (v := nS) rfl rfl rfl ?_
  refine lo rfl ?_
  refine e_storeBlkA (cs' := #[I (3), I ((u : Int))]) rfl y3 rfl Tryz.sizeOf32 rfl rfl (fa rfl (fa rfl fe)) (hS42.front 2 rfl) (fun H49 hS50 hxx => ?_)
  refine wpL_nil ?_
  refine wpF_ret ?_
  refine ⟨_, resT rfl (resC y3 (loadV_blkA Tryz.isAgg32 Tryz.sizeOf32 rfl (hS50.blk 0 rfl)) (resN)), hS50.frame, ?_⟩
  show ∃ w0_, (Value.tuple #[nS, Vg #[I (3), I ((u : Int))]]) = Value.tuple #[w0_, Vg #[I ((sortsF a)).1, I ((sortsF a)).2]] ∧ Rd (SZ S H0) H49 w0_ (sortsL a)
  have hq_ : sortsF a = _ := sortsF_hold h16 h21 hp h49 (by omega) hq (holdBad_range (by rw [sortsTo_len] at h59; exact h59))
  exact ⟨_, by rw [hq_], by rw [sortsL_bad (by rw [hq_]; exact (by decide : (3 : Int) ≠ 0))]; exact rdNil⟩
 refine wpF_seq ?_
 refine wpF_region ?_
 refine lm (v := vo) rfl rfl y5 ?_
 refine lm (v := I (nth a.Hold u)) rfl rfl y10 ?_
 refine lq rfl (q_indexRd (k := (nth a.Hold u).toNat) rfl Tryz.underlying24 el_Int_3_AskC3 rfl rfl (hS42.rowl 0 rfl) (by omega) (by omega)) ?_
 refine lq rfl (q_loadInt (k := (nth a.Hold u).toNat) rfl rfl el_Int_3_AskC3 (hS42.rowl 0 rfl) (by omega) (fun _ h => h)) ?_
 refine lq rfl (q_neq rfl rfl rfl) ?_
 refine la (v := B (decide ((nth (sortsTo a a.Nodes.length) ((nth a.Hold u).toNat)) ≠ 1))) rfl rfl rfl ?_
 refine wpL_nil ?_
 refine wpF_condP rfl (fun h70 => ?t54) (fun h70 => ?e54)
 case e54 =>
  refine wpF_skip ?_
  refine wpF_region ?_
  refine lq rfl (q_add rfl y54 rfl (by constructor <;> omega)) ?_
  refine lm (v := I ((u : Int) + 1)) rfl rfl rfl ?_
  refine wpL_nil ?_
  refine ⟨_, ?_, u + 1, rfl, (by omega), (all_succ hq (holdBad_no (by rw [sortsTo_len] at h59; exact h59) h70)), y3, y5, y52, y53, (Eq.trans rfl (congrArg I (by omega))), hS42⟩
  omega
 refine wpF_seq ?_
 refine wpF_region ?_
 refine lm (v := I ((u : Int))) rfl rfl y9 ?_
 refine lq rfl (q_build (v := Vg #[I (8), I ((u : Int))]) rfl (par2 (v0 := I (8)) (v1 := I ((u : Int))) rfl rfl) (fun w__ => by kernel_rfl)) ?_
 refine la (v := nS) rfl rfl rfl ?_
 refine lo rfl ?_
 refine e_storeBlkA (cs' := #[I (8), I ((u : Int))]) rfl y3 rfl Tryz.sizeOf32 rfl rfl (fa rfl (fa rfl fe)) (hS42.front 2 rfl) (fun H52 hS53 hxx => ?_)
 refine wpL_nil ?_
 refine wpF_ret ?_
 refine ⟨_, resT rfl (resC y3 (loadV_blkA Tryz.isAgg32 Tryz.sizeOf32 rfl (hS53.blk 0 rfl)) (resN)), hS53.frame, ?_⟩
 show ∃ w0_, (Value.tuple #[nS, Vg #[I (8), I ((u : Int))]]) = Value.tuple #[w0_, Vg #[I ((sortsF a)).1, I ((sortsF a)).2]] ∧ Rd (SZ S H0) H52 w0_ (sortsL a)
 have hq_ : sortsF a = _ := sortsF_hold h16 h21 hp h49 (by omega) hq (holdBad_sort (by rw [sortsTo_len] at h59; exact h59) h70)
 exact ⟨_, by rw [hq_], by rw [sortsL_bad (by rw [hq_]; exact (by decide : (8 : Int) ≠ 0))]; exact rdNil⟩
end Go.Um
