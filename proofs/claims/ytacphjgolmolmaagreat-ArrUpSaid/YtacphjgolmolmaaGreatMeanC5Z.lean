import Derived.Test.YtacphjgolmolmaaGreatProg
import Derived.Test.YtacphjgolmolmaaGreatMeanC4Z
import Derived.Test.YtacphjgolmolmaaGreatUmArrUpC
namespace Go.Um
open Go.Proofs
open GoT (sz ag rdc)
open KeyT (kv)
theorem el_Int_3_MeanC5 : ElT Tryz.prog Int 3 := ⟨Tryz.isAgg3, Tryz.sizeOf3⟩
theorem el_Node_52_MeanC5 : ElT Tryz.prog Node 52 := ⟨Tryz.isAgg52, Tryz.sizeOf52⟩
theorem el_Val_60_MeanC5 : ElT Tryz.prog Val 60 := ⟨Tryz.isAgg60, Tryz.sizeOf60⟩
theorem em_Val_60_MeanC5 : ElemOk Tryz.prog Val 60 := ⟨Tryz.t60, (.agg #[(.int .i64 0), (.int .i64 0), (.slice none 0 0), (.int .i64 0)]), by kernel_rfl, by kernel_rfl, by kernel_rfl, by kernel_rfl, by kernel_rfl⟩
set_option maxHeartbeats 8000000 in
set_option maxRecDepth 100000 in
theorem Value_M {H0 : Heap} {S : Nat → Prop} (vD vN vH vM : Value) (a : Ask) (w : Wld) (rvD : Rd S H0 vD a.Decls) (rvN : Rd S H0 vN a.Nodes) (rvH : Rd S H0 vH a.Hold) (rvM : Rd S H0 vM w.Means) : CallsH Tryz.prog 22 #[Vg #[vD, vN, vH], Vg #[vM]] H0 (fun rv_ H' => Ext NoB H0 H' ∧ ∃ w0_, rv_ = Value.tuple #[w0_, Vg #[I ((valF a w)).1, I ((valF a w)).2]] ∧ Rd (SZ S H0) H' w0_ (valL a w)) := by
 have hsD : a.Decls.length * 48 ≤ 140737488355328 := (Rd.list.1 rvD).bound
 have hsN : a.Nodes.length * 64 ≤ 140737488355328 := (Rd.list.1 rvN).bound
 have hsM : w.Means.length * 72 ≤ 140737488355328 := (Rd.list.1 rvM).bound
 have hS0 : St H0 NoB (SZ S H0) [rdE vD a.Decls, rdE vN a.Nodes, rdE vH a.Hold, rdE vM w.Means] H0 := St.arg (St.arg (St.arg (St.arg (St.start (fun _ h => h.2)) (Bl0.nil) rvM (fun _ h => h.1)) (Bl0.cons (Bl0.nil)) rvH (fun _ h => h.1)) (Bl0.cons (Bl0.cons (Bl0.nil))) rvN (fun _ h => h.1)) (Bl0.cons (Bl0.cons (Bl0.cons (Bl0.nil)))) rvD (fun _ h => h.1)
 refine callsH_of_wpF (args := [Vg #[vD, vN, vH], Vg #[vM]]) (rs := [.tmp 4, .cell 5 32]) Tryz.func22 rfl Tryz.ntmps22 Tryz.results22 (by kernel_rfl) (Nat.le_of_ble_eq_true rfl) ?_
 have y0 : argF [Vg #[vD, vN, vH], Vg #[vM]] 0 = Vg #[vD, vN, vH] := rfl
 have y1 : argF [Vg #[vD, vN, vH], Vg #[vM]] 1 = Vg #[vM] := rfl
 generalize argF [Vg #[vD, vN, vH], Vg #[vM]] = f0 at *
 refine wpF_seq ?_
 refine wpF_region ?_
 refine lo rfl ?_
 refine e_box (v := Vg #[vD, vN, vH]) rfl y0 hS0 (fun g1 H2 hS3 hxx => ?_)
 refine lo rfl ?_
 refine e_box (v := Vg #[vM]) rfl y1 hS3 (fun g4 H5 hS6 hxx => ?_)
 refine la (v := nS) rfl rfl rfl ?_
 refine lo rfl ?_
 refine e_alloc rfl Tryz.zeroValue32 hS6 (fun g7 H8 hS9 hxx => ?_)
 refine wpL_nil ?_
 refine wpF_seq ?_
 refine wpF_seq ?_
 refine wpF_region ?_
 refine lq rfl (q_loadBlkA rfl rfl Tryz.isAgg26 Tryz.sizeOf26 rfl (hS9.blk 2 rfl) (fun h => h)) ?_
 refine lq rfl (q_loadBlkA rfl rfl Tryz.isAgg29 Tryz.sizeOf29 rfl (hS9.blk 1 rfl) (fun h => h)) ?_
 refine lo rfl ?_
 refine e_call rfl Tryz.call7 (arr2 (v0 := Vg #[vD, vN, vH]) (v1 := Vg #[vM]) rfl rfl) (Check_M vD vN vH vM a w (hS9.rdN 3 rfl) (hS9.rdN 4 rfl) (hS9.rdN 5 rfl) (hS9.rdN 6 rfl) ) ?_
 rintro _ H10 ⟨hxx, rfl⟩
 have hS11 := hS9.ext hxx
 refine lo rfl ?_
 refine e_alloc rfl Tryz.zeroValue32 hS11 (fun g13 H14 hS15 hxx => ?_)
 refine lo rfl ?_
 refine e_storeBlkA (cs' := #[I (((meanF a w)).1), I (((meanF a w)).2)]) rfl rfl rfl Tryz.sizeOf32 rfl rfl (fa rfl (fa rfl fe)) hS15 (fun H16 hS17 hxx => ?_)
 refine wpL_nil ?_
 refine wpF_seq ?_
 refine wpF_region ?_
 refine lq rfl (q_fieldAddr rfl Tryz.underlying32 rfl Tryz.sizeOf3 rfl) ?_
 refine lq rfl (q_loadBlk rfl rfl Tryz.isAgg3 (hS17.blk 0 rfl) rfl (fun h => h)) ?_
 refine lq rfl (q_neq rfl rfl rfl) ?_
 refine wpL_nil ?_
 refine wpF_condP rfl (fun h23 => ?t85) (fun h23 => ?e85)
 case t85 =>
  refine wpF_seq ?_
  refine wpF_drawn [none, none, some 0] [[], [], []] (fun l b => match l with | 0 => True | _ => False) (by kernel_rfl) (by kernel_rfl) ?_
  refine rq 0 (by kernel_rfl) rfl rfl (q_loadBlkA rfl rfl Tryz.isAgg32 Tryz.sizeOf32 rfl (hS17.blk 0 rfl) (labU_not [] rfl (fe))) ?_
  refine rq 1 (by kernel_rfl) rfl rfl (q_assign (v := nS) rfl rfl) ?_
  refine wpR_n [2] (by kernel_rfl) ?_
  refine fa ?_ fe
  refine exE rfl rfl ?_
  refine e_storeBlkA (cs' := #[I (((meanF a w)).1), I (((meanF a w)).2)]) rfl rfl rfl Tryz.sizeOf32 rfl rfl (fa rfl (fa rfl fe)) (hS17.front 1 rfl) (fun H19o2 hS19o2 hxx => ?_)
  refine ⟨Ext.mono hxx (labS_of 0 rfl (fun _ _ => trivial)), ?_⟩
  refine wpR_end (by kernel_rfl) ?_
  skip
  refine wpF_ret ?_
  refine ⟨_, resT rfl (resC rfl (loadV_blkA Tryz.isAgg32 Tryz.sizeOf32 rfl (hS19o2.blk 0 rfl)) (resN)), hS19o2.frame, ?_⟩
  show ∃ w0_, (Value.tuple #[nS, Vg #[I (((meanF a w)).1), I (((meanF a w)).2)]]) = Value.tuple #[w0_, Vg #[I ((valF a w)).1, I ((valF a w)).2]] ∧ Rd (SZ S H0) H19o2 w0_ (valL a w)
  have hq_ : valF a w = _ := valF_mean h23
  exact ⟨_, by rw [hq_], by rw [valL_bad (by rw [hq_]; exact h23)]; exact rdNil⟩
 have hM : MeanOk a w := meanOk (Decidable.of_not_not h23)
 have hA := hM.ask
 have hmany := hA.many
 have hsl : (sorts a).length = a.Nodes.length := sortsTo_len _
 refine wpF_skip ?_
 refine wpF_seq ?_
 refine wpF_region ?_
 refine lq rfl (q_loadBlkA rfl rfl Tryz.isAgg26 Tryz.sizeOf26 rfl (hS17.blk 3 rfl) (fun h => h)) ?_
 refine lo rfl ?_
 refine e_call rfl Tryz.call12 (arr1 (v0 := Vg #[vD, vN, vH]) rfl) (Sorts_L vD vN vH a (hS17.rdS 4 rfl) (hS17.rdS 5 rfl) (hS17.rdS 6 rfl) ) ?_
 rintro _ H21 ⟨hxx, r20, rfl, hrr20⟩
 have hS22 := hS17.res hxx hrr20
 refine lm (v := Value.tuple #[r20, Vg #[I (((sortsF a)).1), I (((sortsF a)).2)]]) rfl rfl rfl ?_
 refine lq rfl (q_extract (vs := #[r20, Vg #[I (((sortsF a)).1), I (((sortsF a)).2)]]) (v := r20) rfl rfl rfl) ?_
 refine lq rfl (q_extract (vs := #[r20, Vg #[I (((sortsF a)).1), I (((sortsF a)).2)]]) (v := Vg #[I (((sortsF a)).1), I (((sortsF a)).2)]) rfl rfl rfl) ?_
 refine lo rfl ?_
 refine e_alloc rfl Tryz.zeroValue32 hS22 (fun g24 H25 hS26 hxx => ?_)
 refine la (v := r20) rfl rfl rfl ?_
 refine lo rfl ?_
 refine e_storeBlkA (cs' := #[I (((sortsF a)).1), I (((sortsF a)).2)]) rfl rfl rfl Tryz.sizeOf32 rfl rfl (fa rfl (fa rfl fe)) hS26 (fun H27 hS28 hxx => ?_)
 refine wpL_nil ?_
 have hS29 : St H0 NoB (SZ S H0) [bE g24 #[I (((sortsF a)).1), I (((sortsF a)).2)] 32, rdE r20 (sorts a), bE g13 #[I (((meanF a w)).1), I (((meanF a w)).2)] 32, bE g7 #[I (0), I (0)] 32, bE g4 #[vM] 29, bE g1 #[vD, vN, vH] 26, rdE vD a.Decls, rdE vN a.Nodes, rdE vH a.Hold, rdE vM w.Means] H27 := by have h__ := hS28; rw [sortsL_eq (not_not_intro (show (sortsF a).1 = 0 from by rw [sortsF_of hM]))] at h__; exact h__
 refine wpF_seq ?_
 refine wpF_region ?_
 refine la (v := nS) rfl rfl rfl ?_
 refine wpL_nil ?_
 have hS30 : St H0 NoB (SZ S H0) [rowE 60 nS ([] : List Val), bE g24 #[I (((sortsF a)).1), I (((sortsF a)).2)] 32, rdE r20 (sorts a), bE g13 #[I (((meanF a w)).1), I (((meanF a w)).2)] 32, bE g7 #[I (0), I (0)] 32, bE g4 #[vM] 29, bE g1 #[vD, vN, vH] 26, rdE vD a.Decls, rdE vN a.Nodes, rdE vH a.Hold, rdE vM w.Means] H27 := hS29.row0 60
 refine wpF_seq ?_
 refine wpF_seq ?_
 refine wpF_region ?_
 refine lq rfl (q_fieldAddr rfl Tryz.underlying26 rfl Tryz.sizeOf23 rfl) ?_
 refine lq rfl (q_loadBlk rfl rfl Tryz.isAgg23 (hS30.blk 6 rfl) rfl (fun h => h)) ?_
 refine lq rfl (q_lenRd rfl Tryz.underlying23 rfl (hS30.rdl 8 rfl)) ?_
 refine lm (v := I (0)) rfl rfl rfl ?_
 refine wpL_nil ?_
 refine wpF_block ?_
 refine wpF_loop (fun mz f H => ∃ (k : Nat), ∃ (vo : Value), mz = a.Nodes.length - k ∧ (k ≤ a.Nodes.length) ∧ (∀ j, j < k → (valAt a w (valTo a w j) j).2 = true) ∧ f 2 = PT g1 0 ∧ f 3 = PT g4 0 ∧ f 5 = PT g7 0 ∧ f 7 = r20 ∧ f 9 = vo ∧ f 31 = vN ∧ f 32 = I ((a.Nodes.length : Int)) ∧ f 33 = I ((k : Int)) ∧ St H0 NoB (SZ S H0) [rowE 60 vo ((valTo a w k) : List Val), bE g24 #[I (((sortsF a)).1), I (((sortsF a)).2)] 32, rdE r20 (sorts a), bE g13 #[I (((meanF a w)).1), I (((meanF a w)).2)] 32, bE g7 #[I (0), I (0)] 32, bE g4 #[vM] 29, bE g1 #[vD, vN, vH] 26, rdE vD a.Decls, rdE vN a.Nodes, rdE vH a.Hold, rdE vM w.Means] H) (a.Nodes.length - 0) ?_ ?_
 ·exact ⟨0, nS, rfl, Nat.zero_le _, (fun j hj => absurd hj (Nat.not_lt_zero j)), rfl, rfl, rfl, rfl, rfl, rfl, rfl, (Eq.trans rfl (congrArg I (by omega))), (show St H0 NoB (SZ S H0) [rowE 60 nS ((valTo a w 0) : List Val), bE g24 #[I (((sortsF a)).1), I (((sortsF a)).2)] 32, rdE r20 (sorts a), bE g13 #[I (((meanF a w)).1), I (((meanF a w)).2)] 32, bE g7 #[I (0), I (0)] 32, bE g4 #[vM] 29, bE g1 #[vD, vN, vH] 26, rdE vD a.Decls, rdE vN a.Nodes, rdE vH a.Hold, rdE vM w.Means] H27 from hS30)⟩
 intro m31 f31 H31 hI31
 obtain ⟨k, vo, hm31, hk, hp, y2, y3, y5, y7, y9, y31, y32, y33, hS31⟩ := hI31
 refine wpF_seq ?_
 refine wpF_region ?_
 refine lq rfl (q_lss rfl y33 y32) ?_
 refine wpL_nil ?_
 refine wpF_seq ?_
 refine wpF_condP rfl (fun hlt => ?t84) (fun hlt => ?e84)
 case e84 =>
  obtain rfl : k = a.Nodes.length := by omega
  refine wpF_exit ?_
  refine atX_here ?_
  refine wpF_seq ?_
  refine wpF_region ?_
  refine lm (v := vo) rfl rfl y9 ?_
  refine lq rfl (q_build (v := Vg #[I (0), I (0)]) rfl par0 (fun w__ => by kernel_rfl)) ?_
  refine la (v := vo) rfl rfl rfl ?_
  refine lo rfl ?_
  refine e_storeBlkA (cs' := #[I (0), I (0)]) rfl y5 rfl Tryz.sizeOf32 rfl rfl (fa rfl (fa rfl fe)) (hS31.front 4 rfl) (fun H81 hS82 hxx => ?_)
  refine wpL_nil ?_
  refine wpF_ret ?_
  refine ⟨_, resT rfl (resC y5 (loadV_blkA Tryz.isAgg32 Tryz.sizeOf32 rfl (hS82.blk 0 rfl)) (resN)), hS82.frame, ?_⟩
  show ∃ w0_, (Value.tuple #[vo, Vg #[I (0), I (0)]]) = Value.tuple #[w0_, Vg #[I ((valF a w)).1, I ((valF a w)).2]] ∧ Rd (SZ S H0) H81 w0_ (valL a w)
  have hS83 : St H0 NoB (SZ S H0) [rdE vo ((valTo a w a.Nodes.length)), bE g7 #[I (0), I (0)] 32, bE g24 #[I (((sortsF a)).1), I (((sortsF a)).2)] 32, rdE r20 (sorts a), bE g13 #[I (((meanF a w)).1), I (((meanF a w)).2)] 32, bE g4 #[vM] 29, bE g1 #[vD, vN, vH] 26, rdE vD a.Decls, rdE vN a.Nodes, rdE vH a.Hold, rdE vM w.Means] H81 := St.fin (hS82.front 1 rfl)
  have hq_ : valF a w = _ := valF_ok h23 hp
  exact ⟨_, by rw [hq_], by rw [valL_ok hq_]; exact (hS83.result (hS83.rdS 0 rfl))⟩
 have hvl := valTo_len (a := a) (w := w) k
 have hkf := (hA.nodes k (by omega)).few
 have hsr := sortsTo_rng hA.dz a.Nodes.length
 have hsk : sortR (nth (sorts a) k) := hsr k
 unfold sortR at hsk
 refine wpF_skip ?_
 refine wpF_seq ?_
 refine wpF_block ?_
 refine wpF_seq ?_
 refine wpF_region ?_
 refine lm (v := I ((k : Int))) rfl rfl y33 ?_
 refine lq rfl (q_indexRd (k := k) rfl Tryz.underlying23 el_Node_52_MeanC5 y31 y33 (hS31.rdl 8 rfl) (by omega) (by omega)) ?_
 obtain ⟨u33, huu33, hlu33⟩ := (Rd.list.1 (hS31.rdS 8 rfl)).elem k (by omega)
 obtain ⟨u33n1, rfl, hu330, hu331, hu332, hu333, hu334⟩ := Rd.node.1 huu33
 have hS34 := hS31.rd hu331
 refine lq rfl (q_loadE rfl rfl (hlu33 Tryz.prog 52 _ el_Node_52_MeanC5 (fun _ h => False.elim h))) ?_
 refine lo rfl ?_
 refine e_alloc rfl Tryz.zeroValue52 hS34 (fun g35 H36 hS37 hxx => ?_)
 refine la (v := I ((k : Int))) rfl rfl rfl ?_
 refine lo rfl ?_
 refine e_storeBlkA (cs' := #[I ((nth a.Nodes k).Op), u33n1, I ((nth a.Nodes k).N), I ((nth a.Nodes k).D), SB ((nth a.Nodes k).Name)]) rfl rfl rfl Tryz.sizeOf52 rfl rfl (fa rfl (fa ((oneCell_rdL (hS37.rdl 1 rfl))) (fa rfl (fa rfl (fa rfl fe))))) hS37 (fun H38 hS39 hxx => ?_)
 refine wpL_nil ?_
 refine wpF_seq ?_
 refine wpF_region ?_
 refine la (v := nS) rfl rfl rfl ?_
 refine wpL_nil ?_
 have hS40 : St H0 NoB (SZ S H0) [rowE 60 nS ([] : List Val), bE g35 #[I ((nth a.Nodes k).Op), u33n1, I ((nth a.Nodes k).N), I ((nth a.Nodes k).D), SB ((nth a.Nodes k).Name)] 52, rdE u33n1 ((nth a.Nodes k).Kids), rowE 60 vo ((valTo a w k) : List Val), bE g24 #[I (((sortsF a)).1), I (((sortsF a)).2)] 32, rdE r20 (sorts a), bE g13 #[I (((meanF a w)).1), I (((meanF a w)).2)] 32, bE g7 #[I (0), I (0)] 32, bE g4 #[vM] 29, bE g1 #[vD, vN, vH] 26, rdE vD a.Decls, rdE vN a.Nodes, rdE vH a.Hold, rdE vM w.Means] H38 := hS39.row0 60
 refine wpF_seq ?_
 refine wpF_region ?_
 refine lm (v := r20) rfl rfl y7 ?_
 refine lm (v := I ((k : Int))) rfl rfl rfl ?_
 refine lq rfl (q_indexRd (k := k) rfl Tryz.underlying24 el_Int_3_MeanC5 rfl rfl (hS40.rdl 5 rfl) (by omega) (by omega)) ?_
 refine lq rfl (q_loadInt (k := k) rfl rfl el_Int_3_MeanC5 (hS40.rdl 5 rfl) (by omega) (fun _ h => h)) ?_
 refine lq rfl (q_sub rfl rfl rfl (by constructor <;> omega)) ?_
 refine la (v := I ((nth (sorts a) k) - 10)) rfl rfl rfl ?_
 refine wpL_nil ?_
 refine wpF_seq ?_
 refine wpF_seq ?_
 refine wpF_region ?_
 refine lq rfl (q_fieldAddr rfl Tryz.underlying52 rfl Tryz.sizeOf24 rfl) ?_
 refine lq rfl (q_loadBlk rfl rfl Tryz.isAgg24 (hS40.blk 1 rfl) rfl (fun h => h)) ?_
 refine lq rfl (q_lenRd rfl Tryz.underlying24 rfl (hS40.rdl 2 rfl)) ?_
 refine lm (v := I (0)) rfl rfl rfl ?_
 refine wpL_nil ?_
 refine wpF_block ?_
 refine wpF_loop (fun mz f H => ∃ (j : Nat), ∃ (vK : Value), mz = (nth a.Nodes k).Kids.length - j ∧ (j ≤ (nth a.Nodes k).Kids.length) ∧ f 2 = PT g1 0 ∧ f 3 = PT g4 0 ∧ f 5 = PT g7 0 ∧ f 7 = r20 ∧ f 9 = vo ∧ f 10 = I ((k : Int)) ∧ f 11 = PT g35 0 ∧ f 12 = vK ∧ f 13 = I (bitsTo (sorts a) (nth (sorts a) k) (nth a.Nodes k).Kids j) ∧ f 31 = vN ∧ f 32 = I ((a.Nodes.length : Int)) ∧ f 33 = I ((k : Int)) ∧ f 44 = u33n1 ∧ f 45 = I ((((nth a.Nodes k).Kids).length : Int)) ∧ f 46 = I ((j : Int)) ∧ St H0 NoB (SZ S H0) [rowE 60 vK (kidV (valTo a w k) ((nth a.Nodes k).Kids.take j) : List Val), bE g35 #[I ((nth a.Nodes k).Op), u33n1, I ((nth a.Nodes k).N), I ((nth a.Nodes k).D), SB ((nth a.Nodes k).Name)] 52, rdE u33n1 ((nth a.Nodes k).Kids), rowE 60 vo ((valTo a w k) : List Val), bE g24 #[I (((sortsF a)).1), I (((sortsF a)).2)] 32, rdE r20 (sorts a), bE g13 #[I (((meanF a w)).1), I (((meanF a w)).2)] 32, bE g7 #[I (0), I (0)] 32, bE g4 #[vM] 29, bE g1 #[vD, vN, vH] 26, rdE vD a.Decls, rdE vN a.Nodes, rdE vH a.Hold, rdE vM w.Means] H) ((nth a.Nodes k).Kids.length - 0) ?_ ?_
 ·exact ⟨0, nS, rfl, Nat.zero_le _, y2, y3, y5, y7, y9, rfl, rfl, rfl, rfl, y31, y32, y33, rfl, rfl, (Eq.trans rfl (congrArg I (by omega))), (show St H0 NoB (SZ S H0) [rowE 60 nS (kidV (valTo a w k) ((nth a.Nodes k).Kids.take 0) : List Val), bE g35 #[I ((nth a.Nodes k).Op), u33n1, I ((nth a.Nodes k).N), I ((nth a.Nodes k).D), SB ((nth a.Nodes k).Name)] 52, rdE u33n1 ((nth a.Nodes k).Kids), rowE 60 vo ((valTo a w k) : List Val), bE g24 #[I (((sortsF a)).1), I (((sortsF a)).2)] 32, rdE r20 (sorts a), bE g13 #[I (((meanF a w)).1), I (((meanF a w)).2)] 32, bE g7 #[I (0), I (0)] 32, bE g4 #[vM] 29, bE g1 #[vD, vN, vH] 26, rdE vD a.Decls, rdE vN a.Nodes, rdE vH a.Hold, rdE vM w.Means] H38 from hS40)⟩
 intro m41 f41 H41 hI41
 clear y2 y3 y31 y32 y33 y5 y7 y9
 obtain ⟨j, vK, hm41, hj, y2, y3, y5, y7, y9, y10, y11, y12, y13, y31, y32, y33, y44, y45, y46, hS41⟩ := hI41
 refine wpF_seq ?_
 refine wpF_region ?_
 refine lq rfl (q_lss rfl y46 y45) ?_
 refine wpL_nil ?_
 refine wpF_seq ?_
 refine wpF_condP rfl (fun hltj => ?t80) (fun hltj => ?e80)
 case t80 =>
  have hkj := kid_lt hA (k := k) (by omega) (j := j) (by omega)
  unfold kidN at hkj
  have hsj : sortR (nth (sorts a) (nth (nth a.Nodes k).Kids j).toNat) := hsr _
  unfold sortR at hsj
  refine wpF_skip ?_
  refine wpF_seq ?_
  refine wpF_block ?_
  refine wpF_seq ?_
  refine wpF_region ?_
  refine lq rfl (q_indexRd (k := j) rfl Tryz.underlying24 el_Int_3_MeanC5 y44 y46 (hS41.rdl 2 rfl) (by omega) (by omega)) ?_
  refine lq rfl (q_loadInt (k := j) rfl rfl el_Int_3_MeanC5 (hS41.rdl 2 rfl) (by omega) (fun _ h => h)) ?_
  refine la (v := I (nth ((nth a.Nodes k).Kids) j)) rfl rfl rfl ?_
  refine wpL_nil ?_
  refine wpF_seq ?_
  refine wpF_region ?_
  refine lm (v := vK) rfl rfl y12 ?_
  refine lm (v := vo) rfl rfl y9 ?_
  refine lm (v := I (nth ((nth a.Nodes k).Kids) j)) rfl rfl rfl ?_
  refine lq rfl (q_indexRd (k := (nth ((nth a.Nodes k).Kids) j).toNat) rfl Tryz.underlying72 el_Val_60_MeanC5 rfl rfl (hS41.rowl 3 rfl) (by omega) (by omega)) ?_
  obtain ⟨u44, huu44, hlu44⟩ := hS41.rowElem 3 rfl ((nth ((nth a.Nodes k).Kids) j).toNat) (by omega)
  obtain ⟨u44n2, rfl, hu440, hu441, hu442, hu443⟩ := Rd.val.1 huu44
  have hS45 := hS41.rd hu442
  refine lq rfl (q_loadE rfl rfl (hlu44 Tryz.prog 60 _ el_Val_60_MeanC5 (fun _ h => False.elim h))) ?_
  refine lo rfl ?_
  refine e_call rfl Tryz.call41 (arr1 (v0 := Vg #[I ((nth (valTo a w k) ((nth ((nth a.Nodes k).Kids) j).toNat)).VNum), I ((nth (valTo a w k) ((nth ((nth a.Nodes k).Kids) j).toNat)).VDen), u44n2, I ((nth (valTo a w k) ((nth ((nth a.Nodes k).Kids) j).toNat)).Rest)]) rfl) (copied_M u44n2 (nth (valTo a w k) ((nth ((nth a.Nodes k).Kids) j).toNat)) (by first | assumption | exact bitP_in | exact wrap_in64 | (constructor <;> (dsimp only; omega)) | (constructor <;> omega)) (by first | assumption | exact bitP_in | exact wrap_in64 | (constructor <;> (dsimp only; omega)) | (constructor <;> omega)) (hS45.rdS 0 rfl) (by first | assumption | exact bitP_in | exact wrap_in64 | (constructor <;> (dsimp only; omega)) | (constructor <;> omega))) ?_
  rintro _ H47 ⟨hxx, r46, rfl, hrr46, h6r46a, h6r46b, h6r46c⟩
  have hS48 := hS45.res hxx hrr46
  refine lo rfl ?_
  refine e_buildSlice (vs := [Vg #[I ((nth (valTo a w k) ((nth ((nth a.Nodes k).Kids) j).toNat)).VNum), I ((nth (valTo a w k) ((nth ((nth a.Nodes k).Kids) j).toNat)).VDen), r46, I ((nth (valTo a w k) ((nth ((nth a.Nodes k).Kids) j).toNat)).Rest)]]) (xs := ([(nth (valTo a w k) ((nth ((nth a.Nodes k).Kids) j).toNat))] : List Val)) rfl Tryz.underlying72 Tryz.zeroValue60 rfl Tryz.sizeOf60 (par1 (v0 := Vg #[I ((nth (valTo a w k) ((nth ((nth a.Nodes k).Kids) j).toNat)).VNum), I ((nth (valTo a w k) ((nth ((nth a.Nodes k).Kids) j).toNat)).VDen), r46, I ((nth (valTo a w k) ((nth ((nth a.Nodes k).Kids) j).toNat)).Rest)]) rfl) rfl hS48 (RdVs.cons (Rd.val.2 ⟨_, rfl, (by first | assumption | (constructor <;> (try dsimp only) <;> omega)), (by first | assumption | (constructor <;> (try dsimp only) <;> omega)), (hS48.rdS 0 rfl), (by first | assumption | (constructor <;> (try dsimp only) <;> omega))⟩) (RdVs.nil)) (by decide) (by decide) (fun v50 H51 hS52 hxx hvv50 => ?_)
  have hS53 : St H0 NoB (SZ S H0) [rdE v50 ([(nth (valTo a w k) ((nth ((nth a.Nodes k).Kids) j).toNat))] : List Val), rdE r46 ((nth (valTo a w k) ((nth ((nth a.Nodes k).Kids) j).toNat)).Cells), rdE u44n2 ((nth (valTo a w k) ((nth ((nth a.Nodes k).Kids) j).toNat)).Cells), rowE 60 vK (kidV (valTo a w k) ((nth a.Nodes k).Kids.take j) : List Val), bE g35 #[I ((nth a.Nodes k).Op), u33n1, I ((nth a.Nodes k).N), I ((nth a.Nodes k).D), SB ((nth a.Nodes k).Name)] 52, rdE u33n1 ((nth a.Nodes k).Kids), rowE 60 vo ((valTo a w k) : List Val), bE g24 #[I (((sortsF a)).1), I (((sortsF a)).2)] 32, rdE r20 (sorts a), bE g13 #[I (((meanF a w)).1), I (((meanF a w)).2)] 32, bE g7 #[I (0), I (0)] 32, bE g4 #[vM] 29, bE g1 #[vD, vN, vH] 26, rdE vD a.Decls, rdE vN a.Nodes, rdE vH a.Hold, rdE vM w.Means] H51 := St.fin hS52
  have hS54 := (hS53.front 3 rfl)
  refine lo rfl ?_
  refine e_append rfl Tryz.underlying72 em_Val_60_MeanC5 rfl rfl hS54 (hS54.rdS 1 rfl) (fun _ h => h) (by have hb : GoT.bytes Val = 48 := rfl; rw [hb]; simp only [List.length_append, kidV_len, List.length_take, List.length_cons, List.length_nil]; omega) (by decide) (fun v55 H56 hS57 hxx => ?_)
  have hS58 : St H0 NoB (SZ S H0) [rowE 60 v55 (kidV (valTo a w k) ((nth a.Nodes k).Kids.take (j + 1)) : List Val), rdE v50 ([(nth (valTo a w k) ((nth ((nth a.Nodes k).Kids) j).toNat))] : List Val), rdE r46 ((nth (valTo a w k) ((nth ((nth a.Nodes k).Kids) j).toNat)).Cells), rdE u44n2 ((nth (valTo a w k) ((nth ((nth a.Nodes k).Kids) j).toNat)).Cells), bE g35 #[I ((nth a.Nodes k).Op), u33n1, I ((nth a.Nodes k).N), I ((nth a.Nodes k).D), SB ((nth a.Nodes k).Name)] 52, rdE u33n1 ((nth a.Nodes k).Kids), rowE 60 vo ((valTo a w k) : List Val), bE g24 #[I (((sortsF a)).1), I (((sortsF a)).2)] 32, rdE r20 (sorts a), bE g13 #[I (((meanF a w)).1), I (((meanF a w)).2)] 32, bE g7 #[I (0), I (0)] 32, bE g4 #[vM] 29, bE g1 #[vD, vN, vH] 26, rdE vD a.Decls, rdE vN a.Nodes, rdE vH a.Hold, rdE vM w.Means] H56 := by rw [show (kidV (valTo a w k) ((nth a.Nodes k).Kids.take (j + 1))) = ((kidV (valTo a w k) ((nth a.Nodes k).Kids.take j)) ++ ([(nth (valTo a w k) ((nth ((nth a.Nodes k).Kids) j).toNat))])) from (kidV_next (by omega)).symm]; exact hS57
  refine la (v := v55) rfl rfl rfl ?_
  refine wpL_nil ?_
  refine wpF_seq ?_
  refine wpF_region ?_
  refine lm (v := r20) rfl rfl y7 ?_
  refine lm (v := I (nth ((nth a.Nodes k).Kids) j)) rfl rfl rfl ?_
  refine lq rfl (q_indexRd (k := (nth ((nth a.Nodes k).Kids) j).toNat) rfl Tryz.underlying24 el_Int_3_MeanC5 rfl rfl (hS58.rdl 8 rfl) (by omega) (by omega)) ?_
  refine lq rfl (q_loadInt (k := (nth ((nth a.Nodes k).Kids) j).toNat) rfl rfl el_Int_3_MeanC5 (hS58.rdl 8 rfl) (by omega) (fun _ h => h)) ?_
  refine lo rfl ?_
  refine e_call rfl Tryz.call42 (arr1 (v0 := I (nth (sorts a) ((nth ((nth a.Nodes k).Kids) j).toNat))) rfl) (Word_L (nth (sorts a) ((nth ((nth a.Nodes k).Kids) j).toNat))) ?_
  rintro _ H59 ⟨hxx, rfl⟩
  have hS60 := hS58.ext hxx
  refine wpL_nil ?_
  refine wpF_cut (fun f H => f 2 = PT g1 0 ∧ f 3 = PT g4 0 ∧ f 5 = PT g7 0 ∧ f 7 = r20 ∧ f 9 = vo ∧ f 10 = I ((k : Int)) ∧ f 11 = PT g35 0 ∧ f 12 = v55 ∧ f 13 = I (bitsTo (sorts a) (nth (sorts a) k) (nth a.Nodes k).Kids (j + 1)) ∧ f 31 = vN ∧ f 32 = I ((a.Nodes.length : Int)) ∧ f 33 = I ((k : Int)) ∧ f 44 = u33n1 ∧ f 45 = I ((((nth a.Nodes k).Kids).length : Int)) ∧ f 46 = I ((j : Int)) ∧ St H0 NoB (SZ S H0) [rowE 60 v55 (kidV (valTo a w k) ((nth a.Nodes k).Kids.take (j + 1)) : List Val), rdE v50 ([(nth (valTo a w k) ((nth ((nth a.Nodes k).Kids) j).toNat))] : List Val), rdE r46 ((nth (valTo a w k) ((nth ((nth a.Nodes k).Kids) j).toNat)).Cells), rdE u44n2 ((nth (valTo a w k) ((nth ((nth a.Nodes k).Kids) j).toNat)).Cells), bE g35 #[I ((nth a.Nodes k).Op), u33n1, I ((nth a.Nodes k).N), I ((nth a.Nodes k).D), SB ((nth a.Nodes k).Name)] 52, rdE u33n1 ((nth a.Nodes k).Kids), rowE 60 vo ((valTo a w k) : List Val), bE g24 #[I (((sortsF a)).1), I (((sortsF a)).2)] 32, rdE r20 (sorts a), bE g13 #[I (((meanF a w)).1), I (((meanF a w)).2)] 32, bE g7 #[I (0), I (0)] 32, bE g4 #[vM] 29, bE g1 #[vD, vN, vH] 26, rdE vD a.Decls, rdE vN a.Nodes, rdE vH a.Hold, rdE vM w.Means] H) ?_ ?_
  ·refine wpF_condP rfl (fun h62 => ?t64) (fun h62 => ?e64)
   case e64 =>
    refine wpF_skip ?_
    exact ⟨y2, y3, y5, y7, y9, y10, y11, rfl, (Eq.trans y13 (congrArg I (if_neg h62).symm)), y31, y32, y33, y44, y45, y46, hS60⟩
   refine wpF_region ?_
   refine lm (v := r20) rfl rfl y7 ?_
   refine lm (v := I (nth ((nth a.Nodes k).Kids) j)) rfl rfl rfl ?_
   refine lq rfl (q_indexRd (k := (nth ((nth a.Nodes k).Kids) j).toNat) rfl Tryz.underlying24 el_Int_3_MeanC5 rfl rfl (hS60.rdl 8 rfl) (by omega) (by omega)) ?_
   refine lq rfl (q_loadInt (k := (nth ((nth a.Nodes k).Kids) j).toNat) rfl rfl el_Int_3_MeanC5 (hS60.rdl 8 rfl) (by omega) (fun _ h => h)) ?_
   refine lq rfl (q_sub rfl rfl rfl (by constructor <;> omega)) ?_
   refine la (v := I ((nth (sorts a) ((nth ((nth a.Nodes k).Kids) j).toNat)) - 10)) rfl rfl rfl ?_
   refine wpL_nil ?_
   exact ⟨y2, y3, y5, y7, y9, y10, y11, rfl, (Eq.trans rfl (congrArg I (if_pos h62).symm)), y31, y32, y33, y44, y45, y46, hS60⟩
  clear y10 y11 y13 y2 y3 y31 y32 y33 y44 y45 y46 y5 y7 y9
  rintro f62 H62 ⟨y2, y3, y5, y7, y9, y10, y11, y12, y13, y31, y32, y33, y44, y45, y46, hS62⟩
  refine wpF_region ?_
  refine lq rfl (q_add rfl y46 rfl (by constructor <;> omega)) ?_
  refine lm (v := I ((j : Int) + 1)) rfl rfl rfl ?_
  refine wpL_nil ?_
  refine ⟨_, ?_, j + 1, v55, rfl, (by omega), y2, y3, y5, y7, y9, y10, y11, y12, y13, y31, y32, y33, y44, y45, (Eq.trans rfl (congrArg I (by omega))), (hS62.drop (sk (sn (sn (sn (sk (sk (sk (sk (sk (sk (sk (sk (sk (sk (sk (sk (sk (List.Sublist.slnil)))))))))))))))))))⟩
  omega
 obtain rfl : j = (nth a.Nodes k).Kids.length := by omega
 have hS43 : St H0 NoB (SZ S H0) [rowE 60 vK (kidV (valTo a w k) (nth a.Nodes k).Kids : List Val), bE g35 #[I ((nth a.Nodes k).Op), u33n1, I ((nth a.Nodes k).N), I ((nth a.Nodes k).D), SB ((nth a.Nodes k).Name)] 52, rdE u33n1 ((nth a.Nodes k).Kids), rowE 60 vo ((valTo a w k) : List Val), bE g24 #[I (((sortsF a)).1), I (((sortsF a)).2)] 32, rdE r20 (sorts a), bE g13 #[I (((meanF a w)).1), I (((meanF a w)).2)] 32, bE g7 #[I (0), I (0)] 32, bE g4 #[vM] 29, bE g1 #[vD, vN, vH] 26, rdE vD a.Decls, rdE vN a.Nodes, rdE vH a.Hold, rdE vM w.Means] H41 := by have h__ := hS41; rw [List.take_length] at h__; exact h__
 have hvok := vOk hM (k := k) (by omega)
 refine wpF_exit ?_
 refine atX_here ?_
 refine sc (fun f H => ∃ (r65o9 : Value), ∃ (g65o13 : Nat), (In64 (valueV a w (nth a.Nodes k) (kidV (valTo a w k) (nth a.Nodes k).Kids) (bitsTo (sorts a) (nth (sorts a) k) (nth a.Nodes k).Kids (nth a.Nodes k).Kids.length)).1.VNum) ∧ (In64 (valueV a w (nth a.Nodes k) (kidV (valTo a w k) (nth a.Nodes k).Kids) (bitsTo (sorts a) (nth (sorts a) k) (nth a.Nodes k).Kids (nth a.Nodes k).Kids.length)).1.VDen) ∧ (In64 (valueV a w (nth a.Nodes k) (kidV (valTo a w k) (nth a.Nodes k).Kids) (bitsTo (sorts a) (nth (sorts a) k) (nth a.Nodes k).Kids (nth a.Nodes k).Kids.length)).1.Rest) ∧ f 2 = PT g1 0 ∧ f 3 = PT g4 0 ∧ f 5 = PT g7 0 ∧ f 7 = r20 ∧ f 9 = vo ∧ f 10 = I ((k : Int)) ∧ f 16 = PT g65o13 0 ∧ f 17 = B ((valueV a w (nth a.Nodes k) (kidV (valTo a w k) (nth a.Nodes k).Kids) (bitsTo (sorts a) (nth (sorts a) k) (nth a.Nodes k).Kids (nth a.Nodes k).Kids.length)).2) ∧ f 31 = vN ∧ f 32 = I ((a.Nodes.length : Int)) ∧ f 33 = I ((k : Int)) ∧ St H0 NoB (SZ S H0) [bE g65o13 #[I ((valueV a w (nth a.Nodes k) (kidV (valTo a w k) (nth a.Nodes k).Kids) (bitsTo (sorts a) (nth (sorts a) k) (nth a.Nodes k).Kids (nth a.Nodes k).Kids.length)).1.VNum), I ((valueV a w (nth a.Nodes k) (kidV (valTo a w k) (nth a.Nodes k).Kids) (bitsTo (sorts a) (nth (sorts a) k) (nth a.Nodes k).Kids (nth a.Nodes k).Kids.length)).1.VDen), r65o9, I ((valueV a w (nth a.Nodes k) (kidV (valTo a w k) (nth a.Nodes k).Kids) (bitsTo (sorts a) (nth (sorts a) k) (nth a.Nodes k).Kids (nth a.Nodes k).Kids.length)).1.Rest)] 60, rdE r65o9 ((valueV a w (nth a.Nodes k) (kidV (valTo a w k) (nth a.Nodes k).Kids) (bitsTo (sorts a) (nth (sorts a) k) (nth a.Nodes k).Kids (nth a.Nodes k).Kids.length)).1.Cells), bE g35 #[I ((nth a.Nodes k).Op), u33n1, I ((nth a.Nodes k).N), I ((nth a.Nodes k).D), SB ((nth a.Nodes k).Name)] 52, rdE u33n1 ((nth a.Nodes k).Kids), rowE 60 vo ((valTo a w k) : List Val), bE g24 #[I (((sortsF a)).1), I (((sortsF a)).2)] 32, rdE r20 (sorts a), bE g13 #[I (((meanF a w)).1), I (((meanF a w)).2)] 32, bE g7 #[I (0), I (0)] 32, bE g4 #[vM] 29, bE g1 #[vD, vN, vH] 26, rdE vD a.Decls, rdE vN a.Nodes, rdE vH a.Hold, rdE vM w.Means] H) ?_ ?_
 ·refine wpF_drawn [none, none, none, none, none, none, none, none, none, none, none, none, none, none, some 0, none] [[], [], [], [], [], [], [], [], [], [], [], [], [0], [], [], []] (fun l b => match l with | 0 => b ≠ g35 ∧ b ≠ g24 ∧ b ≠ g13 ∧ b ≠ g7 ∧ b ≠ g4 ∧ b ≠ g1 | _ => False) (by kernel_rfl) (by kernel_rfl) ?_
  refine rq 0 (by kernel_rfl) rfl rfl (q_loadBlkA rfl y2 Tryz.isAgg26 Tryz.sizeOf26 rfl (hS43.blk 9 rfl) (labU_not [] rfl (fe))) ?_
  refine rq 1 (by kernel_rfl) rfl rfl (q_loadBlkA rfl y3 Tryz.isAgg29 Tryz.sizeOf29 rfl (hS43.blk 8 rfl) (labU_not [] rfl (fe))) ?_
  refine rq 2 (by kernel_rfl) rfl rfl (q_move (v := r20) rfl y7) ?_
  refine rq 3 (by kernel_rfl) rfl rfl (q_move (v := I ((k : Int))) rfl y10) ?_
  refine rq 4 (by kernel_rfl) rfl rfl (q_indexRd (k := k) rfl Tryz.underlying24 el_Int_3_MeanC5 rfl rfl (hS43.rdl 5 rfl) (by omega) (by omega)) ?_
  refine rq 5 (by kernel_rfl) rfl rfl (q_loadInt (k := k) rfl rfl el_Int_3_MeanC5 (hS43.rdl 5 rfl) (by omega) (labU_sub [] rfl (fe))) ?_
  refine rq 6 (by kernel_rfl) rfl rfl (q_loadBlkA rfl y11 Tryz.isAgg52 Tryz.sizeOf52 rfl (hS43.blk 1 rfl) (labU_not [] rfl (fe))) ?_
  refine rq 7 (by kernel_rfl) rfl rfl (q_move (v := vK) rfl y12) ?_
  refine rq 8 (by kernel_rfl) rfl rfl (q_move (v := I (bitsTo (sorts a) (nth (sorts a) k) (nth a.Nodes k).Kids (nth a.Nodes k).Kids.length)) rfl y13) ?_
  refine wpR_n [9, 13] (by kernel_rfl) ?_
  refine fa ?_ (fa ?_ fe)
  ·have hS65o9 : St H0 NoB (SZ S H0) [rdE vK (kidV (valTo a w k) (nth a.Nodes k).Kids), bE g35 #[I ((nth a.Nodes k).Op), u33n1, I ((nth a.Nodes k).N), I ((nth a.Nodes k).D), SB ((nth a.Nodes k).Name)] 52, rdE u33n1 ((nth a.Nodes k).Kids), rowE 60 vo ((valTo a w k) : List Val), bE g24 #[I (((sortsF a)).1), I (((sortsF a)).2)] 32, rdE r20 (sorts a), bE g13 #[I (((meanF a w)).1), I (((meanF a w)).2)] 32, bE g7 #[I (0), I (0)] 32, bE g4 #[vM] 29, bE g1 #[vD, vN, vH] 26, rdE vD a.Decls, rdE vN a.Nodes, rdE vH a.Hold, rdE vM w.Means] H41 := St.fin hS43
   refine exE rfl rfl ?_
   refine e_call rfl Tryz.call43 (arr6 (v0 := Vg #[vD, vN, vH]) (v1 := Vg #[vM]) (v2 := I (nth (sorts a) k)) (v3 := Vg #[I ((nth a.Nodes k).Op), u33n1, I ((nth a.Nodes k).N), I ((nth a.Nodes k).D), SB ((nth a.Nodes k).Name)]) (v4 := vK) (v5 := I (bitsTo (sorts a) (nth (sorts a) k) (nth a.Nodes k).Kids (nth a.Nodes k).Kids.length)) rfl rfl rfl rfl rfl rfl) (value_M vD vN vH vM u33n1 vK a w (nth (sorts a) k) (nth a.Nodes k) (kidV (valTo a w k) (nth a.Nodes k).Kids) (bitsTo (sorts a) (nth (sorts a) k) (nth a.Nodes k).Kids (nth a.Nodes k).Kids.length) (hS65o9.rdS 10 rfl) (hS65o9.rdS 11 rfl) (hS65o9.rdS 12 rfl) (hS65o9.rdS 13 rfl) (by first | assumption | exact bitP_in | exact wrap_in64 | (constructor <;> (dsimp only; omega)) | (constructor <;> omega)) (hS65o9.rdS 2 rfl) (by first | assumption | exact bitP_in | exact wrap_in64 | (constructor <;> (dsimp only; omega)) | (constructor <;> omega)) (by first | assumption | exact bitP_in | exact wrap_in64 | (constructor <;> (dsimp only; omega)) | (constructor <;> omega)) (by first | assumption | exact Nat.zero_le _) (hS65o9.rdS 0 rfl) hvok ) ?_
   rintro _ H65o9 ⟨hxx, r65o9, rfl, hrr65o9, h6r65o9a, h6r65o9b, h6r65o9c⟩
   have hS65o9x2 := hS65o9.res hxx hrr65o9
   refine ⟨Ext.mono hxx (fun _ h => h.elim), ?_⟩
   refine rq 10 (by kernel_rfl) rfl rfl (q_move (v := Value.tuple #[Vg #[I ((valueV a w (nth a.Nodes k) (kidV (valTo a w k) (nth a.Nodes k).Kids) (bitsTo (sorts a) (nth (sorts a) k) (nth a.Nodes k).Kids (nth a.Nodes k).Kids.length)).1.VNum), I ((valueV a w (nth a.Nodes k) (kidV (valTo a w k) (nth a.Nodes k).Kids) (bitsTo (sorts a) (nth (sorts a) k) (nth a.Nodes k).Kids (nth a.Nodes k).Kids.length)).1.VDen), r65o9, I ((valueV a w (nth a.Nodes k) (kidV (valTo a w k) (nth a.Nodes k).Kids) (bitsTo (sorts a) (nth (sorts a) k) (nth a.Nodes k).Kids (nth a.Nodes k).Kids.length)).1.Rest)], B ((valueV a w (nth a.Nodes k) (kidV (valTo a w k) (nth a.Nodes k).Kids) (bitsTo (sorts a) (nth (sorts a) k) (nth a.Nodes k).Kids (nth a.Nodes k).Kids.length)).2)]) rfl rfl) ?_
   refine rq 11 (by kernel_rfl) rfl rfl (q_extract (vs := #[Vg #[I ((valueV a w (nth a.Nodes k) (kidV (valTo a w k) (nth a.Nodes k).Kids) (bitsTo (sorts a) (nth (sorts a) k) (nth a.Nodes k).Kids (nth a.Nodes k).Kids.length)).1.VNum), I ((valueV a w (nth a.Nodes k) (kidV (valTo a w k) (nth a.Nodes k).Kids) (bitsTo (sorts a) (nth (sorts a) k) (nth a.Nodes k).Kids (nth a.Nodes k).Kids.length)).1.VDen), r65o9, I ((valueV a w (nth a.Nodes k) (kidV (valTo a w k) (nth a.Nodes k).Kids) (bitsTo (sorts a) (nth (sorts a) k) (nth a.Nodes k).Kids (nth a.Nodes k).Kids.length)).1.Rest)], B ((valueV a w (nth a.Nodes k) (kidV (valTo a w k) (nth a.Nodes k).Kids) (bitsTo (sorts a) (nth (sorts a) k) (nth a.Nodes k).Kids (nth a.Nodes k).Kids.length)).2)]) (v := Vg #[I ((valueV a w (nth a.Nodes k) (kidV (valTo a w k) (nth a.Nodes k).Kids) (bitsTo (sorts a) (nth (sorts a) k) (nth a.Nodes k).Kids (nth a.Nodes k).Kids.length)).1.VNum), I ((valueV a w (nth a.Nodes k) (kidV (valTo a w k) (nth a.Nodes k).Kids) (bitsTo (sorts a) (nth (sorts a) k) (nth a.Nodes k).Kids (nth a.Nodes k).Kids.length)).1.VDen), r65o9, I ((valueV a w (nth a.Nodes k) (kidV (valTo a w k) (nth a.Nodes k).Kids) (bitsTo (sorts a) (nth (sorts a) k) (nth a.Nodes k).Kids (nth a.Nodes k).Kids.length)).1.Rest)]) rfl rfl rfl) ?_
   refine rq 12 (by kernel_rfl) rfl rfl (q_extract (vs := #[Vg #[I ((valueV a w (nth a.Nodes k) (kidV (valTo a w k) (nth a.Nodes k).Kids) (bitsTo (sorts a) (nth (sorts a) k) (nth a.Nodes k).Kids (nth a.Nodes k).Kids.length)).1.VNum), I ((valueV a w (nth a.Nodes k) (kidV (valTo a w k) (nth a.Nodes k).Kids) (bitsTo (sorts a) (nth (sorts a) k) (nth a.Nodes k).Kids (nth a.Nodes k).Kids.length)).1.VDen), r65o9, I ((valueV a w (nth a.Nodes k) (kidV (valTo a w k) (nth a.Nodes k).Kids) (bitsTo (sorts a) (nth (sorts a) k) (nth a.Nodes k).Kids (nth a.Nodes k).Kids.length)).1.Rest)], B ((valueV a w (nth a.Nodes k) (kidV (valTo a w k) (nth a.Nodes k).Kids) (bitsTo (sorts a) (nth (sorts a) k) (nth a.Nodes k).Kids (nth a.Nodes k).Kids.length)).2)]) (v := B ((valueV a w (nth a.Nodes k) (kidV (valTo a w k) (nth a.Nodes k).Kids) (bitsTo (sorts a) (nth (sorts a) k) (nth a.Nodes k).Kids (nth a.Nodes k).Kids.length)).2)) rfl rfl rfl) ?_
   refine wpR_n [13] (by kernel_rfl) ?_
   refine fa ?_ fe
   refine exE rfl rfl ?_
   refine e_alloc rfl Tryz.zeroValue60 hS65o9x2 (fun g65o13 H65o13 hS65o13 hxx => ?_)
   refine ⟨Ext.mono hxx (fun _ h => h.elim), ?_⟩
   refine wpR_n [14] (by kernel_rfl) ?_
   refine fa ?_ fe
   refine exE rfl rfl ?_
   refine e_storeBlkA (cs' := #[I ((valueV a w (nth a.Nodes k) (kidV (valTo a w k) (nth a.Nodes k).Kids) (bitsTo (sorts a) (nth (sorts a) k) (nth a.Nodes k).Kids (nth a.Nodes k).Kids.length)).1.VNum), I ((valueV a w (nth a.Nodes k) (kidV (valTo a w k) (nth a.Nodes k).Kids) (bitsTo (sorts a) (nth (sorts a) k) (nth a.Nodes k).Kids (nth a.Nodes k).Kids.length)).1.VDen), r65o9, I ((valueV a w (nth a.Nodes k) (kidV (valTo a w k) (nth a.Nodes k).Kids) (bitsTo (sorts a) (nth (sorts a) k) (nth a.Nodes k).Kids (nth a.Nodes k).Kids.length)).1.Rest)]) rfl rfl rfl Tryz.sizeOf60 rfl rfl (fa rfl (fa rfl (fa ((oneCell_rdL (hS65o13.rdl 1 rfl))) (fa rfl fe)))) hS65o13 (fun H65o14 hS65o14 hxx => ?_)
   refine ⟨Ext.mono hxx (labS_of 0 rfl (fun b hb => ⟨fun e => hS65o14.dis 0 3 (by decide) rfl rfl _ hb e, fun e => hS65o14.dis 0 6 (by decide) rfl rfl _ hb e, fun e => hS65o14.dis 0 8 (by decide) rfl rfl _ hb e, fun e => hS65o14.dis 0 9 (by decide) rfl rfl _ hb e, fun e => hS65o14.dis 0 10 (by decide) rfl rfl _ hb e, fun e => hS65o14.dis 0 11 (by decide) rfl rfl _ hb e⟩)), ?_⟩
   refine rq 15 (by kernel_rfl) rfl rfl (q_assign (v := B ((valueV a w (nth a.Nodes k) (kidV (valTo a w k) (nth a.Nodes k).Kids) (bitsTo (sorts a) (nth (sorts a) k) (nth a.Nodes k).Kids (nth a.Nodes k).Kids.length)).2)) rfl rfl) ?_
   refine wpR_end (by kernel_rfl) ?_
   exact ⟨r65o9, g65o13, h6r65o9a, h6r65o9b, h6r65o9c, y2, y3, y5, y7, y9, y10, rfl, rfl, y31, y32, y33, (hS65o14.drop (sk (sk (sn (sk (sk (sk (sk (sk (sk (sk (sk (sk (sk (sk (sk (sk (List.Sublist.slnil))))))))))))))))))⟩
  ·refine exE rfl rfl ?_
   refine e_alloc rfl Tryz.zeroValue60 hS43 (fun g65o13 H65o13 hS65o13 hxx => ?_)
   refine ⟨Ext.mono hxx (fun _ h => h.elim), ?_⟩
   refine wpR_n [9] (by kernel_rfl) ?_
   refine fa ?_ fe
   have hS65o9 : St H0 NoB (SZ S H0) [rdE vK (kidV (valTo a w k) (nth a.Nodes k).Kids), bE g65o13 #[I (0), I (0), nS, I (0)] 60, bE g35 #[I ((nth a.Nodes k).Op), u33n1, I ((nth a.Nodes k).N), I ((nth a.Nodes k).D), SB ((nth a.Nodes k).Name)] 52, rdE u33n1 ((nth a.Nodes k).Kids), rowE 60 vo ((valTo a w k) : List Val), bE g24 #[I (((sortsF a)).1), I (((sortsF a)).2)] 32, rdE r20 (sorts a), bE g13 #[I (((meanF a w)).1), I (((meanF a w)).2)] 32, bE g7 #[I (0), I (0)] 32, bE g4 #[vM] 29, bE g1 #[vD, vN, vH] 26, rdE vD a.Decls, rdE vN a.Nodes, rdE vH a.Hold, rdE vM w.Means] H65o13 := St.fin (hS65o13.front 1 rfl)
   refine exE rfl rfl ?_
   refine e_call rfl Tryz.call43 (arr6 (v0 := Vg #[vD, vN, vH]) (v1 := Vg #[vM]) (v2 := I (nth (sorts a) k)) (v3 := Vg #[I ((nth a.Nodes k).Op), u33n1, I ((nth a.Nodes k).N), I ((nth a.Nodes k).D), SB ((nth a.Nodes k).Name)]) (v4 := vK) (v5 := I (bitsTo (sorts a) (nth (sorts a) k) (nth a.Nodes k).Kids (nth a.Nodes k).Kids.length)) rfl rfl rfl rfl rfl rfl) (value_M vD vN vH vM u33n1 vK a w (nth (sorts a) k) (nth a.Nodes k) (kidV (valTo a w k) (nth a.Nodes k).Kids) (bitsTo (sorts a) (nth (sorts a) k) (nth a.Nodes k).Kids (nth a.Nodes k).Kids.length) (hS65o9.rdS 11 rfl) (hS65o9.rdS 12 rfl) (hS65o9.rdS 13 rfl) (hS65o9.rdS 14 rfl) (by first | assumption | exact bitP_in | exact wrap_in64 | (constructor <;> (dsimp only; omega)) | (constructor <;> omega)) (hS65o9.rdS 3 rfl) (by first | assumption | exact bitP_in | exact wrap_in64 | (constructor <;> (dsimp only; omega)) | (constructor <;> omega)) (by first | assumption | exact bitP_in | exact wrap_in64 | (constructor <;> (dsimp only; omega)) | (constructor <;> omega)) (by first | assumption | exact Nat.zero_le _) (hS65o9.rdS 0 rfl) hvok ) ?_
   rintro _ H65o9 ⟨hxx, r65o9, rfl, hrr65o9, h6r65o9a, h6r65o9b, h6r65o9c⟩
   have hS65o9x2 := hS65o9.res hxx hrr65o9
   refine ⟨Ext.mono hxx (fun _ h => h.elim), ?_⟩
   refine rq 10 (by kernel_rfl) rfl rfl (q_move (v := Value.tuple #[Vg #[I ((valueV a w (nth a.Nodes k) (kidV (valTo a w k) (nth a.Nodes k).Kids) (bitsTo (sorts a) (nth (sorts a) k) (nth a.Nodes k).Kids (nth a.Nodes k).Kids.length)).1.VNum), I ((valueV a w (nth a.Nodes k) (kidV (valTo a w k) (nth a.Nodes k).Kids) (bitsTo (sorts a) (nth (sorts a) k) (nth a.Nodes k).Kids (nth a.Nodes k).Kids.length)).1.VDen), r65o9, I ((valueV a w (nth a.Nodes k) (kidV (valTo a w k) (nth a.Nodes k).Kids) (bitsTo (sorts a) (nth (sorts a) k) (nth a.Nodes k).Kids (nth a.Nodes k).Kids.length)).1.Rest)], B ((valueV a w (nth a.Nodes k) (kidV (valTo a w k) (nth a.Nodes k).Kids) (bitsTo (sorts a) (nth (sorts a) k) (nth a.Nodes k).Kids (nth a.Nodes k).Kids.length)).2)]) rfl rfl) ?_
   refine rq 11 (by kernel_rfl) rfl rfl (q_extract (vs := #[Vg #[I ((valueV a w (nth a.Nodes k) (kidV (valTo a w k) (nth a.Nodes k).Kids) (bitsTo (sorts a) (nth (sorts a) k) (nth a.Nodes k).Kids (nth a.Nodes k).Kids.length)).1.VNum), I ((valueV a w (nth a.Nodes k) (kidV (valTo a w k) (nth a.Nodes k).Kids) (bitsTo (sorts a) (nth (sorts a) k) (nth a.Nodes k).Kids (nth a.Nodes k).Kids.length)).1.VDen), r65o9, I ((valueV a w (nth a.Nodes k) (kidV (valTo a w k) (nth a.Nodes k).Kids) (bitsTo (sorts a) (nth (sorts a) k) (nth a.Nodes k).Kids (nth a.Nodes k).Kids.length)).1.Rest)], B ((valueV a w (nth a.Nodes k) (kidV (valTo a w k) (nth a.Nodes k).Kids) (bitsTo (sorts a) (nth (sorts a) k) (nth a.Nodes k).Kids (nth a.Nodes k).Kids.length)).2)]) (v := Vg #[I ((valueV a w (nth a.Nodes k) (kidV (valTo a w k) (nth a.Nodes k).Kids) (bitsTo (sorts a) (nth (sorts a) k) (nth a.Nodes k).Kids (nth a.Nodes k).Kids.length)).1.VNum), I ((valueV a w (nth a.Nodes k) (kidV (valTo a w k) (nth a.Nodes k).Kids) (bitsTo (sorts a) (nth (sorts a) k) (nth a.Nodes k).Kids (nth a.Nodes k).Kids.length)).1.VDen), r65o9, I ((valueV a w (nth a.Nodes k) (kidV (valTo a w k) (nth a.Nodes k).Kids) (bitsTo (sorts a) (nth (sorts a) k) (nth a.Nodes k).Kids (nth a.Nodes k).Kids.length)).1.Rest)]) rfl rfl rfl) ?_
   refine rq 12 (by kernel_rfl) rfl rfl (q_extract (vs := #[Vg #[I ((valueV a w (nth a.Nodes k) (kidV (valTo a w k) (nth a.Nodes k).Kids) (bitsTo (sorts a) (nth (sorts a) k) (nth a.Nodes k).Kids (nth a.Nodes k).Kids.length)).1.VNum), I ((valueV a w (nth a.Nodes k) (kidV (valTo a w k) (nth a.Nodes k).Kids) (bitsTo (sorts a) (nth (sorts a) k) (nth a.Nodes k).Kids (nth a.Nodes k).Kids.length)).1.VDen), r65o9, I ((valueV a w (nth a.Nodes k) (kidV (valTo a w k) (nth a.Nodes k).Kids) (bitsTo (sorts a) (nth (sorts a) k) (nth a.Nodes k).Kids (nth a.Nodes k).Kids.length)).1.Rest)], B ((valueV a w (nth a.Nodes k) (kidV (valTo a w k) (nth a.Nodes k).Kids) (bitsTo (sorts a) (nth (sorts a) k) (nth a.Nodes k).Kids (nth a.Nodes k).Kids.length)).2)]) (v := B ((valueV a w (nth a.Nodes k) (kidV (valTo a w k) (nth a.Nodes k).Kids) (bitsTo (sorts a) (nth (sorts a) k) (nth a.Nodes k).Kids (nth a.Nodes k).Kids.length)).2)) rfl rfl rfl) ?_
   refine wpR_n [14] (by kernel_rfl) ?_
   refine fa ?_ fe
   refine exE rfl rfl ?_
   refine e_storeBlkA (cs' := #[I ((valueV a w (nth a.Nodes k) (kidV (valTo a w k) (nth a.Nodes k).Kids) (bitsTo (sorts a) (nth (sorts a) k) (nth a.Nodes k).Kids (nth a.Nodes k).Kids.length)).1.VNum), I ((valueV a w (nth a.Nodes k) (kidV (valTo a w k) (nth a.Nodes k).Kids) (bitsTo (sorts a) (nth (sorts a) k) (nth a.Nodes k).Kids (nth a.Nodes k).Kids.length)).1.VDen), r65o9, I ((valueV a w (nth a.Nodes k) (kidV (valTo a w k) (nth a.Nodes k).Kids) (bitsTo (sorts a) (nth (sorts a) k) (nth a.Nodes k).Kids (nth a.Nodes k).Kids.length)).1.Rest)]) rfl rfl rfl Tryz.sizeOf60 rfl rfl (fa rfl (fa rfl (fa ((oneCell_rdL (hS65o9x2.rdl 0 rfl))) (fa rfl fe)))) (hS65o9x2.front 2 rfl) (fun H65o14 hS65o14 hxx => ?_)
   refine ⟨Ext.mono hxx (labS_of 0 rfl (fun b hb => ⟨fun e => hS65o14.dis 0 3 (by decide) rfl rfl _ hb e, fun e => hS65o14.dis 0 6 (by decide) rfl rfl _ hb e, fun e => hS65o14.dis 0 8 (by decide) rfl rfl _ hb e, fun e => hS65o14.dis 0 9 (by decide) rfl rfl _ hb e, fun e => hS65o14.dis 0 10 (by decide) rfl rfl _ hb e, fun e => hS65o14.dis 0 11 (by decide) rfl rfl _ hb e⟩)), ?_⟩
   refine rq 15 (by kernel_rfl) rfl rfl (q_assign (v := B ((valueV a w (nth a.Nodes k) (kidV (valTo a w k) (nth a.Nodes k).Kids) (bitsTo (sorts a) (nth (sorts a) k) (nth a.Nodes k).Kids (nth a.Nodes k).Kids.length)).2)) rfl rfl) ?_
   refine wpR_end (by kernel_rfl) ?_
   exact ⟨r65o9, g65o13, h6r65o9a, h6r65o9b, h6r65o9c, y2, y3, y5, y7, y9, y10, rfl, rfl, y31, y32, y33, (hS65o14.drop (sk (sk (sn (sk (sk (sk (sk (sk (sk (sk (sk (sk (sk (sk (sk (sk (List.Sublist.slnil))))))))))))))))))⟩
 clear y10 y11 y12 y13 y2 y3 y31 y32 y33 y44 y45 y46 y5 y7 y9
 rintro f66 H66 ⟨r65o9, g65o13, h6r65o9a, h6r65o9b, h6r65o9c, y2, y3, y5, y7, y9, y10, y16, y17, y31, y32, y33, hS66⟩
 refine wpF_seq ?_
 refine wpF_seq ?_
 refine wpF_region ?_
 refine lm (v := B ((valueV a w (nth a.Nodes k) (kidV (valTo a w k) (nth a.Nodes k).Kids) (bitsTo (sorts a) (nth (sorts a) k) (nth a.Nodes k).Kids (nth a.Nodes k).Kids.length)).2)) rfl rfl y17 ?_
 refine lq rfl (q_not rfl rfl) ?_
 refine wpL_nil ?_
 refine wpF_cond rfl (fun h83 => ?t79) (fun h83 => ?e79)
 case t79 =>
  refine wpF_seq ?_
  refine wpF_region ?_
  refine lm (v := I ((k : Int))) rfl rfl y10 ?_
  refine lq rfl (q_build (v := Vg #[I (10), I ((k : Int))]) rfl (par2 (v0 := I (10)) (v1 := I ((k : Int))) rfl rfl) (fun w__ => by kernel_rfl)) ?_
  refine la (v := nS) rfl rfl rfl ?_
  refine lo rfl ?_
  refine e_storeBlkA (cs' := #[I (10), I ((k : Int))]) rfl y5 rfl Tryz.sizeOf32 rfl rfl (fa rfl (fa rfl fe)) (hS66.front 8 rfl) (fun H68 hS69 hxx => ?_)
  refine wpL_nil ?_
  refine wpF_ret ?_
  refine ⟨_, resT rfl (resC y5 (loadV_blkA Tryz.isAgg32 Tryz.sizeOf32 rfl (hS69.blk 0 rfl)) (resN)), hS69.frame, ?_⟩
  show ∃ w0_, (Value.tuple #[nS, Vg #[I (10), I ((k : Int))]]) = Value.tuple #[w0_, Vg #[I ((valF a w)).1, I ((valF a w)).2]] ∧ Rd (SZ S H0) H68 w0_ (valL a w)
  have hq_ : valF a w = _ := valF_at h23 (by omega) hp (bnot_t h83)
  exact ⟨_, by rw [hq_], by rw [valL_bad (by rw [hq_]; exact (by decide : (10 : Int) ≠ 0))]; exact rdNil⟩
 refine wpF_skip ?_
 refine wpF_region ?_
 refine lm (v := vo) rfl rfl y9 ?_
 refine lq rfl (q_loadBlkA rfl y16 Tryz.isAgg60 Tryz.sizeOf60 rfl (hS66.blk 0 rfl) (fun h => h)) ?_
 refine lo rfl ?_
 refine e_buildSlice (vs := [Vg #[I ((valueV a w (nth a.Nodes k) (kidV (valTo a w k) (nth a.Nodes k).Kids) (bitsTo (sorts a) (nth (sorts a) k) (nth a.Nodes k).Kids (nth a.Nodes k).Kids.length)).1.VNum), I ((valueV a w (nth a.Nodes k) (kidV (valTo a w k) (nth a.Nodes k).Kids) (bitsTo (sorts a) (nth (sorts a) k) (nth a.Nodes k).Kids (nth a.Nodes k).Kids.length)).1.VDen), r65o9, I ((valueV a w (nth a.Nodes k) (kidV (valTo a w k) (nth a.Nodes k).Kids) (bitsTo (sorts a) (nth (sorts a) k) (nth a.Nodes k).Kids (nth a.Nodes k).Kids.length)).1.Rest)]]) (xs := ([(valueV a w (nth a.Nodes k) (kidV (valTo a w k) (nth a.Nodes k).Kids) (bitsTo (sorts a) (nth (sorts a) k) (nth a.Nodes k).Kids (nth a.Nodes k).Kids.length)).1] : List Val)) rfl Tryz.underlying72 Tryz.zeroValue60 rfl Tryz.sizeOf60 (par1 (v0 := Vg #[I ((valueV a w (nth a.Nodes k) (kidV (valTo a w k) (nth a.Nodes k).Kids) (bitsTo (sorts a) (nth (sorts a) k) (nth a.Nodes k).Kids (nth a.Nodes k).Kids.length)).1.VNum), I ((valueV a w (nth a.Nodes k) (kidV (valTo a w k) (nth a.Nodes k).Kids) (bitsTo (sorts a) (nth (sorts a) k) (nth a.Nodes k).Kids (nth a.Nodes k).Kids.length)).1.VDen), r65o9, I ((valueV a w (nth a.Nodes k) (kidV (valTo a w k) (nth a.Nodes k).Kids) (bitsTo (sorts a) (nth (sorts a) k) (nth a.Nodes k).Kids (nth a.Nodes k).Kids.length)).1.Rest)]) rfl) rfl hS66 (RdVs.cons (Rd.val.2 ⟨_, rfl, (by first | assumption | (constructor <;> (try dsimp only) <;> omega)), (by first | assumption | (constructor <;> (try dsimp only) <;> omega)), (hS66.rdS 1 rfl), (by first | assumption | (constructor <;> (try dsimp only) <;> omega))⟩) (RdVs.nil)) (by decide) (by decide) (fun v70 H71 hS72 hxx hvv70 => ?_)
 have hS73 : St H0 NoB (SZ S H0) [rdE v70 ([(valueV a w (nth a.Nodes k) (kidV (valTo a w k) (nth a.Nodes k).Kids) (bitsTo (sorts a) (nth (sorts a) k) (nth a.Nodes k).Kids (nth a.Nodes k).Kids.length)).1] : List Val), bE g65o13 #[I ((valueV a w (nth a.Nodes k) (kidV (valTo a w k) (nth a.Nodes k).Kids) (bitsTo (sorts a) (nth (sorts a) k) (nth a.Nodes k).Kids (nth a.Nodes k).Kids.length)).1.VNum), I ((valueV a w (nth a.Nodes k) (kidV (valTo a w k) (nth a.Nodes k).Kids) (bitsTo (sorts a) (nth (sorts a) k) (nth a.Nodes k).Kids (nth a.Nodes k).Kids.length)).1.VDen), r65o9, I ((valueV a w (nth a.Nodes k) (kidV (valTo a w k) (nth a.Nodes k).Kids) (bitsTo (sorts a) (nth (sorts a) k) (nth a.Nodes k).Kids (nth a.Nodes k).Kids.length)).1.Rest)] 60, rdE r65o9 ((valueV a w (nth a.Nodes k) (kidV (valTo a w k) (nth a.Nodes k).Kids) (bitsTo (sorts a) (nth (sorts a) k) (nth a.Nodes k).Kids (nth a.Nodes k).Kids.length)).1.Cells), bE g35 #[I ((nth a.Nodes k).Op), u33n1, I ((nth a.Nodes k).N), I ((nth a.Nodes k).D), SB ((nth a.Nodes k).Name)] 52, rdE u33n1 ((nth a.Nodes k).Kids), rowE 60 vo ((valTo a w k) : List Val), bE g24 #[I (((sortsF a)).1), I (((sortsF a)).2)] 32, rdE r20 (sorts a), bE g13 #[I (((meanF a w)).1), I (((meanF a w)).2)] 32, bE g7 #[I (0), I (0)] 32, bE g4 #[vM] 29, bE g1 #[vD, vN, vH] 26, rdE vD a.Decls, rdE vN a.Nodes, rdE vH a.Hold, rdE vM w.Means] H71 := St.fin hS72
 have hS74 := (hS73.front 5 rfl)
 refine lo rfl ?_
 refine e_append rfl Tryz.underlying72 em_Val_60_MeanC5 rfl rfl hS74 (hS74.rdS 1 rfl) (fun _ h => h) (by have hb : GoT.bytes Val = 48 := rfl; rw [hb]; simp only [List.length_append, List.length_cons, List.length_nil]; omega) (by decide) (fun v75 H76 hS77 hxx => ?_)
 have hS78 : St H0 NoB (SZ S H0) [rowE 60 v75 (valTo a w (k + 1) : List Val), rdE v70 ([(valueV a w (nth a.Nodes k) (kidV (valTo a w k) (nth a.Nodes k).Kids) (bitsTo (sorts a) (nth (sorts a) k) (nth a.Nodes k).Kids (nth a.Nodes k).Kids.length)).1] : List Val), bE g65o13 #[I ((valueV a w (nth a.Nodes k) (kidV (valTo a w k) (nth a.Nodes k).Kids) (bitsTo (sorts a) (nth (sorts a) k) (nth a.Nodes k).Kids (nth a.Nodes k).Kids.length)).1.VNum), I ((valueV a w (nth a.Nodes k) (kidV (valTo a w k) (nth a.Nodes k).Kids) (bitsTo (sorts a) (nth (sorts a) k) (nth a.Nodes k).Kids (nth a.Nodes k).Kids.length)).1.VDen), r65o9, I ((valueV a w (nth a.Nodes k) (kidV (valTo a w k) (nth a.Nodes k).Kids) (bitsTo (sorts a) (nth (sorts a) k) (nth a.Nodes k).Kids (nth a.Nodes k).Kids.length)).1.Rest)] 60, rdE r65o9 ((valueV a w (nth a.Nodes k) (kidV (valTo a w k) (nth a.Nodes k).Kids) (bitsTo (sorts a) (nth (sorts a) k) (nth a.Nodes k).Kids (nth a.Nodes k).Kids.length)).1.Cells), bE g35 #[I ((nth a.Nodes k).Op), u33n1, I ((nth a.Nodes k).N), I ((nth a.Nodes k).D), SB ((nth a.Nodes k).Name)] 52, rdE u33n1 ((nth a.Nodes k).Kids), bE g24 #[I (((sortsF a)).1), I (((sortsF a)).2)] 32, rdE r20 (sorts a), bE g13 #[I (((meanF a w)).1), I (((meanF a w)).2)] 32, bE g7 #[I (0), I (0)] 32, bE g4 #[vM] 29, bE g1 #[vD, vN, vH] 26, rdE vD a.Decls, rdE vN a.Nodes, rdE vH a.Hold, rdE vM w.Means] H76 := by rw [show (valTo a w (k + 1)) = ((valTo a w k) ++ ([(valueV a w (nth a.Nodes k) (kidV (valTo a w k) (nth a.Nodes k).Kids) (bitsTo (sorts a) (nth (sorts a) k) (nth a.Nodes k).Kids (nth a.Nodes k).Kids.length)).1])) from rfl]; exact hS77
 refine la (v := v75) rfl rfl rfl ?_
 refine wpL_nil ?_
 refine wpF_region ?_
 refine lq rfl (q_add rfl y33 rfl (by constructor <;> omega)) ?_
 refine lm (v := I ((k : Int) + 1)) rfl rfl rfl ?_
 refine wpL_nil ?_
 refine ⟨_, ?_, k + 1, v75, rfl, (by omega), (all_succ hp (bnot_f h83)), y2, y3, y5, y7, rfl, y31, y32, (Eq.trans rfl (congrArg I (by omega))), (show St H0 NoB (SZ S H0) [rowE 60 v75 ((valTo a w (k + 1)) : List Val), bE g24 #[I (((sortsF a)).1), I (((sortsF a)).2)] 32, rdE r20 (sorts a), bE g13 #[I (((meanF a w)).1), I (((meanF a w)).2)] 32, bE g7 #[I (0), I (0)] 32, bE g4 #[vM] 29, bE g1 #[vD, vN, vH] 26, rdE vD a.Decls, rdE vN a.Nodes, rdE vH a.Hold, rdE vM w.Means] H76 from (hS78.drop (sk (sn (sn (sn (sn (sn (sk (sk (sk (sk (sk (sk (sk (sk (sk (sk (List.Sublist.slnil)))))))))))))))))))⟩
 omega
set_option maxRecDepth 100000 in
theorem Holds_1 {H0 : Heap} (x : Int) (gx : Nat) (vl : Value) (l : List Val) (hb : H0[gx]? = some (.cells #[vl] 72)) (rl : Rd NoB H0 vl l) (hx : 0 ≤ x ∧ x < l.length) : CallsH Tryz.prog 24 #[I (x), PT gx 0] H0 (fun rv_ H' => Ext NoB H0 H' ∧ rv_ = B (decide ((nth l x.toNat).VNum = 0))) := by
 have hS0 : St H0 NoB NoB [fixE gx (.cells #[vl] 72), rdE vl l] H0 := St.argFix (St.arg (St.start (fun _ h => h.elim)) (Bl0.nil) rl (fun _ h => h)) (Bl0.cons (Bl0.nil)) hb (fun h => h)
 refine callsH_of_wpF (args := [I (x), PT gx 0]) (rs := [.tmp 3]) Tryz.func24 rfl Tryz.ntmps24 Tryz.results24 (by kernel_rfl) (Nat.le_of_ble_eq_true rfl) ?_
 have y0 : argF [I (x), PT gx 0] 0 = I (x) := rfl
 have y1 : argF [I (x), PT gx 0] 1 = PT gx 0 := rfl
 generalize argF [I (x), PT gx 0] = f0 at *
 refine wpF_seq ?_
 refine wpF_region ?_
 refine la (v := B (false)) rfl rfl rfl ?_
 refine wpL_nil ?_
 refine wpF_seq ?_
 refine wpF_region ?_
 refine lq rfl (q_loadBlk rfl y1 Tryz.isAgg72 (hS0.fixd 0 rfl) rfl (fun h => h)) ?_
 refine lm (v := I (x)) rfl rfl y0 ?_
 refine lq rfl (q_indexRd (k := (x).toNat) rfl Tryz.underlying72 el_Val_60_MeanC5 rfl rfl (hS0.rdl 1 rfl) (by omega) (by omega)) ?_
 refine lq rfl (q_fieldE (k := (x).toNat) rfl Tryz.underlying60 rfl Tryz.sizeOf57 rfl rfl (hS0.rdl 1 rfl) (by omega)) ?_
 refine lq rfl (q_fieldF (k := (x).toNat) rfl Tryz.underlying57 rfl Tryz.sizeOf3 rfl rfl (hS0.rdl 1 rfl) (by omega)) ?_
 obtain ⟨_, hcu1, hFu1⟩ := (Rd.list.1 (hS0.rdS 1 rfl)).cellF ((x).toNat) (by omega)
 obtain ⟨u1n2, rfl, hu10, hu11, hu12, hu13⟩ := hcu1
 refine lq rfl (q_loadF rfl rfl (hFu1 0 _ Tryz.prog 3 _ rfl Tryz.isAgg3 (fun _ h => False.elim h))) ?_
 refine lq rfl (q_eql rfl rfl rfl) ?_
 refine la (v := B (decide (((nth l ((x).toNat)).VNum) = 0))) rfl rfl rfl ?_
 refine wpL_nil ?_
 refine wpF_ret ?_
 refine ⟨_, resT rfl resN, hS0.frame, ?_⟩
 show (B (decide (((nth l ((x).toNat)).VNum) = 0))) = B (decide ((nth l x.toNat).VNum = 0))
 rfl
set_option maxHeartbeats 2000000 in
set_option maxRecDepth 100000 in
theorem Holds_M {H0 : Heap} (vD vN vH vM : Value) (a : Ask) (w : Wld) (rvD : Rd NoB H0 vD a.Decls) (rvN : Rd NoB H0 vN a.Nodes) (rvH : Rd NoB H0 vH a.Hold) (rvM : Rd NoB H0 vM w.Means) : CallsH Tryz.prog 8 #[Vg #[vD, vN, vH], Vg #[vM]] H0 (fun rv_ H' => Ext NoB H0 H' ∧ rv_ = Value.tuple #[B (holdsB a w), Vg #[I (valF a w).1, I (valF a w).2]]) := by
 have hsD : a.Decls.length * 48 ≤ 140737488355328 := (Rd.list.1 rvD).bound
 have hsN : a.Nodes.length * 64 ≤ 140737488355328 := (Rd.list.1 rvN).bound
 have hsM : w.Means.length * 72 ≤ 140737488355328 := (Rd.list.1 rvM).bound
 have hS0 : St H0 NoB NoB [rdE vD a.Decls, rdE vN a.Nodes, rdE vH a.Hold, rdE vM w.Means] H0 := St.arg (St.arg (St.arg (St.arg (St.start (fun _ h => h.elim)) (Bl0.nil) rvM (fun _ h => h)) (Bl0.cons (Bl0.nil)) rvH (fun _ h => h)) (Bl0.cons (Bl0.cons (Bl0.nil))) rvN (fun _ h => h)) (Bl0.cons (Bl0.cons (Bl0.cons (Bl0.nil)))) rvD (fun _ h => h)
 refine callsH_of_wpF (args := [Vg #[vD, vN, vH], Vg #[vM]]) (rs := [.tmp 4, .cell 5 32]) Tryz.func8 rfl Tryz.ntmps8 Tryz.results8 (by kernel_rfl) (Nat.le_of_ble_eq_true rfl) ?_
 have y0 : argF [Vg #[vD, vN, vH], Vg #[vM]] 0 = Vg #[vD, vN, vH] := rfl
 have y1 : argF [Vg #[vD, vN, vH], Vg #[vM]] 1 = Vg #[vM] := rfl
 generalize argF [Vg #[vD, vN, vH], Vg #[vM]] = f0 at *
 refine wpF_seq ?_
 refine wpF_region ?_
 refine lo rfl ?_
 refine e_box (v := Vg #[vD, vN, vH]) rfl y0 hS0 (fun g1 H2 hS3 hxx => ?_)
 refine lo rfl ?_
 refine e_box (v := Vg #[vM]) rfl y1 hS3 (fun g4 H5 hS6 hxx => ?_)
 refine la (v := B (false)) rfl rfl rfl ?_
 refine lo rfl ?_
 refine e_alloc rfl Tryz.zeroValue32 hS6 (fun g7 H8 hS9 hxx => ?_)
 refine wpL_nil ?_
 refine wpF_seq ?_
 refine wpF_region ?_
 refine lq rfl (q_loadBlkA rfl rfl Tryz.isAgg26 Tryz.sizeOf26 rfl (hS9.blk 2 rfl) (fun h => h)) ?_
 refine lq rfl (q_loadBlkA rfl rfl Tryz.isAgg29 Tryz.sizeOf29 rfl (hS9.blk 1 rfl) (fun h => h)) ?_
 refine lo rfl ?_
 refine e_call rfl Tryz.call22 (arr2 (v0 := Vg #[vD, vN, vH]) (v1 := Vg #[vM]) rfl rfl) (Value_M vD vN vH vM a w (hS9.rdS 3 rfl) (hS9.rdS 4 rfl) (hS9.rdS 5 rfl) (hS9.rdS 6 rfl) ) ?_
 rintro _ H11 ⟨hxx, r10, rfl, hrr10⟩
 have hS12 := hS9.res hxx hrr10
 refine lm (v := Value.tuple #[r10, Vg #[I (((valF a w)).1), I (((valF a w)).2)]]) rfl rfl rfl ?_
 refine lq rfl (q_extract (vs := #[r10, Vg #[I (((valF a w)).1), I (((valF a w)).2)]]) (v := r10) rfl rfl rfl) ?_
 refine lq rfl (q_extract (vs := #[r10, Vg #[I (((valF a w)).1), I (((valF a w)).2)]]) (v := Vg #[I (((valF a w)).1), I (((valF a w)).2)]) rfl rfl rfl) ?_
 refine lo rfl ?_
 refine e_alloc rfl Tryz.zeroValue72 hS12 (fun g14 H15 hS16 hxx => ?_)
 refine lo rfl ?_
 refine e_alloc rfl Tryz.zeroValue32 hS16 (fun g17 H18 hS19 hxx => ?_)
 refine lo rfl ?_
 refine e_storeBlk (v := r10) rfl rfl rfl (oneCell_rdL (hS19.rdl 2 rfl)) Tryz.sizeOf72 (by show _ < 1; decide) (hS19.front 1 rfl) (fun H20 hS21 hxx => ?_)
 refine lo rfl ?_
 refine e_storeBlkA (cs' := #[I (((valF a w)).1), I (((valF a w)).2)]) rfl rfl rfl Tryz.sizeOf32 rfl rfl (fa rfl (fa rfl fe)) (hS21.front 1 rfl) (fun H22 hS23 hxx => ?_)
 refine wpL_nil ?_
 refine wpF_seq ?_
 refine wpF_seq ?_
 refine wpF_region ?_
 refine lq rfl (q_fieldAddr rfl Tryz.underlying32 rfl Tryz.sizeOf3 rfl) ?_
 refine lq rfl (q_loadBlk rfl rfl Tryz.isAgg3 (hS23.blk 0 rfl) rfl (fun h => h)) ?_
 refine lq rfl (q_neq rfl rfl rfl) ?_
 refine wpL_nil ?_
 refine wpF_condP rfl (fun h16 => ?t31) (fun h16 => ?e31)
 case t31 =>
  refine wpF_seq ?_
  refine wpF_drawn [none, none, some 0] [[], [], []] (fun l b => match l with | 0 => True | _ => False) (by kernel_rfl) (by kernel_rfl) ?_
  refine rq 0 (by kernel_rfl) rfl rfl (q_loadBlkA rfl rfl Tryz.isAgg32 Tryz.sizeOf32 rfl (hS23.blk 0 rfl) (labU_not [] rfl (fe))) ?_
  refine rq 1 (by kernel_rfl) rfl rfl (q_assign (v := B (false)) rfl rfl) ?_
  refine wpR_n [2] (by kernel_rfl) ?_
  refine fa ?_ fe
  refine exE rfl rfl ?_
  refine e_storeBlkA (cs' := #[I (((valF a w)).1), I (((valF a w)).2)]) rfl rfl rfl Tryz.sizeOf32 rfl rfl (fa rfl (fa rfl fe)) (hS23.front 3 rfl) (fun H25o2 hS25o2 hxx => ?_)
  refine ⟨Ext.mono hxx (labS_of 0 rfl (fun _ _ => trivial)), ?_⟩
  refine wpR_end (by kernel_rfl) ?_
  skip
  refine wpF_ret ?_
  refine ⟨_, resT rfl (resC rfl (loadV_blkA Tryz.isAgg32 Tryz.sizeOf32 rfl (hS25o2.blk 0 rfl)) (resN)), hS25o2.frame, ?_⟩
  show (Value.tuple #[B (false), Vg #[I (((valF a w)).1), I (((valF a w)).2)]]) = Value.tuple #[B (holdsB a w), Vg #[I (valF a w).1, I (valF a w).2]]
  rw [holdsB, if_pos h16]
 have hz : valF a w = (0, 0) := valF_zero h16
 have hL := valL_ok hz
 have hHx : ∀ x ∈ a.Hold, 0 ≤ x ∧ x < ((valL a w).length : Int) := fun x hx => by rw [hL, valTo_len]; exact hold_rng hz hx
 refine wpF_skip ?_
 refine wpF_seq ?_
 refine wpF_region ?_
 refine lq rfl (q_fieldAddr rfl Tryz.underlying26 rfl Tryz.sizeOf24 rfl) ?_
 refine lq rfl (q_loadBlk rfl rfl Tryz.isAgg24 (hS23.blk 5 rfl) rfl (fun h => h)) ?_
 refine lq rfl (q_makeFunc (fi' := #[]) rfl (by simp) (arr1 (v0 := PT g14 0) rfl)) ?_
 refine lo rfl ?_
 refine e_call rfl Tryz.call23 (arr2 (v0 := vH) (v1 := Value.func (.func 24) #[] #[PT g14 0]) rfl rfl) (ContainsFunc vH (Value.func (.func 24) #[] #[PT g14 0]) a.Hold (fun k => decide ((nth (valL a w) k.toNat).VNum = 0)) (hS23.rdN 8 rfl) (fun x hx H hE => ⟨_, _, rfl, Tryz.call24, Holds_1 x g14 r10 (valL a w) (hE.blk (hS23.blk 1 rfl)) ((hS23.rdN 2 rfl).extN hE) (hHx x hx)⟩)) ?_
 rintro _ H26 ⟨hxx, rfl⟩
 have hS27 := hS23.ext hxx
 refine lq rfl (q_not rfl rfl) ?_
 refine lq rfl (q_build (v := Vg #[I (0), I (0)]) rfl par0 (fun w__ => by kernel_rfl)) ?_
 refine la (v := B (!(a.Hold.any (fun k => decide ((nth (valL a w) k.toNat).VNum = 0))))) rfl rfl rfl ?_
 refine lo rfl ?_
 refine e_storeBlkA (cs' := #[I (0), I (0)]) rfl rfl rfl Tryz.sizeOf32 rfl rfl (fa rfl (fa rfl fe)) (hS27.front 3 rfl) (fun H29 hS30 hxx => ?_)
 refine wpL_nil ?_
 refine wpF_ret ?_
 refine ⟨_, resT rfl (resC rfl (loadV_blkA Tryz.isAgg32 Tryz.sizeOf32 rfl (hS30.blk 0 rfl)) (resN)), hS30.frame, ?_⟩
 show (Value.tuple #[B (!(a.Hold.any (fun k => decide ((nth (valL a w) k.toNat).VNum = 0)))), Vg #[I (0), I (0)]]) = Value.tuple #[B (holdsB a w), Vg #[I (valF a w).1, I (valF a w).2]]
 rw [holdsB, if_neg h16, hz, hL]
end Go.Um
