import Derived.Test.YtacphjgolmolmaaProg
import Derived.Test.YtacphjgolmolmaaMeanC4
import Derived.Test.YtacphjgolmolmaaUmArrDownC
namespace Go.Um
open Go.Proofs
open GoT (sz ag rdc)
open KeyT (kv)
theorem el_Int_3_MeanC5 : ElT Try.prog Int 3 := ⟨Try.isAgg3, Try.sizeOf3⟩
theorem el_Node_37_MeanC5 : ElT Try.prog Node 37 := ⟨Try.isAgg37, Try.sizeOf37⟩
theorem el_Val_69_MeanC5 : ElT Try.prog Val 69 := ⟨Try.isAgg69, Try.sizeOf69⟩
theorem em_Val_69_MeanC5 : ElemOk Try.prog Val 69 := ⟨Try.t69, (.agg #[(.int .i64 0), (.int .i64 0), (.slice none 0 0), (.int .i64 0)]), by kernel_rfl, by kernel_rfl, by kernel_rfl, by kernel_rfl, by kernel_rfl⟩
set_option maxHeartbeats 8000000 in
set_option maxRecDepth 100000 in
theorem Value_M {H0 : Heap} {S : Nat → Prop} (vD vN vH vM : Value) (a : Ask) (w : Wld) (rvD : Rd S H0 vD a.Decls) (rvN : Rd S H0 vN a.Nodes) (rvH : Rd S H0 vH a.Hold) (rvM : Rd S H0 vM w.Means) : CallsH Try.prog 27 #[Vg #[vD, vN, vH], Vg #[vM]] H0 (fun rv_ H' => Ext NoB H0 H' ∧ ∃ w0_, rv_ = Value.tuple #[w0_, Vg #[I ((valF a w)).1, I ((valF a w)).2]] ∧ Rd (SZ S H0) H' w0_ (valL a w)) := by
 have hsD : a.Decls.length * 48 ≤ 140737488355328 := (Rd.list.1 rvD).bound
 have hsN : a.Nodes.length * 64 ≤ 140737488355328 := (Rd.list.1 rvN).bound
 have hsM : w.Means.length * 72 ≤ 140737488355328 := (Rd.list.1 rvM).bound
 have hS0 : St H0 NoB (SZ S H0) [rdE vD a.Decls, rdE vN a.Nodes, rdE vH a.Hold, rdE vM w.Means] H0 := St.arg (St.arg (St.arg (St.arg (St.start (fun _ h => h.2)) (Bl0.nil) rvM (fun _ h => h.1)) (Bl0.cons (Bl0.nil)) rvH (fun _ h => h.1)) (Bl0.cons (Bl0.cons (Bl0.nil))) rvN (fun _ h => h.1)) (Bl0.cons (Bl0.cons (Bl0.cons (Bl0.nil)))) rvD (fun _ h => h.1)
 refine callsH_of_wpF (args := [Vg #[vD, vN, vH], Vg #[vM]]) (rs := [.tmp 4, .cell 5 28]) Try.func27 rfl Try.ntmps27 Try.results27 (by kernel_rfl) (Nat.le_of_ble_eq_true rfl) ?_
 have y0 : argF [Vg #[vD, vN, vH], Vg #[vM]] 0 = Vg #[vD, vN, vH] := rfl
 have y1 : argF [Vg #[vD, vN, vH], Vg #[vM]] 1 = Vg #[vM] := rfl
 generalize argF [Vg #[vD, vN, vH], Vg #[vM]] = f0 at *
 refine fcr (fun f H => ∃ (g1 : Nat), ∃ (g4 : Nat), ∃ (g7 : Nat), f 2 = PT g1 0 ∧ f 3 = PT g4 0 ∧ f 5 = PT g7 0 ∧ St H0 NoB (SZ S H0) [bE g7 #[I (0), I (0)] 28, bE g4 #[vM] 47, bE g1 #[vD, vN, vH] 26, rdE vD a.Decls, rdE vN a.Nodes, rdE vH a.Hold, rdE vM w.Means] H) ?_ ?_
 ·refine lo rfl ?_
  refine e_box (v := Vg #[vD, vN, vH]) rfl y0 hS0 (fun g1 H2 hS3 hxx => ?_)
  refine lo rfl ?_
  refine e_box (v := Vg #[vM]) rfl y1 hS3 (fun g4 H5 hS6 hxx => ?_)
  refine la (v := nS) rfl rfl rfl ?_
  refine lo rfl ?_
  refine e_alloc rfl Try.zeroValue28 hS6 (fun g7 H8 hS9 hxx => ?_)
  exact ⟨g1, g4, g7, rfl, rfl, rfl, hS9⟩
 clear y0 y1
 rintro f10 H10 ⟨g1, g4, g7, y2, y3, y5, hS10⟩
 refine wpF_seq ?_
 refine fcr (fun f H => ∃ (g14 : Nat), f 2 = PT g1 0 ∧ f 3 = PT g4 0 ∧ f 5 = PT g7 0 ∧ f 6 = PT g14 0 ∧ St H0 NoB (SZ S H0) [bE g14 #[I (((meanF a w)).1), I (((meanF a w)).2)] 28, bE g7 #[I (0), I (0)] 28, bE g4 #[vM] 47, bE g1 #[vD, vN, vH] 26, rdE vD a.Decls, rdE vN a.Nodes, rdE vH a.Hold, rdE vM w.Means] H) ?_ ?_
 ·refine lq rfl (q_loadBlkA rfl y2 Try.isAgg26 Try.sizeOf26 rfl (hS10.blk 2 rfl) (fun h => h)) ?_
  refine lq rfl (q_loadBlkA rfl y3 Try.isAgg47 Try.sizeOf47 rfl (hS10.blk 1 rfl) (fun h => h)) ?_
  refine lo rfl ?_
  refine e_call rfl Try.call15 (arr2 (v0 := Vg #[vD, vN, vH]) (v1 := Vg #[vM]) rfl rfl) (Check_M vD vN vH vM a w (hS10.rdN 3 rfl) (hS10.rdN 4 rfl) (hS10.rdN 5 rfl) (hS10.rdN 6 rfl) ) ?_
  rintro _ H11 ⟨hxx, rfl⟩
  have hS12 := hS10.ext hxx
  refine lo rfl ?_
  refine e_alloc rfl Try.zeroValue28 hS12 (fun g14 H15 hS16 hxx => ?_)
  refine lo rfl ?_
  refine e_storeBlkA (cs' := #[I (((meanF a w)).1), I (((meanF a w)).2)]) rfl rfl rfl Try.sizeOf28 rfl rfl (fa rfl (fa rfl fe)) hS16 (fun H17 hS18 hxx => ?_)
  exact ⟨g14, y2, y3, y5, rfl, hS18⟩
 clear y2 y3 y5
 rintro f19 H19 ⟨g14, y2, y3, y5, y6, hS19⟩
 refine fcr (fun f H => f 2 = PT g1 0 ∧ f 3 = PT g4 0 ∧ f 5 = PT g7 0 ∧ f 6 = PT g14 0 ∧ f 23 = B (decide ((((meanF a w)).1) ≠ 0)) ∧ H19 = H) ?_ ?_
 ·refine lq rfl (q_fieldAddr rfl Try.underlying28 rfl Try.sizeOf3 y6) ?_
  refine lq rfl (q_loadBlk rfl rfl Try.isAgg3 (hS19.blk 0 rfl) rfl (fun h => h)) ?_
  refine lq rfl (q_neq rfl rfl rfl) ?_
  exact ⟨y2, y3, y5, y6, rfl, rfl⟩
 clear y2 y3 y5 y6
 rintro f20 _ ⟨y2, y3, y5, y6, y23, rfl⟩
 refine wpF_condP y23 (fun h23 => ?t108) (fun h23 => ?e108)
 case t108 =>
  refine sc (fun f H => f 4 = nS ∧ f 5 = PT g7 0 ∧ St H0 NoB (SZ S H0) [bE g7 #[I (((meanF a w)).1), I (((meanF a w)).2)] 28, bE g14 #[I (((meanF a w)).1), I (((meanF a w)).2)] 28, bE g4 #[vM] 47, bE g1 #[vD, vN, vH] 26, rdE vD a.Decls, rdE vN a.Nodes, rdE vH a.Hold, rdE vM w.Means] H) ?_ ?_
  ·refine wpF_drawn [none, none, some 0] [[], [], []] (fun l b => match l with | 0 => True | _ => False) (by kernel_rfl) (by kernel_rfl) ?_
   refine rq 0 (by kernel_rfl) rfl rfl (q_loadBlkA rfl y6 Try.isAgg28 Try.sizeOf28 rfl (hS19.blk 0 rfl) (labU_not [] rfl (fe))) ?_
   refine rq 1 (by kernel_rfl) rfl rfl (q_assign (v := nS) rfl rfl) ?_
   refine wpR_n [2] (by kernel_rfl) ?_
   refine fa ?_ fe
   refine exE rfl rfl ?_
   refine e_storeBlkA (cs' := #[I (((meanF a w)).1), I (((meanF a w)).2)]) rfl y5 rfl Try.sizeOf28 rfl rfl (fa rfl (fa rfl fe)) (hS19.front 1 rfl) (fun H22o2 hS22o2 hxx => ?_)
   refine ⟨Ext.mono hxx (labS_of 0 rfl (fun _ _ => trivial)), ?_⟩
   refine wpR_end (by kernel_rfl) ?_
   exact ⟨rfl, y5, hS22o2⟩
  clear y2 y23 y3 y5 y6
  rintro f23 H23 ⟨y4, y5, hS23⟩
  refine wpF_ret ?_
  refine ⟨_, resT y4 (resC y5 (loadV_blkA Try.isAgg28 Try.sizeOf28 rfl (hS23.blk 0 rfl)) (resN)), hS23.frame, ?_⟩
  show ∃ w0_, (Value.tuple #[nS, Vg #[I (((meanF a w)).1), I (((meanF a w)).2)]]) = Value.tuple #[w0_, Vg #[I ((valF a w)).1, I ((valF a w)).2]] ∧ Rd (SZ S H0) H23 w0_ (valL a w)
  have hq_ : valF a w = _ := valF_mean h23
  exact ⟨_, by rw [hq_], by rw [valL_bad (by rw [hq_]; exact h23)]; exact rdNil⟩
 have hM : MeanOk a w := meanOk (Decidable.of_not_not h23)
 have hA := hM.ask
 have hmany := hA.many
 have hsl : (sorts a).length = a.Nodes.length := sortsTo_len _
 refine wpF_skip ?_
 refine fcr (fun f H => ∃ (r24 : Value), ∃ (g28 : Nat), f 2 = PT g1 0 ∧ f 3 = PT g4 0 ∧ f 5 = PT g7 0 ∧ f 7 = r24 ∧ St H0 NoB (SZ S H0) [bE g28 #[I (((sortsF a)).1), I (((sortsF a)).2)] 28, rdE r24 (sortsL a), bE g14 #[I (((meanF a w)).1), I (((meanF a w)).2)] 28, bE g7 #[I (0), I (0)] 28, bE g4 #[vM] 47, bE g1 #[vD, vN, vH] 26, rdE vD a.Decls, rdE vN a.Nodes, rdE vH a.Hold, rdE vM w.Means] H) ?_ ?_
 ·refine lq rfl (q_loadBlkA rfl y2 Try.isAgg26 Try.sizeOf26 rfl (hS19.blk 3 rfl) (fun h => h)) ?_
  refine lo rfl ?_
  refine e_call rfl Try.call7 (arr1 (v0 := Vg #[vD, vN, vH]) rfl) (Sorts_L vD vN vH a (hS19.rdS 4 rfl) (hS19.rdS 5 rfl) (hS19.rdS 6 rfl) ) ?_
  rintro _ H25 ⟨hxx, r24, rfl, hrr24⟩
  have hS26 := hS19.res hxx hrr24
  refine lm (v := Value.tuple #[r24, Vg #[I (((sortsF a)).1), I (((sortsF a)).2)]]) rfl rfl rfl ?_
  refine lq rfl (q_extract (vs := #[r24, Vg #[I (((sortsF a)).1), I (((sortsF a)).2)]]) (v := r24) rfl rfl rfl) ?_
  refine lq rfl (q_extract (vs := #[r24, Vg #[I (((sortsF a)).1), I (((sortsF a)).2)]]) (v := Vg #[I (((sortsF a)).1), I (((sortsF a)).2)]) rfl rfl rfl) ?_
  refine lo rfl ?_
  refine e_alloc rfl Try.zeroValue28 hS26 (fun g28 H29 hS30 hxx => ?_)
  refine la (v := r24) rfl rfl rfl ?_
  refine lo rfl ?_
  refine e_storeBlkA (cs' := #[I (((sortsF a)).1), I (((sortsF a)).2)]) rfl rfl rfl Try.sizeOf28 rfl rfl (fa rfl (fa rfl fe)) hS30 (fun H31 hS32 hxx => ?_)
  exact ⟨r24, g28, y2, y3, y5, rfl, hS32⟩
 clear y2 y23 y3 y5 y6
 rintro f33 H33 ⟨r24, g28, y2, y3, y5, y7, hS33⟩
 have hS34 : St H0 NoB (SZ S H0) [bE g28 #[I (((sortsF a)).1), I (((sortsF a)).2)] 28, rdE r24 (sorts a), bE g14 #[I (((meanF a w)).1), I (((meanF a w)).2)] 28, bE g7 #[I (0), I (0)] 28, bE g4 #[vM] 47, bE g1 #[vD, vN, vH] 26, rdE vD a.Decls, rdE vN a.Nodes, rdE vH a.Hold, rdE vM w.Means] H33 := by have h__ := hS33; rw [sortsL_eq (not_not_intro (show (sortsF a).1 = 0 from by rw [sortsF_of hM]))] at h__; exact h__
 refine fcr (fun f H => f 2 = PT g1 0 ∧ f 3 = PT g4 0 ∧ f 5 = PT g7 0 ∧ f 7 = r24 ∧ f 9 = nS ∧ H33 = H) ?_ ?_
 ·refine la (v := nS) rfl rfl rfl ?_
  exact ⟨y2, y3, y5, y7, rfl, rfl⟩
 clear y2 y3 y5 y7
 rintro f35 _ ⟨y2, y3, y5, y7, y9, rfl⟩
 have hS36 : St H0 NoB (SZ S H0) [rowE 69 nS ([] : List Val), bE g28 #[I (((sortsF a)).1), I (((sortsF a)).2)] 28, rdE r24 (sorts a), bE g14 #[I (((meanF a w)).1), I (((meanF a w)).2)] 28, bE g7 #[I (0), I (0)] 28, bE g4 #[vM] 47, bE g1 #[vD, vN, vH] 26, rdE vD a.Decls, rdE vN a.Nodes, rdE vH a.Hold, rdE vM w.Means] H33 := hS34.row0 69
 refine wpF_seq ?_
 refine fcr (fun f H => f 2 = PT g1 0 ∧ f 3 = PT g4 0 ∧ f 5 = PT g7 0 ∧ f 7 = r24 ∧ f 9 = nS ∧ f 31 = vN ∧ f 32 = I ((a.Nodes.length : Int)) ∧ f 33 = I (0) ∧ H33 = H) ?_ ?_
 ·refine lq rfl (q_fieldAddr rfl Try.underlying26 rfl Try.sizeOf23 y2) ?_
  refine lq rfl (q_loadBlk rfl rfl Try.isAgg23 (hS36.blk 6 rfl) rfl (fun h => h)) ?_
  refine lq rfl (q_lenRd rfl Try.underlying23 rfl (hS36.rdl 8 rfl)) ?_
  refine lm (v := I (0)) rfl rfl rfl ?_
  exact ⟨y2, y3, y5, y7, y9, rfl, rfl, rfl, rfl⟩
 clear y2 y3 y5 y7 y9
 rintro f37 _ ⟨y2, y3, y5, y7, y9, y31, y32, y33, rfl⟩
 refine wpF_block ?_
 refine wpF_loop (fun mz f H => ∃ (k : Nat), ∃ (vo : Value), mz = a.Nodes.length - k ∧ (k ≤ a.Nodes.length) ∧ (∀ j, j < k → (valAt a w (valTo a w j) j).2 = true) ∧ f 2 = PT g1 0 ∧ f 3 = PT g4 0 ∧ f 5 = PT g7 0 ∧ f 7 = r24 ∧ f 9 = vo ∧ f 31 = vN ∧ f 32 = I ((a.Nodes.length : Int)) ∧ f 33 = I ((k : Int)) ∧ St H0 NoB (SZ S H0) [rowE 69 vo ((valTo a w k) : List Val), bE g28 #[I (((sortsF a)).1), I (((sortsF a)).2)] 28, rdE r24 (sorts a), bE g14 #[I (((meanF a w)).1), I (((meanF a w)).2)] 28, bE g7 #[I (0), I (0)] 28, bE g4 #[vM] 47, bE g1 #[vD, vN, vH] 26, rdE vD a.Decls, rdE vN a.Nodes, rdE vH a.Hold, rdE vM w.Means] H) (a.Nodes.length - 0) ?_ ?_
 ·exact ⟨0, nS, rfl, Nat.zero_le _, (fun j hj => absurd hj (Nat.not_lt_zero j)), y2, y3, y5, y7, y9, y31, y32, (Eq.trans y33 (congrArg I (by omega))), (show St H0 NoB (SZ S H0) [rowE 69 nS ((valTo a w 0) : List Val), bE g28 #[I (((sortsF a)).1), I (((sortsF a)).2)] 28, rdE r24 (sorts a), bE g14 #[I (((meanF a w)).1), I (((meanF a w)).2)] 28, bE g7 #[I (0), I (0)] 28, bE g4 #[vM] 47, bE g1 #[vD, vN, vH] 26, rdE vD a.Decls, rdE vN a.Nodes, rdE vH a.Hold, rdE vM w.Means] H33 from hS36)⟩
 intro m38 f38 H38 hI38
 clear y2 y3 y31 y32 y33 y5 y7 y9
 obtain ⟨k, vo, hm38, hk, hp, y2, y3, y5, y7, y9, y31, y32, y33, hS38⟩ := hI38
 refine fcr (fun f H => f 2 = PT g1 0 ∧ f 3 = PT g4 0 ∧ f 5 = PT g7 0 ∧ f 7 = r24 ∧ f 9 = vo ∧ f 31 = vN ∧ f 32 = I ((a.Nodes.length : Int)) ∧ f 33 = I ((k : Int)) ∧ f 34 = B (decide ((k : Int) < (a.Nodes.length : Int))) ∧ H38 = H) ?_ ?_
 ·refine lq rfl (q_lss rfl y33 y32) ?_
  exact ⟨y2, y3, y5, y7, y9, y31, y32, y33, rfl, rfl⟩
 clear y2 y3 y31 y32 y33 y5 y7 y9
 rintro f39 _ ⟨y2, y3, y5, y7, y9, y31, y32, y33, y34, rfl⟩
 refine wpF_seq ?_
 refine wpF_condP y34 (fun hlt => ?t107) (fun hlt => ?e107)
 case e107 =>
  obtain rfl : k = a.Nodes.length := by omega
  refine wpF_exit ?_
  refine atX_here ?_
  refine fcr (fun f H => f 4 = vo ∧ f 5 = PT g7 0 ∧ St H0 NoB (SZ S H0) [bE g7 #[I (0), I (0)] 28, rowE 69 vo ((valTo a w a.Nodes.length) : List Val), bE g28 #[I (((sortsF a)).1), I (((sortsF a)).2)] 28, bE g14 #[I (((meanF a w)).1), I (((meanF a w)).2)] 28, bE g4 #[vM] 47, bE g1 #[vD, vN, vH] 26, rdE vD a.Decls, rdE vN a.Nodes, rdE vH a.Hold, rdE vM w.Means] H) ?_ ?_
  ·refine lm (v := vo) rfl rfl y9 ?_
   refine lq rfl (q_build (v := Vg #[I (0), I (0)]) rfl par0 (fun w__ => by kernel_rfl)) ?_
   refine la (v := vo) rfl rfl rfl ?_
   refine lo rfl ?_
   refine e_storeBlkA (cs' := #[I (0), I (0)]) rfl y5 rfl Try.sizeOf28 rfl rfl (fa rfl (fa rfl fe)) (hS38.front 4 rfl) (fun H103 hS104 hxx => ?_)
   exact ⟨rfl, y5, (hS104.drop (sk (sk (sk (sn (sk (sk (sk (sk (sk (sk (sk (List.Sublist.slnil)))))))))))))⟩
  clear y2 y3 y31 y32 y33 y34 y5 y7 y9
  rintro f105 H105 ⟨y4, y5, hS105⟩
  refine wpF_ret ?_
  refine ⟨_, resT y4 (resC y5 (loadV_blkA Try.isAgg28 Try.sizeOf28 rfl (hS105.blk 0 rfl)) (resN)), hS105.frame, ?_⟩
  show ∃ w0_, (Value.tuple #[vo, Vg #[I (0), I (0)]]) = Value.tuple #[w0_, Vg #[I ((valF a w)).1, I ((valF a w)).2]] ∧ Rd (SZ S H0) H105 w0_ (valL a w)
  have hS106 : St H0 NoB (SZ S H0) [rdE vo ((valTo a w a.Nodes.length)), bE g7 #[I (0), I (0)] 28, bE g28 #[I (((sortsF a)).1), I (((sortsF a)).2)] 28, bE g14 #[I (((meanF a w)).1), I (((meanF a w)).2)] 28, bE g4 #[vM] 47, bE g1 #[vD, vN, vH] 26, rdE vD a.Decls, rdE vN a.Nodes, rdE vH a.Hold, rdE vM w.Means] H105 := St.fin (hS105.front 1 rfl)
  have hq_ : valF a w = _ := valF_ok h23 hp
  exact ⟨_, by rw [hq_], by rw [valL_ok hq_]; exact (hS106.result (hS106.rdS 0 rfl))⟩
 have hvl := valTo_len (a := a) (w := w) k
 have hkf := (hA.nodes k (by omega)).few
 have hsr := sortsTo_rng hA.dz a.Nodes.length
 have hsk : sortR (nth (sorts a) k) := hsr k
 unfold sortR at hsk
 refine wpF_skip ?_
 refine wpF_seq ?_
 refine wpF_block ?_
 refine fcr (fun f H => ∃ (u41n1 : Value), ∃ (g43 : Nat), (In64 (nth a.Nodes k).Op) ∧ (In64 (nth a.Nodes k).N) ∧ (In64 (nth a.Nodes k).D) ∧ ((nth a.Nodes k).Name.size ≤ maxLen) ∧ f 2 = PT g1 0 ∧ f 3 = PT g4 0 ∧ f 5 = PT g7 0 ∧ f 7 = r24 ∧ f 9 = vo ∧ f 10 = I ((k : Int)) ∧ f 11 = PT g43 0 ∧ f 31 = vN ∧ f 32 = I ((a.Nodes.length : Int)) ∧ f 33 = I ((k : Int)) ∧ St H0 NoB (SZ S H0) [bE g43 #[I ((nth a.Nodes k).Op), u41n1, I ((nth a.Nodes k).N), I ((nth a.Nodes k).D), SB ((nth a.Nodes k).Name)] 37, rdE u41n1 ((nth a.Nodes k).Kids), rowE 69 vo ((valTo a w k) : List Val), bE g28 #[I (((sortsF a)).1), I (((sortsF a)).2)] 28, rdE r24 (sorts a), bE g14 #[I (((meanF a w)).1), I (((meanF a w)).2)] 28, bE g7 #[I (0), I (0)] 28, bE g4 #[vM] 47, bE g1 #[vD, vN, vH] 26, rdE vD a.Decls, rdE vN a.Nodes, rdE vH a.Hold, rdE vM w.Means] H) ?_ ?_
 ·refine lm (v := I ((k : Int))) rfl rfl y33 ?_
  refine lq rfl (q_indexRd (k := k) rfl Try.underlying23 el_Node_37_MeanC5 y31 y33 (hS38.rdl 8 rfl) (by omega) (by omega)) ?_
  obtain ⟨u41, huu41, hlu41⟩ := (Rd.list.1 (hS38.rdS 8 rfl)).elem k (by omega)
  obtain ⟨u41n1, rfl, hu410, hu411, hu412, hu413, hu414⟩ := Rd.node.1 huu41
  have hS42 := hS38.rd hu411
  refine lq rfl (q_loadE rfl rfl (hlu41 Try.prog 37 _ el_Node_37_MeanC5 (fun _ h => False.elim h))) ?_
  refine lo rfl ?_
  refine e_alloc rfl Try.zeroValue37 hS42 (fun g43 H44 hS45 hxx => ?_)
  refine la (v := I ((k : Int))) rfl rfl rfl ?_
  refine lo rfl ?_
  refine e_storeBlkA (cs' := #[I ((nth a.Nodes k).Op), u41n1, I ((nth a.Nodes k).N), I ((nth a.Nodes k).D), SB ((nth a.Nodes k).Name)]) rfl rfl rfl Try.sizeOf37 rfl rfl (fa rfl (fa ((oneCell_rdL (hS45.rdl 1 rfl))) (fa rfl (fa rfl (fa rfl fe))))) hS45 (fun H46 hS47 hxx => ?_)
  exact ⟨u41n1, g43, hu410, hu412, hu413, hu414, y2, y3, y5, y7, y9, rfl, rfl, y31, y32, y33, hS47⟩
 clear y2 y3 y31 y32 y33 y34 y5 y7 y9
 rintro f48 H48 ⟨u41n1, g43, hu410, hu412, hu413, hu414, y2, y3, y5, y7, y9, y10, y11, y31, y32, y33, hS48⟩
 refine fcr (fun f H => f 2 = PT g1 0 ∧ f 3 = PT g4 0 ∧ f 5 = PT g7 0 ∧ f 7 = r24 ∧ f 9 = vo ∧ f 10 = I ((k : Int)) ∧ f 11 = PT g43 0 ∧ f 12 = nS ∧ f 31 = vN ∧ f 32 = I ((a.Nodes.length : Int)) ∧ f 33 = I ((k : Int)) ∧ H48 = H) ?_ ?_
 ·refine la (v := nS) rfl rfl rfl ?_
  exact ⟨y2, y3, y5, y7, y9, y10, y11, rfl, y31, y32, y33, rfl⟩
 clear y10 y11 y2 y3 y31 y32 y33 y5 y7 y9
 rintro f49 _ ⟨y2, y3, y5, y7, y9, y10, y11, y12, y31, y32, y33, rfl⟩
 have hS50 : St H0 NoB (SZ S H0) [rowE 69 nS ([] : List Val), bE g43 #[I ((nth a.Nodes k).Op), u41n1, I ((nth a.Nodes k).N), I ((nth a.Nodes k).D), SB ((nth a.Nodes k).Name)] 37, rdE u41n1 ((nth a.Nodes k).Kids), rowE 69 vo ((valTo a w k) : List Val), bE g28 #[I (((sortsF a)).1), I (((sortsF a)).2)] 28, rdE r24 (sorts a), bE g14 #[I (((meanF a w)).1), I (((meanF a w)).2)] 28, bE g7 #[I (0), I (0)] 28, bE g4 #[vM] 47, bE g1 #[vD, vN, vH] 26, rdE vD a.Decls, rdE vN a.Nodes, rdE vH a.Hold, rdE vM w.Means] H48 := hS48.row0 69
 refine fcr (fun f H => f 2 = PT g1 0 ∧ f 3 = PT g4 0 ∧ f 5 = PT g7 0 ∧ f 7 = r24 ∧ f 9 = vo ∧ f 10 = I ((k : Int)) ∧ f 11 = PT g43 0 ∧ f 12 = nS ∧ f 13 = I ((nth (sorts a) k) - 10) ∧ f 31 = vN ∧ f 32 = I ((a.Nodes.length : Int)) ∧ f 33 = I ((k : Int)) ∧ H48 = H) ?_ ?_
 ·refine lm (v := r24) rfl rfl y7 ?_
  refine lm (v := I ((k : Int))) rfl rfl y10 ?_
  refine lq rfl (q_indexRd (k := k) rfl Try.underlying24 el_Int_3_MeanC5 rfl rfl (hS50.rdl 5 rfl) (by omega) (by omega)) ?_
  refine lq rfl (q_loadInt (k := k) rfl rfl el_Int_3_MeanC5 (hS50.rdl 5 rfl) (by omega) (fun _ h => h)) ?_
  refine lq rfl (q_sub rfl rfl rfl (by constructor <;> omega)) ?_
  refine la (v := I ((nth (sorts a) k) - 10)) rfl rfl rfl ?_
  exact ⟨y2, y3, y5, y7, y9, y10, y11, y12, rfl, y31, y32, y33, rfl⟩
 clear y10 y11 y12 y2 y3 y31 y32 y33 y5 y7 y9
 rintro f51 _ ⟨y2, y3, y5, y7, y9, y10, y11, y12, y13, y31, y32, y33, rfl⟩
 refine wpF_seq ?_
 refine fcr (fun f H => f 2 = PT g1 0 ∧ f 3 = PT g4 0 ∧ f 5 = PT g7 0 ∧ f 7 = r24 ∧ f 9 = vo ∧ f 10 = I ((k : Int)) ∧ f 11 = PT g43 0 ∧ f 12 = nS ∧ f 13 = I ((nth (sorts a) k) - 10) ∧ f 31 = vN ∧ f 32 = I ((a.Nodes.length : Int)) ∧ f 33 = I ((k : Int)) ∧ f 44 = u41n1 ∧ f 45 = I ((((nth a.Nodes k).Kids).length : Int)) ∧ f 46 = I (0) ∧ H48 = H) ?_ ?_
 ·refine lq rfl (q_fieldAddr rfl Try.underlying37 rfl Try.sizeOf24 y11) ?_
  refine lq rfl (q_loadBlk rfl rfl Try.isAgg24 (hS50.blk 1 rfl) rfl (fun h => h)) ?_
  refine lq rfl (q_lenRd rfl Try.underlying24 rfl (hS50.rdl 2 rfl)) ?_
  refine lm (v := I (0)) rfl rfl rfl ?_
  exact ⟨y2, y3, y5, y7, y9, y10, y11, y12, y13, y31, y32, y33, rfl, rfl, rfl, rfl⟩
 clear y10 y11 y12 y13 y2 y3 y31 y32 y33 y5 y7 y9
 rintro f52 _ ⟨y2, y3, y5, y7, y9, y10, y11, y12, y13, y31, y32, y33, y44, y45, y46, rfl⟩
 refine wpF_block ?_
 refine wpF_loop (fun mz f H => ∃ (j : Nat), ∃ (vK : Value), mz = (nth a.Nodes k).Kids.length - j ∧ (j ≤ (nth a.Nodes k).Kids.length) ∧ f 2 = PT g1 0 ∧ f 3 = PT g4 0 ∧ f 5 = PT g7 0 ∧ f 7 = r24 ∧ f 9 = vo ∧ f 10 = I ((k : Int)) ∧ f 11 = PT g43 0 ∧ f 12 = vK ∧ f 13 = I (bitsTo (sorts a) (nth (sorts a) k) (nth a.Nodes k).Kids j) ∧ f 31 = vN ∧ f 32 = I ((a.Nodes.length : Int)) ∧ f 33 = I ((k : Int)) ∧ f 44 = u41n1 ∧ f 45 = I ((((nth a.Nodes k).Kids).length : Int)) ∧ f 46 = I ((j : Int)) ∧ St H0 NoB (SZ S H0) [rowE 69 vK (kidV (valTo a w k) ((nth a.Nodes k).Kids.take j) : List Val), bE g43 #[I ((nth a.Nodes k).Op), u41n1, I ((nth a.Nodes k).N), I ((nth a.Nodes k).D), SB ((nth a.Nodes k).Name)] 37, rdE u41n1 ((nth a.Nodes k).Kids), rowE 69 vo ((valTo a w k) : List Val), bE g28 #[I (((sortsF a)).1), I (((sortsF a)).2)] 28, rdE r24 (sorts a), bE g14 #[I (((meanF a w)).1), I (((meanF a w)).2)] 28, bE g7 #[I (0), I (0)] 28, bE g4 #[vM] 47, bE g1 #[vD, vN, vH] 26, rdE vD a.Decls, rdE vN a.Nodes, rdE vH a.Hold, rdE vM w.Means] H) ((nth a.Nodes k).Kids.length - 0) ?_ ?_
 ·exact ⟨0, nS, rfl, Nat.zero_le _, y2, y3, y5, y7, y9, y10, y11, y12, y13, y31, y32, y33, y44, y45, (Eq.trans y46 (congrArg I (by omega))), (show St H0 NoB (SZ S H0) [rowE 69 nS (kidV (valTo a w k) ((nth a.Nodes k).Kids.take 0) : List Val), bE g43 #[I ((nth a.Nodes k).Op), u41n1, I ((nth a.Nodes k).N), I ((nth a.Nodes k).D), SB ((nth a.Nodes k).Name)] 37, rdE u41n1 ((nth a.Nodes k).Kids), rowE 69 vo ((valTo a w k) : List Val), bE g28 #[I (((sortsF a)).1), I (((sortsF a)).2)] 28, rdE r24 (sorts a), bE g14 #[I (((meanF a w)).1), I (((meanF a w)).2)] 28, bE g7 #[I (0), I (0)] 28, bE g4 #[vM] 47, bE g1 #[vD, vN, vH] 26, rdE vD a.Decls, rdE vN a.Nodes, rdE vH a.Hold, rdE vM w.Means] H48 from hS50)⟩
 intro m53 f53 H53 hI53
 clear y10 y11 y12 y13 y2 y3 y31 y32 y33 y44 y45 y46 y5 y7 y9
 obtain ⟨j, vK, hm53, hj, y2, y3, y5, y7, y9, y10, y11, y12, y13, y31, y32, y33, y44, y45, y46, hS53⟩ := hI53
 refine fcr (fun f H => f 2 = PT g1 0 ∧ f 3 = PT g4 0 ∧ f 5 = PT g7 0 ∧ f 7 = r24 ∧ f 9 = vo ∧ f 10 = I ((k : Int)) ∧ f 11 = PT g43 0 ∧ f 12 = vK ∧ f 13 = I (bitsTo (sorts a) (nth (sorts a) k) (nth a.Nodes k).Kids j) ∧ f 31 = vN ∧ f 32 = I ((a.Nodes.length : Int)) ∧ f 33 = I ((k : Int)) ∧ f 44 = u41n1 ∧ f 45 = I ((((nth a.Nodes k).Kids).length : Int)) ∧ f 46 = I ((j : Int)) ∧ f 47 = B (decide ((j : Int) < (((nth a.Nodes k).Kids).length : Int))) ∧ H53 = H) ?_ ?_
 ·refine lq rfl (q_lss rfl y46 y45) ?_
  exact ⟨y2, y3, y5, y7, y9, y10, y11, y12, y13, y31, y32, y33, y44, y45, y46, rfl, rfl⟩
 clear y10 y11 y12 y13 y2 y3 y31 y32 y33 y44 y45 y46 y5 y7 y9
 rintro f54 _ ⟨y2, y3, y5, y7, y9, y10, y11, y12, y13, y31, y32, y33, y44, y45, y46, y47, rfl⟩
 refine wpF_seq ?_
 refine wpF_condP y47 (fun hltj => ?t102) (fun hltj => ?e102)
 case t102 =>
  have hkj := kid_lt hA (k := k) (by omega) (j := j) (by omega)
  unfold kidN at hkj
  have hsj : sortR (nth (sorts a) (nth (nth a.Nodes k).Kids j).toNat) := hsr _
  unfold sortR at hsj
  refine wpF_skip ?_
  refine wpF_seq ?_
  refine wpF_block ?_
  refine fcr (fun f H => f 2 = PT g1 0 ∧ f 3 = PT g4 0 ∧ f 5 = PT g7 0 ∧ f 7 = r24 ∧ f 9 = vo ∧ f 10 = I ((k : Int)) ∧ f 11 = PT g43 0 ∧ f 12 = vK ∧ f 13 = I (bitsTo (sorts a) (nth (sorts a) k) (nth a.Nodes k).Kids j) ∧ f 15 = I (nth ((nth a.Nodes k).Kids) j) ∧ f 31 = vN ∧ f 32 = I ((a.Nodes.length : Int)) ∧ f 33 = I ((k : Int)) ∧ f 44 = u41n1 ∧ f 45 = I ((((nth a.Nodes k).Kids).length : Int)) ∧ f 46 = I ((j : Int)) ∧ H53 = H) ?_ ?_
  ·refine lq rfl (q_indexRd (k := j) rfl Try.underlying24 el_Int_3_MeanC5 y44 y46 (hS53.rdl 2 rfl) (by omega) (by omega)) ?_
   refine lq rfl (q_loadInt (k := j) rfl rfl el_Int_3_MeanC5 (hS53.rdl 2 rfl) (by omega) (fun _ h => h)) ?_
   refine la (v := I (nth ((nth a.Nodes k).Kids) j)) rfl rfl rfl ?_
   exact ⟨y2, y3, y5, y7, y9, y10, y11, y12, y13, rfl, y31, y32, y33, y44, y45, y46, rfl⟩
  clear y10 y11 y12 y13 y2 y3 y31 y32 y33 y44 y45 y46 y47 y5 y7 y9
  rintro f57 _ ⟨y2, y3, y5, y7, y9, y10, y11, y12, y13, y15, y31, y32, y33, y44, y45, y46, rfl⟩
  refine fcr (fun f H => ∃ (v69 : Value), (In64 (nth (valTo a w k) ((nth ((nth a.Nodes k).Kids) j).toNat)).VNum) ∧ (In64 (nth (valTo a w k) ((nth ((nth a.Nodes k).Kids) j).toNat)).VDen) ∧ (In64 (nth (valTo a w k) ((nth ((nth a.Nodes k).Kids) j).toNat)).Rest) ∧ (In64 (nth (valTo a w k) ((nth ((nth a.Nodes k).Kids) j).toNat)).VNum) ∧ (In64 (nth (valTo a w k) ((nth ((nth a.Nodes k).Kids) j).toNat)).VDen) ∧ (In64 (nth (valTo a w k) ((nth ((nth a.Nodes k).Kids) j).toNat)).Rest) ∧ f 2 = PT g1 0 ∧ f 3 = PT g4 0 ∧ f 5 = PT g7 0 ∧ f 7 = r24 ∧ f 9 = vo ∧ f 10 = I ((k : Int)) ∧ f 11 = PT g43 0 ∧ f 12 = v69 ∧ f 13 = I (bitsTo (sorts a) (nth (sorts a) k) (nth a.Nodes k).Kids j) ∧ f 15 = I (nth ((nth a.Nodes k).Kids) j) ∧ f 31 = vN ∧ f 32 = I ((a.Nodes.length : Int)) ∧ f 33 = I ((k : Int)) ∧ f 44 = u41n1 ∧ f 45 = I ((((nth a.Nodes k).Kids).length : Int)) ∧ f 46 = I ((j : Int)) ∧ St H0 NoB (SZ S H0) [rowE 69 v69 (kidV (valTo a w k) ((nth a.Nodes k).Kids.take (j + 1)) : List Val), bE g43 #[I ((nth a.Nodes k).Op), u41n1, I ((nth a.Nodes k).N), I ((nth a.Nodes k).D), SB ((nth a.Nodes k).Name)] 37, rdE u41n1 ((nth a.Nodes k).Kids), rowE 69 vo ((valTo a w k) : List Val), bE g28 #[I (((sortsF a)).1), I (((sortsF a)).2)] 28, rdE r24 (sorts a), bE g14 #[I (((meanF a w)).1), I (((meanF a w)).2)] 28, bE g7 #[I (0), I (0)] 28, bE g4 #[vM] 47, bE g1 #[vD, vN, vH] 26, rdE vD a.Decls, rdE vN a.Nodes, rdE vH a.Hold, rdE vM w.Means] H) ?_ ?_
  ·refine lm (v := vK) rfl rfl y12 ?_
   refine lm (v := vo) rfl rfl y9 ?_
   refine lm (v := I (nth ((nth a.Nodes k).Kids) j)) rfl rfl y15 ?_
   refine lq rfl (q_indexRd (k := (nth ((nth a.Nodes k).Kids) j).toNat) rfl Try.underlying80 el_Val_69_MeanC5 rfl rfl (hS53.rowl 3 rfl) (by omega) (by omega)) ?_
   obtain ⟨u58, huu58, hlu58⟩ := hS53.rowElem 3 rfl ((nth ((nth a.Nodes k).Kids) j).toNat) (by omega)
   obtain ⟨u58n2, rfl, hu580, hu581, hu582, hu583⟩ := Rd.val.1 huu58
   have hS59 := hS53.rd hu582
   refine lq rfl (q_loadE rfl rfl (hlu58 Try.prog 69 _ el_Val_69_MeanC5 (fun _ h => False.elim h))) ?_
   refine lo rfl ?_
   refine e_call rfl Try.call50 (arr1 (v0 := Vg #[I ((nth (valTo a w k) ((nth ((nth a.Nodes k).Kids) j).toNat)).VNum), I ((nth (valTo a w k) ((nth ((nth a.Nodes k).Kids) j).toNat)).VDen), u58n2, I ((nth (valTo a w k) ((nth ((nth a.Nodes k).Kids) j).toNat)).Rest)]) rfl) (copied_M u58n2 (nth (valTo a w k) ((nth ((nth a.Nodes k).Kids) j).toNat)) (by first | assumption | exact bitP_in | exact wrap_in64 | (constructor <;> (dsimp only; omega)) | (constructor <;> omega)) (by first | assumption | exact bitP_in | exact wrap_in64 | (constructor <;> (dsimp only; omega)) | (constructor <;> omega)) (hS59.rdS 0 rfl) (by first | assumption | exact bitP_in | exact wrap_in64 | (constructor <;> (dsimp only; omega)) | (constructor <;> omega))) ?_
   rintro _ H61 ⟨hxx, r60, rfl, hrr60, h6r60a, h6r60b, h6r60c⟩
   have hS62 := hS59.res hxx hrr60
   refine lo rfl ?_
   refine e_buildSlice (vs := [Vg #[I ((nth (valTo a w k) ((nth ((nth a.Nodes k).Kids) j).toNat)).VNum), I ((nth (valTo a w k) ((nth ((nth a.Nodes k).Kids) j).toNat)).VDen), r60, I ((nth (valTo a w k) ((nth ((nth a.Nodes k).Kids) j).toNat)).Rest)]]) (xs := ([(nth (valTo a w k) ((nth ((nth a.Nodes k).Kids) j).toNat))] : List Val)) rfl Try.underlying80 Try.zeroValue69 rfl Try.sizeOf69 (par1 (v0 := Vg #[I ((nth (valTo a w k) ((nth ((nth a.Nodes k).Kids) j).toNat)).VNum), I ((nth (valTo a w k) ((nth ((nth a.Nodes k).Kids) j).toNat)).VDen), r60, I ((nth (valTo a w k) ((nth ((nth a.Nodes k).Kids) j).toNat)).Rest)]) rfl) rfl hS62 (RdVs.cons (Rd.val.2 ⟨_, rfl, (by first | assumption | (constructor <;> (try dsimp only) <;> omega)), (by first | assumption | (constructor <;> (try dsimp only) <;> omega)), (hS62.rdS 0 rfl), (by first | assumption | (constructor <;> (try dsimp only) <;> omega))⟩) (RdVs.nil)) (by decide) (by decide) (fun v64 H65 hS66 hxx hvv64 => ?_)
   have hS67 : St H0 NoB (SZ S H0) [rdE v64 ([(nth (valTo a w k) ((nth ((nth a.Nodes k).Kids) j).toNat))] : List Val), rdE r60 ((nth (valTo a w k) ((nth ((nth a.Nodes k).Kids) j).toNat)).Cells), rdE u58n2 ((nth (valTo a w k) ((nth ((nth a.Nodes k).Kids) j).toNat)).Cells), rowE 69 vK (kidV (valTo a w k) ((nth a.Nodes k).Kids.take j) : List Val), bE g43 #[I ((nth a.Nodes k).Op), u41n1, I ((nth a.Nodes k).N), I ((nth a.Nodes k).D), SB ((nth a.Nodes k).Name)] 37, rdE u41n1 ((nth a.Nodes k).Kids), rowE 69 vo ((valTo a w k) : List Val), bE g28 #[I (((sortsF a)).1), I (((sortsF a)).2)] 28, rdE r24 (sorts a), bE g14 #[I (((meanF a w)).1), I (((meanF a w)).2)] 28, bE g7 #[I (0), I (0)] 28, bE g4 #[vM] 47, bE g1 #[vD, vN, vH] 26, rdE vD a.Decls, rdE vN a.Nodes, rdE vH a.Hold, rdE vM w.Means] H65 := St.fin hS66
   have hS68 := (hS67.front 3 rfl)
   refine lo rfl ?_
   refine e_append rfl Try.underlying80 em_Val_69_MeanC5 rfl rfl hS68 (hS68.rdS 1 rfl) (fun _ h => h) (by have hb : GoT.bytes Val = 48 := rfl; rw [hb]; simp only [List.length_append, kidV_len, List.length_take, List.length_cons, List.length_nil]; omega) (by decide) (fun v69 H70 hS71 hxx => ?_)
   have hS72 : St H0 NoB (SZ S H0) [rowE 69 v69 (kidV (valTo a w k) ((nth a.Nodes k).Kids.take (j + 1)) : List Val), rdE v64 ([(nth (valTo a w k) ((nth ((nth a.Nodes k).Kids) j).toNat))] : List Val), rdE r60 ((nth (valTo a w k) ((nth ((nth a.Nodes k).Kids) j).toNat)).Cells), rdE u58n2 ((nth (valTo a w k) ((nth ((nth a.Nodes k).Kids) j).toNat)).Cells), bE g43 #[I ((nth a.Nodes k).Op), u41n1, I ((nth a.Nodes k).N), I ((nth a.Nodes k).D), SB ((nth a.Nodes k).Name)] 37, rdE u41n1 ((nth a.Nodes k).Kids), rowE 69 vo ((valTo a w k) : List Val), bE g28 #[I (((sortsF a)).1), I (((sortsF a)).2)] 28, rdE r24 (sorts a), bE g14 #[I (((meanF a w)).1), I (((meanF a w)).2)] 28, bE g7 #[I (0), I (0)] 28, bE g4 #[vM] 47, bE g1 #[vD, vN, vH] 26, rdE vD a.Decls, rdE vN a.Nodes, rdE vH a.Hold, rdE vM w.Means] H70 := by rw [show (kidV (valTo a w k) ((nth a.Nodes k).Kids.take (j + 1))) = ((kidV (valTo a w k) ((nth a.Nodes k).Kids.take j)) ++ ([(nth (valTo a w k) ((nth ((nth a.Nodes k).Kids) j).toNat))])) from (kidV_next (by omega)).symm]; exact hS71
   refine la (v := v69) rfl rfl rfl ?_
   exact ⟨v69, hu580, hu581, hu583, h6r60a, h6r60b, h6r60c, y2, y3, y5, y7, y9, y10, y11, rfl, y13, y15, y31, y32, y33, y44, y45, y46, (hS72.drop (sk (sn (sn (sn (sk (sk (sk (sk (sk (sk (sk (sk (sk (sk (sk (sk (sk (List.Sublist.slnil)))))))))))))))))))⟩
  clear y10 y11 y12 y13 y15 y2 y3 y31 y32 y33 y44 y45 y46 y5 y7 y9
  rintro f73 H73 ⟨v69, hu580, hu581, hu583, h6r60a, h6r60b, h6r60c, y2, y3, y5, y7, y9, y10, y11, y12, y13, y15, y31, y32, y33, y44, y45, y46, hS73⟩
  refine fcr (fun f H => f 2 = PT g1 0 ∧ f 3 = PT g4 0 ∧ f 5 = PT g7 0 ∧ f 7 = r24 ∧ f 9 = vo ∧ f 10 = I ((k : Int)) ∧ f 11 = PT g43 0 ∧ f 12 = v69 ∧ f 13 = I (bitsTo (sorts a) (nth (sorts a) k) (nth a.Nodes k).Kids j) ∧ f 15 = I (nth ((nth a.Nodes k).Kids) j) ∧ f 31 = vN ∧ f 32 = I ((a.Nodes.length : Int)) ∧ f 33 = I ((k : Int)) ∧ f 44 = u41n1 ∧ f 45 = I ((((nth a.Nodes k).Kids).length : Int)) ∧ f 46 = I ((j : Int)) ∧ f 62 = B (decide (wordS (nth (sorts a) ((nth ((nth a.Nodes k).Kids) j).toNat)))) ∧ St H0 NoB (SZ S H0) [rowE 69 v69 (kidV (valTo a w k) ((nth a.Nodes k).Kids.take (j + 1)) : List Val), bE g43 #[I ((nth a.Nodes k).Op), u41n1, I ((nth a.Nodes k).N), I ((nth a.Nodes k).D), SB ((nth a.Nodes k).Name)] 37, rdE u41n1 ((nth a.Nodes k).Kids), rowE 69 vo ((valTo a w k) : List Val), bE g28 #[I (((sortsF a)).1), I (((sortsF a)).2)] 28, rdE r24 (sorts a), bE g14 #[I (((meanF a w)).1), I (((meanF a w)).2)] 28, bE g7 #[I (0), I (0)] 28, bE g4 #[vM] 47, bE g1 #[vD, vN, vH] 26, rdE vD a.Decls, rdE vN a.Nodes, rdE vH a.Hold, rdE vM w.Means] H) ?_ ?_
  ·refine lm (v := r24) rfl rfl y7 ?_
   refine lm (v := I (nth ((nth a.Nodes k).Kids) j)) rfl rfl y15 ?_
   refine lq rfl (q_indexRd (k := (nth ((nth a.Nodes k).Kids) j).toNat) rfl Try.underlying24 el_Int_3_MeanC5 rfl rfl (hS73.rdl 5 rfl) (by omega) (by omega)) ?_
   refine lq rfl (q_loadInt (k := (nth ((nth a.Nodes k).Kids) j).toNat) rfl rfl el_Int_3_MeanC5 (hS73.rdl 5 rfl) (by omega) (fun _ h => h)) ?_
   refine lo rfl ?_
   refine e_call rfl Try.call51 (arr1 (v0 := I (nth (sorts a) ((nth ((nth a.Nodes k).Kids) j).toNat))) rfl) (Word_L (nth (sorts a) ((nth ((nth a.Nodes k).Kids) j).toNat))) ?_
   rintro _ H74 ⟨hxx, rfl⟩
   have hS75 := hS73.ext hxx
   exact ⟨y2, y3, y5, y7, y9, y10, y11, y12, y13, y15, y31, y32, y33, y44, y45, y46, rfl, hS75⟩
  clear y10 y11 y12 y13 y15 y2 y3 y31 y32 y33 y44 y45 y46 y5 y7 y9
  rintro f77 H77 ⟨y2, y3, y5, y7, y9, y10, y11, y12, y13, y15, y31, y32, y33, y44, y45, y46, y62, hS77⟩
  refine wpF_cut (fun f H => f 2 = PT g1 0 ∧ f 3 = PT g4 0 ∧ f 5 = PT g7 0 ∧ f 7 = r24 ∧ f 9 = vo ∧ f 10 = I ((k : Int)) ∧ f 11 = PT g43 0 ∧ f 12 = v69 ∧ f 13 = I (bitsTo (sorts a) (nth (sorts a) k) (nth a.Nodes k).Kids (j + 1)) ∧ f 31 = vN ∧ f 32 = I ((a.Nodes.length : Int)) ∧ f 33 = I ((k : Int)) ∧ f 44 = u41n1 ∧ f 45 = I ((((nth a.Nodes k).Kids).length : Int)) ∧ f 46 = I ((j : Int)) ∧ St H0 NoB (SZ S H0) [rowE 69 v69 (kidV (valTo a w k) ((nth a.Nodes k).Kids.take (j + 1)) : List Val), bE g43 #[I ((nth a.Nodes k).Op), u41n1, I ((nth a.Nodes k).N), I ((nth a.Nodes k).D), SB ((nth a.Nodes k).Name)] 37, rdE u41n1 ((nth a.Nodes k).Kids), rowE 69 vo ((valTo a w k) : List Val), bE g28 #[I (((sortsF a)).1), I (((sortsF a)).2)] 28, rdE r24 (sorts a), bE g14 #[I (((meanF a w)).1), I (((meanF a w)).2)] 28, bE g7 #[I (0), I (0)] 28, bE g4 #[vM] 47, bE g1 #[vD, vN, vH] 26, rdE vD a.Decls, rdE vN a.Nodes, rdE vH a.Hold, rdE vM w.Means] H) ?_ ?_
  ·refine wpF_condP y62 (fun h62 => ?t81) (fun h62 => ?e81)
   case e81 =>
    refine wpF_skip ?_
    exact ⟨y2, y3, y5, y7, y9, y10, y11, y12, (Eq.trans y13 (congrArg I (if_neg h62).symm)), y31, y32, y33, y44, y45, y46, hS77⟩
   refine wpF_cut (fun f H => f 2 = PT g1 0 ∧ f 3 = PT g4 0 ∧ f 5 = PT g7 0 ∧ f 7 = r24 ∧ f 9 = vo ∧ f 10 = I ((k : Int)) ∧ f 11 = PT g43 0 ∧ f 12 = v69 ∧ f 13 = I ((nth (sorts a) ((nth ((nth a.Nodes k).Kids) j).toNat)) - 10) ∧ f 31 = vN ∧ f 32 = I ((a.Nodes.length : Int)) ∧ f 33 = I ((k : Int)) ∧ f 44 = u41n1 ∧ f 45 = I ((((nth a.Nodes k).Kids).length : Int)) ∧ f 46 = I ((j : Int)) ∧ H77 = H) ?_ ?_
   ·refine wpF_region ?_
    refine lm (v := r24) rfl rfl y7 ?_
    refine lm (v := I (nth ((nth a.Nodes k).Kids) j)) rfl rfl y15 ?_
    refine lq rfl (q_indexRd (k := (nth ((nth a.Nodes k).Kids) j).toNat) rfl Try.underlying24 el_Int_3_MeanC5 rfl rfl (hS77.rdl 5 rfl) (by omega) (by omega)) ?_
    refine lq rfl (q_loadInt (k := (nth ((nth a.Nodes k).Kids) j).toNat) rfl rfl el_Int_3_MeanC5 (hS77.rdl 5 rfl) (by omega) (fun _ h => h)) ?_
    refine lq rfl (q_sub rfl rfl rfl (by constructor <;> omega)) ?_
    refine la (v := I ((nth (sorts a) ((nth ((nth a.Nodes k).Kids) j).toNat)) - 10)) rfl rfl rfl ?_
    exact ⟨y2, y3, y5, y7, y9, y10, y11, y12, rfl, y31, y32, y33, y44, y45, y46, rfl⟩
   clear y10 y11 y12 y13 y15 y2 y3 y31 y32 y33 y44 y45 y46 y5 y62 y7 y9
   rintro f80 _ ⟨y2, y3, y5, y7, y9, y10, y11, y12, y13, y31, y32, y33, y44, y45, y46, rfl⟩
   exact ⟨y2, y3, y5, y7, y9, y10, y11, y12, (Eq.trans y13 (congrArg I (if_pos h62).symm)), y31, y32, y33, y44, y45, y46, hS77⟩
  clear y10 y11 y12 y13 y15 y2 y3 y31 y32 y33 y44 y45 y46 y5 y62 y7 y9
  rintro f78 H78 ⟨y2, y3, y5, y7, y9, y10, y11, y12, y13, y31, y32, y33, y44, y45, y46, hS78⟩
  refine wpF_cut (fun f H => f 2 = PT g1 0 ∧ f 3 = PT g4 0 ∧ f 5 = PT g7 0 ∧ f 7 = r24 ∧ f 9 = vo ∧ f 10 = I ((k : Int)) ∧ f 11 = PT g43 0 ∧ f 12 = v69 ∧ f 13 = I (bitsTo (sorts a) (nth (sorts a) k) (nth a.Nodes k).Kids (j + 1)) ∧ f 31 = vN ∧ f 32 = I ((a.Nodes.length : Int)) ∧ f 33 = I ((k : Int)) ∧ f 44 = u41n1 ∧ f 45 = I ((((nth a.Nodes k).Kids).length : Int)) ∧ f 46 = I ((j : Int) + 1) ∧ H78 = H) ?_ ?_
  ·refine wpF_region ?_
   refine lq rfl (q_add rfl y46 rfl (by constructor <;> omega)) ?_
   refine lm (v := I ((j : Int) + 1)) rfl rfl rfl ?_
   exact ⟨y2, y3, y5, y7, y9, y10, y11, y12, y13, y31, y32, y33, y44, y45, rfl, rfl⟩
  clear y10 y11 y12 y13 y2 y3 y31 y32 y33 y44 y45 y46 y5 y7 y9
  rintro f82 _ ⟨y2, y3, y5, y7, y9, y10, y11, y12, y13, y31, y32, y33, y44, y45, y46, rfl⟩
  refine ⟨_, ?_, j + 1, v69, rfl, (by omega), y2, y3, y5, y7, y9, y10, y11, y12, y13, y31, y32, y33, y44, y45, (Eq.trans y46 (congrArg I (by omega))), hS78⟩
  omega
 obtain rfl : j = (nth a.Nodes k).Kids.length := by omega
 have hS56 : St H0 NoB (SZ S H0) [rowE 69 vK (kidV (valTo a w k) (nth a.Nodes k).Kids : List Val), bE g43 #[I ((nth a.Nodes k).Op), u41n1, I ((nth a.Nodes k).N), I ((nth a.Nodes k).D), SB ((nth a.Nodes k).Name)] 37, rdE u41n1 ((nth a.Nodes k).Kids), rowE 69 vo ((valTo a w k) : List Val), bE g28 #[I (((sortsF a)).1), I (((sortsF a)).2)] 28, rdE r24 (sorts a), bE g14 #[I (((meanF a w)).1), I (((meanF a w)).2)] 28, bE g7 #[I (0), I (0)] 28, bE g4 #[vM] 47, bE g1 #[vD, vN, vH] 26, rdE vD a.Decls, rdE vN a.Nodes, rdE vH a.Hold, rdE vM w.Means] H53 := by have h__ := hS53; rw [List.take_length] at h__; exact h__
 have hvok := vOk hM (k := k) (by omega)
 refine wpF_exit ?_
 refine atX_here ?_
 refine sc (fun f H => ∃ (r83o9 : Value), ∃ (g83o13 : Nat), (In64 (valueV a w (nth a.Nodes k) (kidV (valTo a w k) (nth a.Nodes k).Kids) (bitsTo (sorts a) (nth (sorts a) k) (nth a.Nodes k).Kids (nth a.Nodes k).Kids.length)).1.VNum) ∧ (In64 (valueV a w (nth a.Nodes k) (kidV (valTo a w k) (nth a.Nodes k).Kids) (bitsTo (sorts a) (nth (sorts a) k) (nth a.Nodes k).Kids (nth a.Nodes k).Kids.length)).1.VDen) ∧ (In64 (valueV a w (nth a.Nodes k) (kidV (valTo a w k) (nth a.Nodes k).Kids) (bitsTo (sorts a) (nth (sorts a) k) (nth a.Nodes k).Kids (nth a.Nodes k).Kids.length)).1.Rest) ∧ f 2 = PT g1 0 ∧ f 3 = PT g4 0 ∧ f 5 = PT g7 0 ∧ f 7 = r24 ∧ f 9 = vo ∧ f 10 = I ((k : Int)) ∧ f 16 = PT g83o13 0 ∧ f 17 = B ((valueV a w (nth a.Nodes k) (kidV (valTo a w k) (nth a.Nodes k).Kids) (bitsTo (sorts a) (nth (sorts a) k) (nth a.Nodes k).Kids (nth a.Nodes k).Kids.length)).2) ∧ f 31 = vN ∧ f 32 = I ((a.Nodes.length : Int)) ∧ f 33 = I ((k : Int)) ∧ St H0 NoB (SZ S H0) [bE g83o13 #[I ((valueV a w (nth a.Nodes k) (kidV (valTo a w k) (nth a.Nodes k).Kids) (bitsTo (sorts a) (nth (sorts a) k) (nth a.Nodes k).Kids (nth a.Nodes k).Kids.length)).1.VNum), I ((valueV a w (nth a.Nodes k) (kidV (valTo a w k) (nth a.Nodes k).Kids) (bitsTo (sorts a) (nth (sorts a) k) (nth a.Nodes k).Kids (nth a.Nodes k).Kids.length)).1.VDen), r83o9, I ((valueV a w (nth a.Nodes k) (kidV (valTo a w k) (nth a.Nodes k).Kids) (bitsTo (sorts a) (nth (sorts a) k) (nth a.Nodes k).Kids (nth a.Nodes k).Kids.length)).1.Rest)] 69, rdE r83o9 ((valueV a w (nth a.Nodes k) (kidV (valTo a w k) (nth a.Nodes k).Kids) (bitsTo (sorts a) (nth (sorts a) k) (nth a.Nodes k).Kids (nth a.Nodes k).Kids.length)).1.Cells), bE g43 #[I ((nth a.Nodes k).Op), u41n1, I ((nth a.Nodes k).N), I ((nth a.Nodes k).D), SB ((nth a.Nodes k).Name)] 37, rdE u41n1 ((nth a.Nodes k).Kids), rowE 69 vo ((valTo a w k) : List Val), bE g28 #[I (((sortsF a)).1), I (((sortsF a)).2)] 28, rdE r24 (sorts a), bE g14 #[I (((meanF a w)).1), I (((meanF a w)).2)] 28, bE g7 #[I (0), I (0)] 28, bE g4 #[vM] 47, bE g1 #[vD, vN, vH] 26, rdE vD a.Decls, rdE vN a.Nodes, rdE vH a.Hold, rdE vM w.Means] H) ?_ ?_
 ·refine wpF_drawn [none, none, none, none, none, none, none, none, none, none, none, none, none, none, some 0, none] [[], [], [], [], [], [], [], [], [], [], [], [], [0], [], [], []] (fun l b => match l with | 0 => b ≠ g43 ∧ b ≠ g28 ∧ b ≠ g14 ∧ b ≠ g7 ∧ b ≠ g4 ∧ b ≠ g1 | _ => False) (by kernel_rfl) (by kernel_rfl) ?_
  refine rq 0 (by kernel_rfl) rfl rfl (q_loadBlkA rfl y2 Try.isAgg26 Try.sizeOf26 rfl (hS56.blk 9 rfl) (labU_not [] rfl (fe))) ?_
  refine rq 1 (by kernel_rfl) rfl rfl (q_loadBlkA rfl y3 Try.isAgg47 Try.sizeOf47 rfl (hS56.blk 8 rfl) (labU_not [] rfl (fe))) ?_
  refine rq 2 (by kernel_rfl) rfl rfl (q_move (v := r24) rfl y7) ?_
  refine rq 3 (by kernel_rfl) rfl rfl (q_move (v := I ((k : Int))) rfl y10) ?_
  refine rq 4 (by kernel_rfl) rfl rfl (q_indexRd (k := k) rfl Try.underlying24 el_Int_3_MeanC5 rfl rfl (hS56.rdl 5 rfl) (by omega) (by omega)) ?_
  refine rq 5 (by kernel_rfl) rfl rfl (q_loadInt (k := k) rfl rfl el_Int_3_MeanC5 (hS56.rdl 5 rfl) (by omega) (labU_sub [] rfl (fe))) ?_
  refine rq 6 (by kernel_rfl) rfl rfl (q_loadBlkA rfl y11 Try.isAgg37 Try.sizeOf37 rfl (hS56.blk 1 rfl) (labU_not [] rfl (fe))) ?_
  refine rq 7 (by kernel_rfl) rfl rfl (q_move (v := vK) rfl y12) ?_
  refine rq 8 (by kernel_rfl) rfl rfl (q_move (v := I (bitsTo (sorts a) (nth (sorts a) k) (nth a.Nodes k).Kids (nth a.Nodes k).Kids.length)) rfl y13) ?_
  refine wpR_n [9, 13] (by kernel_rfl) ?_
  refine fa ?_ (fa ?_ fe)
  ·have hS83o9 : St H0 NoB (SZ S H0) [rdE vK (kidV (valTo a w k) (nth a.Nodes k).Kids), bE g43 #[I ((nth a.Nodes k).Op), u41n1, I ((nth a.Nodes k).N), I ((nth a.Nodes k).D), SB ((nth a.Nodes k).Name)] 37, rdE u41n1 ((nth a.Nodes k).Kids), rowE 69 vo ((valTo a w k) : List Val), bE g28 #[I (((sortsF a)).1), I (((sortsF a)).2)] 28, rdE r24 (sorts a), bE g14 #[I (((meanF a w)).1), I (((meanF a w)).2)] 28, bE g7 #[I (0), I (0)] 28, bE g4 #[vM] 47, bE g1 #[vD, vN, vH] 26, rdE vD a.Decls, rdE vN a.Nodes, rdE vH a.Hold, rdE vM w.Means] H53 := St.fin hS56
   refine exE rfl rfl ?_
   refine e_call rfl Try.call52 (arr6 (v0 := Vg #[vD, vN, vH]) (v1 := Vg #[vM]) (v2 := I (nth (sorts a) k)) (v3 := Vg #[I ((nth a.Nodes k).Op), u41n1, I ((nth a.Nodes k).N), I ((nth a.Nodes k).D), SB ((nth a.Nodes k).Name)]) (v4 := vK) (v5 := I (bitsTo (sorts a) (nth (sorts a) k) (nth a.Nodes k).Kids (nth a.Nodes k).Kids.length)) rfl rfl rfl rfl rfl rfl) (value_M vD vN vH vM u41n1 vK a w (nth (sorts a) k) (nth a.Nodes k) (kidV (valTo a w k) (nth a.Nodes k).Kids) (bitsTo (sorts a) (nth (sorts a) k) (nth a.Nodes k).Kids (nth a.Nodes k).Kids.length) (hS83o9.rdS 10 rfl) (hS83o9.rdS 11 rfl) (hS83o9.rdS 12 rfl) (hS83o9.rdS 13 rfl) (by first | assumption | exact bitP_in | exact wrap_in64 | (constructor <;> (dsimp only; omega)) | (constructor <;> omega)) (hS83o9.rdS 2 rfl) (by first | assumption | exact bitP_in | exact wrap_in64 | (constructor <;> (dsimp only; omega)) | (constructor <;> omega)) (by first | assumption | exact bitP_in | exact wrap_in64 | (constructor <;> (dsimp only; omega)) | (constructor <;> omega)) (by first | assumption | exact Nat.zero_le _) (hS83o9.rdS 0 rfl) hvok ) ?_
   rintro _ H83o9 ⟨hxx, r83o9, rfl, hrr83o9, h6r83o9a, h6r83o9b, h6r83o9c⟩
   have hS83o9x2 := hS83o9.res hxx hrr83o9
   refine ⟨Ext.mono hxx (fun _ h => h.elim), ?_⟩
   refine rq 10 (by kernel_rfl) rfl rfl (q_move (v := Value.tuple #[Vg #[I ((valueV a w (nth a.Nodes k) (kidV (valTo a w k) (nth a.Nodes k).Kids) (bitsTo (sorts a) (nth (sorts a) k) (nth a.Nodes k).Kids (nth a.Nodes k).Kids.length)).1.VNum), I ((valueV a w (nth a.Nodes k) (kidV (valTo a w k) (nth a.Nodes k).Kids) (bitsTo (sorts a) (nth (sorts a) k) (nth a.Nodes k).Kids (nth a.Nodes k).Kids.length)).1.VDen), r83o9, I ((valueV a w (nth a.Nodes k) (kidV (valTo a w k) (nth a.Nodes k).Kids) (bitsTo (sorts a) (nth (sorts a) k) (nth a.Nodes k).Kids (nth a.Nodes k).Kids.length)).1.Rest)], B ((valueV a w (nth a.Nodes k) (kidV (valTo a w k) (nth a.Nodes k).Kids) (bitsTo (sorts a) (nth (sorts a) k) (nth a.Nodes k).Kids (nth a.Nodes k).Kids.length)).2)]) rfl rfl) ?_
   refine rq 11 (by kernel_rfl) rfl rfl (q_extract (vs := #[Vg #[I ((valueV a w (nth a.Nodes k) (kidV (valTo a w k) (nth a.Nodes k).Kids) (bitsTo (sorts a) (nth (sorts a) k) (nth a.Nodes k).Kids (nth a.Nodes k).Kids.length)).1.VNum), I ((valueV a w (nth a.Nodes k) (kidV (valTo a w k) (nth a.Nodes k).Kids) (bitsTo (sorts a) (nth (sorts a) k) (nth a.Nodes k).Kids (nth a.Nodes k).Kids.length)).1.VDen), r83o9, I ((valueV a w (nth a.Nodes k) (kidV (valTo a w k) (nth a.Nodes k).Kids) (bitsTo (sorts a) (nth (sorts a) k) (nth a.Nodes k).Kids (nth a.Nodes k).Kids.length)).1.Rest)], B ((valueV a w (nth a.Nodes k) (kidV (valTo a w k) (nth a.Nodes k).Kids) (bitsTo (sorts a) (nth (sorts a) k) (nth a.Nodes k).Kids (nth a.Nodes k).Kids.length)).2)]) (v := Vg #[I ((valueV a w (nth a.Nodes k) (kidV (valTo a w k) (nth a.Nodes k).Kids) (bitsTo (sorts a) (nth (sorts a) k) (nth a.Nodes k).Kids (nth a.Nodes k).Kids.length)).1.VNum), I ((valueV a w (nth a.Nodes k) (kidV (valTo a w k) (nth a.Nodes k).Kids) (bitsTo (sorts a) (nth (sorts a) k) (nth a.Nodes k).Kids (nth a.Nodes k).Kids.length)).1.VDen), r83o9, I ((valueV a w (nth a.Nodes k) (kidV (valTo a w k) (nth a.Nodes k).Kids) (bitsTo (sorts a) (nth (sorts a) k) (nth a.Nodes k).Kids (nth a.Nodes k).Kids.length)).1.Rest)]) rfl rfl rfl) ?_
   refine rq 12 (by kernel_rfl) rfl rfl (q_extract (vs := #[Vg #[I ((valueV a w (nth a.Nodes k) (kidV (valTo a w k) (nth a.Nodes k).Kids) (bitsTo (sorts a) (nth (sorts a) k) (nth a.Nodes k).Kids (nth a.Nodes k).Kids.length)).1.VNum), I ((valueV a w (nth a.Nodes k) (kidV (valTo a w k) (nth a.Nodes k).Kids) (bitsTo (sorts a) (nth (sorts a) k) (nth a.Nodes k).Kids (nth a.Nodes k).Kids.length)).1.VDen), r83o9, I ((valueV a w (nth a.Nodes k) (kidV (valTo a w k) (nth a.Nodes k).Kids) (bitsTo (sorts a) (nth (sorts a) k) (nth a.Nodes k).Kids (nth a.Nodes k).Kids.length)).1.Rest)], B ((valueV a w (nth a.Nodes k) (kidV (valTo a w k) (nth a.Nodes k).Kids) (bitsTo (sorts a) (nth (sorts a) k) (nth a.Nodes k).Kids (nth a.Nodes k).Kids.length)).2)]) (v := B ((valueV a w (nth a.Nodes k) (kidV (valTo a w k) (nth a.Nodes k).Kids) (bitsTo (sorts a) (nth (sorts a) k) (nth a.Nodes k).Kids (nth a.Nodes k).Kids.length)).2)) rfl rfl rfl) ?_
   refine wpR_n [13] (by kernel_rfl) ?_
   refine fa ?_ fe
   refine exE rfl rfl ?_
   refine e_alloc rfl Try.zeroValue69 hS83o9x2 (fun g83o13 H83o13 hS83o13 hxx => ?_)
   refine ⟨Ext.mono hxx (fun _ h => h.elim), ?_⟩
   refine wpR_n [14] (by kernel_rfl) ?_
   refine fa ?_ fe
   refine exE rfl rfl ?_
   refine e_storeBlkA (cs' := #[I ((valueV a w (nth a.Nodes k) (kidV (valTo a w k) (nth a.Nodes k).Kids) (bitsTo (sorts a) (nth (sorts a) k) (nth a.Nodes k).Kids (nth a.Nodes k).Kids.length)).1.VNum), I ((valueV a w (nth a.Nodes k) (kidV (valTo a w k) (nth a.Nodes k).Kids) (bitsTo (sorts a) (nth (sorts a) k) (nth a.Nodes k).Kids (nth a.Nodes k).Kids.length)).1.VDen), r83o9, I ((valueV a w (nth a.Nodes k) (kidV (valTo a w k) (nth a.Nodes k).Kids) (bitsTo (sorts a) (nth (sorts a) k) (nth a.Nodes k).Kids (nth a.Nodes k).Kids.length)).1.Rest)]) rfl rfl rfl Try.sizeOf69 rfl rfl (fa rfl (fa rfl (fa ((oneCell_rdL (hS83o13.rdl 1 rfl))) (fa rfl fe)))) hS83o13 (fun H83o14 hS83o14 hxx => ?_)
   refine ⟨Ext.mono hxx (labS_of 0 rfl (fun b hb => ⟨fun e => hS83o14.dis 0 3 (by decide) rfl rfl _ hb e, fun e => hS83o14.dis 0 6 (by decide) rfl rfl _ hb e, fun e => hS83o14.dis 0 8 (by decide) rfl rfl _ hb e, fun e => hS83o14.dis 0 9 (by decide) rfl rfl _ hb e, fun e => hS83o14.dis 0 10 (by decide) rfl rfl _ hb e, fun e => hS83o14.dis 0 11 (by decide) rfl rfl _ hb e⟩)), ?_⟩
   refine rq 15 (by kernel_rfl) rfl rfl (q_assign (v := B ((valueV a w (nth a.Nodes k) (kidV (valTo a w k) (nth a.Nodes k).Kids) (bitsTo (sorts a) (nth (sorts a) k) (nth a.Nodes k).Kids (nth a.Nodes k).Kids.length)).2)) rfl rfl) ?_
   refine wpR_end (by kernel_rfl) ?_
   exact ⟨r83o9, g83o13, h6r83o9a, h6r83o9b, h6r83o9c, y2, y3, y5, y7, y9, y10, rfl, rfl, y31, y32, y33, (hS83o14.drop (sk (sk (sn (sk (sk (sk (sk (sk (sk (sk (sk (sk (sk (sk (sk (sk (List.Sublist.slnil))))))))))))))))))⟩
  ·refine exE rfl rfl ?_
   refine e_alloc rfl Try.zeroValue69 hS56 (fun g83o13 H83o13 hS83o13 hxx => ?_)
   refine ⟨Ext.mono hxx (fun _ h => h.elim), ?_⟩
   refine wpR_n [9] (by kernel_rfl) ?_
   refine fa ?_ fe
   have hS83o9 : St H0 NoB (SZ S H0) [rdE vK (kidV (valTo a w k) (nth a.Nodes k).Kids), bE g83o13 #[I (0), I (0), nS, I (0)] 69, bE g43 #[I ((nth a.Nodes k).Op), u41n1, I ((nth a.Nodes k).N), I ((nth a.Nodes k).D), SB ((nth a.Nodes k).Name)] 37, rdE u41n1 ((nth a.Nodes k).Kids), rowE 69 vo ((valTo a w k) : List Val), bE g28 #[I (((sortsF a)).1), I (((sortsF a)).2)] 28, rdE r24 (sorts a), bE g14 #[I (((meanF a w)).1), I (((meanF a w)).2)] 28, bE g7 #[I (0), I (0)] 28, bE g4 #[vM] 47, bE g1 #[vD, vN, vH] 26, rdE vD a.Decls, rdE vN a.Nodes, rdE vH a.Hold, rdE vM w.Means] H83o13 := St.fin (hS83o13.front 1 rfl)
   refine exE rfl rfl ?_
   refine e_call rfl Try.call52 (arr6 (v0 := Vg #[vD, vN, vH]) (v1 := Vg #[vM]) (v2 := I (nth (sorts a) k)) (v3 := Vg #[I ((nth a.Nodes k).Op), u41n1, I ((nth a.Nodes k).N), I ((nth a.Nodes k).D), SB ((nth a.Nodes k).Name)]) (v4 := vK) (v5 := I (bitsTo (sorts a) (nth (sorts a) k) (nth a.Nodes k).Kids (nth a.Nodes k).Kids.length)) rfl rfl rfl rfl rfl rfl) (value_M vD vN vH vM u41n1 vK a w (nth (sorts a) k) (nth a.Nodes k) (kidV (valTo a w k) (nth a.Nodes k).Kids) (bitsTo (sorts a) (nth (sorts a) k) (nth a.Nodes k).Kids (nth a.Nodes k).Kids.length) (hS83o9.rdS 11 rfl) (hS83o9.rdS 12 rfl) (hS83o9.rdS 13 rfl) (hS83o9.rdS 14 rfl) (by first | assumption | exact bitP_in | exact wrap_in64 | (constructor <;> (dsimp only; omega)) | (constructor <;> omega)) (hS83o9.rdS 3 rfl) (by first | assumption | exact bitP_in | exact wrap_in64 | (constructor <;> (dsimp only; omega)) | (constructor <;> omega)) (by first | assumption | exact bitP_in | exact wrap_in64 | (constructor <;> (dsimp only; omega)) | (constructor <;> omega)) (by first | assumption | exact Nat.zero_le _) (hS83o9.rdS 0 rfl) hvok ) ?_
   rintro _ H83o9 ⟨hxx, r83o9, rfl, hrr83o9, h6r83o9a, h6r83o9b, h6r83o9c⟩
   have hS83o9x2 := hS83o9.res hxx hrr83o9
   refine ⟨Ext.mono hxx (fun _ h => h.elim), ?_⟩
   refine rq 10 (by kernel_rfl) rfl rfl (q_move (v := Value.tuple #[Vg #[I ((valueV a w (nth a.Nodes k) (kidV (valTo a w k) (nth a.Nodes k).Kids) (bitsTo (sorts a) (nth (sorts a) k) (nth a.Nodes k).Kids (nth a.Nodes k).Kids.length)).1.VNum), I ((valueV a w (nth a.Nodes k) (kidV (valTo a w k) (nth a.Nodes k).Kids) (bitsTo (sorts a) (nth (sorts a) k) (nth a.Nodes k).Kids (nth a.Nodes k).Kids.length)).1.VDen), r83o9, I ((valueV a w (nth a.Nodes k) (kidV (valTo a w k) (nth a.Nodes k).Kids) (bitsTo (sorts a) (nth (sorts a) k) (nth a.Nodes k).Kids (nth a.Nodes k).Kids.length)).1.Rest)], B ((valueV a w (nth a.Nodes k) (kidV (valTo a w k) (nth a.Nodes k).Kids) (bitsTo (sorts a) (nth (sorts a) k) (nth a.Nodes k).Kids (nth a.Nodes k).Kids.length)).2)]) rfl rfl) ?_
   refine rq 11 (by kernel_rfl) rfl rfl (q_extract (vs := #[Vg #[I ((valueV a w (nth a.Nodes k) (kidV (valTo a w k) (nth a.Nodes k).Kids) (bitsTo (sorts a) (nth (sorts a) k) (nth a.Nodes k).Kids (nth a.Nodes k).Kids.length)).1.VNum), I ((valueV a w (nth a.Nodes k) (kidV (valTo a w k) (nth a.Nodes k).Kids) (bitsTo (sorts a) (nth (sorts a) k) (nth a.Nodes k).Kids (nth a.Nodes k).Kids.length)).1.VDen), r83o9, I ((valueV a w (nth a.Nodes k) (kidV (valTo a w k) (nth a.Nodes k).Kids) (bitsTo (sorts a) (nth (sorts a) k) (nth a.Nodes k).Kids (nth a.Nodes k).Kids.length)).1.Rest)], B ((valueV a w (nth a.Nodes k) (kidV (valTo a w k) (nth a.Nodes k).Kids) (bitsTo (sorts a) (nth (sorts a) k) (nth a.Nodes k).Kids (nth a.Nodes k).Kids.length)).2)]) (v := Vg #[I ((valueV a w (nth a.Nodes k) (kidV (valTo a w k) (nth a.Nodes k).Kids) (bitsTo (sorts a) (nth (sorts a) k) (nth a.Nodes k).Kids (nth a.Nodes k).Kids.length)).1.VNum), I ((valueV a w (nth a.Nodes k) (kidV (valTo a w k) (nth a.Nodes k).Kids) (bitsTo (sorts a) (nth (sorts a) k) (nth a.Nodes k).Kids (nth a.Nodes k).Kids.length)).1.VDen), r83o9, I ((valueV a w (nth a.Nodes k) (kidV (valTo a w k) (nth a.Nodes k).Kids) (bitsTo (sorts a) (nth (sorts a) k) (nth a.Nodes k).Kids (nth a.Nodes k).Kids.length)).1.Rest)]) rfl rfl rfl) ?_
   refine rq 12 (by kernel_rfl) rfl rfl (q_extract (vs := #[Vg #[I ((valueV a w (nth a.Nodes k) (kidV (valTo a w k) (nth a.Nodes k).Kids) (bitsTo (sorts a) (nth (sorts a) k) (nth a.Nodes k).Kids (nth a.Nodes k).Kids.length)).1.VNum), I ((valueV a w (nth a.Nodes k) (kidV (valTo a w k) (nth a.Nodes k).Kids) (bitsTo (sorts a) (nth (sorts a) k) (nth a.Nodes k).Kids (nth a.Nodes k).Kids.length)).1.VDen), r83o9, I ((valueV a w (nth a.Nodes k) (kidV (valTo a w k) (nth a.Nodes k).Kids) (bitsTo (sorts a) (nth (sorts a) k) (nth a.Nodes k).Kids (nth a.Nodes k).Kids.length)).1.Rest)], B ((valueV a w (nth a.Nodes k) (kidV (valTo a w k) (nth a.Nodes k).Kids) (bitsTo (sorts a) (nth (sorts a) k) (nth a.Nodes k).Kids (nth a.Nodes k).Kids.length)).2)]) (v := B ((valueV a w (nth a.Nodes k) (kidV (valTo a w k) (nth a.Nodes k).Kids) (bitsTo (sorts a) (nth (sorts a) k) (nth a.Nodes k).Kids (nth a.Nodes k).Kids.length)).2)) rfl rfl rfl) ?_
   refine wpR_n [14] (by kernel_rfl) ?_
   refine fa ?_ fe
   refine exE rfl rfl ?_
   refine e_storeBlkA (cs' := #[I ((valueV a w (nth a.Nodes k) (kidV (valTo a w k) (nth a.Nodes k).Kids) (bitsTo (sorts a) (nth (sorts a) k) (nth a.Nodes k).Kids (nth a.Nodes k).Kids.length)).1.VNum), I ((valueV a w (nth a.Nodes k) (kidV (valTo a w k) (nth a.Nodes k).Kids) (bitsTo (sorts a) (nth (sorts a) k) (nth a.Nodes k).Kids (nth a.Nodes k).Kids.length)).1.VDen), r83o9, I ((valueV a w (nth a.Nodes k) (kidV (valTo a w k) (nth a.Nodes k).Kids) (bitsTo (sorts a) (nth (sorts a) k) (nth a.Nodes k).Kids (nth a.Nodes k).Kids.length)).1.Rest)]) rfl rfl rfl Try.sizeOf69 rfl rfl (fa rfl (fa rfl (fa ((oneCell_rdL (hS83o9x2.rdl 0 rfl))) (fa rfl fe)))) (hS83o9x2.front 2 rfl) (fun H83o14 hS83o14 hxx => ?_)
   refine ⟨Ext.mono hxx (labS_of 0 rfl (fun b hb => ⟨fun e => hS83o14.dis 0 3 (by decide) rfl rfl _ hb e, fun e => hS83o14.dis 0 6 (by decide) rfl rfl _ hb e, fun e => hS83o14.dis 0 8 (by decide) rfl rfl _ hb e, fun e => hS83o14.dis 0 9 (by decide) rfl rfl _ hb e, fun e => hS83o14.dis 0 10 (by decide) rfl rfl _ hb e, fun e => hS83o14.dis 0 11 (by decide) rfl rfl _ hb e⟩)), ?_⟩
   refine rq 15 (by kernel_rfl) rfl rfl (q_assign (v := B ((valueV a w (nth a.Nodes k) (kidV (valTo a w k) (nth a.Nodes k).Kids) (bitsTo (sorts a) (nth (sorts a) k) (nth a.Nodes k).Kids (nth a.Nodes k).Kids.length)).2)) rfl rfl) ?_
   refine wpR_end (by kernel_rfl) ?_
   exact ⟨r83o9, g83o13, h6r83o9a, h6r83o9b, h6r83o9c, y2, y3, y5, y7, y9, y10, rfl, rfl, y31, y32, y33, (hS83o14.drop (sk (sk (sn (sk (sk (sk (sk (sk (sk (sk (sk (sk (sk (sk (sk (sk (List.Sublist.slnil))))))))))))))))))⟩
 clear y10 y11 y12 y13 y2 y3 y31 y32 y33 y44 y45 y46 y47 y5 y7 y9
 rintro f84 H84 ⟨r83o9, g83o13, h6r83o9a, h6r83o9b, h6r83o9c, y2, y3, y5, y7, y9, y10, y16, y17, y31, y32, y33, hS84⟩
 refine wpF_seq ?_
 refine fcr (fun f H => f 2 = PT g1 0 ∧ f 3 = PT g4 0 ∧ f 5 = PT g7 0 ∧ f 7 = r24 ∧ f 9 = vo ∧ f 10 = I ((k : Int)) ∧ f 16 = PT g83o13 0 ∧ f 31 = vN ∧ f 32 = I ((a.Nodes.length : Int)) ∧ f 33 = I ((k : Int)) ∧ f 83 = B (!((valueV a w (nth a.Nodes k) (kidV (valTo a w k) (nth a.Nodes k).Kids) (bitsTo (sorts a) (nth (sorts a) k) (nth a.Nodes k).Kids (nth a.Nodes k).Kids.length)).2)) ∧ H84 = H) ?_ ?_
 ·refine lm (v := B ((valueV a w (nth a.Nodes k) (kidV (valTo a w k) (nth a.Nodes k).Kids) (bitsTo (sorts a) (nth (sorts a) k) (nth a.Nodes k).Kids (nth a.Nodes k).Kids.length)).2)) rfl rfl y17 ?_
  refine lq rfl (q_not rfl rfl) ?_
  exact ⟨y2, y3, y5, y7, y9, y10, y16, y31, y32, y33, rfl, rfl⟩
 clear y10 y16 y17 y2 y3 y31 y32 y33 y5 y7 y9
 rintro f85 _ ⟨y2, y3, y5, y7, y9, y10, y16, y31, y32, y33, y83, rfl⟩
 refine wpF_cond y83 (fun h83 => ?t101) (fun h83 => ?e101)
 case t101 =>
  refine fcr (fun f H => f 4 = nS ∧ f 5 = PT g7 0 ∧ St H0 NoB (SZ S H0) [bE g7 #[I (10), I ((k : Int))] 28, bE g83o13 #[I ((valueV a w (nth a.Nodes k) (kidV (valTo a w k) (nth a.Nodes k).Kids) (bitsTo (sorts a) (nth (sorts a) k) (nth a.Nodes k).Kids (nth a.Nodes k).Kids.length)).1.VNum), I ((valueV a w (nth a.Nodes k) (kidV (valTo a w k) (nth a.Nodes k).Kids) (bitsTo (sorts a) (nth (sorts a) k) (nth a.Nodes k).Kids (nth a.Nodes k).Kids.length)).1.VDen), r83o9, I ((valueV a w (nth a.Nodes k) (kidV (valTo a w k) (nth a.Nodes k).Kids) (bitsTo (sorts a) (nth (sorts a) k) (nth a.Nodes k).Kids (nth a.Nodes k).Kids.length)).1.Rest)] 69, rdE r83o9 ((valueV a w (nth a.Nodes k) (kidV (valTo a w k) (nth a.Nodes k).Kids) (bitsTo (sorts a) (nth (sorts a) k) (nth a.Nodes k).Kids (nth a.Nodes k).Kids.length)).1.Cells), bE g43 #[I ((nth a.Nodes k).Op), u41n1, I ((nth a.Nodes k).N), I ((nth a.Nodes k).D), SB ((nth a.Nodes k).Name)] 37, rdE u41n1 ((nth a.Nodes k).Kids), rowE 69 vo ((valTo a w k) : List Val), bE g28 #[I (((sortsF a)).1), I (((sortsF a)).2)] 28, bE g14 #[I (((meanF a w)).1), I (((meanF a w)).2)] 28, bE g4 #[vM] 47, bE g1 #[vD, vN, vH] 26, rdE vD a.Decls, rdE vN a.Nodes, rdE vH a.Hold, rdE vM w.Means] H) ?_ ?_
  ·refine lm (v := I ((k : Int))) rfl rfl y10 ?_
   refine lq rfl (q_build (v := Vg #[I (10), I ((k : Int))]) rfl (par2 (v0 := I (10)) (v1 := I ((k : Int))) rfl rfl) (fun w__ => by kernel_rfl)) ?_
   refine la (v := nS) rfl rfl rfl ?_
   refine lo rfl ?_
   refine e_storeBlkA (cs' := #[I (10), I ((k : Int))]) rfl y5 rfl Try.sizeOf28 rfl rfl (fa rfl (fa rfl fe)) (hS84.front 8 rfl) (fun H87 hS88 hxx => ?_)
   exact ⟨rfl, y5, (hS88.drop (sk (sk (sk (sk (sk (sk (sk (sn (sk (sk (sk (sk (sk (sk (sk (List.Sublist.slnil)))))))))))))))))⟩
  clear y10 y16 y2 y3 y31 y32 y33 y5 y7 y83 y9
  rintro f89 H89 ⟨y4, y5, hS89⟩
  refine wpF_ret ?_
  refine ⟨_, resT y4 (resC y5 (loadV_blkA Try.isAgg28 Try.sizeOf28 rfl (hS89.blk 0 rfl)) (resN)), hS89.frame, ?_⟩
  show ∃ w0_, (Value.tuple #[nS, Vg #[I (10), I ((k : Int))]]) = Value.tuple #[w0_, Vg #[I ((valF a w)).1, I ((valF a w)).2]] ∧ Rd (SZ S H0) H89 w0_ (valL a w)
  have hq_ : valF a w = _ := valF_at h23 (by omega) hp (bnot_t h83)
  exact ⟨_, by rw [hq_], by rw [valL_bad (by rw [hq_]; exact (by decide : (10 : Int) ≠ 0))]; exact rdNil⟩
 refine wpF_skip ?_
 refine wpF_cut (fun f H => ∃ (v95 : Value), f 2 = PT g1 0 ∧ f 3 = PT g4 0 ∧ f 5 = PT g7 0 ∧ f 7 = r24 ∧ f 9 = v95 ∧ f 31 = vN ∧ f 32 = I ((a.Nodes.length : Int)) ∧ f 33 = I ((k : Int)) ∧ St H0 NoB (SZ S H0) [rowE 69 v95 (valTo a w (k + 1) : List Val), bE g83o13 #[I ((valueV a w (nth a.Nodes k) (kidV (valTo a w k) (nth a.Nodes k).Kids) (bitsTo (sorts a) (nth (sorts a) k) (nth a.Nodes k).Kids (nth a.Nodes k).Kids.length)).1.VNum), I ((valueV a w (nth a.Nodes k) (kidV (valTo a w k) (nth a.Nodes k).Kids) (bitsTo (sorts a) (nth (sorts a) k) (nth a.Nodes k).Kids (nth a.Nodes k).Kids.length)).1.VDen), r83o9, I ((valueV a w (nth a.Nodes k) (kidV (valTo a w k) (nth a.Nodes k).Kids) (bitsTo (sorts a) (nth (sorts a) k) (nth a.Nodes k).Kids (nth a.Nodes k).Kids.length)).1.Rest)] 69, rdE r83o9 ((valueV a w (nth a.Nodes k) (kidV (valTo a w k) (nth a.Nodes k).Kids) (bitsTo (sorts a) (nth (sorts a) k) (nth a.Nodes k).Kids (nth a.Nodes k).Kids.length)).1.Cells), bE g43 #[I ((nth a.Nodes k).Op), u41n1, I ((nth a.Nodes k).N), I ((nth a.Nodes k).D), SB ((nth a.Nodes k).Name)] 37, rdE u41n1 ((nth a.Nodes k).Kids), bE g28 #[I (((sortsF a)).1), I (((sortsF a)).2)] 28, rdE r24 (sorts a), bE g14 #[I (((meanF a w)).1), I (((meanF a w)).2)] 28, bE g7 #[I (0), I (0)] 28, bE g4 #[vM] 47, bE g1 #[vD, vN, vH] 26, rdE vD a.Decls, rdE vN a.Nodes, rdE vH a.Hold, rdE vM w.Means] H) ?_ ?_
 ·refine wpF_region ?_
  refine lm (v := vo) rfl rfl y9 ?_
  refine lq rfl (q_loadBlkA rfl y16 Try.isAgg69 Try.sizeOf69 rfl (hS84.blk 0 rfl) (fun h => h)) ?_
  refine lo rfl ?_
  refine e_buildSlice (vs := [Vg #[I ((valueV a w (nth a.Nodes k) (kidV (valTo a w k) (nth a.Nodes k).Kids) (bitsTo (sorts a) (nth (sorts a) k) (nth a.Nodes k).Kids (nth a.Nodes k).Kids.length)).1.VNum), I ((valueV a w (nth a.Nodes k) (kidV (valTo a w k) (nth a.Nodes k).Kids) (bitsTo (sorts a) (nth (sorts a) k) (nth a.Nodes k).Kids (nth a.Nodes k).Kids.length)).1.VDen), r83o9, I ((valueV a w (nth a.Nodes k) (kidV (valTo a w k) (nth a.Nodes k).Kids) (bitsTo (sorts a) (nth (sorts a) k) (nth a.Nodes k).Kids (nth a.Nodes k).Kids.length)).1.Rest)]]) (xs := ([(valueV a w (nth a.Nodes k) (kidV (valTo a w k) (nth a.Nodes k).Kids) (bitsTo (sorts a) (nth (sorts a) k) (nth a.Nodes k).Kids (nth a.Nodes k).Kids.length)).1] : List Val)) rfl Try.underlying80 Try.zeroValue69 rfl Try.sizeOf69 (par1 (v0 := Vg #[I ((valueV a w (nth a.Nodes k) (kidV (valTo a w k) (nth a.Nodes k).Kids) (bitsTo (sorts a) (nth (sorts a) k) (nth a.Nodes k).Kids (nth a.Nodes k).Kids.length)).1.VNum), I ((valueV a w (nth a.Nodes k) (kidV (valTo a w k) (nth a.Nodes k).Kids) (bitsTo (sorts a) (nth (sorts a) k) (nth a.Nodes k).Kids (nth a.Nodes k).Kids.length)).1.VDen), r83o9, I ((valueV a w (nth a.Nodes k) (kidV (valTo a w k) (nth a.Nodes k).Kids) (bitsTo (sorts a) (nth (sorts a) k) (nth a.Nodes k).Kids (nth a.Nodes k).Kids.length)).1.Rest)]) rfl) rfl hS84 (RdVs.cons (Rd.val.2 ⟨_, rfl, (by first | assumption | (constructor <;> (try dsimp only) <;> omega)), (by first | assumption | (constructor <;> (try dsimp only) <;> omega)), (hS84.rdS 1 rfl), (by first | assumption | (constructor <;> (try dsimp only) <;> omega))⟩) (RdVs.nil)) (by decide) (by decide) (fun v90 H91 hS92 hxx hvv90 => ?_)
  have hS93 : St H0 NoB (SZ S H0) [rdE v90 ([(valueV a w (nth a.Nodes k) (kidV (valTo a w k) (nth a.Nodes k).Kids) (bitsTo (sorts a) (nth (sorts a) k) (nth a.Nodes k).Kids (nth a.Nodes k).Kids.length)).1] : List Val), bE g83o13 #[I ((valueV a w (nth a.Nodes k) (kidV (valTo a w k) (nth a.Nodes k).Kids) (bitsTo (sorts a) (nth (sorts a) k) (nth a.Nodes k).Kids (nth a.Nodes k).Kids.length)).1.VNum), I ((valueV a w (nth a.Nodes k) (kidV (valTo a w k) (nth a.Nodes k).Kids) (bitsTo (sorts a) (nth (sorts a) k) (nth a.Nodes k).Kids (nth a.Nodes k).Kids.length)).1.VDen), r83o9, I ((valueV a w (nth a.Nodes k) (kidV (valTo a w k) (nth a.Nodes k).Kids) (bitsTo (sorts a) (nth (sorts a) k) (nth a.Nodes k).Kids (nth a.Nodes k).Kids.length)).1.Rest)] 69, rdE r83o9 ((valueV a w (nth a.Nodes k) (kidV (valTo a w k) (nth a.Nodes k).Kids) (bitsTo (sorts a) (nth (sorts a) k) (nth a.Nodes k).Kids (nth a.Nodes k).Kids.length)).1.Cells), bE g43 #[I ((nth a.Nodes k).Op), u41n1, I ((nth a.Nodes k).N), I ((nth a.Nodes k).D), SB ((nth a.Nodes k).Name)] 37, rdE u41n1 ((nth a.Nodes k).Kids), rowE 69 vo ((valTo a w k) : List Val), bE g28 #[I (((sortsF a)).1), I (((sortsF a)).2)] 28, rdE r24 (sorts a), bE g14 #[I (((meanF a w)).1), I (((meanF a w)).2)] 28, bE g7 #[I (0), I (0)] 28, bE g4 #[vM] 47, bE g1 #[vD, vN, vH] 26, rdE vD a.Decls, rdE vN a.Nodes, rdE vH a.Hold, rdE vM w.Means] H91 := St.fin hS92
  have hS94 := (hS93.front 5 rfl)
  refine lo rfl ?_
  refine e_append rfl Try.underlying80 em_Val_69_MeanC5 rfl rfl hS94 (hS94.rdS 1 rfl) (fun _ h => h) (by have hb : GoT.bytes Val = 48 := rfl; rw [hb]; simp only [List.length_append, List.length_cons, List.length_nil]; omega) (by decide) (fun v95 H96 hS97 hxx => ?_)
  have hS98 : St H0 NoB (SZ S H0) [rowE 69 v95 (valTo a w (k + 1) : List Val), rdE v90 ([(valueV a w (nth a.Nodes k) (kidV (valTo a w k) (nth a.Nodes k).Kids) (bitsTo (sorts a) (nth (sorts a) k) (nth a.Nodes k).Kids (nth a.Nodes k).Kids.length)).1] : List Val), bE g83o13 #[I ((valueV a w (nth a.Nodes k) (kidV (valTo a w k) (nth a.Nodes k).Kids) (bitsTo (sorts a) (nth (sorts a) k) (nth a.Nodes k).Kids (nth a.Nodes k).Kids.length)).1.VNum), I ((valueV a w (nth a.Nodes k) (kidV (valTo a w k) (nth a.Nodes k).Kids) (bitsTo (sorts a) (nth (sorts a) k) (nth a.Nodes k).Kids (nth a.Nodes k).Kids.length)).1.VDen), r83o9, I ((valueV a w (nth a.Nodes k) (kidV (valTo a w k) (nth a.Nodes k).Kids) (bitsTo (sorts a) (nth (sorts a) k) (nth a.Nodes k).Kids (nth a.Nodes k).Kids.length)).1.Rest)] 69, rdE r83o9 ((valueV a w (nth a.Nodes k) (kidV (valTo a w k) (nth a.Nodes k).Kids) (bitsTo (sorts a) (nth (sorts a) k) (nth a.Nodes k).Kids (nth a.Nodes k).Kids.length)).1.Cells), bE g43 #[I ((nth a.Nodes k).Op), u41n1, I ((nth a.Nodes k).N), I ((nth a.Nodes k).D), SB ((nth a.Nodes k).Name)] 37, rdE u41n1 ((nth a.Nodes k).Kids), bE g28 #[I (((sortsF a)).1), I (((sortsF a)).2)] 28, rdE r24 (sorts a), bE g14 #[I (((meanF a w)).1), I (((meanF a w)).2)] 28, bE g7 #[I (0), I (0)] 28, bE g4 #[vM] 47, bE g1 #[vD, vN, vH] 26, rdE vD a.Decls, rdE vN a.Nodes, rdE vH a.Hold, rdE vM w.Means] H96 := by rw [show (valTo a w (k + 1)) = ((valTo a w k) ++ ([(valueV a w (nth a.Nodes k) (kidV (valTo a w k) (nth a.Nodes k).Kids) (bitsTo (sorts a) (nth (sorts a) k) (nth a.Nodes k).Kids (nth a.Nodes k).Kids.length)).1])) from rfl]; exact hS97
  refine la (v := v95) rfl rfl rfl ?_
  exact ⟨v95, y2, y3, y5, y7, rfl, y31, y32, y33, (hS98.drop (sk (sn (sk (sk (sk (sk (sk (sk (sk (sk (sk (sk (sk (sk (sk (sk (List.Sublist.slnil))))))))))))))))))⟩
 clear y10 y16 y2 y3 y31 y32 y33 y5 y7 y83 y9
 rintro f99 H99 ⟨v95, y2, y3, y5, y7, y9, y31, y32, y33, hS99⟩
 refine wpF_cut (fun f H => f 2 = PT g1 0 ∧ f 3 = PT g4 0 ∧ f 5 = PT g7 0 ∧ f 7 = r24 ∧ f 9 = v95 ∧ f 31 = vN ∧ f 32 = I ((a.Nodes.length : Int)) ∧ f 33 = I ((k : Int) + 1) ∧ H99 = H) ?_ ?_
 ·refine wpF_region ?_
  refine lq rfl (q_add rfl y33 rfl (by constructor <;> omega)) ?_
  refine lm (v := I ((k : Int) + 1)) rfl rfl rfl ?_
  exact ⟨y2, y3, y5, y7, y9, y31, y32, rfl, rfl⟩
 clear y2 y3 y31 y32 y33 y5 y7 y9
 rintro f100 _ ⟨y2, y3, y5, y7, y9, y31, y32, y33, rfl⟩
 refine ⟨_, ?_, k + 1, v95, rfl, (by omega), (all_succ hp (bnot_f h83)), y2, y3, y5, y7, y9, y31, y32, (Eq.trans y33 (congrArg I (by omega))), (show St H0 NoB (SZ S H0) [rowE 69 v95 ((valTo a w (k + 1)) : List Val), bE g28 #[I (((sortsF a)).1), I (((sortsF a)).2)] 28, rdE r24 (sorts a), bE g14 #[I (((meanF a w)).1), I (((meanF a w)).2)] 28, bE g7 #[I (0), I (0)] 28, bE g4 #[vM] 47, bE g1 #[vD, vN, vH] 26, rdE vD a.Decls, rdE vN a.Nodes, rdE vH a.Hold, rdE vM w.Means] H99 from (hS99.drop (sk (sn (sn (sn (sn (sk (sk (sk (sk (sk (sk (sk (sk (sk (sk (List.Sublist.slnil))))))))))))))))))⟩
 omega
set_option maxRecDepth 100000 in
theorem Holds_1 {H0 : Heap} (x : Int) (gx : Nat) (vl : Value) (l : List Val) (hb : H0[gx]? = some (.cells #[vl] 80)) (rl : Rd NoB H0 vl l) (hx : 0 ≤ x ∧ x < l.length) : CallsH Try.prog 29 #[I (x), PT gx 0] H0 (fun rv_ H' => Ext NoB H0 H' ∧ rv_ = B (decide ((nth l x.toNat).VNum = 0))) := by
 have hS0 : St H0 NoB NoB [fixE gx (.cells #[vl] 80), rdE vl l] H0 := St.argFix (St.arg (St.start (fun _ h => h.elim)) (Bl0.nil) rl (fun _ h => h)) (Bl0.cons (Bl0.nil)) hb (fun h => h)
 refine callsH_of_wpF (args := [I (x), PT gx 0]) (rs := [.tmp 3]) Try.func29 rfl Try.ntmps29 Try.results29 (by kernel_rfl) (Nat.le_of_ble_eq_true rfl) ?_
 have y0 : argF [I (x), PT gx 0] 0 = I (x) := rfl
 have y1 : argF [I (x), PT gx 0] 1 = PT gx 0 := rfl
 generalize argF [I (x), PT gx 0] = f0 at *
 refine fcr (fun f H => f 0 = I (x) ∧ f 1 = PT gx 0 ∧ H0 = H) ?_ ?_
 ·refine la (v := B (false)) rfl rfl rfl ?_
  exact ⟨y0, y1, rfl⟩
 clear y0 y1
 rintro f1 _ ⟨y0, y1, rfl⟩
 refine fcr (fun f H => (In64 (nth l ((x).toNat)).VNum) ∧ f 3 = B (decide (((nth l ((x).toNat)).VNum) = 0)) ∧ H0 = H) ?_ ?_
 ·refine lq rfl (q_loadBlk rfl y1 Try.isAgg80 (hS0.fixd 0 rfl) rfl (fun h => h)) ?_
  refine lm (v := I (x)) rfl rfl y0 ?_
  refine lq rfl (q_indexRd (k := (x).toNat) rfl Try.underlying80 el_Val_69_MeanC5 rfl rfl (hS0.rdl 1 rfl) (by omega) (by omega)) ?_
  refine lq rfl (q_fieldE (k := (x).toNat) rfl Try.underlying69 rfl Try.sizeOf66 rfl rfl (hS0.rdl 1 rfl) (by omega)) ?_
  refine lq rfl (q_fieldF (k := (x).toNat) rfl Try.underlying66 rfl Try.sizeOf3 rfl rfl (hS0.rdl 1 rfl) (by omega)) ?_
  obtain ⟨_, hcu2, hFu2⟩ := (Rd.list.1 (hS0.rdS 1 rfl)).cellF ((x).toNat) (by omega)
  obtain ⟨u2n2, rfl, hu20, hu21, hu22, hu23⟩ := hcu2
  refine lq rfl (q_loadF rfl rfl (hFu2 0 _ Try.prog 3 _ rfl Try.isAgg3 (fun _ h => False.elim h))) ?_
  refine lq rfl (q_eql rfl rfl rfl) ?_
  refine la (v := B (decide (((nth l ((x).toNat)).VNum) = 0))) rfl rfl rfl ?_
  exact ⟨hu20, rfl, rfl⟩
 clear y0 y1
 rintro f3 _ ⟨hu20, y3, rfl⟩
 refine wpF_ret ?_
 refine ⟨_, resT y3 resN, hS0.frame, ?_⟩
 show (B (decide (((nth l ((x).toNat)).VNum) = 0))) = B (decide ((nth l x.toNat).VNum = 0))
 rfl
set_option maxHeartbeats 2000000 in
set_option maxRecDepth 100000 in
theorem Holds_M {H0 : Heap} (vD vN vH vM : Value) (a : Ask) (w : Wld) (rvD : Rd NoB H0 vD a.Decls) (rvN : Rd NoB H0 vN a.Nodes) (rvH : Rd NoB H0 vH a.Hold) (rvM : Rd NoB H0 vM w.Means) : CallsH Try.prog 16 #[Vg #[vD, vN, vH], Vg #[vM]] H0 (fun rv_ H' => Ext NoB H0 H' ∧ rv_ = Value.tuple #[B (holdsB a w), Vg #[I (valF a w).1, I (valF a w).2]]) := by
 have hsD : a.Decls.length * 48 ≤ 140737488355328 := (Rd.list.1 rvD).bound
 have hsN : a.Nodes.length * 64 ≤ 140737488355328 := (Rd.list.1 rvN).bound
 have hsM : w.Means.length * 72 ≤ 140737488355328 := (Rd.list.1 rvM).bound
 have hS0 : St H0 NoB NoB [rdE vD a.Decls, rdE vN a.Nodes, rdE vH a.Hold, rdE vM w.Means] H0 := St.arg (St.arg (St.arg (St.arg (St.start (fun _ h => h.elim)) (Bl0.nil) rvM (fun _ h => h)) (Bl0.cons (Bl0.nil)) rvH (fun _ h => h)) (Bl0.cons (Bl0.cons (Bl0.nil))) rvN (fun _ h => h)) (Bl0.cons (Bl0.cons (Bl0.cons (Bl0.nil)))) rvD (fun _ h => h)
 refine callsH_of_wpF (args := [Vg #[vD, vN, vH], Vg #[vM]]) (rs := [.tmp 4, .cell 5 28]) Try.func16 rfl Try.ntmps16 Try.results16 (by kernel_rfl) (Nat.le_of_ble_eq_true rfl) ?_
 have y0 : argF [Vg #[vD, vN, vH], Vg #[vM]] 0 = Vg #[vD, vN, vH] := rfl
 have y1 : argF [Vg #[vD, vN, vH], Vg #[vM]] 1 = Vg #[vM] := rfl
 generalize argF [Vg #[vD, vN, vH], Vg #[vM]] = f0 at *
 refine fcr (fun f H => ∃ (g1 : Nat), ∃ (g4 : Nat), ∃ (g7 : Nat), f 2 = PT g1 0 ∧ f 3 = PT g4 0 ∧ f 5 = PT g7 0 ∧ St H0 NoB NoB [bE g7 #[I (0), I (0)] 28, bE g4 #[vM] 47, bE g1 #[vD, vN, vH] 26, rdE vD a.Decls, rdE vN a.Nodes, rdE vH a.Hold, rdE vM w.Means] H) ?_ ?_
 ·refine lo rfl ?_
  refine e_box (v := Vg #[vD, vN, vH]) rfl y0 hS0 (fun g1 H2 hS3 hxx => ?_)
  refine lo rfl ?_
  refine e_box (v := Vg #[vM]) rfl y1 hS3 (fun g4 H5 hS6 hxx => ?_)
  refine la (v := B (false)) rfl rfl rfl ?_
  refine lo rfl ?_
  refine e_alloc rfl Try.zeroValue28 hS6 (fun g7 H8 hS9 hxx => ?_)
  exact ⟨g1, g4, g7, rfl, rfl, rfl, hS9⟩
 clear y0 y1
 rintro f10 H10 ⟨g1, g4, g7, y2, y3, y5, hS10⟩
 refine fcr (fun f H => ∃ (r11 : Value), ∃ (g15 : Nat), ∃ (g18 : Nat), f 2 = PT g1 0 ∧ f 5 = PT g7 0 ∧ f 6 = PT g15 0 ∧ f 7 = PT g18 0 ∧ St H0 NoB NoB [bE g18 #[I (((valF a w)).1), I (((valF a w)).2)] 28, bE g15 #[r11] 80, rdE r11 (valL a w), bE g7 #[I (0), I (0)] 28, bE g4 #[vM] 47, bE g1 #[vD, vN, vH] 26, rdE vD a.Decls, rdE vN a.Nodes, rdE vH a.Hold, rdE vM w.Means] H) ?_ ?_
 ·refine lq rfl (q_loadBlkA rfl y2 Try.isAgg26 Try.sizeOf26 rfl (hS10.blk 2 rfl) (fun h => h)) ?_
  refine lq rfl (q_loadBlkA rfl y3 Try.isAgg47 Try.sizeOf47 rfl (hS10.blk 1 rfl) (fun h => h)) ?_
  refine lo rfl ?_
  refine e_call rfl Try.call27 (arr2 (v0 := Vg #[vD, vN, vH]) (v1 := Vg #[vM]) rfl rfl) (Value_M vD vN vH vM a w (hS10.rdS 3 rfl) (hS10.rdS 4 rfl) (hS10.rdS 5 rfl) (hS10.rdS 6 rfl) ) ?_
  rintro _ H12 ⟨hxx, r11, rfl, hrr11⟩
  have hS13 := hS10.res hxx hrr11
  refine lm (v := Value.tuple #[r11, Vg #[I (((valF a w)).1), I (((valF a w)).2)]]) rfl rfl rfl ?_
  refine lq rfl (q_extract (vs := #[r11, Vg #[I (((valF a w)).1), I (((valF a w)).2)]]) (v := r11) rfl rfl rfl) ?_
  refine lq rfl (q_extract (vs := #[r11, Vg #[I (((valF a w)).1), I (((valF a w)).2)]]) (v := Vg #[I (((valF a w)).1), I (((valF a w)).2)]) rfl rfl rfl) ?_
  refine lo rfl ?_
  refine e_alloc rfl Try.zeroValue80 hS13 (fun g15 H16 hS17 hxx => ?_)
  refine lo rfl ?_
  refine e_alloc rfl Try.zeroValue28 hS17 (fun g18 H19 hS20 hxx => ?_)
  refine lo rfl ?_
  refine e_storeBlk (v := r11) rfl rfl rfl (oneCell_rdL (hS20.rdl 2 rfl)) Try.sizeOf80 (by show _ < 1; decide) (hS20.front 1 rfl) (fun H21 hS22 hxx => ?_)
  refine lo rfl ?_
  refine e_storeBlkA (cs' := #[I (((valF a w)).1), I (((valF a w)).2)]) rfl rfl rfl Try.sizeOf28 rfl rfl (fa rfl (fa rfl fe)) (hS22.front 1 rfl) (fun H23 hS24 hxx => ?_)
  exact ⟨r11, g15, g18, y2, y5, rfl, rfl, hS24⟩
 clear y2 y3 y5
 rintro f25 H25 ⟨r11, g15, g18, y2, y5, y6, y7, hS25⟩
 refine wpF_seq ?_
 refine fcr (fun f H => f 2 = PT g1 0 ∧ f 5 = PT g7 0 ∧ f 6 = PT g15 0 ∧ f 7 = PT g18 0 ∧ f 16 = B (decide ((((valF a w)).1) ≠ 0)) ∧ H25 = H) ?_ ?_
 ·refine lq rfl (q_fieldAddr rfl Try.underlying28 rfl Try.sizeOf3 y7) ?_
  refine lq rfl (q_loadBlk rfl rfl Try.isAgg3 (hS25.blk 0 rfl) rfl (fun h => h)) ?_
  refine lq rfl (q_neq rfl rfl rfl) ?_
  exact ⟨y2, y5, y6, y7, rfl, rfl⟩
 clear y2 y5 y6 y7
 rintro f26 _ ⟨y2, y5, y6, y7, y16, rfl⟩
 refine wpF_condP y16 (fun h16 => ?t36) (fun h16 => ?e36)
 case t36 =>
  refine sc (fun f H => f 4 = B (false) ∧ f 5 = PT g7 0 ∧ St H0 NoB NoB [bE g7 #[I (((valF a w)).1), I (((valF a w)).2)] 28, bE g18 #[I (((valF a w)).1), I (((valF a w)).2)] 28, bE g15 #[r11] 80, rdE r11 (valL a w), bE g4 #[vM] 47, bE g1 #[vD, vN, vH] 26, rdE vD a.Decls, rdE vN a.Nodes, rdE vH a.Hold, rdE vM w.Means] H) ?_ ?_
  ·refine wpF_drawn [none, none, some 0] [[], [], []] (fun l b => match l with | 0 => True | _ => False) (by kernel_rfl) (by kernel_rfl) ?_
   refine rq 0 (by kernel_rfl) rfl rfl (q_loadBlkA rfl y7 Try.isAgg28 Try.sizeOf28 rfl (hS25.blk 0 rfl) (labU_not [] rfl (fe))) ?_
   refine rq 1 (by kernel_rfl) rfl rfl (q_assign (v := B (false)) rfl rfl) ?_
   refine wpR_n [2] (by kernel_rfl) ?_
   refine fa ?_ fe
   refine exE rfl rfl ?_
   refine e_storeBlkA (cs' := #[I (((valF a w)).1), I (((valF a w)).2)]) rfl y5 rfl Try.sizeOf28 rfl rfl (fa rfl (fa rfl fe)) (hS25.front 3 rfl) (fun H28o2 hS28o2 hxx => ?_)
   refine ⟨Ext.mono hxx (labS_of 0 rfl (fun _ _ => trivial)), ?_⟩
   refine wpR_end (by kernel_rfl) ?_
   exact ⟨rfl, y5, hS28o2⟩
  clear y16 y2 y5 y6 y7
  rintro f29 H29 ⟨y4, y5, hS29⟩
  refine wpF_ret ?_
  refine ⟨_, resT y4 (resC y5 (loadV_blkA Try.isAgg28 Try.sizeOf28 rfl (hS29.blk 0 rfl)) (resN)), hS29.frame, ?_⟩
  show (Value.tuple #[B (false), Vg #[I (((valF a w)).1), I (((valF a w)).2)]]) = Value.tuple #[B (holdsB a w), Vg #[I (valF a w).1, I (valF a w).2]]
  rw [holdsB, if_pos h16]
 have hz : valF a w = (0, 0) := valF_zero h16
 have hL := valL_ok hz
 have hHx : ∀ x ∈ a.Hold, 0 ≤ x ∧ x < ((valL a w).length : Int) := fun x hx => by rw [hL, valTo_len]; exact hold_rng hz hx
 refine wpF_skip ?_
 refine fcr (fun f H => f 4 = B (!(a.Hold.any (fun k => decide ((nth (valL a w) k.toNat).VNum = 0)))) ∧ f 5 = PT g7 0 ∧ St H0 NoB NoB [bE g7 #[I (0), I (0)] 28, bE g18 #[I (((valF a w)).1), I (((valF a w)).2)] 28, bE g15 #[r11] 80, rdE r11 (valL a w), bE g4 #[vM] 47, bE g1 #[vD, vN, vH] 26, rdE vD a.Decls, rdE vN a.Nodes, rdE vH a.Hold, rdE vM w.Means] H) ?_ ?_
 ·refine lq rfl (q_fieldAddr rfl Try.underlying26 rfl Try.sizeOf24 y2) ?_
  refine lq rfl (q_loadBlk rfl rfl Try.isAgg24 (hS25.blk 5 rfl) rfl (fun h => h)) ?_
  refine lq rfl (q_makeFunc (fi' := #[]) rfl (by simp) (arr1 (v0 := PT g15 0) y6)) ?_
  refine lo rfl ?_
  refine e_call rfl Try.call28 (arr2 (v0 := vH) (v1 := Value.func (.func 29) #[] #[PT g15 0]) rfl rfl) (ContainsFunc vH (Value.func (.func 29) #[] #[PT g15 0]) a.Hold (fun k => decide ((nth (valL a w) k.toNat).VNum = 0)) (hS25.rdN 8 rfl) (fun x hx H hE => ⟨_, _, rfl, Try.call29, Holds_1 x g15 r11 (valL a w) (hE.blk (hS25.blk 1 rfl)) ((hS25.rdN 2 rfl).extN hE) (hHx x hx)⟩)) ?_
  rintro _ H30 ⟨hxx, rfl⟩
  have hS31 := hS25.ext hxx
  refine lq rfl (q_not rfl rfl) ?_
  refine lq rfl (q_build (v := Vg #[I (0), I (0)]) rfl par0 (fun w__ => by kernel_rfl)) ?_
  refine la (v := B (!(a.Hold.any (fun k => decide ((nth (valL a w) k.toNat).VNum = 0))))) rfl rfl rfl ?_
  refine lo rfl ?_
  refine e_storeBlkA (cs' := #[I (0), I (0)]) rfl y5 rfl Try.sizeOf28 rfl rfl (fa rfl (fa rfl fe)) (hS31.front 3 rfl) (fun H33 hS34 hxx => ?_)
  exact ⟨rfl, y5, hS34⟩
 clear y16 y2 y5 y6 y7
 rintro f35 H35 ⟨y4, y5, hS35⟩
 refine wpF_ret ?_
 refine ⟨_, resT y4 (resC y5 (loadV_blkA Try.isAgg28 Try.sizeOf28 rfl (hS35.blk 0 rfl)) (resN)), hS35.frame, ?_⟩
 show (Value.tuple #[B (!(a.Hold.any (fun k => decide ((nth (valL a w) k.toNat).VNum = 0)))), Vg #[I (0), I (0)]]) = Value.tuple #[B (holdsB a w), Vg #[I (valF a w).1, I (valF a w).2]]
 rw [holdsB, if_neg h16, hz, hL]
end Go.Um
