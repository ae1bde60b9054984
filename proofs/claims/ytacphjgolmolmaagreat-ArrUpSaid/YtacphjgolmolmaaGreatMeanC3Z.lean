import Derived.Test.YtacphjgolmolmaaGreatProg
import Derived.Test.YtacphjgolmolmaaGreatMeanC2Z
import Derived.Test.YtacphjgolmolmaaGreatUmArrUpC
namespace Go.Um
open Go.Proofs
open GoT (sz ag rdc)
open KeyT (kv)
theorem el_Cell_67_MeanC3 : ElT Tryz.prog Cell 67 := ⟨Tryz.isAgg67, Tryz.sizeOf67⟩
theorem el_Entry_65_MeanC3 : ElT Tryz.prog Entry 65 := ⟨Tryz.isAgg65, Tryz.sizeOf65⟩
theorem el_Int_3_MeanC3 : ElT Tryz.prog Int 3 := ⟨Tryz.isAgg3, Tryz.sizeOf3⟩
theorem el_Val_60_MeanC3 : ElT Tryz.prog Val 60 := ⟨Tryz.isAgg60, Tryz.sizeOf60⟩
theorem em_Cell_67_MeanC3 : ElemOk Tryz.prog Cell 67 := ⟨Tryz.t67, (.agg #[(.int .i64 0), (.int .i64 0)]), by kernel_rfl, by kernel_rfl, by kernel_rfl, by kernel_rfl, by kernel_rfl⟩
set_option maxRecDepth 100000 in
theorem CloneC {H0 : Heap} {S : Nat → Prop} (va : Value) (a : List Cell) (ra : Rd S H0 va a) : CallsH Tryz.prog 28 #[va] H0 (fun rv_ H' => Ext NoB H0 H' ∧ Rd (SZ S H0) H' rv_ a) := by
 have hby := (Rd.list.1 ra).bound
 have hS0 : St H0 NoB (SZ S H0) [rdE va a] H0 := St.arg (St.start (fun _ h => h.2)) (Bl0.nil) ra (fun _ h => h.1)
 refine callsH_of_wpF (args := [va]) (rs := [.tmp 2]) Tryz.func28 rfl Tryz.ntmps28 Tryz.results28 (by kernel_rfl) (Nat.le_of_ble_eq_true rfl) ?_
 have y0 : argF [va] 0 = va := rfl
 generalize argF [va] = f0 at *
 refine wpF_seq ?_
 refine wpF_region ?_
 refine la (v := nS) rfl rfl rfl ?_
 refine wpL_nil ?_
 refine wpF_seq ?_
 refine wpF_seq ?_
 refine wpF_region ?_
 refine lm (v := va) rfl rfl y0 ?_
 refine lq rfl (q_nilS rfl Tryz.underlying58 rfl ((hS0.rdl 0 rfl))) ?_
 refine wpL_nil ?_
 refine wpF_cond rfl (fun hnil => ?t10) (fun hnil => ?e10)
 case t10 =>
  refine wpF_seq ?_
  refine wpF_region ?_
  refine la (v := nS) rfl rfl rfl ?_
  refine wpL_nil ?_
  refine wpF_ret ?_
  refine ⟨_, resT rfl resN, hS0.frame, ?_⟩
  show Rd (SZ S H0) H0 nS a
  rw [isNil_len (Rd.list.1 ra) hnil]
  exact rdNil
 refine wpF_skip ?_
 refine wpF_seq ?_
 refine wpF_region ?_
 refine lo rfl ?_
 refine e_buildSlice (vs := []) (xs := ([] : List Cell)) rfl Tryz.underlying58 Tryz.zeroValue67 rfl Tryz.sizeOf67 par0 rfl hS0 (RdVs.nil) (by decide) (by decide) (fun v2 H3 hS4 hxx hvv2 => ?_)
 refine lm (v := va) rfl rfl y0 ?_
 have hS5 := hS4
 refine lo rfl ?_
 refine e_append rfl Tryz.underlying58 em_Cell_67_MeanC3 rfl rfl hS5 (hS5.rdS 1 rfl) (fun _ h => h) (by have : GoT.bytes Cell = 16 := rfl; simp; omega) (by decide) (fun v6 H7 hS8 hxx => ?_)
 replace hS8 : St H0 NoB (SZ S H0) [rowE 67 v6 (a : List Cell), rdE va a] H7 := by simpa using hS8
 refine la (v := v6) rfl rfl rfl ?_
 refine wpL_nil ?_
 refine wpF_ret ?_
 refine ⟨_, resT rfl resN, hS8.frame, ?_⟩
 show Rd (SZ S H0) H7 v6 a
 have hS9 : St H0 NoB (SZ S H0) [rdE v6 a, rdE va a] H7 := St.fin hS8
 exact (hS9.result (hS9.rdS 0 rfl))
set_option maxRecDepth 100000 in
theorem num_M {H0 : Heap} (n : Int)  : CallsH Tryz.prog 76 #[I (n)] H0 (fun rv_ H' => Ext NoB H0 H' ∧ rv_ = Vg #[I n, I 1, Value.slice none 0 0, I 0]) := by
 have hS0 : St H0 NoB NoB [] H0 := St.start (fun _ h => h.elim)
 refine callsH_of_wpF (args := [I (n)]) (rs := [.cell 2 60]) Tryz.func76 rfl Tryz.ntmps76 Tryz.results76 (by kernel_rfl) (Nat.le_of_ble_eq_true rfl) ?_
 have y0 : argF [I (n)] 0 = I (n) := rfl
 generalize argF [I (n)] = f0 at *
 refine wpF_seq ?_
 refine wpF_region ?_
 refine lo rfl ?_
 refine e_alloc rfl Tryz.zeroValue60 hS0 (fun g1 H2 hS3 hxx => ?_)
 refine wpL_nil ?_
 refine wpF_seq ?_
 refine wpF_region ?_
 refine lm (v := I (n)) rfl rfl y0 ?_
 refine lq rfl (q_build (v := Vg #[I (n), I (1)]) rfl (par2 (v0 := I (n)) (v1 := I (1)) rfl rfl) (fun w__ => by kernel_rfl)) ?_
 refine lq rfl (q_build (v := Vg #[I (n), I (1), nS, I (0)]) rfl (par1 (v0 := Vg #[I (n), I (1)]) rfl) (fun w__ => by kernel_rfl)) ?_
 refine lo rfl ?_
 refine e_storeBlkA (cs' := #[I (n), I (1), nS, I (0)]) rfl rfl rfl Tryz.sizeOf60 rfl rfl (fa rfl (fa rfl (fa rfl (fa rfl fe)))) hS3 (fun H4 hS5 hxx => ?_)
 refine wpL_nil ?_
 refine wpF_ret ?_
 refine ⟨_, resC rfl (loadV_blkA Tryz.isAgg60 Tryz.sizeOf60 rfl (hS5.blk 0 rfl)) (resN), hS5.frame, ?_⟩
 show (Vg #[I (n), I (1), nS, I (0)]) = Vg #[I n, I 1, Value.slice none 0 0, I 0]
 rfl
set_option maxRecDepth 100000 in
theorem thing_A {H0 : Heap} (n : Int)  : CallsH Tryz.prog 25 #[I (n)] H0 (fun rv_ H' => Ext NoB H0 H' ∧ rv_ = Vg #[I n, I 1, Value.slice none 0 0, I 0]) := by
 have hS0 : St H0 NoB NoB [] H0 := St.start (fun _ h => h.elim)
 refine callsH_of_wpF (args := [I (n)]) (rs := [.cell 2 60]) Tryz.func25 rfl Tryz.ntmps25 Tryz.results25 (by kernel_rfl) (Nat.le_of_ble_eq_true rfl) ?_
 have y0 : argF [I (n)] 0 = I (n) := rfl
 generalize argF [I (n)] = f0 at *
 refine wpF_seq ?_
 refine wpF_region ?_
 refine lo rfl ?_
 refine e_alloc rfl Tryz.zeroValue60 hS0 (fun g1 H2 hS3 hxx => ?_)
 refine wpL_nil ?_
 refine wpF_seq ?_
 refine wpF_region ?_
 refine lm (v := I (n)) rfl rfl y0 ?_
 refine lq rfl (q_build (v := Vg #[I (n), I (1)]) rfl (par2 (v0 := I (n)) (v1 := I (1)) rfl rfl) (fun w__ => by kernel_rfl)) ?_
 refine lq rfl (q_build (v := Vg #[I (n), I (1), nS, I (0)]) rfl (par1 (v0 := Vg #[I (n), I (1)]) rfl) (fun w__ => by kernel_rfl)) ?_
 refine lo rfl ?_
 refine e_storeBlkA (cs' := #[I (n), I (1), nS, I (0)]) rfl rfl rfl Tryz.sizeOf60 rfl rfl (fa rfl (fa rfl (fa rfl (fa rfl fe)))) hS3 (fun H4 hS5 hxx => ?_)
 refine wpL_nil ?_
 refine wpF_ret ?_
 refine ⟨_, resC rfl (loadV_blkA Tryz.isAgg60 Tryz.sizeOf60 rfl (hS5.blk 0 rfl)) (resN), hS5.frame, ?_⟩
 show (Vg #[I (n), I (1), nS, I (0)]) = Vg #[I n, I 1, Value.slice none 0 0, I 0]
 rfl
set_option maxRecDepth 100000 in
theorem truth_M {H0 : Heap} (p : Prop) [Decidable p]  : CallsH Tryz.prog 71 #[B (decide (p))] H0 (fun rv_ H' => Ext NoB H0 H' ∧ rv_ = Vg #[I (bitP (p)), I 1, Value.slice none 0 0, I 0]) := by
 have hS0 : St H0 NoB NoB [] H0 := St.start (fun _ h => h.elim)
 refine callsH_of_wpF (args := [B (decide (p))]) (rs := [.cell 2 60]) Tryz.func71 rfl Tryz.ntmps71 Tryz.results71 (by kernel_rfl) (Nat.le_of_ble_eq_true rfl) ?_
 have y0 : argF [B (decide (p))] 0 = B (decide (p)) := rfl
 generalize argF [B (decide (p))] = f0 at *
 refine wpF_seq ?_
 refine wpF_region ?_
 refine lo rfl ?_
 refine e_alloc rfl Tryz.zeroValue60 hS0 (fun g1 H2 hS3 hxx => ?_)
 refine wpL_nil ?_
 refine wpF_seq ?_
 refine wpF_seq ?_
 refine wpF_region ?_
 refine lm (v := B (decide (p))) rfl rfl y0 ?_
 refine wpL_nil ?_
 refine wpF_condP rfl (fun hp => ?t15) (fun hp => ?e15)
 case t15 =>
  refine wpF_seq ?_
  refine wpF_region ?_
  refine lo rfl ?_
  refine e_call rfl Tryz.call76 (arr1 (v0 := I (1)) rfl) (num_M (1 : Int)) ?_
  rintro _ H5 ⟨hxx, rfl⟩
  have hS6 := hS3.ext hxx
  refine lo rfl ?_
  refine e_storeBlkA (cs' := #[I (1), I (1), nS, I (0)]) rfl rfl rfl Tryz.sizeOf60 rfl rfl (fa rfl (fa rfl (fa rfl (fa rfl fe)))) hS6 (fun H8 hS9 hxx => ?_)
  refine wpL_nil ?_
  refine wpF_ret ?_
  refine ⟨_, resC rfl (loadV_blkA Tryz.isAgg60 Tryz.sizeOf60 rfl (hS9.blk 0 rfl)) (resN), hS9.frame, ?_⟩
  show (Vg #[I (1), I (1), nS, I (0)]) = Vg #[I (bitP (p)), I 1, Value.slice none 0 0, I 0]
  rw [bitP_yes hp]
 refine wpF_skip ?_
 refine wpF_seq ?_
 refine wpF_region ?_
 refine lo rfl ?_
 refine e_call rfl Tryz.call76 (arr1 (v0 := I (0)) rfl) (num_M (0 : Int)) ?_
 rintro _ H10 ⟨hxx, rfl⟩
 have hS11 := hS3.ext hxx
 refine lo rfl ?_
 refine e_storeBlkA (cs' := #[I (0), I (1), nS, I (0)]) rfl rfl rfl Tryz.sizeOf60 rfl rfl (fa rfl (fa rfl (fa rfl (fa rfl fe)))) hS11 (fun H13 hS14 hxx => ?_)
 refine wpL_nil ?_
 refine wpF_ret ?_
 refine ⟨_, resC rfl (loadV_blkA Tryz.isAgg60 Tryz.sizeOf60 rfl (hS14.blk 0 rfl)) (resN), hS14.frame, ?_⟩
 show (Vg #[I (0), I (1), nS, I (0)]) = Vg #[I (bitP (p)), I 1, Value.slice none 0 0, I 0]
 rw [bitP_no hp]
set_option maxRecDepth 100000 in
theorem truth_MB {H0 : Heap} (p : Bool)  : CallsH Tryz.prog 71 #[B (p)] H0 (fun rv_ H' => Ext NoB H0 H' ∧ rv_ = Vg #[I (bitP (p = true)), I 1, Value.slice none 0 0, I 0]) := by
 have hS0 : St H0 NoB NoB [] H0 := St.start (fun _ h => h.elim)
 refine callsH_of_wpF (args := [B (p)]) (rs := [.cell 2 60]) Tryz.func71 rfl Tryz.ntmps71 Tryz.results71 (by kernel_rfl) (Nat.le_of_ble_eq_true rfl) ?_
 have y0 : argF [B (p)] 0 = B (p) := rfl
 generalize argF [B (p)] = f0 at *
 refine wpF_seq ?_
 refine wpF_region ?_
 refine lo rfl ?_
 refine e_alloc rfl Tryz.zeroValue60 hS0 (fun g1 H2 hS3 hxx => ?_)
 refine wpL_nil ?_
 refine wpF_seq ?_
 refine wpF_seq ?_
 refine wpF_region ?_
 refine lm (v := B (p)) rfl rfl y0 ?_
 refine wpL_nil ?_
 refine wpF_cond rfl (fun hp => ?t15) (fun hp => ?e15)
 case t15 =>
  refine wpF_seq ?_
  refine wpF_region ?_
  refine lo rfl ?_
  refine e_call rfl Tryz.call76 (arr1 (v0 := I (1)) rfl) (num_M (1 : Int)) ?_
  rintro _ H5 ⟨hxx, rfl⟩
  have hS6 := hS3.ext hxx
  refine lo rfl ?_
  refine e_storeBlkA (cs' := #[I (1), I (1), nS, I (0)]) rfl rfl rfl Tryz.sizeOf60 rfl rfl (fa rfl (fa rfl (fa rfl (fa rfl fe)))) hS6 (fun H8 hS9 hxx => ?_)
  refine wpL_nil ?_
  refine wpF_ret ?_
  refine ⟨_, resC rfl (loadV_blkA Tryz.isAgg60 Tryz.sizeOf60 rfl (hS9.blk 0 rfl)) (resN), hS9.frame, ?_⟩
  show (Vg #[I (1), I (1), nS, I (0)]) = Vg #[I (bitP (p = true)), I 1, Value.slice none 0 0, I 0]
  rw [bitP_yes hp]
 refine wpF_skip ?_
 refine wpF_seq ?_
 refine wpF_region ?_
 refine lo rfl ?_
 refine e_call rfl Tryz.call76 (arr1 (v0 := I (0)) rfl) (num_M (0 : Int)) ?_
 rintro _ H10 ⟨hxx, rfl⟩
 have hS11 := hS3.ext hxx
 refine lo rfl ?_
 refine e_storeBlkA (cs' := #[I (0), I (1), nS, I (0)]) rfl rfl rfl Tryz.sizeOf60 rfl rfl (fa rfl (fa rfl (fa rfl (fa rfl fe)))) hS11 (fun H13 hS14 hxx => ?_)
 refine wpL_nil ?_
 refine wpF_ret ?_
 refine ⟨_, resC rfl (loadV_blkA Tryz.isAgg60 Tryz.sizeOf60 rfl (hS14.blk 0 rfl)) (resN), hS14.frame, ?_⟩
 show (Vg #[I (0), I (1), nS, I (0)]) = Vg #[I (bitP (p = true)), I 1, Value.slice none 0 0, I 0]
 rw [bitP_no (by simpa using hp)]
set_option maxRecDepth 100000 in
theorem copied_M {H0 : Heap} {S : Nat → Prop} (vc : Value) (v : Val) (h6vVNum : In64 v.VNum) (h6vVDen : In64 v.VDen) (rvc : Rd S H0 vc v.Cells) (h6vRest : In64 v.Rest) : CallsH Tryz.prog 41 #[Vg #[I (v.VNum), I (v.VDen), vc, I (v.Rest)]] H0 (fun rv_ H' => Ext NoB H0 H' ∧ ∃ w_, rv_ = Vg #[I v.VNum, I v.VDen, w_, I v.Rest] ∧ Rd (SZ S H0) H' w_ v.Cells ∧ In64 v.VNum ∧ In64 v.VDen ∧ In64 v.Rest) := by
 have hsc : v.Cells.length * 16 ≤ 140737488355328 := (Rd.list.1 rvc).bound
 have hS0 : St H0 NoB (SZ S H0) [rdE vc v.Cells] H0 := St.arg (St.start (fun _ h => h.2)) (Bl0.nil) rvc (fun _ h => h.1)
 refine callsH_of_wpF (args := [Vg #[I (v.VNum), I (v.VDen), vc, I (v.Rest)]]) (rs := [.cell 2 60]) Tryz.func41 rfl Tryz.ntmps41 Tryz.results41 (by kernel_rfl) (Nat.le_of_ble_eq_true rfl) ?_
 have y0 : argF [Vg #[I (v.VNum), I (v.VDen), vc, I (v.Rest)]] 0 = Vg #[I (v.VNum), I (v.VDen), vc, I (v.Rest)] := rfl
 generalize argF [Vg #[I (v.VNum), I (v.VDen), vc, I (v.Rest)]] = f0 at *
 refine wpF_seq ?_
 refine wpF_region ?_
 refine lo rfl ?_
 refine e_box (v := Vg #[I (v.VNum), I (v.VDen), vc, I (v.Rest)]) rfl y0 hS0 (fun g1 H2 hS3 hxx => ?_)
 refine lo rfl ?_
 refine e_alloc rfl Tryz.zeroValue60 hS3 (fun g4 H5 hS6 hxx => ?_)
 refine wpL_nil ?_
 refine wpF_seq ?_
 refine wpF_region ?_
 refine lq rfl (q_fieldAddr rfl Tryz.underlying60 rfl Tryz.sizeOf58 rfl) ?_
 refine lq rfl (q_loadBlk rfl rfl Tryz.isAgg58 (hS6.blk 1 rfl) rfl (fun h => h)) ?_
 refine lo rfl ?_
 refine e_call rfl Tryz.call28 (arr1 (v0 := vc) rfl) (CloneC vc _ (hS6.rdS 2 rfl)) ?_
 rintro r7 H8 ⟨hxx, hrr7⟩
 have hS9 := hS6.res hxx hrr7
 refine lq rfl (q_fieldAddr rfl Tryz.underlying60 rfl Tryz.sizeOf58 rfl) ?_
 refine lo rfl ?_
 refine e_storeBlk (v := r7) rfl rfl rfl (oneCell_rdL (hS9.rdl 0 rfl)) Tryz.sizeOf58 (by show _ < 4; decide) (hS9.front 2 rfl) (fun H11 hS12 hxx => ?_)
 refine wpL_nil ?_
 refine wpF_seq ?_
 refine wpF_region ?_
 refine lq rfl (q_loadBlkA rfl rfl Tryz.isAgg60 Tryz.sizeOf60 rfl (hS12.blk 0 rfl) (fun h => h)) ?_
 refine lo rfl ?_
 refine e_storeBlkA (cs' := #[I (v.VNum), I (v.VDen), r7, I (v.Rest)]) rfl rfl rfl Tryz.sizeOf60 rfl rfl (fa rfl (fa rfl (fa ((oneCell_rdL (hS12.rdl 1 rfl))) (fa rfl fe)))) (hS12.front 2 rfl) (fun H13 hS14 hxx => ?_)
 refine wpL_nil ?_
 refine wpF_ret ?_
 refine ⟨_, resC rfl (loadV_blkA Tryz.isAgg60 Tryz.sizeOf60 rfl (hS14.blk 0 rfl)) (resN), hS14.frame, ?_⟩
 show ∃ w_, (Vg #[I (v.VNum), I (v.VDen), r7, I (v.Rest)]) = Vg #[I v.VNum, I v.VDen, w_, I v.Rest] ∧ Rd (SZ S H0) H13 w_ v.Cells ∧ In64 v.VNum ∧ In64 v.VDen ∧ In64 v.Rest
 exact ⟨_, rfl, (hS14.result (hS14.rdS 2 rfl)), by assumption, by assumption, by assumption⟩
set_option maxHeartbeats 1000000 in
set_option maxRecDepth 100000 in
theorem told_M {H0 : Heap} {S : Nat → Prop} (vr vc vK : Value) (m : Meaning) (K : List Val) (rvr : Rd S H0 vr m.Rows) (h6mMNum : In64 m.MNum) (h6mMDen : In64 m.MDen) (rvc : Rd S H0 vc m.MCells) (h6mMRest : In64 m.MRest) (rK : Rd S H0 vK K) (hK : ∀ i, i < m.Rows.length → (nth m.Rows i).Args.length ≤ K.length) : CallsH Tryz.prog 73 #[Vg #[vr, I (m.MNum), I (m.MDen), vc, I (m.MRest)], vK] H0 (fun rv_ H' => Ext NoB H0 H' ∧ ∃ w_, rv_ = Vg #[I (toldV m K).VNum, I (toldV m K).VDen, w_, I (toldV m K).Rest] ∧ Rd (SZ S H0) H' w_ (toldV m K).Cells ∧ In64 (toldV m K).VNum ∧ In64 (toldV m K).VDen ∧ In64 (toldV m K).Rest) := by
 have hsr : m.Rows.length * 72 ≤ 140737488355328 := (Rd.list.1 rvr).bound
 have hsK : K.length * 48 ≤ 140737488355328 := (Rd.list.1 rK).bound
 have hS0 : St H0 NoB (SZ S H0) [rdE vr m.Rows, rdE vc m.MCells, rdE vK K] H0 := St.arg (St.arg (St.arg (St.start (fun _ h => h.2)) (Bl0.nil) rK (fun _ h => h.1)) (Bl0.cons (Bl0.nil)) rvc (fun _ h => h.1)) (Bl0.cons (Bl0.cons (Bl0.nil))) rvr (fun _ h => h.1)
 refine callsH_of_wpF (args := [Vg #[vr, I (m.MNum), I (m.MDen), vc, I (m.MRest)], vK]) (rs := [.cell 4 60]) Tryz.func73 rfl Tryz.ntmps73 Tryz.results73 (by kernel_rfl) (Nat.le_of_ble_eq_true rfl) ?_
 have y0 : argF [Vg #[vr, I (m.MNum), I (m.MDen), vc, I (m.MRest)], vK] 0 = Vg #[vr, I (m.MNum), I (m.MDen), vc, I (m.MRest)] := rfl
 have y1 : argF [Vg #[vr, I (m.MNum), I (m.MDen), vc, I (m.MRest)], vK] 1 = vK := rfl
 generalize argF [Vg #[vr, I (m.MNum), I (m.MDen), vc, I (m.MRest)], vK] = f0 at *
 refine wpF_seq ?_
 refine wpF_region ?_
 refine lo rfl ?_
 refine e_box (v := Vg #[vr, I (m.MNum), I (m.MDen), vc, I (m.MRest)]) rfl y0 hS0 (fun g1 H2 hS3 hxx => ?_)
 refine lo rfl ?_
 refine e_alloc rfl Tryz.zeroValue60 hS3 (fun g4 H5 hS6 hxx => ?_)
 refine wpL_nil ?_
 refine wpF_seq ?_
 refine wpF_seq ?_
 refine wpF_region ?_
 refine lq rfl (q_fieldAddr rfl Tryz.underlying62 rfl Tryz.sizeOf55 rfl) ?_
 refine lq rfl (q_loadBlk rfl rfl Tryz.isAgg55 (hS6.blk 1 rfl) rfl (fun h => h)) ?_
 refine lq rfl (q_lenRd rfl Tryz.underlying55 rfl (hS6.rdl 2 rfl)) ?_
 refine lm (v := I (0)) rfl rfl rfl ?_
 refine wpL_nil ?_
 refine wpF_block ?_
 refine wpF_loop (fun mz f H => ∃ (k : Nat), mz = m.Rows.length - k ∧ (k ≤ m.Rows.length) ∧ (∀ j, j < k → toldAt m K j = none) ∧ f 1 = vK ∧ f 2 = PT g1 0 ∧ f 4 = PT g4 0 ∧ f 11 = vr ∧ f 12 = I ((m.Rows.length : Int)) ∧ f 13 = I ((k : Int)) ∧ St H0 NoB (SZ S H0) [bE g4 #[I (0), I (0), nS, I (0)] 60, bE g1 #[vr, I (m.MNum), I (m.MDen), vc, I (m.MRest)] 62, rdE vr m.Rows, rdE vc m.MCells, rdE vK K] H) (m.Rows.length - 0) ?_ ?_
 ·exact ⟨0, rfl, Nat.zero_le _, (fun j hj => absurd hj (Nat.not_lt_zero j)), y1, rfl, rfl, rfl, rfl, (Eq.trans rfl (congrArg I (by omega))), hS6⟩
 intro m7 f7 H7 hI7
 clear y1
 obtain ⟨k, hm7, hk, hp, y1, y2, y4, y11, y12, y13, hS7⟩ := hI7
 refine wpF_seq ?_
 refine wpF_region ?_
 refine lq rfl (q_lss rfl y13 y12) ?_
 refine wpL_nil ?_
 refine wpF_seq ?_
 refine wpF_condP rfl (fun hlt => ?t39) (fun hlt => ?e39)
 case e39 =>
  refine wpF_exit ?_
  refine atX_here ?_
  refine wpF_seq ?_
  refine wpF_region ?_
  refine lq rfl (q_fieldAddr rfl Tryz.underlying62 rfl Tryz.sizeOf60 y2) ?_
  refine lq rfl (q_loadBlkP (ds := [I (m.MNum), I (m.MDen), vc, I (m.MRest)]) rfl rfl Tryz.isAgg60 Tryz.sizeOf60 rfl rfl (hS7.blk 1 rfl) (fun h => h)) ?_
  refine lo rfl ?_
  refine e_call rfl Tryz.call41 (arr1 (v0 := Vg #[I (m.MNum), I (m.MDen), vc, I (m.MRest)]) rfl) (copied_M vc m.rest (by first | assumption | exact bitP_in | exact wrap_in64 | (constructor <;> (dsimp only; omega)) | (constructor <;> omega)) (by first | assumption | exact bitP_in | exact wrap_in64 | (constructor <;> (dsimp only; omega)) | (constructor <;> omega)) (hS7.rdS 3 rfl) (by first | assumption | exact bitP_in | exact wrap_in64 | (constructor <;> (dsimp only; omega)) | (constructor <;> omega))) ?_
  rintro _ H34 ⟨hxx, r33, rfl, hrr33, h6r33a, h6r33b, h6r33c⟩
  have hS35 := hS7.res hxx hrr33
  refine lo rfl ?_
  refine e_storeBlkA (cs' := #[I (m.rest.VNum), I (m.rest.VDen), r33, I (m.rest.Rest)]) rfl y4 rfl Tryz.sizeOf60 rfl rfl (fa rfl (fa rfl (fa ((oneCell_rdL (hS35.rdl 0 rfl))) (fa rfl fe)))) (hS35.front 1 rfl) (fun H37 hS38 hxx => ?_)
  refine wpL_nil ?_
  refine wpF_ret ?_
  refine ⟨_, resC y4 (loadV_blkA Tryz.isAgg60 Tryz.sizeOf60 rfl (hS38.blk 0 rfl)) (resN), hS38.frame, ?_⟩
  show ∃ w_, (Vg #[I (m.rest.VNum), I (m.rest.VDen), r33, I (m.rest.Rest)]) = Vg #[I (toldV m K).VNum, I (toldV m K).VDen, w_, I (toldV m K).Rest] ∧ Rd (SZ S H0) H37 w_ (toldV m K).Cells ∧ In64 (toldV m K).VNum ∧ In64 (toldV m K).VDen ∧ In64 (toldV m K).Rest
  have hq_ : toldV m K = _ := toldV_no fun j hj => hp j (by omega)
  rw [hq_]
  exact ⟨_, rfl, (hS38.result (hS38.rdS 1 rfl)), by assumption, by assumption, by assumption⟩
 have hKk := hK k (by omega)
 refine wpF_skip ?_
 refine wpF_seq ?_
 refine wpF_block ?_
 refine wpF_seq ?_
 refine wpF_region ?_
 refine lq rfl (q_indexRd (k := k) rfl Tryz.underlying55 el_Entry_65_MeanC3 y11 y13 (hS7.rdl 2 rfl) (by omega) (by omega)) ?_
 obtain ⟨u9, huu9, hlu9⟩ := (Rd.list.1 (hS7.rdS 2 rfl)).elem k (by omega)
 obtain ⟨u9n0, u9n3, rfl, hu90, hu91, hu92, hu93, hu94⟩ := Rd.entry.1 huu9
 have hS10 := hS7.rd hu90
 have hS11 : St H0 NoB (SZ S H0) [rdE u9n3 ((nth m.Rows k).ECells), rdE u9n0 ((nth m.Rows k).Args), bE g4 #[I (0), I (0), nS, I (0)] 60, bE g1 #[vr, I (m.MNum), I (m.MDen), vc, I (m.MRest)] 62, rdE vr m.Rows, rdE vc m.MCells, rdE vK K] H7 := hS10.rd (hu93.sub fun _ hb => SL_rd hb)
 refine lq rfl (q_loadE rfl rfl (hlu9 Tryz.prog 65 _ el_Entry_65_MeanC3 (fun _ h => False.elim h))) ?_
 refine lo rfl ?_
 refine e_alloc rfl Tryz.zeroValue65 hS11 (fun g12 H13 hS14 hxx => ?_)
 refine lo rfl ?_
 refine e_storeBlkA (cs' := #[u9n0, I ((nth m.Rows k).ENum), I ((nth m.Rows k).EDen), u9n3, I ((nth m.Rows k).ERest)]) rfl rfl rfl Tryz.sizeOf65 rfl rfl (fa ((oneCell_rdL (hS14.rdl 2 rfl))) (fa rfl (fa rfl (fa ((oneCell_rdL (hS14.rdl 1 rfl))) (fa rfl fe))))) hS14 (fun H15 hS16 hxx => ?_)
 refine wpL_nil ?_
 refine wpF_seq ?_
 refine wpF_region ?_
 refine la (v := B (true)) rfl rfl rfl ?_
 refine wpL_nil ?_
 refine wpF_seq ?_
 refine wpF_seq ?_
 refine wpF_region ?_
 refine lq rfl (q_fieldAddr rfl Tryz.underlying65 rfl Tryz.sizeOf24 rfl) ?_
 refine lq rfl (q_loadBlk rfl rfl Tryz.isAgg24 (hS16.blk 0 rfl) rfl (fun h => h)) ?_
 refine lq rfl (q_lenRd rfl Tryz.underlying24 rfl (hS16.rdl 2 rfl)) ?_
 refine lm (v := I (0)) rfl rfl rfl ?_
 refine wpL_nil ?_
 refine wpF_block ?_
 refine wpF_loop (fun mz f H => ∃ (i : Nat), ∃ (sm : Bool), mz = (nth m.Rows k).Args.length - i ∧ (i ≤ (nth m.Rows k).Args.length) ∧ (sm = true ↔ ∀ j, j < i → (nth K j).VNum = nth (nth m.Rows k).Args j) ∧ f 1 = vK ∧ f 2 = PT g1 0 ∧ f 4 = PT g4 0 ∧ f 6 = PT g12 0 ∧ f 7 = B (sm) ∧ f 11 = vr ∧ f 12 = I ((m.Rows.length : Int)) ∧ f 13 = I ((k : Int)) ∧ f 18 = u9n0 ∧ f 19 = I ((((nth m.Rows k).Args).length : Int)) ∧ f 20 = I ((i : Int)) ∧ St H0 NoB (SZ S H0) [bE g12 #[u9n0, I ((nth m.Rows k).ENum), I ((nth m.Rows k).EDen), u9n3, I ((nth m.Rows k).ERest)] 65, rdE u9n3 ((nth m.Rows k).ECells), rdE u9n0 ((nth m.Rows k).Args), bE g4 #[I (0), I (0), nS, I (0)] 60, bE g1 #[vr, I (m.MNum), I (m.MDen), vc, I (m.MRest)] 62, rdE vr m.Rows, rdE vc m.MCells, rdE vK K] H) ((nth m.Rows k).Args.length - 0) ?_ ?_
 ·exact ⟨0, true, rfl, Nat.zero_le _, ⟨fun _ j hj => absurd hj (Nat.not_lt_zero j), fun _ => rfl⟩, y1, y2, y4, rfl, rfl, y11, y12, y13, rfl, rfl, (Eq.trans rfl (congrArg I (by omega))), hS16⟩
 intro m17 f17 H17 hI17
 clear y1 y11 y12 y13 y2 y4
 obtain ⟨i, sm, hm17, hi, hq, y1, y2, y4, y6, y7, y11, y12, y13, y18, y19, y20, hS17⟩ := hI17
 refine wpF_seq ?_
 refine wpF_region ?_
 refine lq rfl (q_lss rfl y20 y19) ?_
 refine wpL_nil ?_
 refine wpF_seq ?_
 refine wpF_condP rfl (fun hlt2 => ?t32) (fun hlt2 => ?e32)
 case e32 =>
  refine wpF_exit ?_
  refine atX_here ?_
  refine wpF_seq ?_
  refine wpF_region ?_
  refine lm (v := B (sm)) rfl rfl y7 ?_
  refine wpL_nil ?_
  refine wpF_cond rfl (fun h37 => ?t31) (fun h37 => ?e31)
  case e31 =>
   refine wpF_skip ?_
   refine wpF_region ?_
   refine lq rfl (q_add rfl y13 rfl (by constructor <;> omega)) ?_
   refine lm (v := I ((k : Int) + 1)) rfl rfl rfl ?_
   refine wpL_nil ?_
   refine ⟨_, ?_, k + 1, rfl, (by omega), (all_succ hp (toldAt_no (show sm = true ↔ ∀ j, j < (nth m.Rows k).Args.length → _ from ⟨fun h j hj => hq.1 h j (by omega), fun h => hq.2 fun j hj => h j (by omega)⟩) h37)), y1, y2, y4, y11, y12, (Eq.trans rfl (congrArg I (by omega))), (hS17.drop (sn (sn (sn (sk (sk (sk (sk (sk (List.Sublist.slnil))))))))))⟩
   omega
  refine wpF_seq ?_
  refine wpF_region ?_
  refine lq rfl (q_fieldAddr rfl Tryz.underlying65 rfl Tryz.sizeOf60 y6) ?_
  refine lq rfl (q_loadBlkP (ds := [I ((nth m.Rows k).ENum), I ((nth m.Rows k).EDen), u9n3, I ((nth m.Rows k).ERest)]) rfl rfl Tryz.isAgg60 Tryz.sizeOf60 rfl rfl (hS17.blk 0 rfl) (fun h => h)) ?_
  refine lo rfl ?_
  refine e_call rfl Tryz.call41 (arr1 (v0 := Vg #[I ((nth m.Rows k).ENum), I ((nth m.Rows k).EDen), u9n3, I ((nth m.Rows k).ERest)]) rfl) (copied_M u9n3 ((nth m.Rows k).to) (by first | assumption | exact bitP_in | exact wrap_in64 | (constructor <;> (dsimp only; omega)) | (constructor <;> omega)) (by first | assumption | exact bitP_in | exact wrap_in64 | (constructor <;> (dsimp only; omega)) | (constructor <;> omega)) (hS17.rdS 1 rfl) (by first | assumption | exact bitP_in | exact wrap_in64 | (constructor <;> (dsimp only; omega)) | (constructor <;> omega))) ?_
  rintro _ H26 ⟨hxx, r25, rfl, hrr25, h6r25a, h6r25b, h6r25c⟩
  have hS27 := hS17.res hxx hrr25
  refine lo rfl ?_
  refine e_storeBlkA (cs' := #[I (((nth m.Rows k).to).VNum), I (((nth m.Rows k).to).VDen), r25, I (((nth m.Rows k).to).Rest)]) rfl y4 rfl Tryz.sizeOf60 rfl rfl (fa rfl (fa rfl (fa ((oneCell_rdL (hS27.rdl 0 rfl))) (fa rfl fe)))) (hS27.front 4 rfl) (fun H29 hS30 hxx => ?_)
  refine wpL_nil ?_
  refine wpF_ret ?_
  refine ⟨_, resC y4 (loadV_blkA Tryz.isAgg60 Tryz.sizeOf60 rfl (hS30.blk 0 rfl)) (resN), hS30.frame, ?_⟩
  show ∃ w_, (Vg #[I (((nth m.Rows k).to).VNum), I (((nth m.Rows k).to).VDen), r25, I (((nth m.Rows k).to).Rest)]) = Vg #[I (toldV m K).VNum, I (toldV m K).VDen, w_, I (toldV m K).Rest] ∧ Rd (SZ S H0) H29 w_ (toldV m K).Cells ∧ In64 (toldV m K).VNum ∧ In64 (toldV m K).VDen ∧ In64 (toldV m K).Rest
  have hq_ : toldV m K = _ := toldV_at (by omega) hp (show sm = true ↔ ∀ j, j < (nth m.Rows k).Args.length → _ from ⟨fun h j hj => hq.1 h j (by omega), fun h => hq.2 fun j hj => h j (by omega)⟩) h37
  rw [hq_]
  exact ⟨_, rfl, (hS30.result (hS30.rdS 1 rfl)), by assumption, by assumption, by assumption⟩
 refine wpF_skip ?_
 refine wpF_seq ?_
 refine wpF_block ?_
 refine wpF_seq ?_
 refine wpF_region ?_
 refine lm (v := I ((i : Int))) rfl rfl y20 ?_
 refine lq rfl (q_indexRd (k := i) rfl Tryz.underlying24 el_Int_3_MeanC3 y18 y20 (hS17.rdl 2 rfl) (by omega) (by omega)) ?_
 refine lq rfl (q_loadInt (k := i) rfl rfl el_Int_3_MeanC3 (hS17.rdl 2 rfl) (by omega) (fun _ h => h)) ?_
 refine la (v := I ((i : Int))) rfl rfl rfl ?_
 refine la (v := I (nth ((nth m.Rows k).Args) i)) rfl rfl rfl ?_
 refine wpL_nil ?_
 refine wpF_cut (fun f H => f 1 = vK ∧ f 2 = PT g1 0 ∧ f 4 = PT g4 0 ∧ f 6 = PT g12 0 ∧ f 7 = B (decide ((sm = true) ∧ (((nth K i).VNum) = (nth ((nth m.Rows k).Args) i)))) ∧ f 11 = vr ∧ f 12 = I ((m.Rows.length : Int)) ∧ f 13 = I ((k : Int)) ∧ f 18 = u9n0 ∧ f 19 = I ((((nth m.Rows k).Args).length : Int)) ∧ f 20 = I ((i : Int)) ∧ H17 = H) ?_ ?_
 ·refine wpF_region ?_
  refine lm (v := B (sm)) rfl rfl y7 ?_
  refine lm (v := B (sm)) rfl rfl rfl ?_
  by_cases hg19 : sm = true
  ·have hb20 := Eq.trans rfl (congrArg B hg19)
   refine gq rfl rfl rfl hb20 (q_move (v := vK) rfl y1) ?_
   refine gq rfl rfl rfl hb20 (q_move (v := I ((i : Int))) rfl rfl) ?_
   refine gq rfl rfl rfl hb20 (q_indexRd (k := i) rfl Tryz.underlying72 el_Val_60_MeanC3 rfl rfl (hS17.rdl 7 rfl) (by omega) (by omega)) ?_
   refine gq rfl rfl rfl hb20 (q_fieldE (k := i) rfl Tryz.underlying60 rfl Tryz.sizeOf57 rfl rfl (hS17.rdl 7 rfl) (by omega)) ?_
   refine gq rfl rfl rfl hb20 (q_fieldF (k := i) rfl Tryz.underlying57 rfl Tryz.sizeOf3 rfl rfl (hS17.rdl 7 rfl) (by omega)) ?_
   obtain ⟨_, hcu22, hFu22⟩ := (Rd.list.1 (hS17.rdS 7 rfl)).cellF i (by omega)
   obtain ⟨u22n2, rfl, hu220, hu221, hu222, hu223⟩ := hcu22
   refine gq rfl rfl rfl hb20 (q_loadF rfl rfl (hFu22 0 _ Tryz.prog 3 _ rfl Tryz.isAgg3 (fun _ h => False.elim h))) ?_
   refine gq rfl rfl rfl hb20 (q_move (v := I (nth ((nth m.Rows k).Args) i)) rfl rfl) ?_
   refine gq rfl rfl rfl hb20 (q_eql rfl rfl rfl) ?_
   refine lq rfl (q_pickT (v := B (decide (((nth K i).VNum) = (nth ((nth m.Rows k).Args) i)))) rfl hb20 rfl) ?_
   refine la (v := B (decide (((nth K i).VNum) = (nth ((nth m.Rows k).Args) i)))) rfl rfl rfl ?_
   exact ⟨y1, y2, y4, y6, (Eq.trans rfl (congrArg B (decide_congr_of ((Iff.rfl).trans (((and_iff_right hg19).trans Iff.rfl)).symm)))), y11, y12, y13, y18, y19, y20, rfl⟩
  ·have hb21 := Eq.trans rfl (congrArg B (Bool.eq_false_iff.2 hg19))
   refine wpL_gs rfl rfl rfl hb21 rfl ?_
   refine wpL_gs rfl rfl rfl hb21 rfl ?_
   refine wpL_gs rfl rfl rfl hb21 rfl ?_
   refine wpL_gs rfl rfl rfl hb21 rfl ?_
   refine wpL_gs rfl rfl rfl hb21 rfl ?_
   refine wpL_gs rfl rfl rfl hb21 rfl ?_
   refine wpL_gs rfl rfl rfl hb21 rfl ?_
   refine wpL_gs rfl rfl rfl hb21 rfl ?_
   refine lq rfl (q_pickF (v := B (false)) rfl hb21 rfl) ?_
   refine la (v := B (false)) rfl rfl rfl ?_
   exact ⟨y1, y2, y4, y6, (Eq.trans rfl (congrArg B ((decide_eq_false (fun h => hg19 h.1)).symm))), y11, y12, y13, y18, y19, y20, rfl⟩
 clear y1 y11 y12 y13 y18 y19 y2 y20 y4 y6 y7
 rintro f23 _ ⟨y1, y2, y4, y6, y7, y11, y12, y13, y18, y19, y20, rfl⟩
 refine wpF_region ?_
 refine lq rfl (q_add rfl y20 rfl (by constructor <;> omega)) ?_
 refine lm (v := I ((i : Int) + 1)) rfl rfl rfl ?_
 refine wpL_nil ?_
 refine ⟨_, ?_, i + 1, decide ((sm = true) ∧ (((nth K i).VNum) = (nth ((nth m.Rows k).Args) i))), rfl, (by omega), (and_step hq Iff.rfl), y1, y2, y4, y6, y7, y11, y12, y13, y18, y19, (Eq.trans rfl (congrArg I (by omega))), hS17⟩
 omega
set_option maxHeartbeats 1000000 in
set_option maxRecDepth 100000 in
theorem get_M {H0 : Heap} (vc : Value) (v : Val) (x : Int) (h6vVNum : In64 v.VNum) (h6vVDen : In64 v.VDen) (rvc : Rd NoB H0 vc v.Cells) (h6vRest : In64 v.Rest) : CallsH Tryz.prog 77 #[Vg #[I (v.VNum), I (v.VDen), vc, I (v.Rest)], I (x)] H0 (fun rv_ H' => Ext NoB H0 H' ∧ rv_ = I (gotV v x) ∧ In64 (gotV v x)) := by
 have hsc : v.Cells.length * 16 ≤ 140737488355328 := (Rd.list.1 rvc).bound
 have hS0 : St H0 NoB NoB [rdE vc v.Cells] H0 := St.arg (St.start (fun _ h => h.elim)) (Bl0.nil) rvc (fun _ h => h)
 refine callsH_of_wpF (args := [Vg #[I (v.VNum), I (v.VDen), vc, I (v.Rest)], I (x)]) (rs := [.tmp 4]) Tryz.func77 rfl Tryz.ntmps77 Tryz.results77 (by kernel_rfl) (Nat.le_of_ble_eq_true rfl) ?_
 have y0 : argF [Vg #[I (v.VNum), I (v.VDen), vc, I (v.Rest)], I (x)] 0 = Vg #[I (v.VNum), I (v.VDen), vc, I (v.Rest)] := rfl
 have y1 : argF [Vg #[I (v.VNum), I (v.VDen), vc, I (v.Rest)], I (x)] 1 = I (x) := rfl
 generalize argF [Vg #[I (v.VNum), I (v.VDen), vc, I (v.Rest)], I (x)] = f0 at *
 refine wpF_seq ?_
 refine wpF_region ?_
 refine lo rfl ?_
 refine e_box (v := Vg #[I (v.VNum), I (v.VDen), vc, I (v.Rest)]) rfl y0 hS0 (fun g1 H2 hS3 hxx => ?_)
 refine la (v := I (0)) rfl rfl rfl ?_
 refine wpL_nil ?_
 refine wpF_seq ?_
 refine wpF_seq ?_
 refine wpF_region ?_
 refine lq rfl (q_fieldAddr rfl Tryz.underlying60 rfl Tryz.sizeOf58 rfl) ?_
 refine lq rfl (q_loadBlk rfl rfl Tryz.isAgg58 (hS3.blk 0 rfl) rfl (fun h => h)) ?_
 refine lq rfl (q_lenRd rfl Tryz.underlying58 rfl (hS3.rdl 1 rfl)) ?_
 refine lm (v := I (0)) rfl rfl rfl ?_
 refine wpL_nil ?_
 refine wpF_block ?_
 refine wpF_loop (fun mz f H => ∃ (k : Nat), mz = v.Cells.length - k ∧ (k ≤ v.Cells.length) ∧ (∀ j, j < k → ¬ (nth v.Cells j).At = x) ∧ f 1 = I (x) ∧ f 2 = PT g1 0 ∧ f 8 = vc ∧ f 9 = I ((v.Cells.length : Int)) ∧ f 10 = I ((k : Int)) ∧ St H0 NoB NoB [bE g1 #[I (v.VNum), I (v.VDen), vc, I (v.Rest)] 60, rdE vc v.Cells] H) (v.Cells.length - 0) ?_ ?_
 ·exact ⟨0, rfl, Nat.zero_le _, (fun j hj => absurd hj (Nat.not_lt_zero j)), y1, rfl, rfl, rfl, (Eq.trans rfl (congrArg I (by omega))), hS3⟩
 intro m4 f4 H4 hI4
 clear y1
 obtain ⟨k, hm4, hk, hp, y1, y2, y8, y9, y10, hS4⟩ := hI4
 refine wpF_seq ?_
 refine wpF_region ?_
 refine lq rfl (q_lss rfl y10 y9) ?_
 refine wpL_nil ?_
 refine wpF_seq ?_
 refine wpF_condP rfl (fun hlt => ?t14) (fun hlt => ?e14)
 case e14 =>
  refine wpF_exit ?_
  refine atX_here ?_
  refine wpF_seq ?_
  refine wpF_region ?_
  refine lq rfl (q_fieldAddr rfl Tryz.underlying60 rfl Tryz.sizeOf3 y2) ?_
  refine lq rfl (q_loadBlk rfl rfl Tryz.isAgg3 (hS4.blk 0 rfl) rfl (fun h => h)) ?_
  refine la (v := I (v.Rest)) rfl rfl rfl ?_
  refine wpL_nil ?_
  refine wpF_ret ?_
  refine ⟨_, resT rfl resN, hS4.frame, ?_⟩
  show (I (v.Rest)) = I (gotV v x) ∧ In64 (gotV v x)
  have hq_ : gotV v x = _ := gotV_no fun j hj => hp j (by omega)
  rw [hq_]
  exact ⟨rfl, by assumption⟩
 refine wpF_skip ?_
 refine wpF_seq ?_
 refine wpF_block ?_
 refine wpF_seq ?_
 refine wpF_region ?_
 refine lq rfl (q_indexRd (k := k) rfl Tryz.underlying58 el_Cell_67_MeanC3 y8 y10 (hS4.rdl 1 rfl) (by omega) (by omega)) ?_
 obtain ⟨u6, huu6, hlu6⟩ := (Rd.list.1 (hS4.rdS 1 rfl)).elem k (by omega)
 obtain ⟨rfl, hu60, hu61⟩ := Rd.cell.1 huu6
 refine lq rfl (q_loadE rfl rfl (hlu6 Tryz.prog 67 _ el_Cell_67_MeanC3 (fun _ h => False.elim h))) ?_
 refine lo rfl ?_
 refine e_alloc rfl Tryz.zeroValue67 hS4 (fun g7 H8 hS9 hxx => ?_)
 refine lo rfl ?_
 refine e_storeBlkA (cs' := #[I ((nth v.Cells k).At), I ((nth v.Cells k).It)]) rfl rfl rfl Tryz.sizeOf67 rfl rfl (fa rfl (fa rfl fe)) hS9 (fun H10 hS11 hxx => ?_)
 refine wpL_nil ?_
 refine wpF_seq ?_
 refine wpF_region ?_
 refine lq rfl (q_fieldAddr rfl Tryz.underlying67 rfl Tryz.sizeOf3 rfl) ?_
 refine lq rfl (q_loadBlk rfl rfl Tryz.isAgg3 (hS11.blk 0 rfl) rfl (fun h => h)) ?_
 refine lm (v := I (x)) rfl rfl y1 ?_
 refine lq rfl (q_eql rfl rfl rfl) ?_
 refine wpL_nil ?_
 refine wpF_condP rfl (fun h17 => ?t13) (fun h17 => ?e13)
 case e13 =>
  refine wpF_skip ?_
  refine wpF_region ?_
  refine lq rfl (q_add rfl y10 rfl (by constructor <;> omega)) ?_
  refine lm (v := I ((k : Int) + 1)) rfl rfl rfl ?_
  refine wpL_nil ?_
  refine ⟨_, ?_, k + 1, rfl, (by omega), (all_succ hp h17), y1, y2, y8, y9, (Eq.trans rfl (congrArg I (by omega))), (hS11.drop (sn (sk (sk (List.Sublist.slnil)))))⟩
  omega
 refine wpF_seq ?_
 refine wpF_region ?_
 refine lq rfl (q_fieldAddr rfl Tryz.underlying67 rfl Tryz.sizeOf3 rfl) ?_
 refine lq rfl (q_loadBlk rfl rfl Tryz.isAgg3 (hS11.blk 0 rfl) rfl (fun h => h)) ?_
 refine la (v := I ((nth v.Cells k).It)) rfl rfl rfl ?_
 refine wpL_nil ?_
 refine wpF_ret ?_
 refine ⟨_, resT rfl resN, hS11.frame, ?_⟩
 show (I ((nth v.Cells k).It)) = I (gotV v x) ∧ In64 (gotV v x)
 have hq_ : gotV v x = _ := gotV_at (by omega) hp h17
 rw [hq_]
 exact ⟨rfl, by assumption⟩
set_option maxHeartbeats 2000000 in
set_option maxRecDepth 100000 in
theorem put_V {H0 : Heap} {S : Nat → Prop} (vc : Value) (v : Val) (x y : Int) (h6vVNum : In64 v.VNum) (h6vVDen : In64 v.VDen) (rvc : Rd S H0 vc v.Cells) (h6vRest : In64 v.Rest) (h6x : In64 x) (h6y : In64 y) (hcl : v.Cells.length ≤ 100000) : CallsH Tryz.prog 78 #[Vg #[I (v.VNum), I (v.VDen), vc, I (v.Rest)], I (x), I (y)] H0 (fun rv_ H' => Ext NoB H0 H' ∧ ∃ w_, rv_ = Vg #[I (putV v x y).VNum, I (putV v x y).VDen, w_, I (putV v x y).Rest] ∧ Rd (SZ S H0) H' w_ (putV v x y).Cells ∧ In64 (putV v x y).VNum ∧ In64 (putV v x y).VDen ∧ In64 (putV v x y).Rest) := by
 have hsc : v.Cells.length * 16 ≤ 140737488355328 := (Rd.list.1 rvc).bound
 have hS0 : St H0 NoB (SZ S H0) [rdE vc v.Cells] H0 := St.arg (St.start (fun _ h => h.2)) (Bl0.nil) rvc (fun _ h => h.1)
 refine callsH_of_wpF (args := [Vg #[I (v.VNum), I (v.VDen), vc, I (v.Rest)], I (x), I (y)]) (rs := [.cell 6 60]) Tryz.func78 rfl Tryz.ntmps78 Tryz.results78 (by kernel_rfl) (Nat.le_of_ble_eq_true rfl) ?_
 have y0 : argF [Vg #[I (v.VNum), I (v.VDen), vc, I (v.Rest)], I (x), I (y)] 0 = Vg #[I (v.VNum), I (v.VDen), vc, I (v.Rest)] := rfl
 have y1 : argF [Vg #[I (v.VNum), I (v.VDen), vc, I (v.Rest)], I (x), I (y)] 1 = I (x) := rfl
 have y2 : argF [Vg #[I (v.VNum), I (v.VDen), vc, I (v.Rest)], I (x), I (y)] 2 = I (y) := rfl
 generalize argF [Vg #[I (v.VNum), I (v.VDen), vc, I (v.Rest)], I (x), I (y)] = f0 at *
 refine wpF_seq ?_
 refine wpF_region ?_
 refine lo rfl ?_
 refine e_box (v := Vg #[I (v.VNum), I (v.VDen), vc, I (v.Rest)]) rfl y0 hS0 (fun g1 H2 hS3 hxx => ?_)
 refine lo rfl ?_
 refine e_alloc rfl Tryz.zeroValue60 hS3 (fun g4 H5 hS6 hxx => ?_)
 refine wpL_nil ?_
 refine wpF_seq ?_
 refine wpF_region ?_
 refine lq rfl (q_fieldAddr rfl Tryz.underlying60 rfl Tryz.sizeOf3 rfl) ?_
 refine lq rfl (q_loadBlk rfl rfl Tryz.isAgg3 (hS6.blk 1 rfl) rfl (fun h => h)) ?_
 refine lq rfl (q_build (v := Vg #[I (0), I (0), nS, I (v.Rest)]) rfl (par1 (v0 := I (v.Rest)) rfl) (fun w__ => by kernel_rfl)) ?_
 refine lo rfl ?_
 refine e_alloc rfl Tryz.zeroValue60 hS6 (fun g7 H8 hS9 hxx => ?_)
 refine lo rfl ?_
 refine e_storeBlkA (cs' := #[I (0), I (0), nS, I (v.Rest)]) rfl rfl rfl Tryz.sizeOf60 rfl rfl (fa rfl (fa rfl (fa rfl (fa rfl fe)))) hS9 (fun H10 hS11 hxx => ?_)
 refine wpL_nil ?_
 have hS12 : St H0 NoB (SZ S H0) [rowE 67 nS ([] : List Cell), bE g7 #[I (0), I (0), nS, I (v.Rest)] 60, bE g4 #[I (0), I (0), nS, I (0)] 60, bE g1 #[I (v.VNum), I (v.VDen), vc, I (v.Rest)] 60, rdE vc v.Cells] H10 := hS11.row0 67
 refine wpF_seq ?_
 refine wpF_region ?_
 refine lm (v := I (y)) rfl rfl y2 ?_
 refine lq rfl (q_fieldAddr rfl Tryz.underlying60 rfl Tryz.sizeOf3 rfl) ?_
 refine lq rfl (q_loadBlk rfl rfl Tryz.isAgg3 (hS12.blk 3 rfl) rfl (fun h => h)) ?_
 refine lq rfl (q_eql rfl rfl rfl) ?_
 refine la (v := B (decide (y = v.Rest))) rfl rfl rfl ?_
 refine wpL_nil ?_
 refine wpF_seq ?_
 refine wpF_seq ?_
 refine wpF_region ?_
 refine lq rfl (q_fieldAddr rfl Tryz.underlying60 rfl Tryz.sizeOf58 rfl) ?_
 refine lq rfl (q_loadBlk rfl rfl Tryz.isAgg58 (hS12.blk 3 rfl) rfl (fun h => h)) ?_
 refine lq rfl (q_lenRd rfl Tryz.underlying58 rfl (hS12.rdl 4 rfl)) ?_
 refine lm (v := I (0)) rfl rfl rfl ?_
 refine wpL_nil ?_
 refine wpF_block ?_
 refine wpF_loop (fun mz f H => ∃ (k : Nat), ∃ (vo : Value), mz = v.Cells.length - k ∧ (k ≤ v.Cells.length) ∧ f 1 = I (x) ∧ f 2 = I (y) ∧ f 6 = PT g4 0 ∧ f 7 = PT g7 0 ∧ f 8 = B ((putTo v x y k).2) ∧ f 19 = vc ∧ f 20 = I ((v.Cells.length : Int)) ∧ f 21 = I ((k : Int)) ∧ St H0 NoB (SZ S H0) [rowE 67 vo ((putTo v x y k).1 : List Cell), bE g7 #[I (0), I (0), vo, I (v.Rest)] 60, bE g4 #[I (0), I (0), nS, I (0)] 60, bE g1 #[I (v.VNum), I (v.VDen), vc, I (v.Rest)] 60, rdE vc v.Cells] H) (v.Cells.length - 0) ?_ ?_
 ·exact ⟨0, nS, rfl, Nat.zero_le _, y1, y2, rfl, rfl, rfl, rfl, rfl, (Eq.trans rfl (congrArg I (by omega))), (show St H0 NoB (SZ S H0) [rowE 67 nS ((putTo v x y 0).1 : List Cell), bE g7 #[I (0), I (0), nS, I (v.Rest)] 60, bE g4 #[I (0), I (0), nS, I (0)] 60, bE g1 #[I (v.VNum), I (v.VDen), vc, I (v.Rest)] 60, rdE vc v.Cells] H10 from hS12)⟩
 intro m13 f13 H13 hI13
 clear y1 y2
 obtain ⟨k, vo, hm13, hk, y1, y2, y6, y7, y8, y19, y20, y21, hS13⟩ := hI13
 refine wpF_seq ?_
 refine wpF_region ?_
 refine lq rfl (q_lss rfl y21 y20) ?_
 refine wpL_nil ?_
 refine wpF_seq ?_
 refine wpF_condP rfl (fun hlt => ?t69) (fun hlt => ?e69)
 case e69 =>
  have hpl := putTo_len (v := v) (x := x) (y := y) (k := k)
  refine wpF_exit ?_
  refine atX_here ?_
  refine wpF_seq ?_
  refine wpF_seq ?_
  refine wpF_region ?_
  refine lm (v := B ((putTo v x y k).2)) rfl rfl y8 ?_
  refine lq rfl (q_not rfl rfl) ?_
  refine wpL_nil ?_
  refine wpF_cond rfl (fun h53 => ?t68) (fun h53 => ?e68)
  case e68 =>
   refine wpF_skip ?_
   refine wpF_seq ?_
   refine wpF_region ?_
   refine lq rfl (q_loadBlkA rfl y7 Tryz.isAgg60 Tryz.sizeOf60 rfl (hS13.blk 1 rfl) (fun h => h)) ?_
   refine lo rfl ?_
   refine e_storeBlkA (cs' := #[I (0), I (0), vo, I (v.Rest)]) rfl y6 rfl Tryz.sizeOf60 rfl rfl (fa rfl (fa rfl (fa ((oneCell_rdL (hS13.rowl 0 rfl))) (fa rfl fe)))) (hS13.front 2 rfl) (fun H65 hS66 hxx => ?_)
   refine wpL_nil ?_
   refine wpF_ret ?_
   refine ⟨_, resC y6 (loadV_blkA Tryz.isAgg60 Tryz.sizeOf60 rfl (hS66.blk 0 rfl)) (resN), hS66.frame, ?_⟩
   show ∃ w_, (Vg #[I (0), I (0), vo, I (v.Rest)]) = Vg #[I (putV v x y).VNum, I (putV v x y).VDen, w_, I (putV v x y).Rest] ∧ Rd (SZ S H0) H65 w_ (putV v x y).Cells ∧ In64 (putV v x y).VNum ∧ In64 (putV v x y).VDen ∧ In64 (putV v x y).Rest
   have hS67 : St H0 NoB (SZ S H0) [rdE vo ((putTo v x y k).1), bE g4 #[I (0), I (0), vo, I (v.Rest)] 60, bE g7 #[I (0), I (0), vo, I (v.Rest)] 60, bE g1 #[I (v.VNum), I (v.VDen), vc, I (v.Rest)] 60, rdE vc v.Cells] H65 := St.fin (hS66.front 1 rfl)
   have hkE : v.Cells.length = k := by omega
   have hC : (putV v x y).Cells = ((putTo v x y k).1) := by show _ ++ _ = _; rw [hkE]; rw [if_neg (by simpa using h53), List.append_nil]
   exact ⟨_, rfl, by rw [hC]; exact (hS67.result (hS67.rdS 0 rfl)), (by constructor <;> decide : In64 0), (by constructor <;> decide : In64 0), (by assumption : In64 v.Rest)⟩
  refine wpF_region ?_
  refine lq rfl (q_fieldAddr rfl Tryz.underlying60 rfl Tryz.sizeOf58 y7) ?_
  refine lq rfl (q_loadBlk rfl rfl Tryz.isAgg58 (hS13.blk 1 rfl) rfl (fun h => h)) ?_
  refine lm (v := I (x)) rfl rfl y1 ?_
  refine lm (v := I (y)) rfl rfl y2 ?_
  refine lq rfl (q_build (v := Vg #[I (x), I (y)]) rfl (par2 (v0 := I (x)) (v1 := I (y)) rfl rfl) (fun w__ => by kernel_rfl)) ?_
  refine lo rfl ?_
  refine e_buildSlice (vs := [Vg #[I (x), I (y)]]) (xs := ([(Cell.mk x y)] : List Cell)) rfl Tryz.underlying58 Tryz.zeroValue67 rfl Tryz.sizeOf67 (par1 (v0 := Vg #[I (x), I (y)]) rfl) rfl hS13 (RdVs.cons ((Rd.cell (a := (Cell.mk x y))).2 ⟨rfl, (by first | assumption | (constructor <;> (try dsimp only) <;> omega)), (by first | assumption | (constructor <;> (try dsimp only) <;> omega))⟩) (RdVs.nil)) (by decide) (by decide) (fun v52 H53 hS54 hxx hvv52 => ?_)
  have hS55 : St H0 NoB (SZ S H0) [rdE v52 ([(Cell.mk x y)] : List Cell), rowE 67 vo ((putTo v x y k).1 : List Cell), bE g7 #[I (0), I (0), vo, I (v.Rest)] 60, bE g4 #[I (0), I (0), nS, I (0)] 60, bE g1 #[I (v.VNum), I (v.VDen), vc, I (v.Rest)] 60, rdE vc v.Cells] H53 := St.fin hS54
  have hS56 := (hS55.front 1 rfl)
  refine lo rfl ?_
  refine e_append rfl Tryz.underlying58 em_Cell_67_MeanC3 rfl rfl hS56 (hS56.rdS 1 rfl) (fun _ h => h) (by have hb : GoT.bytes Cell = 16 := rfl; rw [hb]; simp only [List.length_append, List.length_cons, List.length_nil]; omega) (by decide) (fun v57 H58 hS59 hxx => ?_)
  refine lq rfl (q_fieldAddr rfl Tryz.underlying60 rfl Tryz.sizeOf58 y7) ?_
  refine lo rfl ?_
  refine e_storeBlk (v := v57) rfl rfl rfl (oneCell_rdL (hS59.rowl 0 rfl)) Tryz.sizeOf58 (by show _ < 4; decide) (hS59.front 2 rfl) (fun H60 hS61 hxx => ?_)
  refine wpL_nil ?_
  refine wpF_seq ?_
  refine wpF_region ?_
  refine lq rfl (q_loadBlkA rfl y7 Tryz.isAgg60 Tryz.sizeOf60 rfl (hS61.blk 0 rfl) (fun h => h)) ?_
  refine lo rfl ?_
  refine e_storeBlkA (cs' := #[I (0), I (0), v57, I (v.Rest)]) rfl y6 rfl Tryz.sizeOf60 rfl rfl (fa rfl (fa rfl (fa ((oneCell_rdL (hS61.rowl 1 rfl))) (fa rfl fe)))) (hS61.front 3 rfl) (fun H62 hS63 hxx => ?_)
  refine wpL_nil ?_
  refine wpF_ret ?_
  refine ⟨_, resC y6 (loadV_blkA Tryz.isAgg60 Tryz.sizeOf60 rfl (hS63.blk 0 rfl)) (resN), hS63.frame, ?_⟩
  show ∃ w_, (Vg #[I (0), I (0), v57, I (v.Rest)]) = Vg #[I (putV v x y).VNum, I (putV v x y).VDen, w_, I (putV v x y).Rest] ∧ Rd (SZ S H0) H62 w_ (putV v x y).Cells ∧ In64 (putV v x y).VNum ∧ In64 (putV v x y).VDen ∧ In64 (putV v x y).Rest
  have hS64 : St H0 NoB (SZ S H0) [rdE v57 (((putTo v x y k).1) ++ ([(Cell.mk x y)])), bE g4 #[I (0), I (0), v57, I (v.Rest)] 60, bE g7 #[I (0), I (0), v57, I (v.Rest)] 60, rdE v52 ([(Cell.mk x y)] : List Cell), bE g1 #[I (v.VNum), I (v.VDen), vc, I (v.Rest)] 60, rdE vc v.Cells] H62 := St.fin (hS63.front 2 rfl)
  have hkE : v.Cells.length = k := by omega
  have hC : (putV v x y).Cells = (((putTo v x y k).1) ++ ([(Cell.mk x y)])) := by show _ ++ _ = _; rw [hkE]; rw [if_pos (by simpa using h53)]
  exact ⟨_, rfl, by rw [hC]; exact (hS64.result (hS64.rdS 0 rfl)), (by constructor <;> decide : In64 0), (by constructor <;> decide : In64 0), (by assumption : In64 v.Rest)⟩
 have hpl := putTo_len (v := v) (x := x) (y := y) (k := k)
 refine wpF_skip ?_
 refine wpF_seq ?_
 refine wpF_block ?_
 refine wpF_seq ?_
 refine wpF_region ?_
 refine lq rfl (q_indexRd (k := k) rfl Tryz.underlying58 el_Cell_67_MeanC3 y19 y21 (hS13.rdl 4 rfl) (by omega) (by omega)) ?_
 obtain ⟨u15, huu15, hlu15⟩ := (Rd.list.1 (hS13.rdS 4 rfl)).elem k (by omega)
 obtain ⟨rfl, hu150, hu151⟩ := Rd.cell.1 huu15
 refine lq rfl (q_loadE rfl rfl (hlu15 Tryz.prog 67 _ el_Cell_67_MeanC3 (fun _ h => False.elim h))) ?_
 refine lo rfl ?_
 refine e_alloc rfl Tryz.zeroValue67 hS13 (fun g16 H17 hS18 hxx => ?_)
 refine lo rfl ?_
 refine e_storeBlkA (cs' := #[I ((nth v.Cells k).At), I ((nth v.Cells k).It)]) rfl rfl rfl Tryz.sizeOf67 rfl rfl (fa rfl (fa rfl fe)) hS18 (fun H19 hS20 hxx => ?_)
 refine wpL_nil ?_
 refine wpF_seq ?_
 refine fcr (fun f H => f 1 = I (x) ∧ f 2 = I (y) ∧ f 6 = PT g4 0 ∧ f 7 = PT g7 0 ∧ f 8 = B ((putTo v x y k).2) ∧ f 10 = PT g16 0 ∧ f 19 = vc ∧ f 20 = I ((v.Cells.length : Int)) ∧ f 21 = I ((k : Int)) ∧ f 32 = B (decide (((!((putTo v x y k).2)) = true) ∧ (x ≤ ((nth v.Cells k).At)))) ∧ H19 = H) ?_ ?_
 ·refine lm (v := B ((putTo v x y k).2)) rfl rfl y8 ?_
  refine lq rfl (q_not rfl rfl) ?_
  refine lm (v := B (!((putTo v x y k).2))) rfl rfl rfl ?_
  by_cases hg21 : (!((putTo v x y k).2)) = true
  ·have hb22 := Eq.trans rfl (congrArg B hg21)
   refine gq rfl rfl rfl hb22 (q_fieldAddr rfl Tryz.underlying67 rfl Tryz.sizeOf3 rfl) ?_
   refine gq rfl rfl rfl hb22 (q_loadBlk rfl rfl Tryz.isAgg3 (hS20.blk 0 rfl) rfl (fun h => h)) ?_
   refine gq rfl rfl rfl hb22 (q_move (v := I (x)) rfl y1) ?_
   refine gq rfl rfl rfl hb22 (q_geq rfl rfl rfl) ?_
   refine lq rfl (q_pickT (v := B (decide (x ≤ ((nth v.Cells k).At)))) rfl hb22 rfl) ?_
   exact ⟨y1, y2, y6, y7, y8, rfl, y19, y20, y21, (Eq.trans rfl (congrArg B (decide_congr_of ((Iff.rfl).trans (((and_iff_right hg21).trans Iff.rfl)).symm)))), rfl⟩
  ·have hb23 := Eq.trans rfl (congrArg B (Bool.eq_false_iff.2 hg21))
   refine wpL_gs rfl rfl rfl hb23 rfl ?_
   refine wpL_gs rfl rfl rfl hb23 rfl ?_
   refine wpL_gs rfl rfl rfl hb23 rfl ?_
   refine wpL_gs rfl rfl rfl hb23 rfl ?_
   refine lq rfl (q_pickF (v := B (false)) rfl hb23 rfl) ?_
   exact ⟨y1, y2, y6, y7, y8, rfl, y19, y20, y21, (Eq.trans rfl (congrArg B ((decide_eq_false (fun h => hg21 h.1)).symm))), rfl⟩
 clear y1 y19 y2 y20 y21 y6 y7 y8
 rintro f24 _ ⟨y1, y2, y6, y7, y8, y10, y19, y20, y21, y32, rfl⟩
 refine wpF_cut (fun f H => ∃ (vN1 : Value), ((if (putTo v x y k).2 = false ∧ x ≤ (nth v.Cells k).At then (putTo v x y k).1 ++ [⟨x, y⟩] else (putTo v x y k).1).length ≤ 2 * k + 1) ∧ f 1 = I (x) ∧ f 2 = I (y) ∧ f 6 = PT g4 0 ∧ f 7 = PT g7 0 ∧ f 8 = B (decide ((putTo v x y k).2 = true ∨ x ≤ (nth v.Cells k).At)) ∧ f 10 = PT g16 0 ∧ f 19 = vc ∧ f 20 = I ((v.Cells.length : Int)) ∧ f 21 = I ((k : Int)) ∧ St H0 NoB (SZ S H0) [rowE 67 vN1 ((if (putTo v x y k).2 = false ∧ x ≤ (nth v.Cells k).At then (putTo v x y k).1 ++ [⟨x, y⟩] else (putTo v x y k).1) : List Cell), bE g7 #[I (0), I (0), vN1, I (v.Rest)] 60, bE g16 #[I ((nth v.Cells k).At), I ((nth v.Cells k).It)] 67, bE g4 #[I (0), I (0), nS, I (0)] 60, bE g1 #[I (v.VNum), I (v.VDen), vc, I (v.Rest)] 60, rdE vc v.Cells] H) ?_ ?_
 ·refine wpF_condP y32 (fun h32 => ?t37) (fun h32 => ?e37)
  case e37 =>
   refine wpF_skip ?_
   exact ⟨vo, (by split <;> first | omega | (simp; omega)), y1, y2, y6, y7, (Eq.trans y8 (congrArg B (putdone h32))), y10, y19, y20, y21, (by have h__ := (St.drop (show St H0 NoB (SZ S H0) [rowE 67 vo ((putTo v x y k).1 : List Cell), bE g7 #[I (0), I (0), vo, I (v.Rest)] 60, bE g16 #[I ((nth v.Cells k).At), I ((nth v.Cells k).It)] 67, bE g4 #[I (0), I (0), nS, I (0)] 60, bE g1 #[I (v.VNum), I (v.VDen), vc, I (v.Rest)] 60, rdE vc v.Cells] H19 from ((hS20.front 2 rfl).front 2 rfl)) (sk (sk (sk (sk (sk (sk (List.Sublist.slnil)))))))); rw [if_neg (putno h32)]; exact h__)⟩
  refine wpF_seq ?_
  refine wpF_region ?_
  refine lq rfl (q_fieldAddr rfl Tryz.underlying60 rfl Tryz.sizeOf58 y7) ?_
  refine lq rfl (q_loadBlk rfl rfl Tryz.isAgg58 (hS20.blk 2 rfl) rfl (fun h => h)) ?_
  refine lm (v := I (x)) rfl rfl y1 ?_
  refine lm (v := I (y)) rfl rfl y2 ?_
  refine lq rfl (q_build (v := Vg #[I (x), I (y)]) rfl (par2 (v0 := I (x)) (v1 := I (y)) rfl rfl) (fun w__ => by kernel_rfl)) ?_
  refine lo rfl ?_
  refine e_buildSlice (vs := [Vg #[I (x), I (y)]]) (xs := ([(Cell.mk x y)] : List Cell)) rfl Tryz.underlying58 Tryz.zeroValue67 rfl Tryz.sizeOf67 (par1 (v0 := Vg #[I (x), I (y)]) rfl) rfl hS20 (RdVs.cons ((Rd.cell (a := (Cell.mk x y))).2 ⟨rfl, (by first | assumption | (constructor <;> (try dsimp only) <;> omega)), (by first | assumption | (constructor <;> (try dsimp only) <;> omega))⟩) (RdVs.nil)) (by decide) (by decide) (fun v27 H28 hS29 hxx hvv27 => ?_)
  have hS30 : St H0 NoB (SZ S H0) [rdE v27 ([(Cell.mk x y)] : List Cell), bE g16 #[I ((nth v.Cells k).At), I ((nth v.Cells k).It)] 67, rowE 67 vo ((putTo v x y k).1 : List Cell), bE g7 #[I (0), I (0), vo, I (v.Rest)] 60, bE g4 #[I (0), I (0), nS, I (0)] 60, bE g1 #[I (v.VNum), I (v.VDen), vc, I (v.Rest)] 60, rdE vc v.Cells] H28 := St.fin hS29
  have hS31 := (hS30.front 2 rfl)
  refine lo rfl ?_
  refine e_append rfl Tryz.underlying58 em_Cell_67_MeanC3 rfl rfl hS31 (hS31.rdS 1 rfl) (fun _ h => h) (by have hb : GoT.bytes Cell = 16 := rfl; rw [hb]; simp only [List.length_append, List.length_cons, List.length_nil]; omega) (by decide) (fun v32 H33 hS34 hxx => ?_)
  refine lq rfl (q_fieldAddr rfl Tryz.underlying60 rfl Tryz.sizeOf58 y7) ?_
  refine lo rfl ?_
  refine e_storeBlk (v := v32) rfl rfl rfl (oneCell_rdL (hS34.rowl 0 rfl)) Tryz.sizeOf58 (by show _ < 4; decide) (hS34.front 3 rfl) (fun H35 hS36 hxx => ?_)
  refine wpL_nil ?_
  refine wpF_region ?_
  refine la (v := B (true)) rfl rfl rfl ?_
  refine wpL_nil ?_
  exact ⟨v32, (by split <;> first | omega | (simp; omega)), y1, y2, y6, y7, (Eq.trans rfl (congrArg B (decide_eq_true (.inr h32.2)).symm)), y10, y19, y20, y21, (by have h__ := (St.drop (show St H0 NoB (SZ S H0) [rowE 67 v32 (((putTo v x y k).1) ++ ([(Cell.mk x y)]) : List Cell), bE g7 #[I (0), I (0), v32, I (v.Rest)] 60, rdE v27 ([(Cell.mk x y)] : List Cell), bE g16 #[I ((nth v.Cells k).At), I ((nth v.Cells k).It)] 67, bE g4 #[I (0), I (0), nS, I (0)] 60, bE g1 #[I (v.VNum), I (v.VDen), vc, I (v.Rest)] 60, rdE vc v.Cells] H35 from (hS36.front 1 rfl)) (sk (sk (sn (sk (sk (sk (sk (List.Sublist.slnil))))))))); rw [if_pos ⟨by simpa using h32.1, h32.2⟩]; exact h__)⟩
 clear y1 y10 y19 y2 y20 y21 y32 y6 y7 y8
 rintro f25 H25 ⟨vN1, hl32, y1, y2, y6, y7, y8, y10, y19, y20, y21, hS25⟩
 refine wpF_seq ?_
 refine wpF_region ?_
 refine lq rfl (q_fieldAddr rfl Tryz.underlying67 rfl Tryz.sizeOf3 y10) ?_
 refine lq rfl (q_loadBlk rfl rfl Tryz.isAgg3 (hS25.blk 2 rfl) rfl (fun h => h)) ?_
 refine lm (v := I (x)) rfl rfl y1 ?_
 refine lq rfl (q_neq rfl rfl rfl) ?_
 refine wpL_nil ?_
 refine wpF_cut (fun f H => ∃ (vN2 : Value), f 1 = I (x) ∧ f 2 = I (y) ∧ f 6 = PT g4 0 ∧ f 7 = PT g7 0 ∧ f 8 = B (decide ((putTo v x y k).2 = true ∨ x ≤ (nth v.Cells k).At)) ∧ f 19 = vc ∧ f 20 = I ((v.Cells.length : Int)) ∧ f 21 = I ((k : Int)) ∧ St H0 NoB (SZ S H0) [rowE 67 vN2 ((putTo v x y (k + 1)).1 : List Cell), bE g7 #[I (0), I (0), vN2, I (v.Rest)] 60, bE g16 #[I ((nth v.Cells k).At), I ((nth v.Cells k).It)] 67, bE g4 #[I (0), I (0), nS, I (0)] 60, bE g1 #[I (v.VNum), I (v.VDen), vc, I (v.Rest)] 60, rdE vc v.Cells] H) ?_ ?_
 ·refine wpF_condP rfl (fun h44 => ?t50) (fun h44 => ?e50)
  case e50 =>
   refine wpF_skip ?_
   exact ⟨vN1, y1, y2, y6, y7, y8, y19, y20, y21, (by have h__ := hS25; rw [putTo_no h44]; exact h__)⟩
  refine wpF_region ?_
  refine lq rfl (q_fieldAddr rfl Tryz.underlying60 rfl Tryz.sizeOf58 y7) ?_
  refine lq rfl (q_loadBlk rfl rfl Tryz.isAgg58 (hS25.blk 1 rfl) rfl (fun h => h)) ?_
  refine lq rfl (q_loadBlkA rfl y10 Tryz.isAgg67 Tryz.sizeOf67 rfl (hS25.blk 2 rfl) (fun h => h)) ?_
  refine lo rfl ?_
  refine e_buildSlice (vs := [Vg #[I ((nth v.Cells k).At), I ((nth v.Cells k).It)]]) (xs := ([(nth v.Cells k)] : List Cell)) rfl Tryz.underlying58 Tryz.zeroValue67 rfl Tryz.sizeOf67 (par1 (v0 := Vg #[I ((nth v.Cells k).At), I ((nth v.Cells k).It)]) rfl) rfl hS25 (RdVs.cons ((Rd.cell (a := (nth v.Cells k))).2 ⟨rfl, (by first | assumption | (constructor <;> (try dsimp only) <;> omega)), (by first | assumption | (constructor <;> (try dsimp only) <;> omega))⟩) (RdVs.nil)) (by decide) (by decide) (fun v40 H41 hS42 hxx hvv40 => ?_)
  have hS43 : St H0 NoB (SZ S H0) [rdE v40 ([(nth v.Cells k)] : List Cell), rowE 67 vN1 ((if (putTo v x y k).2 = false ∧ x ≤ (nth v.Cells k).At then (putTo v x y k).1 ++ [⟨x, y⟩] else (putTo v x y k).1) : List Cell), bE g7 #[I (0), I (0), vN1, I (v.Rest)] 60, bE g16 #[I ((nth v.Cells k).At), I ((nth v.Cells k).It)] 67, bE g4 #[I (0), I (0), nS, I (0)] 60, bE g1 #[I (v.VNum), I (v.VDen), vc, I (v.Rest)] 60, rdE vc v.Cells] H41 := St.fin hS42
  have hS44 := (hS43.front 1 rfl)
  refine lo rfl ?_
  refine e_append rfl Tryz.underlying58 em_Cell_67_MeanC3 rfl rfl hS44 (hS44.rdS 1 rfl) (fun _ h => h) (by have hb : GoT.bytes Cell = 16 := rfl; rw [hb]; simp only [List.length_append, List.length_cons, List.length_nil]; omega) (by decide) (fun v45 H46 hS47 hxx => ?_)
  refine lq rfl (q_fieldAddr rfl Tryz.underlying60 rfl Tryz.sizeOf58 y7) ?_
  refine lo rfl ?_
  refine e_storeBlk (v := v45) rfl rfl rfl (oneCell_rdL (hS47.rowl 0 rfl)) Tryz.sizeOf58 (by show _ < 4; decide) (hS47.front 2 rfl) (fun H48 hS49 hxx => ?_)
  refine wpL_nil ?_
  exact ⟨v45, y1, y2, y6, y7, y8, y19, y20, y21, (by have h__ := (St.drop (show St H0 NoB (SZ S H0) [rowE 67 v45 ((if (putTo v x y k).2 = false ∧ x ≤ (nth v.Cells k).At then (putTo v x y k).1 ++ [⟨x, y⟩] else (putTo v x y k).1) ++ ([(nth v.Cells k)]) : List Cell), bE g7 #[I (0), I (0), v45, I (v.Rest)] 60, rdE v40 ([(nth v.Cells k)] : List Cell), bE g16 #[I ((nth v.Cells k).At), I ((nth v.Cells k).It)] 67, bE g4 #[I (0), I (0), nS, I (0)] 60, bE g1 #[I (v.VNum), I (v.VDen), vc, I (v.Rest)] 60, rdE vc v.Cells] H48 from (hS49.front 1 rfl)) (sk (sk (sn (sk (sk (sk (sk (List.Sublist.slnil))))))))); rw [putTo_yes h44]; exact h__)⟩
 clear y1 y10 y19 y2 y20 y21 y6 y7 y8
 rintro f38 H38 ⟨vN2, y1, y2, y6, y7, y8, y19, y20, y21, hS38⟩
 refine wpF_region ?_
 refine lq rfl (q_add rfl y21 rfl (by constructor <;> omega)) ?_
 refine lm (v := I ((k : Int) + 1)) rfl rfl rfl ?_
 refine wpL_nil ?_
 refine ⟨_, ?_, k + 1, vN2, rfl, (by omega), y1, y2, y6, y7, y8, y19, y20, (Eq.trans rfl (congrArg I (by omega))), (hS38.drop (sk (sk (sn (sk (sk (sk (List.Sublist.slnil))))))))⟩
 omega
end Go.Um
