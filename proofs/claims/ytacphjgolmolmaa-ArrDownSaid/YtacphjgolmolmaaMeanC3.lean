import Derived.Test.YtacphjgolmolmaaProg
import Derived.Test.YtacphjgolmolmaaMeanC2
import Derived.Test.YtacphjgolmolmaaUmArrDownC
namespace Go.Um
open Go.Proofs
open GoT (sz ag rdc)
open KeyT (kv)
theorem el_Cell_77_MeanC3 : ElT Try.prog Cell 77 := ⟨Try.isAgg77, Try.sizeOf77⟩
theorem el_Entry_74_MeanC3 : ElT Try.prog Entry 74 := ⟨Try.isAgg74, Try.sizeOf74⟩
theorem el_Int_3_MeanC3 : ElT Try.prog Int 3 := ⟨Try.isAgg3, Try.sizeOf3⟩
theorem el_Val_69_MeanC3 : ElT Try.prog Val 69 := ⟨Try.isAgg69, Try.sizeOf69⟩
theorem em_Cell_77_MeanC3 : ElemOk Try.prog Cell 77 := ⟨Try.t77, (.agg #[(.int .i64 0), (.int .i64 0)]), by kernel_rfl, by kernel_rfl, by kernel_rfl, by kernel_rfl, by kernel_rfl⟩
set_option maxRecDepth 100000 in
theorem CloneC {H0 : Heap} {S : Nat → Prop} (va : Value) (a : List Cell) (ra : Rd S H0 va a) : CallsH Try.prog 40 #[va] H0 (fun rv_ H' => Ext NoB H0 H' ∧ Rd (SZ S H0) H' rv_ a) := by
 have hby := (Rd.list.1 ra).bound
 have hS0 : St H0 NoB (SZ S H0) [rdE va a] H0 := St.arg (St.start (fun _ h => h.2)) (Bl0.nil) ra (fun _ h => h.1)
 refine callsH_of_wpF (args := [va]) (rs := [.tmp 2]) Try.func40 rfl Try.ntmps40 Try.results40 (by kernel_rfl) (Nat.le_of_ble_eq_true rfl) ?_
 have y0 : argF [va] 0 = va := rfl
 generalize argF [va] = f0 at *
 refine fcr (fun f H => f 0 = va ∧ H0 = H) ?_ ?_
 ·refine la (v := nS) rfl rfl rfl ?_
  exact ⟨y0, rfl⟩
 clear y0
 rintro f1 _ ⟨y0, rfl⟩
 refine wpF_seq ?_
 refine fcr (fun f H => f 0 = va ∧ f 4 = B (isNil va) ∧ H0 = H) ?_ ?_
 ·refine lm (v := va) rfl rfl y0 ?_
  refine lq rfl (q_nilS rfl Try.underlying67 rfl ((hS0.rdl 0 rfl))) ?_
  exact ⟨y0, rfl, rfl⟩
 clear y0
 rintro f2 _ ⟨y0, y4, rfl⟩
 refine wpF_cond y4 (fun hnil => ?t14) (fun hnil => ?e14)
 case t14 =>
  refine fcr (fun f H => f 2 = nS ∧ H0 = H) ?_ ?_
  ·refine la (v := nS) rfl rfl rfl ?_
   exact ⟨rfl, rfl⟩
  clear y0 y4
  rintro f4 _ ⟨y2, rfl⟩
  refine wpF_ret ?_
  refine ⟨_, resT y2 resN, hS0.frame, ?_⟩
  show Rd (SZ S H0) H0 nS a
  rw [isNil_len (Rd.list.1 ra) hnil]
  exact rdNil
 refine wpF_skip ?_
 refine fcr (fun f H => ∃ (v9 : Value), f 2 = v9 ∧ St H0 NoB (SZ S H0) [rowE 77 v9 (a : List Cell)] H) ?_ ?_
 ·refine lo rfl ?_
  refine e_buildSlice (vs := []) (xs := ([] : List Cell)) rfl Try.underlying67 Try.zeroValue77 rfl Try.sizeOf77 par0 rfl hS0 (RdVs.nil) (by decide) (by decide) (fun v5 H6 hS7 hxx hvv5 => ?_)
  refine lm (v := va) rfl rfl y0 ?_
  have hS8 := hS7
  refine lo rfl ?_
  refine e_append rfl Try.underlying67 em_Cell_77_MeanC3 rfl rfl hS8 (hS8.rdS 1 rfl) (fun _ h => h) (by have : GoT.bytes Cell = 16 := rfl; simp; omega) (by decide) (fun v9 H10 hS11 hxx => ?_)
  replace hS11 : St H0 NoB (SZ S H0) [rowE 77 v9 (a : List Cell), rdE va a] H10 := by simpa using hS11
  refine la (v := v9) rfl rfl rfl ?_
  exact ⟨v9, rfl, (hS11.drop (sk (sn (List.Sublist.slnil))))⟩
 clear y0 y4
 rintro f12 H12 ⟨v9, y2, hS12⟩
 refine wpF_ret ?_
 refine ⟨_, resT y2 resN, hS12.frame, ?_⟩
 show Rd (SZ S H0) H12 v9 a
 have hS13 : St H0 NoB (SZ S H0) [rdE v9 a] H12 := St.fin hS12
 exact (hS13.result (hS13.rdS 0 rfl))
set_option maxRecDepth 100000 in
theorem num_M {H0 : Heap} (n : Int)  : CallsH Try.prog 74 #[I (n)] H0 (fun rv_ H' => Ext NoB H0 H' ∧ rv_ = Vg #[I n, I 1, Value.slice none 0 0, I 0]) := by
 have hS0 : St H0 NoB NoB [] H0 := St.start (fun _ h => h.elim)
 refine callsH_of_wpF (args := [I (n)]) (rs := [.cell 2 69]) Try.func74 rfl Try.ntmps74 Try.results74 (by kernel_rfl) (Nat.le_of_ble_eq_true rfl) ?_
 have y0 : argF [I (n)] 0 = I (n) := rfl
 generalize argF [I (n)] = f0 at *
 refine fcr (fun f H => ∃ (g1 : Nat), f 0 = I (n) ∧ f 2 = PT g1 0 ∧ St H0 NoB NoB [bE g1 #[I (0), I (0), nS, I (0)] 69] H) ?_ ?_
 ·refine lo rfl ?_
  refine e_alloc rfl Try.zeroValue69 hS0 (fun g1 H2 hS3 hxx => ?_)
  exact ⟨g1, y0, rfl, hS3⟩
 clear y0
 rintro f4 H4 ⟨g1, y0, y2, hS4⟩
 refine fcr (fun f H => f 2 = PT g1 0 ∧ St H0 NoB NoB [bE g1 #[I (n), I (1), nS, I (0)] 69] H) ?_ ?_
 ·refine lm (v := I (n)) rfl rfl y0 ?_
  refine lq rfl (q_build (v := Vg #[I (n), I (1)]) rfl (par2 (v0 := I (n)) (v1 := I (1)) rfl rfl) (fun w__ => by kernel_rfl)) ?_
  refine lq rfl (q_build (v := Vg #[I (n), I (1), nS, I (0)]) rfl (par1 (v0 := Vg #[I (n), I (1)]) rfl) (fun w__ => by kernel_rfl)) ?_
  refine lo rfl ?_
  refine e_storeBlkA (cs' := #[I (n), I (1), nS, I (0)]) rfl y2 rfl Try.sizeOf69 rfl rfl (fa rfl (fa rfl (fa rfl (fa rfl fe)))) hS4 (fun H5 hS6 hxx => ?_)
  exact ⟨y2, hS6⟩
 clear y0 y2
 rintro f7 H7 ⟨y2, hS7⟩
 refine wpF_ret ?_
 refine ⟨_, resC y2 (loadV_blkA Try.isAgg69 Try.sizeOf69 rfl (hS7.blk 0 rfl)) (resN), hS7.frame, ?_⟩
 show (Vg #[I (n), I (1), nS, I (0)]) = Vg #[I n, I 1, Value.slice none 0 0, I 0]
 rfl
set_option maxRecDepth 100000 in
theorem thing_A {H0 : Heap} (n : Int)  : CallsH Try.prog 24 #[I (n)] H0 (fun rv_ H' => Ext NoB H0 H' ∧ rv_ = Vg #[I n, I 1, Value.slice none 0 0, I 0]) := by
 have hS0 : St H0 NoB NoB [] H0 := St.start (fun _ h => h.elim)
 refine callsH_of_wpF (args := [I (n)]) (rs := [.cell 2 69]) Try.func24 rfl Try.ntmps24 Try.results24 (by kernel_rfl) (Nat.le_of_ble_eq_true rfl) ?_
 have y0 : argF [I (n)] 0 = I (n) := rfl
 generalize argF [I (n)] = f0 at *
 refine fcr (fun f H => ∃ (g1 : Nat), f 0 = I (n) ∧ f 2 = PT g1 0 ∧ St H0 NoB NoB [bE g1 #[I (0), I (0), nS, I (0)] 69] H) ?_ ?_
 ·refine lo rfl ?_
  refine e_alloc rfl Try.zeroValue69 hS0 (fun g1 H2 hS3 hxx => ?_)
  exact ⟨g1, y0, rfl, hS3⟩
 clear y0
 rintro f4 H4 ⟨g1, y0, y2, hS4⟩
 refine fcr (fun f H => f 2 = PT g1 0 ∧ St H0 NoB NoB [bE g1 #[I (n), I (1), nS, I (0)] 69] H) ?_ ?_
 ·refine lm (v := I (n)) rfl rfl y0 ?_
  refine lq rfl (q_build (v := Vg #[I (n), I (1)]) rfl (par2 (v0 := I (n)) (v1 := I (1)) rfl rfl) (fun w__ => by kernel_rfl)) ?_
  refine lq rfl (q_build (v := Vg #[I (n), I (1), nS, I (0)]) rfl (par1 (v0 := Vg #[I (n), I (1)]) rfl) (fun w__ => by kernel_rfl)) ?_
  refine lo rfl ?_
  refine e_storeBlkA (cs' := #[I (n), I (1), nS, I (0)]) rfl y2 rfl Try.sizeOf69 rfl rfl (fa rfl (fa rfl (fa rfl (fa rfl fe)))) hS4 (fun H5 hS6 hxx => ?_)
  exact ⟨y2, hS6⟩
 clear y0 y2
 rintro f7 H7 ⟨y2, hS7⟩
 refine wpF_ret ?_
 refine ⟨_, resC y2 (loadV_blkA Try.isAgg69 Try.sizeOf69 rfl (hS7.blk 0 rfl)) (resN), hS7.frame, ?_⟩
 show (Vg #[I (n), I (1), nS, I (0)]) = Vg #[I n, I 1, Value.slice none 0 0, I 0]
 rfl
set_option maxRecDepth 100000 in
theorem truth_M {H0 : Heap} (p : Prop) [Decidable p]  : CallsH Try.prog 69 #[B (decide (p))] H0 (fun rv_ H' => Ext NoB H0 H' ∧ rv_ = Vg #[I (bitP (p)), I 1, Value.slice none 0 0, I 0]) := by
 have hS0 : St H0 NoB NoB [] H0 := St.start (fun _ h => h.elim)
 refine callsH_of_wpF (args := [B (decide (p))]) (rs := [.cell 2 69]) Try.func69 rfl Try.ntmps69 Try.results69 (by kernel_rfl) (Nat.le_of_ble_eq_true rfl) ?_
 have y0 : argF [B (decide (p))] 0 = B (decide (p)) := rfl
 generalize argF [B (decide (p))] = f0 at *
 refine fcr (fun f H => ∃ (g1 : Nat), f 0 = B (decide (p)) ∧ f 2 = PT g1 0 ∧ St H0 NoB NoB [bE g1 #[I (0), I (0), nS, I (0)] 69] H) ?_ ?_
 ·refine lo rfl ?_
  refine e_alloc rfl Try.zeroValue69 hS0 (fun g1 H2 hS3 hxx => ?_)
  exact ⟨g1, y0, rfl, hS3⟩
 clear y0
 rintro f4 H4 ⟨g1, y0, y2, hS4⟩
 refine wpF_seq ?_
 refine fcr (fun f H => f 2 = PT g1 0 ∧ f 3 = B (decide (p)) ∧ H4 = H) ?_ ?_
 ·refine lm (v := B (decide (p))) rfl rfl y0 ?_
  exact ⟨y2, rfl, rfl⟩
 clear y0 y2
 rintro f5 _ ⟨y2, y3, rfl⟩
 refine wpF_condP y3 (fun hp => ?t19) (fun hp => ?e19)
 case t19 =>
  refine fcr (fun f H => f 2 = PT g1 0 ∧ St H0 NoB NoB [bE g1 #[I (1), I (1), nS, I (0)] 69] H) ?_ ?_
  ·refine lo rfl ?_
   refine e_call rfl Try.call74 (arr1 (v0 := I (1)) rfl) (num_M (1 : Int)) ?_
   rintro _ H7 ⟨hxx, rfl⟩
   have hS8 := hS4.ext hxx
   refine lo rfl ?_
   refine e_storeBlkA (cs' := #[I (1), I (1), nS, I (0)]) rfl y2 rfl Try.sizeOf69 rfl rfl (fa rfl (fa rfl (fa rfl (fa rfl fe)))) hS8 (fun H10 hS11 hxx => ?_)
   exact ⟨y2, hS11⟩
  clear y2 y3
  rintro f12 H12 ⟨y2, hS12⟩
  refine wpF_ret ?_
  refine ⟨_, resC y2 (loadV_blkA Try.isAgg69 Try.sizeOf69 rfl (hS12.blk 0 rfl)) (resN), hS12.frame, ?_⟩
  show (Vg #[I (1), I (1), nS, I (0)]) = Vg #[I (bitP (p)), I 1, Value.slice none 0 0, I 0]
  rw [bitP_yes hp]
 refine wpF_skip ?_
 refine fcr (fun f H => f 2 = PT g1 0 ∧ St H0 NoB NoB [bE g1 #[I (0), I (1), nS, I (0)] 69] H) ?_ ?_
 ·refine lo rfl ?_
  refine e_call rfl Try.call74 (arr1 (v0 := I (0)) rfl) (num_M (0 : Int)) ?_
  rintro _ H13 ⟨hxx, rfl⟩
  have hS14 := hS4.ext hxx
  refine lo rfl ?_
  refine e_storeBlkA (cs' := #[I (0), I (1), nS, I (0)]) rfl y2 rfl Try.sizeOf69 rfl rfl (fa rfl (fa rfl (fa rfl (fa rfl fe)))) hS14 (fun H16 hS17 hxx => ?_)
  exact ⟨y2, hS17⟩
 clear y2 y3
 rintro f18 H18 ⟨y2, hS18⟩
 refine wpF_ret ?_
 refine ⟨_, resC y2 (loadV_blkA Try.isAgg69 Try.sizeOf69 rfl (hS18.blk 0 rfl)) (resN), hS18.frame, ?_⟩
 show (Vg #[I (0), I (1), nS, I (0)]) = Vg #[I (bitP (p)), I 1, Value.slice none 0 0, I 0]
 rw [bitP_no hp]
set_option maxRecDepth 100000 in
theorem truth_MB {H0 : Heap} (p : Bool)  : CallsH Try.prog 69 #[B (p)] H0 (fun rv_ H' => Ext NoB H0 H' ∧ rv_ = Vg #[I (bitP (p = true)), I 1, Value.slice none 0 0, I 0]) := by
 have hS0 : St H0 NoB NoB [] H0 := St.start (fun _ h => h.elim)
 refine callsH_of_wpF (args := [B (p)]) (rs := [.cell 2 69]) Try.func69 rfl Try.ntmps69 Try.results69 (by kernel_rfl) (Nat.le_of_ble_eq_true rfl) ?_
 have y0 : argF [B (p)] 0 = B (p) := rfl
 generalize argF [B (p)] = f0 at *
 refine fcr (fun f H => ∃ (g1 : Nat), f 0 = B (p) ∧ f 2 = PT g1 0 ∧ St H0 NoB NoB [bE g1 #[I (0), I (0), nS, I (0)] 69] H) ?_ ?_
 ·refine lo rfl ?_
  refine e_alloc rfl Try.zeroValue69 hS0 (fun g1 H2 hS3 hxx => ?_)
  exact ⟨g1, y0, rfl, hS3⟩
 clear y0
 rintro f4 H4 ⟨g1, y0, y2, hS4⟩
 refine wpF_seq ?_
 refine fcr (fun f H => f 2 = PT g1 0 ∧ f 3 = B (p) ∧ H4 = H) ?_ ?_
 ·refine lm (v := B (p)) rfl rfl y0 ?_
  exact ⟨y2, rfl, rfl⟩
 clear y0 y2
 rintro f5 _ ⟨y2, y3, rfl⟩
 refine wpF_cond y3 (fun hp => ?t19) (fun hp => ?e19)
 case t19 =>
  refine fcr (fun f H => f 2 = PT g1 0 ∧ St H0 NoB NoB [bE g1 #[I (1), I (1), nS, I (0)] 69] H) ?_ ?_
  ·refine lo rfl ?_
   refine e_call rfl Try.call74 (arr1 (v0 := I (1)) rfl) (num_M (1 : Int)) ?_
   rintro _ H7 ⟨hxx, rfl⟩
   have hS8 := hS4.ext hxx
   refine lo rfl ?_
   refine e_storeBlkA (cs' := #[I (1), I (1), nS, I (0)]) rfl y2 rfl Try.sizeOf69 rfl rfl (fa rfl (fa rfl (fa rfl (fa rfl fe)))) hS8 (fun H10 hS11 hxx => ?_)
   exact ⟨y2, hS11⟩
  clear y2 y3
  rintro f12 H12 ⟨y2, hS12⟩
  refine wpF_ret ?_
  refine ⟨_, resC y2 (loadV_blkA Try.isAgg69 Try.sizeOf69 rfl (hS12.blk 0 rfl)) (resN), hS12.frame, ?_⟩
  show (Vg #[I (1), I (1), nS, I (0)]) = Vg #[I (bitP (p = true)), I 1, Value.slice none 0 0, I 0]
  rw [bitP_yes hp]
 refine wpF_skip ?_
 refine fcr (fun f H => f 2 = PT g1 0 ∧ St H0 NoB NoB [bE g1 #[I (0), I (1), nS, I (0)] 69] H) ?_ ?_
 ·refine lo rfl ?_
  refine e_call rfl Try.call74 (arr1 (v0 := I (0)) rfl) (num_M (0 : Int)) ?_
  rintro _ H13 ⟨hxx, rfl⟩
  have hS14 := hS4.ext hxx
  refine lo rfl ?_
  refine e_storeBlkA (cs' := #[I (0), I (1), nS, I (0)]) rfl y2 rfl Try.sizeOf69 rfl rfl (fa rfl (fa rfl (fa rfl (fa rfl fe)))) hS14 (fun H16 hS17 hxx => ?_)
  exact ⟨y2, hS17⟩
 clear y2 y3
 rintro f18 H18 ⟨y2, hS18⟩
 refine wpF_ret ?_
 refine ⟨_, resC y2 (loadV_blkA Try.isAgg69 Try.sizeOf69 rfl (hS18.blk 0 rfl)) (resN), hS18.frame, ?_⟩
 show (Vg #[I (0), I (1), nS, I (0)]) = Vg #[I (bitP (p = true)), I 1, Value.slice none 0 0, I 0]
 rw [bitP_no (by simpa using hp)]
set_option maxRecDepth 100000 in
theorem copied_M {H0 : Heap} {S : Nat → Prop} (vc : Value) (v : Val) (h6vVNum : In64 v.VNum) (h6vVDen : In64 v.VDen) (rvc : Rd S H0 vc v.Cells) (h6vRest : In64 v.Rest) : CallsH Try.prog 50 #[Vg #[I (v.VNum), I (v.VDen), vc, I (v.Rest)]] H0 (fun rv_ H' => Ext NoB H0 H' ∧ ∃ w_, rv_ = Vg #[I v.VNum, I v.VDen, w_, I v.Rest] ∧ Rd (SZ S H0) H' w_ v.Cells ∧ In64 v.VNum ∧ In64 v.VDen ∧ In64 v.Rest) := by
 have hsc : v.Cells.length * 16 ≤ 140737488355328 := (Rd.list.1 rvc).bound
 have hS0 : St H0 NoB (SZ S H0) [rdE vc v.Cells] H0 := St.arg (St.start (fun _ h => h.2)) (Bl0.nil) rvc (fun _ h => h.1)
 refine callsH_of_wpF (args := [Vg #[I (v.VNum), I (v.VDen), vc, I (v.Rest)]]) (rs := [.cell 2 69]) Try.func50 rfl Try.ntmps50 Try.results50 (by kernel_rfl) (Nat.le_of_ble_eq_true rfl) ?_
 have y0 : argF [Vg #[I (v.VNum), I (v.VDen), vc, I (v.Rest)]] 0 = Vg #[I (v.VNum), I (v.VDen), vc, I (v.Rest)] := rfl
 generalize argF [Vg #[I (v.VNum), I (v.VDen), vc, I (v.Rest)]] = f0 at *
 refine fcr (fun f H => ∃ (g1 : Nat), ∃ (g4 : Nat), f 1 = PT g1 0 ∧ f 2 = PT g4 0 ∧ St H0 NoB (SZ S H0) [bE g4 #[I (0), I (0), nS, I (0)] 69, bE g1 #[I (v.VNum), I (v.VDen), vc, I (v.Rest)] 69, rdE vc v.Cells] H) ?_ ?_
 ·refine lo rfl ?_
  refine e_box (v := Vg #[I (v.VNum), I (v.VDen), vc, I (v.Rest)]) rfl y0 hS0 (fun g1 H2 hS3 hxx => ?_)
  refine lo rfl ?_
  refine e_alloc rfl Try.zeroValue69 hS3 (fun g4 H5 hS6 hxx => ?_)
  exact ⟨g1, g4, rfl, rfl, hS6⟩
 clear y0
 rintro f7 H7 ⟨g1, g4, y1, y2, hS7⟩
 refine fcr (fun f H => ∃ (r8 : Value), f 1 = PT g1 0 ∧ f 2 = PT g4 0 ∧ St H0 NoB (SZ S H0) [bE g1 #[I (v.VNum), I (v.VDen), r8, I (v.Rest)] 69, rdE r8 v.Cells, bE g4 #[I (0), I (0), nS, I (0)] 69, rdE vc v.Cells] H) ?_ ?_
 ·refine lq rfl (q_fieldAddr rfl Try.underlying69 rfl Try.sizeOf67 y1) ?_
  refine lq rfl (q_loadBlk rfl rfl Try.isAgg67 (hS7.blk 1 rfl) rfl (fun h => h)) ?_
  refine lo rfl ?_
  refine e_call rfl Try.call40 (arr1 (v0 := vc) rfl) (CloneC vc _ (hS7.rdS 2 rfl)) ?_
  rintro r8 H9 ⟨hxx, hrr8⟩
  have hS10 := hS7.res hxx hrr8
  refine lq rfl (q_fieldAddr rfl Try.underlying69 rfl Try.sizeOf67 y1) ?_
  refine lo rfl ?_
  refine e_storeBlk (v := r8) rfl rfl rfl (oneCell_rdL (hS10.rdl 0 rfl)) Try.sizeOf67 (by show _ < 4; decide) (hS10.front 2 rfl) (fun H12 hS13 hxx => ?_)
  exact ⟨r8, y1, y2, hS13⟩
 clear y1 y2
 rintro f14 H14 ⟨r8, y1, y2, hS14⟩
 refine fcr (fun f H => f 2 = PT g4 0 ∧ St H0 NoB (SZ S H0) [bE g4 #[I (v.VNum), I (v.VDen), r8, I (v.Rest)] 69, bE g1 #[I (v.VNum), I (v.VDen), r8, I (v.Rest)] 69, rdE r8 v.Cells, rdE vc v.Cells] H) ?_ ?_
 ·refine lq rfl (q_loadBlkA rfl y1 Try.isAgg69 Try.sizeOf69 rfl (hS14.blk 0 rfl) (fun h => h)) ?_
  refine lo rfl ?_
  refine e_storeBlkA (cs' := #[I (v.VNum), I (v.VDen), r8, I (v.Rest)]) rfl y2 rfl Try.sizeOf69 rfl rfl (fa rfl (fa rfl (fa ((oneCell_rdL (hS14.rdl 1 rfl))) (fa rfl fe)))) (hS14.front 2 rfl) (fun H15 hS16 hxx => ?_)
  exact ⟨y2, hS16⟩
 clear y1 y2
 rintro f17 H17 ⟨y2, hS17⟩
 refine wpF_ret ?_
 refine ⟨_, resC y2 (loadV_blkA Try.isAgg69 Try.sizeOf69 rfl (hS17.blk 0 rfl)) (resN), hS17.frame, ?_⟩
 show ∃ w_, (Vg #[I (v.VNum), I (v.VDen), r8, I (v.Rest)]) = Vg #[I v.VNum, I v.VDen, w_, I v.Rest] ∧ Rd (SZ S H0) H17 w_ v.Cells ∧ In64 v.VNum ∧ In64 v.VDen ∧ In64 v.Rest
 exact ⟨_, rfl, (hS17.result (hS17.rdS 2 rfl)), by assumption, by assumption, by assumption⟩
set_option maxHeartbeats 1000000 in
set_option maxRecDepth 100000 in
theorem told_M {H0 : Heap} {S : Nat → Prop} (vr vc vK : Value) (m : Meaning) (K : List Val) (rvr : Rd S H0 vr m.Rows) (h6mMNum : In64 m.MNum) (h6mMDen : In64 m.MDen) (rvc : Rd S H0 vc m.MCells) (h6mMRest : In64 m.MRest) (rK : Rd S H0 vK K) (hK : ∀ i, i < m.Rows.length → (nth m.Rows i).Args.length ≤ K.length) : CallsH Try.prog 71 #[Vg #[vr, I (m.MNum), I (m.MDen), vc, I (m.MRest)], vK] H0 (fun rv_ H' => Ext NoB H0 H' ∧ ∃ w_, rv_ = Vg #[I (toldV m K).VNum, I (toldV m K).VDen, w_, I (toldV m K).Rest] ∧ Rd (SZ S H0) H' w_ (toldV m K).Cells ∧ In64 (toldV m K).VNum ∧ In64 (toldV m K).VDen ∧ In64 (toldV m K).Rest) := by
 have hsr : m.Rows.length * 72 ≤ 140737488355328 := (Rd.list.1 rvr).bound
 have hsK : K.length * 48 ≤ 140737488355328 := (Rd.list.1 rK).bound
 have hS0 : St H0 NoB (SZ S H0) [rdE vr m.Rows, rdE vc m.MCells, rdE vK K] H0 := St.arg (St.arg (St.arg (St.start (fun _ h => h.2)) (Bl0.nil) rK (fun _ h => h.1)) (Bl0.cons (Bl0.nil)) rvc (fun _ h => h.1)) (Bl0.cons (Bl0.cons (Bl0.nil))) rvr (fun _ h => h.1)
 refine callsH_of_wpF (args := [Vg #[vr, I (m.MNum), I (m.MDen), vc, I (m.MRest)], vK]) (rs := [.cell 4 69]) Try.func71 rfl Try.ntmps71 Try.results71 (by kernel_rfl) (Nat.le_of_ble_eq_true rfl) ?_
 have y0 : argF [Vg #[vr, I (m.MNum), I (m.MDen), vc, I (m.MRest)], vK] 0 = Vg #[vr, I (m.MNum), I (m.MDen), vc, I (m.MRest)] := rfl
 have y1 : argF [Vg #[vr, I (m.MNum), I (m.MDen), vc, I (m.MRest)], vK] 1 = vK := rfl
 generalize argF [Vg #[vr, I (m.MNum), I (m.MDen), vc, I (m.MRest)], vK] = f0 at *
 refine fcr (fun f H => ∃ (g1 : Nat), ∃ (g4 : Nat), f 1 = vK ∧ f 2 = PT g1 0 ∧ f 4 = PT g4 0 ∧ St H0 NoB (SZ S H0) [bE g4 #[I (0), I (0), nS, I (0)] 69, bE g1 #[vr, I (m.MNum), I (m.MDen), vc, I (m.MRest)] 71, rdE vr m.Rows, rdE vc m.MCells, rdE vK K] H) ?_ ?_
 ·refine lo rfl ?_
  refine e_box (v := Vg #[vr, I (m.MNum), I (m.MDen), vc, I (m.MRest)]) rfl y0 hS0 (fun g1 H2 hS3 hxx => ?_)
  refine lo rfl ?_
  refine e_alloc rfl Try.zeroValue69 hS3 (fun g4 H5 hS6 hxx => ?_)
  exact ⟨g1, g4, y1, rfl, rfl, hS6⟩
 clear y0 y1
 rintro f7 H7 ⟨g1, g4, y1, y2, y4, hS7⟩
 refine wpF_seq ?_
 refine fcr (fun f H => f 1 = vK ∧ f 2 = PT g1 0 ∧ f 4 = PT g4 0 ∧ f 11 = vr ∧ f 12 = I ((m.Rows.length : Int)) ∧ f 13 = I (0) ∧ H7 = H) ?_ ?_
 ·refine lq rfl (q_fieldAddr rfl Try.underlying71 rfl Try.sizeOf64 y2) ?_
  refine lq rfl (q_loadBlk rfl rfl Try.isAgg64 (hS7.blk 1 rfl) rfl (fun h => h)) ?_
  refine lq rfl (q_lenRd rfl Try.underlying64 rfl (hS7.rdl 2 rfl)) ?_
  refine lm (v := I (0)) rfl rfl rfl ?_
  exact ⟨y1, y2, y4, rfl, rfl, rfl, rfl⟩
 clear y1 y2 y4
 rintro f8 _ ⟨y1, y2, y4, y11, y12, y13, rfl⟩
 refine wpF_block ?_
 refine wpF_loop (fun mz f H => ∃ (k : Nat), mz = m.Rows.length - k ∧ (k ≤ m.Rows.length) ∧ (∀ j, j < k → toldAt m K j = none) ∧ f 1 = vK ∧ f 2 = PT g1 0 ∧ f 4 = PT g4 0 ∧ f 11 = vr ∧ f 12 = I ((m.Rows.length : Int)) ∧ f 13 = I ((k : Int)) ∧ St H0 NoB (SZ S H0) [bE g4 #[I (0), I (0), nS, I (0)] 69, bE g1 #[vr, I (m.MNum), I (m.MDen), vc, I (m.MRest)] 71, rdE vr m.Rows, rdE vc m.MCells, rdE vK K] H) (m.Rows.length - 0) ?_ ?_
 ·exact ⟨0, rfl, Nat.zero_le _, (fun j hj => absurd hj (Nat.not_lt_zero j)), y1, y2, y4, y11, y12, (Eq.trans y13 (congrArg I (by omega))), hS7⟩
 intro m9 f9 H9 hI9
 clear y1 y11 y12 y13 y2 y4
 obtain ⟨k, hm9, hk, hp, y1, y2, y4, y11, y12, y13, hS9⟩ := hI9
 refine fcr (fun f H => f 1 = vK ∧ f 2 = PT g1 0 ∧ f 4 = PT g4 0 ∧ f 11 = vr ∧ f 12 = I ((m.Rows.length : Int)) ∧ f 13 = I ((k : Int)) ∧ f 14 = B (decide ((k : Int) < (m.Rows.length : Int))) ∧ H9 = H) ?_ ?_
 ·refine lq rfl (q_lss rfl y13 y12) ?_
  exact ⟨y1, y2, y4, y11, y12, y13, rfl, rfl⟩
 clear y1 y11 y12 y13 y2 y4
 rintro f10 _ ⟨y1, y2, y4, y11, y12, y13, y14, rfl⟩
 refine wpF_seq ?_
 refine wpF_condP y14 (fun hlt => ?t52) (fun hlt => ?e52)
 case e52 =>
  refine wpF_exit ?_
  refine atX_here ?_
  refine fcr (fun f H => ∃ (r45 : Value), (In64 m.rest.VNum) ∧ (In64 m.rest.VDen) ∧ (In64 m.rest.Rest) ∧ f 4 = PT g4 0 ∧ St H0 NoB (SZ S H0) [bE g4 #[I (m.rest.VNum), I (m.rest.VDen), r45, I (m.rest.Rest)] 69, rdE r45 m.rest.Cells, bE g1 #[vr, I (m.MNum), I (m.MDen), vc, I (m.MRest)] 71, rdE vr m.Rows, rdE vc m.MCells, rdE vK K] H) ?_ ?_
  ·refine lq rfl (q_fieldAddr rfl Try.underlying71 rfl Try.sizeOf69 y2) ?_
   refine lq rfl (q_loadBlkP (ds := [I (m.MNum), I (m.MDen), vc, I (m.MRest)]) rfl rfl Try.isAgg69 Try.sizeOf69 rfl rfl (hS9.blk 1 rfl) (fun h => h)) ?_
   refine lo rfl ?_
   refine e_call rfl Try.call50 (arr1 (v0 := Vg #[I (m.MNum), I (m.MDen), vc, I (m.MRest)]) rfl) (copied_M vc m.rest (by first | assumption | exact bitP_in | exact wrap_in64 | (constructor <;> (dsimp only; omega)) | (constructor <;> omega)) (by first | assumption | exact bitP_in | exact wrap_in64 | (constructor <;> (dsimp only; omega)) | (constructor <;> omega)) (hS9.rdS 3 rfl) (by first | assumption | exact bitP_in | exact wrap_in64 | (constructor <;> (dsimp only; omega)) | (constructor <;> omega))) ?_
   rintro _ H46 ⟨hxx, r45, rfl, hrr45, h6r45a, h6r45b, h6r45c⟩
   have hS47 := hS9.res hxx hrr45
   refine lo rfl ?_
   refine e_storeBlkA (cs' := #[I (m.rest.VNum), I (m.rest.VDen), r45, I (m.rest.Rest)]) rfl y4 rfl Try.sizeOf69 rfl rfl (fa rfl (fa rfl (fa ((oneCell_rdL (hS47.rdl 0 rfl))) (fa rfl fe)))) (hS47.front 1 rfl) (fun H49 hS50 hxx => ?_)
   exact ⟨r45, h6r45a, h6r45b, h6r45c, y4, hS50⟩
  clear y1 y11 y12 y13 y14 y2 y4
  rintro f51 H51 ⟨r45, h6r45a, h6r45b, h6r45c, y4, hS51⟩
  refine wpF_ret ?_
  refine ⟨_, resC y4 (loadV_blkA Try.isAgg69 Try.sizeOf69 rfl (hS51.blk 0 rfl)) (resN), hS51.frame, ?_⟩
  show ∃ w_, (Vg #[I (m.rest.VNum), I (m.rest.VDen), r45, I (m.rest.Rest)]) = Vg #[I (toldV m K).VNum, I (toldV m K).VDen, w_, I (toldV m K).Rest] ∧ Rd (SZ S H0) H51 w_ (toldV m K).Cells ∧ In64 (toldV m K).VNum ∧ In64 (toldV m K).VDen ∧ In64 (toldV m K).Rest
  have hq_ : toldV m K = _ := toldV_no fun j hj => hp j (by omega)
  rw [hq_]
  exact ⟨_, rfl, (hS51.result (hS51.rdS 1 rfl)), by assumption, by assumption, by assumption⟩
 have hKk := hK k (by omega)
 refine wpF_skip ?_
 refine wpF_seq ?_
 refine wpF_block ?_
 refine fcr (fun f H => ∃ (u12n0 : Value), ∃ (u12n3 : Value), ∃ (g15 : Nat), (In64 (nth m.Rows k).ENum) ∧ (In64 (nth m.Rows k).EDen) ∧ (In64 (nth m.Rows k).ERest) ∧ f 1 = vK ∧ f 2 = PT g1 0 ∧ f 4 = PT g4 0 ∧ f 6 = PT g15 0 ∧ f 11 = vr ∧ f 12 = I ((m.Rows.length : Int)) ∧ f 13 = I ((k : Int)) ∧ St H0 NoB (SZ S H0) [bE g15 #[u12n0, I ((nth m.Rows k).ENum), I ((nth m.Rows k).EDen), u12n3, I ((nth m.Rows k).ERest)] 74, rdE u12n3 ((nth m.Rows k).ECells), rdE u12n0 ((nth m.Rows k).Args), bE g4 #[I (0), I (0), nS, I (0)] 69, bE g1 #[vr, I (m.MNum), I (m.MDen), vc, I (m.MRest)] 71, rdE vr m.Rows, rdE vc m.MCells, rdE vK K] H) ?_ ?_
 ·refine lq rfl (q_indexRd (k := k) rfl Try.underlying64 el_Entry_74_MeanC3 y11 y13 (hS9.rdl 2 rfl) (by omega) (by omega)) ?_
  obtain ⟨u12, huu12, hlu12⟩ := (Rd.list.1 (hS9.rdS 2 rfl)).elem k (by omega)
  obtain ⟨u12n0, u12n3, rfl, hu120, hu121, hu122, hu123, hu124⟩ := Rd.entry.1 huu12
  have hS13 := hS9.rd hu120
  have hS14 : St H0 NoB (SZ S H0) [rdE u12n3 ((nth m.Rows k).ECells), rdE u12n0 ((nth m.Rows k).Args), bE g4 #[I (0), I (0), nS, I (0)] 69, bE g1 #[vr, I (m.MNum), I (m.MDen), vc, I (m.MRest)] 71, rdE vr m.Rows, rdE vc m.MCells, rdE vK K] H9 := hS13.rd (hu123.sub fun _ hb => SL_rd hb)
  refine lq rfl (q_loadE rfl rfl (hlu12 Try.prog 74 _ el_Entry_74_MeanC3 (fun _ h => False.elim h))) ?_
  refine lo rfl ?_
  refine e_alloc rfl Try.zeroValue74 hS14 (fun g15 H16 hS17 hxx => ?_)
  refine lo rfl ?_
  refine e_storeBlkA (cs' := #[u12n0, I ((nth m.Rows k).ENum), I ((nth m.Rows k).EDen), u12n3, I ((nth m.Rows k).ERest)]) rfl rfl rfl Try.sizeOf74 rfl rfl (fa ((oneCell_rdL (hS17.rdl 2 rfl))) (fa rfl (fa rfl (fa ((oneCell_rdL (hS17.rdl 1 rfl))) (fa rfl fe))))) hS17 (fun H18 hS19 hxx => ?_)
  exact ⟨u12n0, u12n3, g15, hu121, hu122, hu124, y1, y2, y4, rfl, y11, y12, y13, hS19⟩
 clear y1 y11 y12 y13 y14 y2 y4
 rintro f20 H20 ⟨u12n0, u12n3, g15, hu121, hu122, hu124, y1, y2, y4, y6, y11, y12, y13, hS20⟩
 refine fcr (fun f H => f 1 = vK ∧ f 2 = PT g1 0 ∧ f 4 = PT g4 0 ∧ f 6 = PT g15 0 ∧ f 7 = B (true) ∧ f 11 = vr ∧ f 12 = I ((m.Rows.length : Int)) ∧ f 13 = I ((k : Int)) ∧ H20 = H) ?_ ?_
 ·refine la (v := B (true)) rfl rfl rfl ?_
  exact ⟨y1, y2, y4, y6, rfl, y11, y12, y13, rfl⟩
 clear y1 y11 y12 y13 y2 y4 y6
 rintro f21 _ ⟨y1, y2, y4, y6, y7, y11, y12, y13, rfl⟩
 refine wpF_seq ?_
 refine fcr (fun f H => f 1 = vK ∧ f 2 = PT g1 0 ∧ f 4 = PT g4 0 ∧ f 6 = PT g15 0 ∧ f 7 = B (true) ∧ f 11 = vr ∧ f 12 = I ((m.Rows.length : Int)) ∧ f 13 = I ((k : Int)) ∧ f 18 = u12n0 ∧ f 19 = I ((((nth m.Rows k).Args).length : Int)) ∧ f 20 = I (0) ∧ H20 = H) ?_ ?_
 ·refine lq rfl (q_fieldAddr rfl Try.underlying74 rfl Try.sizeOf24 y6) ?_
  refine lq rfl (q_loadBlk rfl rfl Try.isAgg24 (hS20.blk 0 rfl) rfl (fun h => h)) ?_
  refine lq rfl (q_lenRd rfl Try.underlying24 rfl (hS20.rdl 2 rfl)) ?_
  refine lm (v := I (0)) rfl rfl rfl ?_
  exact ⟨y1, y2, y4, y6, y7, y11, y12, y13, rfl, rfl, rfl, rfl⟩
 clear y1 y11 y12 y13 y2 y4 y6 y7
 rintro f22 _ ⟨y1, y2, y4, y6, y7, y11, y12, y13, y18, y19, y20, rfl⟩
 refine wpF_block ?_
 refine wpF_loop (fun mz f H => ∃ (i : Nat), ∃ (sm : Bool), mz = (nth m.Rows k).Args.length - i ∧ (i ≤ (nth m.Rows k).Args.length) ∧ (sm = true ↔ ∀ j, j < i → (nth K j).VNum = nth (nth m.Rows k).Args j) ∧ f 1 = vK ∧ f 2 = PT g1 0 ∧ f 4 = PT g4 0 ∧ f 6 = PT g15 0 ∧ f 7 = B (sm) ∧ f 11 = vr ∧ f 12 = I ((m.Rows.length : Int)) ∧ f 13 = I ((k : Int)) ∧ f 18 = u12n0 ∧ f 19 = I ((((nth m.Rows k).Args).length : Int)) ∧ f 20 = I ((i : Int)) ∧ St H0 NoB (SZ S H0) [bE g15 #[u12n0, I ((nth m.Rows k).ENum), I ((nth m.Rows k).EDen), u12n3, I ((nth m.Rows k).ERest)] 74, rdE u12n3 ((nth m.Rows k).ECells), rdE u12n0 ((nth m.Rows k).Args), bE g4 #[I (0), I (0), nS, I (0)] 69, bE g1 #[vr, I (m.MNum), I (m.MDen), vc, I (m.MRest)] 71, rdE vr m.Rows, rdE vc m.MCells, rdE vK K] H) ((nth m.Rows k).Args.length - 0) ?_ ?_
 ·exact ⟨0, true, rfl, Nat.zero_le _, ⟨fun _ j hj => absurd hj (Nat.not_lt_zero j), fun _ => rfl⟩, y1, y2, y4, y6, y7, y11, y12, y13, y18, y19, (Eq.trans y20 (congrArg I (by omega))), hS20⟩
 intro m23 f23 H23 hI23
 clear y1 y11 y12 y13 y18 y19 y2 y20 y4 y6 y7
 obtain ⟨i, sm, hm23, hi, hq, y1, y2, y4, y6, y7, y11, y12, y13, y18, y19, y20, hS23⟩ := hI23
 refine fcr (fun f H => f 1 = vK ∧ f 2 = PT g1 0 ∧ f 4 = PT g4 0 ∧ f 6 = PT g15 0 ∧ f 7 = B (sm) ∧ f 11 = vr ∧ f 12 = I ((m.Rows.length : Int)) ∧ f 13 = I ((k : Int)) ∧ f 18 = u12n0 ∧ f 19 = I ((((nth m.Rows k).Args).length : Int)) ∧ f 20 = I ((i : Int)) ∧ f 21 = B (decide ((i : Int) < (((nth m.Rows k).Args).length : Int))) ∧ H23 = H) ?_ ?_
 ·refine lq rfl (q_lss rfl y20 y19) ?_
  exact ⟨y1, y2, y4, y6, y7, y11, y12, y13, y18, y19, y20, rfl, rfl⟩
 clear y1 y11 y12 y13 y18 y19 y2 y20 y4 y6 y7
 rintro f24 _ ⟨y1, y2, y4, y6, y7, y11, y12, y13, y18, y19, y20, y21, rfl⟩
 refine wpF_seq ?_
 refine wpF_condP y21 (fun hlt2 => ?t44) (fun hlt2 => ?e44)
 case e44 =>
  refine wpF_exit ?_
  refine atX_here ?_
  refine fcr (fun f H => f 1 = vK ∧ f 2 = PT g1 0 ∧ f 4 = PT g4 0 ∧ f 6 = PT g15 0 ∧ f 11 = vr ∧ f 12 = I ((m.Rows.length : Int)) ∧ f 13 = I ((k : Int)) ∧ f 37 = B (sm) ∧ H23 = H) ?_ ?_
  ·refine lm (v := B (sm)) rfl rfl y7 ?_
   exact ⟨y1, y2, y4, y6, y11, y12, y13, rfl, rfl⟩
  clear y1 y11 y12 y13 y18 y19 y2 y20 y21 y4 y6 y7
  rintro f33 _ ⟨y1, y2, y4, y6, y11, y12, y13, y37, rfl⟩
  refine wpF_cond y37 (fun h37 => ?t43) (fun h37 => ?e43)
  case e43 =>
   refine wpF_skip ?_
   refine wpF_cut (fun f H => f 1 = vK ∧ f 2 = PT g1 0 ∧ f 4 = PT g4 0 ∧ f 11 = vr ∧ f 12 = I ((m.Rows.length : Int)) ∧ f 13 = I ((k : Int) + 1) ∧ H23 = H) ?_ ?_
   ·refine wpF_region ?_
    refine lq rfl (q_add rfl y13 rfl (by constructor <;> omega)) ?_
    refine lm (v := I ((k : Int) + 1)) rfl rfl rfl ?_
    exact ⟨y1, y2, y4, y11, y12, rfl, rfl⟩
   clear y1 y11 y12 y13 y2 y37 y4 y6
   rintro f42 _ ⟨y1, y2, y4, y11, y12, y13, rfl⟩
   refine ⟨_, ?_, k + 1, rfl, (by omega), (all_succ hp (toldAt_no (show sm = true ↔ ∀ j, j < (nth m.Rows k).Args.length → _ from ⟨fun h j hj => hq.1 h j (by omega), fun h => hq.2 fun j hj => h j (by omega)⟩) h37)), y1, y2, y4, y11, y12, (Eq.trans y13 (congrArg I (by omega))), (hS23.drop (sn (sn (sn (sk (sk (sk (sk (sk (List.Sublist.slnil))))))))))⟩
   omega
  refine fcr (fun f H => ∃ (r35 : Value), (In64 ((nth m.Rows k).to).VNum) ∧ (In64 ((nth m.Rows k).to).VDen) ∧ (In64 ((nth m.Rows k).to).Rest) ∧ f 4 = PT g4 0 ∧ St H0 NoB (SZ S H0) [bE g4 #[I (((nth m.Rows k).to).VNum), I (((nth m.Rows k).to).VDen), r35, I (((nth m.Rows k).to).Rest)] 69, rdE r35 (((nth m.Rows k).to).Cells), bE g15 #[u12n0, I ((nth m.Rows k).ENum), I ((nth m.Rows k).EDen), u12n3, I ((nth m.Rows k).ERest)] 74, rdE u12n3 ((nth m.Rows k).ECells), rdE u12n0 ((nth m.Rows k).Args), bE g1 #[vr, I (m.MNum), I (m.MDen), vc, I (m.MRest)] 71, rdE vr m.Rows, rdE vc m.MCells, rdE vK K] H) ?_ ?_
  ·refine lq rfl (q_fieldAddr rfl Try.underlying74 rfl Try.sizeOf69 y6) ?_
   refine lq rfl (q_loadBlkP (ds := [I ((nth m.Rows k).ENum), I ((nth m.Rows k).EDen), u12n3, I ((nth m.Rows k).ERest)]) rfl rfl Try.isAgg69 Try.sizeOf69 rfl rfl (hS23.blk 0 rfl) (fun h => h)) ?_
   refine lo rfl ?_
   refine e_call rfl Try.call50 (arr1 (v0 := Vg #[I ((nth m.Rows k).ENum), I ((nth m.Rows k).EDen), u12n3, I ((nth m.Rows k).ERest)]) rfl) (copied_M u12n3 ((nth m.Rows k).to) (by first | assumption | exact bitP_in | exact wrap_in64 | (constructor <;> (dsimp only; omega)) | (constructor <;> omega)) (by first | assumption | exact bitP_in | exact wrap_in64 | (constructor <;> (dsimp only; omega)) | (constructor <;> omega)) (hS23.rdS 1 rfl) (by first | assumption | exact bitP_in | exact wrap_in64 | (constructor <;> (dsimp only; omega)) | (constructor <;> omega))) ?_
   rintro _ H36 ⟨hxx, r35, rfl, hrr35, h6r35a, h6r35b, h6r35c⟩
   have hS37 := hS23.res hxx hrr35
   refine lo rfl ?_
   refine e_storeBlkA (cs' := #[I (((nth m.Rows k).to).VNum), I (((nth m.Rows k).to).VDen), r35, I (((nth m.Rows k).to).Rest)]) rfl y4 rfl Try.sizeOf69 rfl rfl (fa rfl (fa rfl (fa ((oneCell_rdL (hS37.rdl 0 rfl))) (fa rfl fe)))) (hS37.front 4 rfl) (fun H39 hS40 hxx => ?_)
   exact ⟨r35, h6r35a, h6r35b, h6r35c, y4, hS40⟩
  clear y1 y11 y12 y13 y2 y37 y4 y6
  rintro f41 H41 ⟨r35, h6r35a, h6r35b, h6r35c, y4, hS41⟩
  refine wpF_ret ?_
  refine ⟨_, resC y4 (loadV_blkA Try.isAgg69 Try.sizeOf69 rfl (hS41.blk 0 rfl)) (resN), hS41.frame, ?_⟩
  show ∃ w_, (Vg #[I (((nth m.Rows k).to).VNum), I (((nth m.Rows k).to).VDen), r35, I (((nth m.Rows k).to).Rest)]) = Vg #[I (toldV m K).VNum, I (toldV m K).VDen, w_, I (toldV m K).Rest] ∧ Rd (SZ S H0) H41 w_ (toldV m K).Cells ∧ In64 (toldV m K).VNum ∧ In64 (toldV m K).VDen ∧ In64 (toldV m K).Rest
  have hq_ : toldV m K = _ := toldV_at (by omega) hp (show sm = true ↔ ∀ j, j < (nth m.Rows k).Args.length → _ from ⟨fun h j hj => hq.1 h j (by omega), fun h => hq.2 fun j hj => h j (by omega)⟩) h37
  rw [hq_]
  exact ⟨_, rfl, (hS41.result (hS41.rdS 1 rfl)), by assumption, by assumption, by assumption⟩
 refine wpF_skip ?_
 refine wpF_seq ?_
 refine wpF_block ?_
 refine fcr (fun f H => f 1 = vK ∧ f 2 = PT g1 0 ∧ f 4 = PT g4 0 ∧ f 6 = PT g15 0 ∧ f 7 = B (sm) ∧ f 8 = I ((i : Int)) ∧ f 9 = I (nth ((nth m.Rows k).Args) i) ∧ f 11 = vr ∧ f 12 = I ((m.Rows.length : Int)) ∧ f 13 = I ((k : Int)) ∧ f 18 = u12n0 ∧ f 19 = I ((((nth m.Rows k).Args).length : Int)) ∧ f 20 = I ((i : Int)) ∧ H23 = H) ?_ ?_
 ·refine lm (v := I ((i : Int))) rfl rfl y20 ?_
  refine lq rfl (q_indexRd (k := i) rfl Try.underlying24 el_Int_3_MeanC3 y18 y20 (hS23.rdl 2 rfl) (by omega) (by omega)) ?_
  refine lq rfl (q_loadInt (k := i) rfl rfl el_Int_3_MeanC3 (hS23.rdl 2 rfl) (by omega) (fun _ h => h)) ?_
  refine la (v := I ((i : Int))) rfl rfl rfl ?_
  refine la (v := I (nth ((nth m.Rows k).Args) i)) rfl rfl rfl ?_
  exact ⟨y1, y2, y4, y6, y7, rfl, rfl, y11, y12, y13, y18, y19, y20, rfl⟩
 clear y1 y11 y12 y13 y18 y19 y2 y20 y21 y4 y6 y7
 rintro f26 _ ⟨y1, y2, y4, y6, y7, y8, y9, y11, y12, y13, y18, y19, y20, rfl⟩
 refine wpF_cut (fun f H => f 1 = vK ∧ f 2 = PT g1 0 ∧ f 4 = PT g4 0 ∧ f 6 = PT g15 0 ∧ f 7 = B (decide ((sm = true) ∧ (((nth K i).VNum) = (nth ((nth m.Rows k).Args) i)))) ∧ f 11 = vr ∧ f 12 = I ((m.Rows.length : Int)) ∧ f 13 = I ((k : Int)) ∧ f 18 = u12n0 ∧ f 19 = I ((((nth m.Rows k).Args).length : Int)) ∧ f 20 = I ((i : Int)) ∧ H23 = H) ?_ ?_
 ·refine wpF_region ?_
  refine lm (v := B (sm)) rfl rfl y7 ?_
  refine lm (v := B (sm)) rfl rfl rfl ?_
  by_cases hg27 : sm = true
  ·have hb28 := Eq.trans rfl (congrArg B hg27)
   refine gq rfl rfl rfl hb28 (q_move (v := vK) rfl y1) ?_
   refine gq rfl rfl rfl hb28 (q_move (v := I ((i : Int))) rfl y8) ?_
   refine gq rfl rfl rfl hb28 (q_indexRd (k := i) rfl Try.underlying80 el_Val_69_MeanC3 rfl rfl (hS23.rdl 7 rfl) (by omega) (by omega)) ?_
   refine gq rfl rfl rfl hb28 (q_fieldE (k := i) rfl Try.underlying69 rfl Try.sizeOf66 rfl rfl (hS23.rdl 7 rfl) (by omega)) ?_
   refine gq rfl rfl rfl hb28 (q_fieldF (k := i) rfl Try.underlying66 rfl Try.sizeOf3 rfl rfl (hS23.rdl 7 rfl) (by omega)) ?_
   obtain ⟨_, hcu30, hFu30⟩ := (Rd.list.1 (hS23.rdS 7 rfl)).cellF i (by omega)
   obtain ⟨u30n2, rfl, hu300, hu301, hu302, hu303⟩ := hcu30
   refine gq rfl rfl rfl hb28 (q_loadF rfl rfl (hFu30 0 _ Try.prog 3 _ rfl Try.isAgg3 (fun _ h => False.elim h))) ?_
   refine gq rfl rfl rfl hb28 (q_move (v := I (nth ((nth m.Rows k).Args) i)) rfl y9) ?_
   refine gq rfl rfl rfl hb28 (q_eql rfl rfl rfl) ?_
   refine lq rfl (q_pickT (v := B (decide (((nth K i).VNum) = (nth ((nth m.Rows k).Args) i)))) rfl hb28 rfl) ?_
   refine la (v := B (decide (((nth K i).VNum) = (nth ((nth m.Rows k).Args) i)))) rfl rfl rfl ?_
   exact ⟨y1, y2, y4, y6, (Eq.trans rfl (congrArg B (decide_congr_of ((Iff.rfl).trans (((and_iff_right hg27).trans Iff.rfl)).symm)))), y11, y12, y13, y18, y19, y20, rfl⟩
  ·have hb29 := Eq.trans rfl (congrArg B (Bool.eq_false_iff.2 hg27))
   refine wpL_gs rfl rfl rfl hb29 rfl ?_
   refine wpL_gs rfl rfl rfl hb29 rfl ?_
   refine wpL_gs rfl rfl rfl hb29 rfl ?_
   refine wpL_gs rfl rfl rfl hb29 rfl ?_
   refine wpL_gs rfl rfl rfl hb29 rfl ?_
   refine wpL_gs rfl rfl rfl hb29 rfl ?_
   refine wpL_gs rfl rfl rfl hb29 rfl ?_
   refine wpL_gs rfl rfl rfl hb29 rfl ?_
   refine lq rfl (q_pickF (v := B (false)) rfl hb29 rfl) ?_
   refine la (v := B (false)) rfl rfl rfl ?_
   exact ⟨y1, y2, y4, y6, (Eq.trans rfl (congrArg B ((decide_eq_false (fun h => hg27 h.1)).symm))), y11, y12, y13, y18, y19, y20, rfl⟩
 clear y1 y11 y12 y13 y18 y19 y2 y20 y4 y6 y7 y8 y9
 rintro f31 _ ⟨y1, y2, y4, y6, y7, y11, y12, y13, y18, y19, y20, rfl⟩
 refine wpF_cut (fun f H => f 1 = vK ∧ f 2 = PT g1 0 ∧ f 4 = PT g4 0 ∧ f 6 = PT g15 0 ∧ f 7 = B (decide ((sm = true) ∧ (((nth K i).VNum) = (nth ((nth m.Rows k).Args) i)))) ∧ f 11 = vr ∧ f 12 = I ((m.Rows.length : Int)) ∧ f 13 = I ((k : Int)) ∧ f 18 = u12n0 ∧ f 19 = I ((((nth m.Rows k).Args).length : Int)) ∧ f 20 = I ((i : Int) + 1) ∧ H23 = H) ?_ ?_
 ·refine wpF_region ?_
  refine lq rfl (q_add rfl y20 rfl (by constructor <;> omega)) ?_
  refine lm (v := I ((i : Int) + 1)) rfl rfl rfl ?_
  exact ⟨y1, y2, y4, y6, y7, y11, y12, y13, y18, y19, rfl, rfl⟩
 clear y1 y11 y12 y13 y18 y19 y2 y20 y4 y6 y7
 rintro f32 _ ⟨y1, y2, y4, y6, y7, y11, y12, y13, y18, y19, y20, rfl⟩
 refine ⟨_, ?_, i + 1, decide ((sm = true) ∧ (((nth K i).VNum) = (nth ((nth m.Rows k).Args) i))), rfl, (by omega), (and_step hq Iff.rfl), y1, y2, y4, y6, y7, y11, y12, y13, y18, y19, (Eq.trans y20 (congrArg I (by omega))), hS23⟩
 omega
set_option maxHeartbeats 1000000 in
set_option maxRecDepth 100000 in
theorem get_M {H0 : Heap} (vc : Value) (v : Val) (x : Int) (h6vVNum : In64 v.VNum) (h6vVDen : In64 v.VDen) (rvc : Rd NoB H0 vc v.Cells) (h6vRest : In64 v.Rest) : CallsH Try.prog 75 #[Vg #[I (v.VNum), I (v.VDen), vc, I (v.Rest)], I (x)] H0 (fun rv_ H' => Ext NoB H0 H' ∧ rv_ = I (gotV v x) ∧ In64 (gotV v x)) := by
 have hsc : v.Cells.length * 16 ≤ 140737488355328 := (Rd.list.1 rvc).bound
 have hS0 : St H0 NoB NoB [rdE vc v.Cells] H0 := St.arg (St.start (fun _ h => h.elim)) (Bl0.nil) rvc (fun _ h => h)
 refine callsH_of_wpF (args := [Vg #[I (v.VNum), I (v.VDen), vc, I (v.Rest)], I (x)]) (rs := [.tmp 4]) Try.func75 rfl Try.ntmps75 Try.results75 (by kernel_rfl) (Nat.le_of_ble_eq_true rfl) ?_
 have y0 : argF [Vg #[I (v.VNum), I (v.VDen), vc, I (v.Rest)], I (x)] 0 = Vg #[I (v.VNum), I (v.VDen), vc, I (v.Rest)] := rfl
 have y1 : argF [Vg #[I (v.VNum), I (v.VDen), vc, I (v.Rest)], I (x)] 1 = I (x) := rfl
 generalize argF [Vg #[I (v.VNum), I (v.VDen), vc, I (v.Rest)], I (x)] = f0 at *
 refine fcr (fun f H => ∃ (g1 : Nat), f 1 = I (x) ∧ f 2 = PT g1 0 ∧ St H0 NoB NoB [bE g1 #[I (v.VNum), I (v.VDen), vc, I (v.Rest)] 69, rdE vc v.Cells] H) ?_ ?_
 ·refine lo rfl ?_
  refine e_box (v := Vg #[I (v.VNum), I (v.VDen), vc, I (v.Rest)]) rfl y0 hS0 (fun g1 H2 hS3 hxx => ?_)
  refine la (v := I (0)) rfl rfl rfl ?_
  exact ⟨g1, y1, rfl, hS3⟩
 clear y0 y1
 rintro f4 H4 ⟨g1, y1, y2, hS4⟩
 refine wpF_seq ?_
 refine fcr (fun f H => f 1 = I (x) ∧ f 2 = PT g1 0 ∧ f 8 = vc ∧ f 9 = I ((v.Cells.length : Int)) ∧ f 10 = I (0) ∧ H4 = H) ?_ ?_
 ·refine lq rfl (q_fieldAddr rfl Try.underlying69 rfl Try.sizeOf67 y2) ?_
  refine lq rfl (q_loadBlk rfl rfl Try.isAgg67 (hS4.blk 0 rfl) rfl (fun h => h)) ?_
  refine lq rfl (q_lenRd rfl Try.underlying67 rfl (hS4.rdl 1 rfl)) ?_
  refine lm (v := I (0)) rfl rfl rfl ?_
  exact ⟨y1, y2, rfl, rfl, rfl, rfl⟩
 clear y1 y2
 rintro f5 _ ⟨y1, y2, y8, y9, y10, rfl⟩
 refine wpF_block ?_
 refine wpF_loop (fun mz f H => ∃ (k : Nat), mz = v.Cells.length - k ∧ (k ≤ v.Cells.length) ∧ (∀ j, j < k → ¬ (nth v.Cells j).At = x) ∧ f 1 = I (x) ∧ f 2 = PT g1 0 ∧ f 8 = vc ∧ f 9 = I ((v.Cells.length : Int)) ∧ f 10 = I ((k : Int)) ∧ St H0 NoB NoB [bE g1 #[I (v.VNum), I (v.VDen), vc, I (v.Rest)] 69, rdE vc v.Cells] H) (v.Cells.length - 0) ?_ ?_
 ·exact ⟨0, rfl, Nat.zero_le _, (fun j hj => absurd hj (Nat.not_lt_zero j)), y1, y2, y8, y9, (Eq.trans y10 (congrArg I (by omega))), hS4⟩
 intro m6 f6 H6 hI6
 clear y1 y10 y2 y8 y9
 obtain ⟨k, hm6, hk, hp, y1, y2, y8, y9, y10, hS6⟩ := hI6
 refine fcr (fun f H => f 1 = I (x) ∧ f 2 = PT g1 0 ∧ f 8 = vc ∧ f 9 = I ((v.Cells.length : Int)) ∧ f 10 = I ((k : Int)) ∧ f 11 = B (decide ((k : Int) < (v.Cells.length : Int))) ∧ H6 = H) ?_ ?_
 ·refine lq rfl (q_lss rfl y10 y9) ?_
  exact ⟨y1, y2, y8, y9, y10, rfl, rfl⟩
 clear y1 y10 y2 y8 y9
 rintro f7 _ ⟨y1, y2, y8, y9, y10, y11, rfl⟩
 refine wpF_seq ?_
 refine wpF_condP y11 (fun hlt => ?t22) (fun hlt => ?e22)
 case e22 =>
  refine wpF_exit ?_
  refine atX_here ?_
  refine fcr (fun f H => f 4 = I (v.Rest) ∧ H6 = H) ?_ ?_
  ·refine lq rfl (q_fieldAddr rfl Try.underlying69 rfl Try.sizeOf3 y2) ?_
   refine lq rfl (q_loadBlk rfl rfl Try.isAgg3 (hS6.blk 0 rfl) rfl (fun h => h)) ?_
   refine la (v := I (v.Rest)) rfl rfl rfl ?_
   exact ⟨rfl, rfl⟩
  clear y1 y10 y11 y2 y8 y9
  rintro f21 _ ⟨y4, rfl⟩
  refine wpF_ret ?_
  refine ⟨_, resT y4 resN, hS6.frame, ?_⟩
  show (I (v.Rest)) = I (gotV v x) ∧ In64 (gotV v x)
  have hq_ : gotV v x = _ := gotV_no fun j hj => hp j (by omega)
  rw [hq_]
  exact ⟨rfl, by assumption⟩
 refine wpF_skip ?_
 refine wpF_seq ?_
 refine wpF_block ?_
 refine fcr (fun f H => ∃ (g10 : Nat), (In64 (nth v.Cells k).At) ∧ (In64 (nth v.Cells k).It) ∧ f 1 = I (x) ∧ f 2 = PT g1 0 ∧ f 6 = PT g10 0 ∧ f 8 = vc ∧ f 9 = I ((v.Cells.length : Int)) ∧ f 10 = I ((k : Int)) ∧ St H0 NoB NoB [bE g10 #[I ((nth v.Cells k).At), I ((nth v.Cells k).It)] 77, bE g1 #[I (v.VNum), I (v.VDen), vc, I (v.Rest)] 69, rdE vc v.Cells] H) ?_ ?_
 ·refine lq rfl (q_indexRd (k := k) rfl Try.underlying67 el_Cell_77_MeanC3 y8 y10 (hS6.rdl 1 rfl) (by omega) (by omega)) ?_
  obtain ⟨u9, huu9, hlu9⟩ := (Rd.list.1 (hS6.rdS 1 rfl)).elem k (by omega)
  obtain ⟨rfl, hu90, hu91⟩ := Rd.cell.1 huu9
  refine lq rfl (q_loadE rfl rfl (hlu9 Try.prog 77 _ el_Cell_77_MeanC3 (fun _ h => False.elim h))) ?_
  refine lo rfl ?_
  refine e_alloc rfl Try.zeroValue77 hS6 (fun g10 H11 hS12 hxx => ?_)
  refine lo rfl ?_
  refine e_storeBlkA (cs' := #[I ((nth v.Cells k).At), I ((nth v.Cells k).It)]) rfl rfl rfl Try.sizeOf77 rfl rfl (fa rfl (fa rfl fe)) hS12 (fun H13 hS14 hxx => ?_)
  exact ⟨g10, hu90, hu91, y1, y2, rfl, y8, y9, y10, hS14⟩
 clear y1 y10 y11 y2 y8 y9
 rintro f15 H15 ⟨g10, hu90, hu91, y1, y2, y6, y8, y9, y10, hS15⟩
 refine fcr (fun f H => f 1 = I (x) ∧ f 2 = PT g1 0 ∧ f 6 = PT g10 0 ∧ f 8 = vc ∧ f 9 = I ((v.Cells.length : Int)) ∧ f 10 = I ((k : Int)) ∧ f 17 = B (decide (((nth v.Cells k).At) = x)) ∧ H15 = H) ?_ ?_
 ·refine lq rfl (q_fieldAddr rfl Try.underlying77 rfl Try.sizeOf3 y6) ?_
  refine lq rfl (q_loadBlk rfl rfl Try.isAgg3 (hS15.blk 0 rfl) rfl (fun h => h)) ?_
  refine lm (v := I (x)) rfl rfl y1 ?_
  refine lq rfl (q_eql rfl rfl rfl) ?_
  exact ⟨y1, y2, y6, y8, y9, y10, rfl, rfl⟩
 clear y1 y10 y2 y6 y8 y9
 rintro f16 _ ⟨y1, y2, y6, y8, y9, y10, y17, rfl⟩
 refine wpF_condP y17 (fun h17 => ?t20) (fun h17 => ?e20)
 case e20 =>
  refine wpF_skip ?_
  refine wpF_cut (fun f H => f 1 = I (x) ∧ f 2 = PT g1 0 ∧ f 8 = vc ∧ f 9 = I ((v.Cells.length : Int)) ∧ f 10 = I ((k : Int) + 1) ∧ H15 = H) ?_ ?_
  ·refine wpF_region ?_
   refine lq rfl (q_add rfl y10 rfl (by constructor <;> omega)) ?_
   refine lm (v := I ((k : Int) + 1)) rfl rfl rfl ?_
   exact ⟨y1, y2, y8, y9, rfl, rfl⟩
  clear y1 y10 y17 y2 y6 y8 y9
  rintro f19 _ ⟨y1, y2, y8, y9, y10, rfl⟩
  refine ⟨_, ?_, k + 1, rfl, (by omega), (all_succ hp h17), y1, y2, y8, y9, (Eq.trans y10 (congrArg I (by omega))), (hS15.drop (sn (sk (sk (List.Sublist.slnil)))))⟩
  omega
 refine fcr (fun f H => f 4 = I ((nth v.Cells k).It) ∧ H15 = H) ?_ ?_
 ·refine lq rfl (q_fieldAddr rfl Try.underlying77 rfl Try.sizeOf3 y6) ?_
  refine lq rfl (q_loadBlk rfl rfl Try.isAgg3 (hS15.blk 0 rfl) rfl (fun h => h)) ?_
  refine la (v := I ((nth v.Cells k).It)) rfl rfl rfl ?_
  exact ⟨rfl, rfl⟩
 clear y1 y10 y17 y2 y6 y8 y9
 rintro f18 _ ⟨y4, rfl⟩
 refine wpF_ret ?_
 refine ⟨_, resT y4 resN, hS15.frame, ?_⟩
 show (I ((nth v.Cells k).It)) = I (gotV v x) ∧ In64 (gotV v x)
 have hq_ : gotV v x = _ := gotV_at (by omega) hp h17
 rw [hq_]
 exact ⟨rfl, by assumption⟩
set_option maxHeartbeats 2000000 in
set_option maxRecDepth 100000 in
theorem put_V {H0 : Heap} {S : Nat → Prop} (vc : Value) (v : Val) (x y : Int) (h6vVNum : In64 v.VNum) (h6vVDen : In64 v.VDen) (rvc : Rd S H0 vc v.Cells) (h6vRest : In64 v.Rest) (h6x : In64 x) (h6y : In64 y) (hcl : v.Cells.length ≤ 100000) : CallsH Try.prog 76 #[Vg #[I (v.VNum), I (v.VDen), vc, I (v.Rest)], I (x), I (y)] H0 (fun rv_ H' => Ext NoB H0 H' ∧ ∃ w_, rv_ = Vg #[I (putV v x y).VNum, I (putV v x y).VDen, w_, I (putV v x y).Rest] ∧ Rd (SZ S H0) H' w_ (putV v x y).Cells ∧ In64 (putV v x y).VNum ∧ In64 (putV v x y).VDen ∧ In64 (putV v x y).Rest) := by
 have hsc : v.Cells.length * 16 ≤ 140737488355328 := (Rd.list.1 rvc).bound
 have hS0 : St H0 NoB (SZ S H0) [rdE vc v.Cells] H0 := St.arg (St.start (fun _ h => h.2)) (Bl0.nil) rvc (fun _ h => h.1)
 refine callsH_of_wpF (args := [Vg #[I (v.VNum), I (v.VDen), vc, I (v.Rest)], I (x), I (y)]) (rs := [.cell 6 69]) Try.func76 rfl Try.ntmps76 Try.results76 (by kernel_rfl) (Nat.le_of_ble_eq_true rfl) ?_
 have y0 : argF [Vg #[I (v.VNum), I (v.VDen), vc, I (v.Rest)], I (x), I (y)] 0 = Vg #[I (v.VNum), I (v.VDen), vc, I (v.Rest)] := rfl
 have y1 : argF [Vg #[I (v.VNum), I (v.VDen), vc, I (v.Rest)], I (x), I (y)] 1 = I (x) := rfl
 have y2 : argF [Vg #[I (v.VNum), I (v.VDen), vc, I (v.Rest)], I (x), I (y)] 2 = I (y) := rfl
 generalize argF [Vg #[I (v.VNum), I (v.VDen), vc, I (v.Rest)], I (x), I (y)] = f0 at *
 refine fcr (fun f H => ∃ (g1 : Nat), ∃ (g4 : Nat), f 1 = I (x) ∧ f 2 = I (y) ∧ f 3 = PT g1 0 ∧ f 6 = PT g4 0 ∧ St H0 NoB (SZ S H0) [bE g4 #[I (0), I (0), nS, I (0)] 69, bE g1 #[I (v.VNum), I (v.VDen), vc, I (v.Rest)] 69, rdE vc v.Cells] H) ?_ ?_
 ·refine lo rfl ?_
  refine e_box (v := Vg #[I (v.VNum), I (v.VDen), vc, I (v.Rest)]) rfl y0 hS0 (fun g1 H2 hS3 hxx => ?_)
  refine lo rfl ?_
  refine e_alloc rfl Try.zeroValue69 hS3 (fun g4 H5 hS6 hxx => ?_)
  exact ⟨g1, g4, y1, y2, rfl, rfl, hS6⟩
 clear y0 y1 y2
 rintro f7 H7 ⟨g1, g4, y1, y2, y3, y6, hS7⟩
 refine fcr (fun f H => ∃ (g8 : Nat), f 1 = I (x) ∧ f 2 = I (y) ∧ f 3 = PT g1 0 ∧ f 6 = PT g4 0 ∧ f 7 = PT g8 0 ∧ St H0 NoB (SZ S H0) [bE g8 #[I (0), I (0), nS, I (v.Rest)] 69, bE g4 #[I (0), I (0), nS, I (0)] 69, bE g1 #[I (v.VNum), I (v.VDen), vc, I (v.Rest)] 69, rdE vc v.Cells] H) ?_ ?_
 ·refine lq rfl (q_fieldAddr rfl Try.underlying69 rfl Try.sizeOf3 y3) ?_
  refine lq rfl (q_loadBlk rfl rfl Try.isAgg3 (hS7.blk 1 rfl) rfl (fun h => h)) ?_
  refine lq rfl (q_build (v := Vg #[I (0), I (0), nS, I (v.Rest)]) rfl (par1 (v0 := I (v.Rest)) rfl) (fun w__ => by kernel_rfl)) ?_
  refine lo rfl ?_
  refine e_alloc rfl Try.zeroValue69 hS7 (fun g8 H9 hS10 hxx => ?_)
  refine lo rfl ?_
  refine e_storeBlkA (cs' := #[I (0), I (0), nS, I (v.Rest)]) rfl rfl rfl Try.sizeOf69 rfl rfl (fa rfl (fa rfl (fa rfl (fa rfl fe)))) hS10 (fun H11 hS12 hxx => ?_)
  exact ⟨g8, y1, y2, y3, y6, rfl, hS12⟩
 clear y1 y2 y3 y6
 rintro f13 H13 ⟨g8, y1, y2, y3, y6, y7, hS13⟩
 have hS14 : St H0 NoB (SZ S H0) [rowE 77 nS ([] : List Cell), bE g8 #[I (0), I (0), nS, I (v.Rest)] 69, bE g4 #[I (0), I (0), nS, I (0)] 69, bE g1 #[I (v.VNum), I (v.VDen), vc, I (v.Rest)] 69, rdE vc v.Cells] H13 := hS13.row0 77
 refine fcr (fun f H => f 1 = I (x) ∧ f 2 = I (y) ∧ f 3 = PT g1 0 ∧ f 6 = PT g4 0 ∧ f 7 = PT g8 0 ∧ f 8 = B (decide (y = v.Rest)) ∧ H13 = H) ?_ ?_
 ·refine lm (v := I (y)) rfl rfl y2 ?_
  refine lq rfl (q_fieldAddr rfl Try.underlying69 rfl Try.sizeOf3 y3) ?_
  refine lq rfl (q_loadBlk rfl rfl Try.isAgg3 (hS14.blk 3 rfl) rfl (fun h => h)) ?_
  refine lq rfl (q_eql rfl rfl rfl) ?_
  refine la (v := B (decide (y = v.Rest))) rfl rfl rfl ?_
  exact ⟨y1, y2, y3, y6, y7, rfl, rfl⟩
 clear y1 y2 y3 y6 y7
 rintro f15 _ ⟨y1, y2, y3, y6, y7, y8, rfl⟩
 refine wpF_seq ?_
 refine fcr (fun f H => f 1 = I (x) ∧ f 2 = I (y) ∧ f 6 = PT g4 0 ∧ f 7 = PT g8 0 ∧ f 8 = B (decide (y = v.Rest)) ∧ f 19 = vc ∧ f 20 = I ((v.Cells.length : Int)) ∧ f 21 = I (0) ∧ H13 = H) ?_ ?_
 ·refine lq rfl (q_fieldAddr rfl Try.underlying69 rfl Try.sizeOf67 y3) ?_
  refine lq rfl (q_loadBlk rfl rfl Try.isAgg67 (hS14.blk 3 rfl) rfl (fun h => h)) ?_
  refine lq rfl (q_lenRd rfl Try.underlying67 rfl (hS14.rdl 4 rfl)) ?_
  refine lm (v := I (0)) rfl rfl rfl ?_
  exact ⟨y1, y2, y6, y7, y8, rfl, rfl, rfl, rfl⟩
 clear y1 y2 y3 y6 y7 y8
 rintro f16 _ ⟨y1, y2, y6, y7, y8, y19, y20, y21, rfl⟩
 refine wpF_block ?_
 refine wpF_loop (fun mz f H => ∃ (k : Nat), ∃ (vo : Value), mz = v.Cells.length - k ∧ (k ≤ v.Cells.length) ∧ f 1 = I (x) ∧ f 2 = I (y) ∧ f 6 = PT g4 0 ∧ f 7 = PT g8 0 ∧ f 8 = B ((putTo v x y k).2) ∧ f 19 = vc ∧ f 20 = I ((v.Cells.length : Int)) ∧ f 21 = I ((k : Int)) ∧ St H0 NoB (SZ S H0) [rowE 77 vo ((putTo v x y k).1 : List Cell), bE g8 #[I (0), I (0), vo, I (v.Rest)] 69, bE g4 #[I (0), I (0), nS, I (0)] 69, bE g1 #[I (v.VNum), I (v.VDen), vc, I (v.Rest)] 69, rdE vc v.Cells] H) (v.Cells.length - 0) ?_ ?_
 ·exact ⟨0, nS, rfl, Nat.zero_le _, y1, y2, y6, y7, y8, y19, y20, (Eq.trans y21 (congrArg I (by omega))), (show St H0 NoB (SZ S H0) [rowE 77 nS ((putTo v x y 0).1 : List Cell), bE g8 #[I (0), I (0), nS, I (v.Rest)] 69, bE g4 #[I (0), I (0), nS, I (0)] 69, bE g1 #[I (v.VNum), I (v.VDen), vc, I (v.Rest)] 69, rdE vc v.Cells] H13 from hS14)⟩
 intro m17 f17 H17 hI17
 clear y1 y19 y2 y20 y21 y6 y7 y8
 obtain ⟨k, vo, hm17, hk, y1, y2, y6, y7, y8, y19, y20, y21, hS17⟩ := hI17
 refine fcr (fun f H => f 1 = I (x) ∧ f 2 = I (y) ∧ f 6 = PT g4 0 ∧ f 7 = PT g8 0 ∧ f 8 = B ((putTo v x y k).2) ∧ f 19 = vc ∧ f 20 = I ((v.Cells.length : Int)) ∧ f 21 = I ((k : Int)) ∧ f 22 = B (decide ((k : Int) < (v.Cells.length : Int))) ∧ H17 = H) ?_ ?_
 ·refine lq rfl (q_lss rfl y21 y20) ?_
  exact ⟨y1, y2, y6, y7, y8, y19, y20, y21, rfl, rfl⟩
 clear y1 y19 y2 y20 y21 y6 y7 y8
 rintro f18 _ ⟨y1, y2, y6, y7, y8, y19, y20, y21, y22, rfl⟩
 refine wpF_seq ?_
 refine wpF_condP y22 (fun hlt => ?t84) (fun hlt => ?e84)
 case e84 =>
  have hpl := putTo_len (v := v) (x := x) (y := y) (k := k)
  refine wpF_exit ?_
  refine atX_here ?_
  refine wpF_seq ?_
  refine fcr (fun f H => f 1 = I (x) ∧ f 2 = I (y) ∧ f 6 = PT g4 0 ∧ f 7 = PT g8 0 ∧ f 53 = B (!((putTo v x y k).2)) ∧ H17 = H) ?_ ?_
  ·refine lm (v := B ((putTo v x y k).2)) rfl rfl y8 ?_
   refine lq rfl (q_not rfl rfl) ?_
   exact ⟨y1, y2, y6, y7, rfl, rfl⟩
  clear y1 y19 y2 y20 y21 y22 y6 y7 y8
  rintro f62 _ ⟨y1, y2, y6, y7, y53, rfl⟩
  refine wpF_cond y53 (fun h53 => ?t83) (fun h53 => ?e83)
  case e83 =>
   refine wpF_skip ?_
   refine fcr (fun f H => f 6 = PT g4 0 ∧ St H0 NoB (SZ S H0) [bE g4 #[I (0), I (0), vo, I (v.Rest)] 69, rowE 77 vo ((putTo v x y k).1 : List Cell), bE g8 #[I (0), I (0), vo, I (v.Rest)] 69, bE g1 #[I (v.VNum), I (v.VDen), vc, I (v.Rest)] 69, rdE vc v.Cells] H) ?_ ?_
   ·refine lq rfl (q_loadBlkA rfl y7 Try.isAgg69 Try.sizeOf69 rfl (hS17.blk 1 rfl) (fun h => h)) ?_
    refine lo rfl ?_
    refine e_storeBlkA (cs' := #[I (0), I (0), vo, I (v.Rest)]) rfl y6 rfl Try.sizeOf69 rfl rfl (fa rfl (fa rfl (fa ((oneCell_rdL (hS17.rowl 0 rfl))) (fa rfl fe)))) (hS17.front 2 rfl) (fun H79 hS80 hxx => ?_)
    exact ⟨y6, hS80⟩
   clear y1 y2 y53 y6 y7
   rintro f81 H81 ⟨y6, hS81⟩
   refine wpF_ret ?_
   refine ⟨_, resC y6 (loadV_blkA Try.isAgg69 Try.sizeOf69 rfl (hS81.blk 0 rfl)) (resN), hS81.frame, ?_⟩
   show ∃ w_, (Vg #[I (0), I (0), vo, I (v.Rest)]) = Vg #[I (putV v x y).VNum, I (putV v x y).VDen, w_, I (putV v x y).Rest] ∧ Rd (SZ S H0) H81 w_ (putV v x y).Cells ∧ In64 (putV v x y).VNum ∧ In64 (putV v x y).VDen ∧ In64 (putV v x y).Rest
   have hS82 : St H0 NoB (SZ S H0) [rdE vo ((putTo v x y k).1), bE g4 #[I (0), I (0), vo, I (v.Rest)] 69, bE g8 #[I (0), I (0), vo, I (v.Rest)] 69, bE g1 #[I (v.VNum), I (v.VDen), vc, I (v.Rest)] 69, rdE vc v.Cells] H81 := St.fin (hS81.front 1 rfl)
   have hkE : v.Cells.length = k := by omega
   have hC : (putV v x y).Cells = ((putTo v x y k).1) := by show _ ++ _ = _; rw [hkE]; rw [if_neg (by simpa using h53), List.append_nil]
   exact ⟨_, rfl, by rw [hC]; exact (hS82.result (hS82.rdS 0 rfl)), (by constructor <;> decide : In64 0), (by constructor <;> decide : In64 0), (by assumption : In64 v.Rest)⟩
  refine wpF_cut (fun f H => ∃ (v69 : Value), f 6 = PT g4 0 ∧ f 7 = PT g8 0 ∧ St H0 NoB (SZ S H0) [bE g8 #[I (0), I (0), v69, I (v.Rest)] 69, rowE 77 v69 (((putTo v x y k).1) ++ ([(Cell.mk x y)]) : List Cell), bE g4 #[I (0), I (0), nS, I (0)] 69, bE g1 #[I (v.VNum), I (v.VDen), vc, I (v.Rest)] 69, rdE vc v.Cells] H) ?_ ?_
  ·refine wpF_region ?_
   refine lq rfl (q_fieldAddr rfl Try.underlying69 rfl Try.sizeOf67 y7) ?_
   refine lq rfl (q_loadBlk rfl rfl Try.isAgg67 (hS17.blk 1 rfl) rfl (fun h => h)) ?_
   refine lm (v := I (x)) rfl rfl y1 ?_
   refine lm (v := I (y)) rfl rfl y2 ?_
   refine lq rfl (q_build (v := Vg #[I (x), I (y)]) rfl (par2 (v0 := I (x)) (v1 := I (y)) rfl rfl) (fun w__ => by kernel_rfl)) ?_
   refine lo rfl ?_
   refine e_buildSlice (vs := [Vg #[I (x), I (y)]]) (xs := ([(Cell.mk x y)] : List Cell)) rfl Try.underlying67 Try.zeroValue77 rfl Try.sizeOf77 (par1 (v0 := Vg #[I (x), I (y)]) rfl) rfl hS17 (RdVs.cons ((Rd.cell (a := (Cell.mk x y))).2 ⟨rfl, (by first | assumption | (constructor <;> (try dsimp only) <;> omega)), (by first | assumption | (constructor <;> (try dsimp only) <;> omega))⟩) (RdVs.nil)) (by decide) (by decide) (fun v64 H65 hS66 hxx hvv64 => ?_)
   have hS67 : St H0 NoB (SZ S H0) [rdE v64 ([(Cell.mk x y)] : List Cell), rowE 77 vo ((putTo v x y k).1 : List Cell), bE g8 #[I (0), I (0), vo, I (v.Rest)] 69, bE g4 #[I (0), I (0), nS, I (0)] 69, bE g1 #[I (v.VNum), I (v.VDen), vc, I (v.Rest)] 69, rdE vc v.Cells] H65 := St.fin hS66
   have hS68 := (hS67.front 1 rfl)
   refine lo rfl ?_
   refine e_append rfl Try.underlying67 em_Cell_77_MeanC3 rfl rfl hS68 (hS68.rdS 1 rfl) (fun _ h => h) (by have hb : GoT.bytes Cell = 16 := rfl; rw [hb]; simp only [List.length_append, List.length_cons, List.length_nil]; omega) (by decide) (fun v69 H70 hS71 hxx => ?_)
   refine lq rfl (q_fieldAddr rfl Try.underlying69 rfl Try.sizeOf67 y7) ?_
   refine lo rfl ?_
   refine e_storeBlk (v := v69) rfl rfl rfl (oneCell_rdL (hS71.rowl 0 rfl)) Try.sizeOf67 (by show _ < 4; decide) (hS71.front 2 rfl) (fun H72 hS73 hxx => ?_)
   exact ⟨v69, y6, y7, (hS73.drop (sk (sk (sn (sk (sk (sk (List.Sublist.slnil))))))))⟩
  clear y1 y2 y53 y6 y7
  rintro f74 H74 ⟨v69, y6, y7, hS74⟩
  refine fcr (fun f H => f 6 = PT g4 0 ∧ St H0 NoB (SZ S H0) [bE g4 #[I (0), I (0), v69, I (v.Rest)] 69, bE g8 #[I (0), I (0), v69, I (v.Rest)] 69, rowE 77 v69 (((putTo v x y k).1) ++ ([(Cell.mk x y)]) : List Cell), bE g1 #[I (v.VNum), I (v.VDen), vc, I (v.Rest)] 69, rdE vc v.Cells] H) ?_ ?_
  ·refine lq rfl (q_loadBlkA rfl y7 Try.isAgg69 Try.sizeOf69 rfl (hS74.blk 0 rfl) (fun h => h)) ?_
   refine lo rfl ?_
   refine e_storeBlkA (cs' := #[I (0), I (0), v69, I (v.Rest)]) rfl y6 rfl Try.sizeOf69 rfl rfl (fa rfl (fa rfl (fa ((oneCell_rdL (hS74.rowl 1 rfl))) (fa rfl fe)))) (hS74.front 2 rfl) (fun H75 hS76 hxx => ?_)
   exact ⟨y6, hS76⟩
  clear y6 y7
  rintro f77 H77 ⟨y6, hS77⟩
  refine wpF_ret ?_
  refine ⟨_, resC y6 (loadV_blkA Try.isAgg69 Try.sizeOf69 rfl (hS77.blk 0 rfl)) (resN), hS77.frame, ?_⟩
  show ∃ w_, (Vg #[I (0), I (0), v69, I (v.Rest)]) = Vg #[I (putV v x y).VNum, I (putV v x y).VDen, w_, I (putV v x y).Rest] ∧ Rd (SZ S H0) H77 w_ (putV v x y).Cells ∧ In64 (putV v x y).VNum ∧ In64 (putV v x y).VDen ∧ In64 (putV v x y).Rest
  have hS78 : St H0 NoB (SZ S H0) [rdE v69 (((putTo v x y k).1) ++ ([(Cell.mk x y)])), bE g4 #[I (0), I (0), v69, I (v.Rest)] 69, bE g8 #[I (0), I (0), v69, I (v.Rest)] 69, bE g1 #[I (v.VNum), I (v.VDen), vc, I (v.Rest)] 69, rdE vc v.Cells] H77 := St.fin (hS77.front 2 rfl)
  have hkE : v.Cells.length = k := by omega
  have hC : (putV v x y).Cells = (((putTo v x y k).1) ++ ([(Cell.mk x y)])) := by show _ ++ _ = _; rw [hkE]; rw [if_pos (by simpa using h53)]
  exact ⟨_, rfl, by rw [hC]; exact (hS78.result (hS78.rdS 0 rfl)), (by constructor <;> decide : In64 0), (by constructor <;> decide : In64 0), (by assumption : In64 v.Rest)⟩
 have hpl := putTo_len (v := v) (x := x) (y := y) (k := k)
 refine wpF_skip ?_
 refine wpF_seq ?_
 refine wpF_block ?_
 refine fcr (fun f H => ∃ (g21 : Nat), (In64 (nth v.Cells k).At) ∧ (In64 (nth v.Cells k).It) ∧ f 1 = I (x) ∧ f 2 = I (y) ∧ f 6 = PT g4 0 ∧ f 7 = PT g8 0 ∧ f 8 = B ((putTo v x y k).2) ∧ f 10 = PT g21 0 ∧ f 19 = vc ∧ f 20 = I ((v.Cells.length : Int)) ∧ f 21 = I ((k : Int)) ∧ St H0 NoB (SZ S H0) [bE g21 #[I ((nth v.Cells k).At), I ((nth v.Cells k).It)] 77, rowE 77 vo ((putTo v x y k).1 : List Cell), bE g8 #[I (0), I (0), vo, I (v.Rest)] 69, bE g4 #[I (0), I (0), nS, I (0)] 69, bE g1 #[I (v.VNum), I (v.VDen), vc, I (v.Rest)] 69, rdE vc v.Cells] H) ?_ ?_
 ·refine lq rfl (q_indexRd (k := k) rfl Try.underlying67 el_Cell_77_MeanC3 y19 y21 (hS17.rdl 4 rfl) (by omega) (by omega)) ?_
  obtain ⟨u20, huu20, hlu20⟩ := (Rd.list.1 (hS17.rdS 4 rfl)).elem k (by omega)
  obtain ⟨rfl, hu200, hu201⟩ := Rd.cell.1 huu20
  refine lq rfl (q_loadE rfl rfl (hlu20 Try.prog 77 _ el_Cell_77_MeanC3 (fun _ h => False.elim h))) ?_
  refine lo rfl ?_
  refine e_alloc rfl Try.zeroValue77 hS17 (fun g21 H22 hS23 hxx => ?_)
  refine lo rfl ?_
  refine e_storeBlkA (cs' := #[I ((nth v.Cells k).At), I ((nth v.Cells k).It)]) rfl rfl rfl Try.sizeOf77 rfl rfl (fa rfl (fa rfl fe)) hS23 (fun H24 hS25 hxx => ?_)
  exact ⟨g21, hu200, hu201, y1, y2, y6, y7, y8, rfl, y19, y20, y21, hS25⟩
 clear y1 y19 y2 y20 y21 y22 y6 y7 y8
 rintro f26 H26 ⟨g21, hu200, hu201, y1, y2, y6, y7, y8, y10, y19, y20, y21, hS26⟩
 refine wpF_seq ?_
 refine fcr (fun f H => f 1 = I (x) ∧ f 2 = I (y) ∧ f 6 = PT g4 0 ∧ f 7 = PT g8 0 ∧ f 8 = B ((putTo v x y k).2) ∧ f 10 = PT g21 0 ∧ f 19 = vc ∧ f 20 = I ((v.Cells.length : Int)) ∧ f 21 = I ((k : Int)) ∧ f 32 = B (decide (((!((putTo v x y k).2)) = true) ∧ (x ≤ ((nth v.Cells k).At)))) ∧ H26 = H) ?_ ?_
 ·refine lm (v := B ((putTo v x y k).2)) rfl rfl y8 ?_
  refine lq rfl (q_not rfl rfl) ?_
  refine lm (v := B (!((putTo v x y k).2))) rfl rfl rfl ?_
  by_cases hg27 : (!((putTo v x y k).2)) = true
  ·have hb28 := Eq.trans rfl (congrArg B hg27)
   refine gq rfl rfl rfl hb28 (q_fieldAddr rfl Try.underlying77 rfl Try.sizeOf3 y10) ?_
   refine gq rfl rfl rfl hb28 (q_loadBlk rfl rfl Try.isAgg3 (hS26.blk 0 rfl) rfl (fun h => h)) ?_
   refine gq rfl rfl rfl hb28 (q_move (v := I (x)) rfl y1) ?_
   refine gq rfl rfl rfl hb28 (q_geq rfl rfl rfl) ?_
   refine lq rfl (q_pickT (v := B (decide (x ≤ ((nth v.Cells k).At)))) rfl hb28 rfl) ?_
   exact ⟨y1, y2, y6, y7, y8, y10, y19, y20, y21, (Eq.trans rfl (congrArg B (decide_congr_of ((Iff.rfl).trans (((and_iff_right hg27).trans Iff.rfl)).symm)))), rfl⟩
  ·have hb29 := Eq.trans rfl (congrArg B (Bool.eq_false_iff.2 hg27))
   refine wpL_gs rfl rfl rfl hb29 rfl ?_
   refine wpL_gs rfl rfl rfl hb29 rfl ?_
   refine wpL_gs rfl rfl rfl hb29 rfl ?_
   refine wpL_gs rfl rfl rfl hb29 rfl ?_
   refine lq rfl (q_pickF (v := B (false)) rfl hb29 rfl) ?_
   exact ⟨y1, y2, y6, y7, y8, y10, y19, y20, y21, (Eq.trans rfl (congrArg B ((decide_eq_false (fun h => hg27 h.1)).symm))), rfl⟩
 clear y1 y10 y19 y2 y20 y21 y6 y7 y8
 rintro f30 _ ⟨y1, y2, y6, y7, y8, y10, y19, y20, y21, y32, rfl⟩
 refine wpF_cut (fun f H => ∃ (vN1 : Value), ((if (putTo v x y k).2 = false ∧ x ≤ (nth v.Cells k).At then (putTo v x y k).1 ++ [⟨x, y⟩] else (putTo v x y k).1).length ≤ 2 * k + 1) ∧ f 1 = I (x) ∧ f 2 = I (y) ∧ f 6 = PT g4 0 ∧ f 7 = PT g8 0 ∧ f 8 = B (decide ((putTo v x y k).2 = true ∨ x ≤ (nth v.Cells k).At)) ∧ f 10 = PT g21 0 ∧ f 19 = vc ∧ f 20 = I ((v.Cells.length : Int)) ∧ f 21 = I ((k : Int)) ∧ St H0 NoB (SZ S H0) [rowE 77 vN1 ((if (putTo v x y k).2 = false ∧ x ≤ (nth v.Cells k).At then (putTo v x y k).1 ++ [⟨x, y⟩] else (putTo v x y k).1) : List Cell), bE g8 #[I (0), I (0), vN1, I (v.Rest)] 69, bE g21 #[I ((nth v.Cells k).At), I ((nth v.Cells k).It)] 77, bE g4 #[I (0), I (0), nS, I (0)] 69, bE g1 #[I (v.VNum), I (v.VDen), vc, I (v.Rest)] 69, rdE vc v.Cells] H) ?_ ?_
 ·refine wpF_condP y32 (fun h32 => ?t45) (fun h32 => ?e45)
  case e45 =>
   refine wpF_skip ?_
   exact ⟨vo, (by split <;> first | omega | (simp; omega)), y1, y2, y6, y7, (Eq.trans y8 (congrArg B (putdone h32))), y10, y19, y20, y21, (by have h__ := (St.drop (show St H0 NoB (SZ S H0) [rowE 77 vo ((putTo v x y k).1 : List Cell), bE g8 #[I (0), I (0), vo, I (v.Rest)] 69, bE g21 #[I ((nth v.Cells k).At), I ((nth v.Cells k).It)] 77, bE g4 #[I (0), I (0), nS, I (0)] 69, bE g1 #[I (v.VNum), I (v.VDen), vc, I (v.Rest)] 69, rdE vc v.Cells] H26 from ((hS26.front 2 rfl).front 2 rfl)) (sk (sk (sk (sk (sk (sk (List.Sublist.slnil)))))))); rw [if_neg (putno h32)]; exact h__)⟩
  refine fcr (fun f H => ∃ (v38 : Value), f 1 = I (x) ∧ f 2 = I (y) ∧ f 6 = PT g4 0 ∧ f 7 = PT g8 0 ∧ f 10 = PT g21 0 ∧ f 19 = vc ∧ f 20 = I ((v.Cells.length : Int)) ∧ f 21 = I ((k : Int)) ∧ St H0 NoB (SZ S H0) [bE g8 #[I (0), I (0), v38, I (v.Rest)] 69, rowE 77 v38 (((putTo v x y k).1) ++ ([(Cell.mk x y)]) : List Cell), bE g21 #[I ((nth v.Cells k).At), I ((nth v.Cells k).It)] 77, bE g4 #[I (0), I (0), nS, I (0)] 69, bE g1 #[I (v.VNum), I (v.VDen), vc, I (v.Rest)] 69, rdE vc v.Cells] H) ?_ ?_
  ·refine lq rfl (q_fieldAddr rfl Try.underlying69 rfl Try.sizeOf67 y7) ?_
   refine lq rfl (q_loadBlk rfl rfl Try.isAgg67 (hS26.blk 2 rfl) rfl (fun h => h)) ?_
   refine lm (v := I (x)) rfl rfl y1 ?_
   refine lm (v := I (y)) rfl rfl y2 ?_
   refine lq rfl (q_build (v := Vg #[I (x), I (y)]) rfl (par2 (v0 := I (x)) (v1 := I (y)) rfl rfl) (fun w__ => by kernel_rfl)) ?_
   refine lo rfl ?_
   refine e_buildSlice (vs := [Vg #[I (x), I (y)]]) (xs := ([(Cell.mk x y)] : List Cell)) rfl Try.underlying67 Try.zeroValue77 rfl Try.sizeOf77 (par1 (v0 := Vg #[I (x), I (y)]) rfl) rfl hS26 (RdVs.cons ((Rd.cell (a := (Cell.mk x y))).2 ⟨rfl, (by first | assumption | (constructor <;> (try dsimp only) <;> omega)), (by first | assumption | (constructor <;> (try dsimp only) <;> omega))⟩) (RdVs.nil)) (by decide) (by decide) (fun v33 H34 hS35 hxx hvv33 => ?_)
   have hS36 : St H0 NoB (SZ S H0) [rdE v33 ([(Cell.mk x y)] : List Cell), bE g21 #[I ((nth v.Cells k).At), I ((nth v.Cells k).It)] 77, rowE 77 vo ((putTo v x y k).1 : List Cell), bE g8 #[I (0), I (0), vo, I (v.Rest)] 69, bE g4 #[I (0), I (0), nS, I (0)] 69, bE g1 #[I (v.VNum), I (v.VDen), vc, I (v.Rest)] 69, rdE vc v.Cells] H34 := St.fin hS35
   have hS37 := (hS36.front 2 rfl)
   refine lo rfl ?_
   refine e_append rfl Try.underlying67 em_Cell_77_MeanC3 rfl rfl hS37 (hS37.rdS 1 rfl) (fun _ h => h) (by have hb : GoT.bytes Cell = 16 := rfl; rw [hb]; simp only [List.length_append, List.length_cons, List.length_nil]; omega) (by decide) (fun v38 H39 hS40 hxx => ?_)
   refine lq rfl (q_fieldAddr rfl Try.underlying69 rfl Try.sizeOf67 y7) ?_
   refine lo rfl ?_
   refine e_storeBlk (v := v38) rfl rfl rfl (oneCell_rdL (hS40.rowl 0 rfl)) Try.sizeOf67 (by show _ < 4; decide) (hS40.front 3 rfl) (fun H41 hS42 hxx => ?_)
   exact ⟨v38, y1, y2, y6, y7, y10, y19, y20, y21, (hS42.drop (sk (sk (sn (sk (sk (sk (sk (List.Sublist.slnil)))))))))⟩
  clear y1 y10 y19 y2 y20 y21 y32 y6 y7 y8
  rintro f43 H43 ⟨v38, y1, y2, y6, y7, y10, y19, y20, y21, hS43⟩
  refine wpF_cut (fun f H => f 1 = I (x) ∧ f 2 = I (y) ∧ f 6 = PT g4 0 ∧ f 7 = PT g8 0 ∧ f 8 = B (true) ∧ f 10 = PT g21 0 ∧ f 19 = vc ∧ f 20 = I ((v.Cells.length : Int)) ∧ f 21 = I ((k : Int)) ∧ H43 = H) ?_ ?_
  ·refine wpF_region ?_
   refine la (v := B (true)) rfl rfl rfl ?_
   exact ⟨y1, y2, y6, y7, rfl, y10, y19, y20, y21, rfl⟩
  clear y1 y10 y19 y2 y20 y21 y6 y7
  rintro f44 _ ⟨y1, y2, y6, y7, y8, y10, y19, y20, y21, rfl⟩
  exact ⟨v38, (by split <;> first | omega | (simp; omega)), y1, y2, y6, y7, (Eq.trans y8 (congrArg B (decide_eq_true (.inr h32.2)).symm)), y10, y19, y20, y21, (by have h__ := (St.drop (show St H0 NoB (SZ S H0) [rowE 77 v38 (((putTo v x y k).1) ++ ([(Cell.mk x y)]) : List Cell), bE g8 #[I (0), I (0), v38, I (v.Rest)] 69, bE g21 #[I ((nth v.Cells k).At), I ((nth v.Cells k).It)] 77, bE g4 #[I (0), I (0), nS, I (0)] 69, bE g1 #[I (v.VNum), I (v.VDen), vc, I (v.Rest)] 69, rdE vc v.Cells] H43 from (hS43.front 1 rfl)) (sk (sk (sk (sk (sk (sk (List.Sublist.slnil)))))))); rw [if_pos ⟨by simpa using h32.1, h32.2⟩]; exact h__)⟩
 clear y1 y10 y19 y2 y20 y21 y32 y6 y7 y8
 rintro f31 H31 ⟨vN1, hl32, y1, y2, y6, y7, y8, y10, y19, y20, y21, hS31⟩
 refine fcr (fun f H => f 1 = I (x) ∧ f 2 = I (y) ∧ f 6 = PT g4 0 ∧ f 7 = PT g8 0 ∧ f 8 = B (decide ((putTo v x y k).2 = true ∨ x ≤ (nth v.Cells k).At)) ∧ f 10 = PT g21 0 ∧ f 19 = vc ∧ f 20 = I ((v.Cells.length : Int)) ∧ f 21 = I ((k : Int)) ∧ f 44 = B (decide (((nth v.Cells k).At) ≠ x)) ∧ H31 = H) ?_ ?_
 ·refine lq rfl (q_fieldAddr rfl Try.underlying77 rfl Try.sizeOf3 y10) ?_
  refine lq rfl (q_loadBlk rfl rfl Try.isAgg3 (hS31.blk 2 rfl) rfl (fun h => h)) ?_
  refine lm (v := I (x)) rfl rfl y1 ?_
  refine lq rfl (q_neq rfl rfl rfl) ?_
  exact ⟨y1, y2, y6, y7, y8, y10, y19, y20, y21, rfl, rfl⟩
 clear y1 y10 y19 y2 y20 y21 y6 y7 y8
 rintro f46 _ ⟨y1, y2, y6, y7, y8, y10, y19, y20, y21, y44, rfl⟩
 refine wpF_cut (fun f H => ∃ (vN2 : Value), f 1 = I (x) ∧ f 2 = I (y) ∧ f 6 = PT g4 0 ∧ f 7 = PT g8 0 ∧ f 8 = B (decide ((putTo v x y k).2 = true ∨ x ≤ (nth v.Cells k).At)) ∧ f 19 = vc ∧ f 20 = I ((v.Cells.length : Int)) ∧ f 21 = I ((k : Int)) ∧ St H0 NoB (SZ S H0) [rowE 77 vN2 ((putTo v x y (k + 1)).1 : List Cell), bE g8 #[I (0), I (0), vN2, I (v.Rest)] 69, bE g21 #[I ((nth v.Cells k).At), I ((nth v.Cells k).It)] 77, bE g4 #[I (0), I (0), nS, I (0)] 69, bE g1 #[I (v.VNum), I (v.VDen), vc, I (v.Rest)] 69, rdE vc v.Cells] H) ?_ ?_
 ·refine wpF_condP y44 (fun h44 => ?t60) (fun h44 => ?e60)
  case e60 =>
   refine wpF_skip ?_
   exact ⟨vN1, y1, y2, y6, y7, y8, y19, y20, y21, (by have h__ := hS31; rw [putTo_no h44]; exact h__)⟩
  refine wpF_cut (fun f H => ∃ (v54 : Value), f 1 = I (x) ∧ f 2 = I (y) ∧ f 6 = PT g4 0 ∧ f 7 = PT g8 0 ∧ f 8 = B (decide ((putTo v x y k).2 = true ∨ x ≤ (nth v.Cells k).At)) ∧ f 19 = vc ∧ f 20 = I ((v.Cells.length : Int)) ∧ f 21 = I ((k : Int)) ∧ St H0 NoB (SZ S H0) [bE g8 #[I (0), I (0), v54, I (v.Rest)] 69, rowE 77 v54 ((if (putTo v x y k).2 = false ∧ x ≤ (nth v.Cells k).At then (putTo v x y k).1 ++ [⟨x, y⟩] else (putTo v x y k).1) ++ ([(nth v.Cells k)]) : List Cell), bE g21 #[I ((nth v.Cells k).At), I ((nth v.Cells k).It)] 77, bE g4 #[I (0), I (0), nS, I (0)] 69, bE g1 #[I (v.VNum), I (v.VDen), vc, I (v.Rest)] 69, rdE vc v.Cells] H) ?_ ?_
  ·refine wpF_region ?_
   refine lq rfl (q_fieldAddr rfl Try.underlying69 rfl Try.sizeOf67 y7) ?_
   refine lq rfl (q_loadBlk rfl rfl Try.isAgg67 (hS31.blk 1 rfl) rfl (fun h => h)) ?_
   refine lq rfl (q_loadBlkA rfl y10 Try.isAgg77 Try.sizeOf77 rfl (hS31.blk 2 rfl) (fun h => h)) ?_
   refine lo rfl ?_
   refine e_buildSlice (vs := [Vg #[I ((nth v.Cells k).At), I ((nth v.Cells k).It)]]) (xs := ([(nth v.Cells k)] : List Cell)) rfl Try.underlying67 Try.zeroValue77 rfl Try.sizeOf77 (par1 (v0 := Vg #[I ((nth v.Cells k).At), I ((nth v.Cells k).It)]) rfl) rfl hS31 (RdVs.cons ((Rd.cell (a := (nth v.Cells k))).2 ⟨rfl, (by first | assumption | (constructor <;> (try dsimp only) <;> omega)), (by first | assumption | (constructor <;> (try dsimp only) <;> omega))⟩) (RdVs.nil)) (by decide) (by decide) (fun v49 H50 hS51 hxx hvv49 => ?_)
   have hS52 : St H0 NoB (SZ S H0) [rdE v49 ([(nth v.Cells k)] : List Cell), rowE 77 vN1 ((if (putTo v x y k).2 = false ∧ x ≤ (nth v.Cells k).At then (putTo v x y k).1 ++ [⟨x, y⟩] else (putTo v x y k).1) : List Cell), bE g8 #[I (0), I (0), vN1, I (v.Rest)] 69, bE g21 #[I ((nth v.Cells k).At), I ((nth v.Cells k).It)] 77, bE g4 #[I (0), I (0), nS, I (0)] 69, bE g1 #[I (v.VNum), I (v.VDen), vc, I (v.Rest)] 69, rdE vc v.Cells] H50 := St.fin hS51
   have hS53 := (hS52.front 1 rfl)
   refine lo rfl ?_
   refine e_append rfl Try.underlying67 em_Cell_77_MeanC3 rfl rfl hS53 (hS53.rdS 1 rfl) (fun _ h => h) (by have hb : GoT.bytes Cell = 16 := rfl; rw [hb]; simp only [List.length_append, List.length_cons, List.length_nil]; omega) (by decide) (fun v54 H55 hS56 hxx => ?_)
   refine lq rfl (q_fieldAddr rfl Try.underlying69 rfl Try.sizeOf67 y7) ?_
   refine lo rfl ?_
   refine e_storeBlk (v := v54) rfl rfl rfl (oneCell_rdL (hS56.rowl 0 rfl)) Try.sizeOf67 (by show _ < 4; decide) (hS56.front 2 rfl) (fun H57 hS58 hxx => ?_)
   exact ⟨v54, y1, y2, y6, y7, y8, y19, y20, y21, (hS58.drop (sk (sk (sn (sk (sk (sk (sk (List.Sublist.slnil)))))))))⟩
  clear y1 y10 y19 y2 y20 y21 y44 y6 y7 y8
  rintro f59 H59 ⟨v54, y1, y2, y6, y7, y8, y19, y20, y21, hS59⟩
  exact ⟨v54, y1, y2, y6, y7, y8, y19, y20, y21, (by have h__ := (St.drop (show St H0 NoB (SZ S H0) [rowE 77 v54 ((if (putTo v x y k).2 = false ∧ x ≤ (nth v.Cells k).At then (putTo v x y k).1 ++ [⟨x, y⟩] else (putTo v x y k).1) ++ ([(nth v.Cells k)]) : List Cell), bE g8 #[I (0), I (0), v54, I (v.Rest)] 69, bE g21 #[I ((nth v.Cells k).At), I ((nth v.Cells k).It)] 77, bE g4 #[I (0), I (0), nS, I (0)] 69, bE g1 #[I (v.VNum), I (v.VDen), vc, I (v.Rest)] 69, rdE vc v.Cells] H59 from (hS59.front 1 rfl)) (sk (sk (sk (sk (sk (sk (List.Sublist.slnil)))))))); rw [putTo_yes h44]; exact h__)⟩
 clear y1 y10 y19 y2 y20 y21 y44 y6 y7 y8
 rintro f47 H47 ⟨vN2, y1, y2, y6, y7, y8, y19, y20, y21, hS47⟩
 refine wpF_cut (fun f H => f 1 = I (x) ∧ f 2 = I (y) ∧ f 6 = PT g4 0 ∧ f 7 = PT g8 0 ∧ f 8 = B (decide ((putTo v x y k).2 = true ∨ x ≤ (nth v.Cells k).At)) ∧ f 19 = vc ∧ f 20 = I ((v.Cells.length : Int)) ∧ f 21 = I ((k : Int) + 1) ∧ H47 = H) ?_ ?_
 ·refine wpF_region ?_
  refine lq rfl (q_add rfl y21 rfl (by constructor <;> omega)) ?_
  refine lm (v := I ((k : Int) + 1)) rfl rfl rfl ?_
  exact ⟨y1, y2, y6, y7, y8, y19, y20, rfl, rfl⟩
 clear y1 y19 y2 y20 y21 y6 y7 y8
 rintro f61 _ ⟨y1, y2, y6, y7, y8, y19, y20, y21, rfl⟩
 refine ⟨_, ?_, k + 1, vN2, rfl, (by omega), y1, y2, y6, y7, y8, y19, y20, (Eq.trans y21 (congrArg I (by omega))), (hS47.drop (sk (sk (sn (sk (sk (sk (List.Sublist.slnil))))))))⟩
 omega
end Go.Um
