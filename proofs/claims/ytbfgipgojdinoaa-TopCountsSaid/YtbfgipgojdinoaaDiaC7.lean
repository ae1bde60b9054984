import Derived.Test.YtbfgipgojdinoaaProg
import Derived.Test.YtbfgipgojdinoaaDiaC6
import Derived.Test.YtbfgipgojdinoaaUmTopCountsC
namespace Go.Um
open Go.Proofs
open GoT (sz ag rdc)
open KeyT (kv)
theorem el_Bt_5_DiaC7 : ElT Try.prog Bt 5 := ⟨Try.isAgg5, Try.sizeOf5⟩
set_option maxRecDepth 100000 in
theorem tableOf_1 {H0 : Heap} (va vx : Value) (gd : Nat) (ch : List Cho) (rt : Nat) (a : List Bool) (ra : Rd NoB H0 va a) (hb : H0[gd]? = some (.cells #[vx, I (rt : Int)] 51)) (rx : Rd NoB H0 vx (chI ch)) (hW : WFc a.length ch) (hrt : rt < ch.length + 2) : CallsH Try.prog 72 #[va, PT gd 0] H0 (fun rv_ H' => Ext NoB H0 H' ∧ rv_ = B (decide (valF ch rt rt a = 1))) := by
 have hS0 : St H0 NoB NoB [rdE va a, fixE gd (.cells #[vx, I ((rt : Int))] 51), rdE vx (chI ch)] H0 := St.arg (St.argFix (St.arg (St.start (fun _ h => h.elim)) (Bl0.nil) rx (fun _ h => h)) (Bl0.cons (Bl0.nil)) hb (fun h => h)) (Bl0.consF (Bl0.cons (Bl0.nil))) ra (fun _ h => h)
 refine callsH_of_wpF (args := [va, PT gd 0]) (rs := [.tmp 3]) Try.func72 rfl Try.ntmps72 Try.results72 (by kernel_rfl) (Nat.le_of_ble_eq_true rfl) ?_
 have y0 : argF [va, PT gd 0] 0 = va := rfl
 have y1 : argF [va, PT gd 0] 1 = PT gd 0 := rfl
 generalize argF [va, PT gd 0] = f0 at *
 refine wpF_seq ?_
 refine wpF_region ?_
 refine la (v := B (false)) rfl rfl rfl ?_
 refine wpL_nil ?_
 refine wpF_seq ?_
 refine wpF_region ?_
 refine lq rfl (q_loadBlkA rfl y1 Try.isAgg51 Try.sizeOf51 rfl (hS0.fixd 1 rfl) (fun h => h)) ?_
 refine lm (v := va) rfl rfl y0 ?_
 refine lo rfl ?_
 refine e_call rfl Try.call73 (arr2 (v0 := Vg #[vx, I ((rt : Int))]) (v1 := va) rfl rfl) (value_D vx va ch rt a (hS0.rdN 2 rfl) (hS0.rdN 0 rfl) hW hrt) ?_
 rintro _ H1 ⟨hxx, rfl⟩
 have hS2 := hS0.ext hxx
 refine la (v := B (decide (valF ch rt rt a = 1))) rfl rfl rfl ?_
 refine wpL_nil ?_
 refine wpF_ret ?_
 refine ⟨_, resT rfl resN, hS2.frame, ?_⟩
 show (B (decide (valF ch rt rt a = 1))) = B (decide (valF ch rt rt a = 1))
 rfl
set_option maxRecDepth 100000 in
theorem tableOf_D {H0 : Heap} {S : Nat → Prop} (vx : Value) (ch : List Cho) (rt N : Nat) (rx : Rd S H0 vx (chI ch)) (hW : WFc N ch) (hrt : rt < ch.length + 2) (hN : N ≤ 16) : CallsH Try.prog 43 #[I ((N : Int)), Vg #[vx, I ((rt : Int))]] H0 (fun rv_ H' => Ext NoB H0 H' ∧ Rd (SZ S H0) H' rv_ (tblD ch rt N)) := by
 have hS0 : St H0 NoB (SZ S H0) [rdE vx (chI ch)] H0 := St.arg (St.start (fun _ h => h.2)) (Bl0.nil) rx (fun _ h => h.1)
 refine callsH_of_wpF (args := [I ((N : Int)), Vg #[vx, I ((rt : Int))]]) (rs := [.tmp 4]) Try.func43 rfl Try.ntmps43 Try.results43 (by kernel_rfl) (Nat.le_of_ble_eq_true rfl) ?_
 have y0 : argF [I ((N : Int)), Vg #[vx, I ((rt : Int))]] 0 = I ((N : Int)) := rfl
 have y1 : argF [I ((N : Int)), Vg #[vx, I ((rt : Int))]] 1 = Vg #[vx, I ((rt : Int))] := rfl
 generalize argF [I ((N : Int)), Vg #[vx, I ((rt : Int))]] = f0 at *
 refine wpF_seq ?_
 refine wpF_region ?_
 refine lo rfl ?_
 refine e_box (v := Vg #[vx, I ((rt : Int))]) rfl y1 hS0 (fun g1 H2 hS3 hxx => ?_)
 refine la (v := nS) rfl rfl rfl ?_
 refine wpL_nil ?_
 refine wpF_seq ?_
 refine wpF_region ?_
 refine lm (v := I ((N : Int))) rfl rfl y0 ?_
 refine lq rfl (q_makeFunc (fi' := #[]) rfl (by simp) (arr1 (v0 := PT g1 0) rfl)) ?_
 refine lo rfl ?_
 refine e_call rfl Try.call39 (arr2 (v0 := I ((N : Int))) (v1 := Value.func (.func 72) #[] #[PT g1 0]) rfl rfl) (Made_D (S := SL (SZ S H0) [bE g1 #[vx, I ((rt : Int))] 51, rdE vx (chI ch)]) (Value.func (.func 72) #[] #[PT g1 0]) N (fun a => decide (valF ch rt rt a = 1)) (by omega) (fun k hk u H hE hr => ⟨_, _, rfl, Try.call72, tableOf_1 u vx g1 ch rt (asgL N k) hr (hE.blk (hS3.blk 0 rfl)) ((hS3.rdN 1 rfl).extN hE) (by rw [asgL_len]; exact hW) hrt⟩)) ?_
 rintro r4 H5 ⟨hxx, hrr4⟩
 have hS6 := hS3.res hxx hrr4
 refine la (v := r4) rfl rfl rfl ?_
 refine wpL_nil ?_
 refine wpF_ret ?_
 refine ⟨_, resT rfl resN, hS6.frame, ?_⟩
 show Rd (SZ S H0) H5 r4 (tblD ch rt N)
 exact (hS6.result (hS6.rdS 0 rfl))
set_option maxHeartbeats 1000000 in
set_option maxRecDepth 100000 in
theorem Count_D {H0 : Heap} (vx : Value) (ch : List Cho) (rt N m r : Nat) (rx : Rd NoB H0 vx (chI ch)) (hW : WFc N ch) (hrt : rt < ch.length + 2) (hv : visF ch m rt 2 = some r) (hr : r = ch.length + 2) (hN : N ≤ 16) (h4 : ch.length ≤ 4000) : CallsH Try.prog 16 #[I ((N : Int)), Vg #[vx, I ((rt : Int))]] H0 (fun rv_ H' => Ext NoB H0 H' ∧ rv_ = Value.tuple #[I (sumB (tblD ch rt N) (2 ^ N)), Vg #[I (0), I (0)]]) := by
 have hsm := (Rd.list.1 rx).bound
 have hb24 : GoT.bytes Chc = 24 := rfl
 have hcl := chI_len (ch := ch)
 rw [hb24] at hsm
 have htl : (tblD ch rt N).length = 2 ^ N := madeL_len
 have h2N : 2 ^ N ≤ 65536 := Nat.le_trans (Nat.pow_le_pow_right (by decide) hN) (by decide)
 have hS0 : St H0 NoB NoB [rdE vx (chI ch)] H0 := St.arg (St.start (fun _ h => h.elim)) (Bl0.nil) rx (fun _ h => h)
 refine callsH_of_wpF (args := [I ((N : Int)), Vg #[vx, I ((rt : Int))]]) (rs := [.tmp 4, .cell 5 28]) Try.func16 rfl Try.ntmps16 Try.results16 (by kernel_rfl) (Nat.le_of_ble_eq_true rfl) ?_
 have y0 : argF [I ((N : Int)), Vg #[vx, I ((rt : Int))]] 0 = I ((N : Int)) := rfl
 have y1 : argF [I ((N : Int)), Vg #[vx, I ((rt : Int))]] 1 = Vg #[vx, I ((rt : Int))] := rfl
 generalize argF [I ((N : Int)), Vg #[vx, I ((rt : Int))]] = f0 at *
 refine wpF_seq ?_
 refine wpF_region ?_
 refine lo rfl ?_
 refine e_box (v := Vg #[vx, I ((rt : Int))]) rfl y1 hS0 (fun g1 H2 hS3 hxx => ?_)
 refine la (v := I (0)) rfl rfl rfl ?_
 refine lo rfl ?_
 refine e_alloc rfl Try.zeroValue28 hS3 (fun g4 H5 hS6 hxx => ?_)
 refine wpL_nil ?_
 refine wpF_seq ?_
 refine wpF_seq ?_
 refine wpF_region ?_
 refine lm (v := I ((N : Int))) rfl rfl y0 ?_
 refine lq rfl (q_loadBlkA rfl rfl Try.isAgg51 Try.sizeOf51 rfl (hS6.blk 1 rfl) (fun h => h)) ?_
 refine lo rfl ?_
 refine e_call rfl Try.call42 (arr2 (v0 := I ((N : Int))) (v1 := Vg #[vx, I ((rt : Int))]) rfl rfl) (Check_D vx ch rt N m r (hS6.rdN 2 rfl) hW hrt hv hr hN h4) ?_
 rintro _ H7 ⟨hxx, rfl⟩
 have hS8 := hS6.ext hxx
 refine lo rfl ?_
 refine e_alloc rfl Try.zeroValue28 hS8 (fun g10 H11 hS12 hxx => ?_)
 refine lo rfl ?_
 refine e_storeBlkA (cs' := #[I (0), I (0)]) rfl rfl rfl Try.sizeOf28 rfl rfl (fa rfl (fa rfl fe)) hS12 (fun H13 hS14 hxx => ?_)
 refine wpL_nil ?_
 refine wpF_seq ?_
 refine wpF_region ?_
 refine lq rfl (q_fieldAddr rfl Try.underlying28 rfl Try.sizeOf3 rfl) ?_
 refine lq rfl (q_loadBlk rfl rfl Try.isAgg3 (hS14.blk 0 rfl) rfl (fun h => h)) ?_
 refine lq rfl (q_neq rfl rfl rfl) ?_
 refine wpL_nil ?_
 refine wpF_condF (Eq.trans rfl (congrArg B (decide_eq_false (by decide)))) ?_
 refine wpF_skip ?_
 refine wpF_seq ?_
 refine wpF_region ?_
 refine la (v := I (0)) rfl rfl rfl ?_
 refine wpL_nil ?_
 refine wpF_seq ?_
 refine wpF_seq ?_
 refine wpF_region ?_
 refine lm (v := I ((N : Int))) rfl rfl y0 ?_
 refine lq rfl (q_loadBlkA rfl rfl Try.isAgg51 Try.sizeOf51 rfl (hS14.blk 2 rfl) (fun h => h)) ?_
 refine lo rfl ?_
 refine e_call rfl Try.call43 (arr2 (v0 := I ((N : Int))) (v1 := Vg #[vx, I ((rt : Int))]) rfl rfl) (tableOf_D (S := SL NoB [bE g10 #[I (0), I (0)] 28, bE g4 #[I (0), I (0)] 28, bE g1 #[vx, I ((rt : Int))] 51, rdE vx (chI ch)]) vx ch rt N (hS14.rdS 3 rfl) hW hrt hN) ?_
 rintro r15 H16 ⟨hxx, hrr15⟩
 have hS17 := hS14.res hxx hrr15
 refine lq rfl (q_lenRd rfl Try.underlying90 rfl (hS17.rdl 0 rfl)) ?_
 refine lm (v := I (0)) rfl rfl rfl ?_
 refine wpL_nil ?_
 refine wpF_block ?_
 refine wpF_loop (fun mz f H => ∃ (k : Nat), mz = 2 ^ N - k ∧ (k ≤ 2 ^ N) ∧ f 5 = PT g4 0 ∧ f 7 = I (sumB (tblD ch rt N) k) ∧ f 19 = r15 ∧ f 20 = I (((tblD ch rt N).length : Int)) ∧ f 21 = I ((k : Int)) ∧ St H0 NoB NoB [rdE r15 (tblD ch rt N), bE g10 #[I (0), I (0)] 28, bE g4 #[I (0), I (0)] 28, bE g1 #[vx, I ((rt : Int))] 51, rdE vx (chI ch)] H) (2 ^ N - 0) ?_ ?_
 ·exact ⟨0, rfl, Nat.zero_le _, rfl, rfl, rfl, rfl, (Eq.trans rfl (congrArg I (by omega))), hS17⟩
 intro m19 f19 H19 hI19
 obtain ⟨k, hm19, hk, y5, y7, y19, y20, y21, hS19⟩ := hI19
 refine wpF_seq ?_
 refine wpF_region ?_
 refine lq rfl (q_lss rfl y21 y20) ?_
 refine wpL_nil ?_
 refine wpF_seq ?_
 refine wpF_condP rfl (fun hlt => ?t23) (fun hlt => ?e23)
 case e23 =>
  obtain rfl : k = (2 ^ N) := by omega
  refine wpF_exit ?_
  refine atX_here ?_
  refine wpF_seq ?_
  refine wpF_region ?_
  refine lm (v := I (sumB (tblD ch rt N) (2 ^ N))) rfl rfl y7 ?_
  refine lq rfl (q_build (v := Vg #[I (0), I (0)]) rfl par0 (fun w__ => by kernel_rfl)) ?_
  refine la (v := I (sumB (tblD ch rt N) (2 ^ N))) rfl rfl rfl ?_
  refine lo rfl ?_
  refine e_storeBlkA (cs' := #[I (0), I (0)]) rfl y5 rfl Try.sizeOf28 rfl rfl (fa rfl (fa rfl fe)) (hS19.front 2 rfl) (fun H21 hS22 hxx => ?_)
  refine wpL_nil ?_
  refine wpF_ret ?_
  refine ⟨_, resT rfl (resC y5 (loadV_blkA Try.isAgg28 Try.sizeOf28 rfl (hS22.blk 0 rfl)) (resN)), hS22.frame, ?_⟩
  show (Value.tuple #[I (sumB (tblD ch rt N) (2 ^ N)), Vg #[I (0), I (0)]]) = Value.tuple #[I (sumB (tblD ch rt N) (2 ^ N)), Vg #[I (0), I (0)]]
  rfl
 have hsr := sumB_rng (l := tblD ch rt N) (k := k)
 have hsn := sumB_next (l := tblD ch rt N) (k := k) (by omega)
 have hbi := bv_in (nth (tblD ch rt N) k)
 refine wpF_skip ?_
 refine wpF_seq ?_
 refine wpF_block ?_
 refine wpF_seq ?_
 refine wpF_region ?_
 refine lq rfl (q_indexRd (k := k) rfl Try.underlying90 el_Bt_5_DiaC7 y19 y21 (hS19.rdl 0 rfl) (by omega) (by omega)) ?_
 refine lq rfl (q_loadBt (k := k) rfl rfl el_Bt_5_DiaC7 (hS19.rdl 0 rfl) (by omega) (fun _ h => h)) ?_
 refine la (v := U8 (bv (nth (tblD ch rt N) k))) rfl rfl rfl ?_
 refine wpL_nil ?_
 refine wpF_region ?_
 refine lm (v := I (sumB (tblD ch rt N) k)) rfl rfl y7 ?_
 refine lm (v := U8 (bv (nth (tblD ch rt N) k))) rfl rfl rfl ?_
 refine lq rfl (q_conv8 rfl Try.underlying5 Try.underlying3 rfl (by have := bv_in (nth (tblD ch rt N) k); omega)) ?_
 refine lq rfl (q_add rfl rfl rfl (by constructor <;> omega)) ?_
 refine la (v := I ((sumB (tblD ch rt N) k) + (bv (nth (tblD ch rt N) k)))) rfl rfl rfl ?_
 refine wpL_nil ?_
 refine wpF_region ?_
 refine lq rfl (q_add rfl y21 rfl (by constructor <;> omega)) ?_
 refine lm (v := I ((k : Int) + 1)) rfl rfl rfl ?_
 refine wpL_nil ?_
 refine ⟨_, ?_, k + 1, rfl, (by omega), y5, (Eq.trans rfl (congrArg I hsn.symm)), y19, y20, (Eq.trans rfl (congrArg I (by omega))), hS19⟩
 omega
set_option maxHeartbeats 1000000 in
set_option maxRecDepth 100000 in
theorem Pick_D {H0 : Heap} {S : Nat → Prop} (vx : Value) (ch : List Cho) (rt N m r : Nat) (q : Int) (rx : Rd S H0 vx (chI ch)) (hW : WFc N ch) (hrt : rt < ch.length + 2) (hv : visF ch m rt 2 = some r) (hr : r = ch.length + 2) (hN : N ≤ 16) (h4 : ch.length ≤ 4000) (hq : 0 ≤ q ∧ q < sumB (tblD ch rt N) (2 ^ N)) : CallsH Try.prog 17 #[I ((N : Int)), Vg #[vx, I ((rt : Int))], I (q)] H0 (fun rv_ H' => Ext NoB H0 H' ∧ ∃ (w_ : Value) (i_ : Nat), rv_ = Value.tuple #[w_, Vg #[I (0), I (0)]] ∧ Rd (SZ S H0) H' w_ (asgL N i_) ∧ i_ < 2 ^ N ∧ bv (nth (tblD ch rt N) i_) = 1 ∧ sumB (tblD ch rt N) i_ = q) := by
 have hsm := (Rd.list.1 rx).bound
 have hb24 : GoT.bytes Chc = 24 := rfl
 have hcl := chI_len (ch := ch)
 rw [hb24] at hsm
 have htl : (tblD ch rt N).length = 2 ^ N := madeL_len
 have h2N : 2 ^ N ≤ 65536 := Nat.le_trans (Nat.pow_le_pow_right (by decide) hN) (by decide)
 have hst := sumB_rng (l := tblD ch rt N) (k := 2 ^ N)
 have hS0 : St H0 NoB (SZ S H0) [rdE vx (chI ch)] H0 := St.arg (St.start (fun _ h => h.2)) (Bl0.nil) rx (fun _ h => h.1)
 refine callsH_of_wpF (args := [I ((N : Int)), Vg #[vx, I ((rt : Int))], I (q)]) (rs := [.tmp 6, .cell 7 28]) Try.func17 rfl Try.ntmps17 Try.results17 (by kernel_rfl) (Nat.le_of_ble_eq_true rfl) ?_
 have y0 : argF [I ((N : Int)), Vg #[vx, I ((rt : Int))], I (q)] 0 = I ((N : Int)) := rfl
 have y1 : argF [I ((N : Int)), Vg #[vx, I ((rt : Int))], I (q)] 1 = Vg #[vx, I ((rt : Int))] := rfl
 have y2 : argF [I ((N : Int)), Vg #[vx, I ((rt : Int))], I (q)] 2 = I (q) := rfl
 generalize argF [I ((N : Int)), Vg #[vx, I ((rt : Int))], I (q)] = f0 at *
 refine wpF_seq ?_
 refine wpF_region ?_
 refine lo rfl ?_
 refine e_box (v := Vg #[vx, I ((rt : Int))]) rfl y1 hS0 (fun g1 H2 hS3 hxx => ?_)
 refine la (v := nS) rfl rfl rfl ?_
 refine lo rfl ?_
 refine e_alloc rfl Try.zeroValue28 hS3 (fun g4 H5 hS6 hxx => ?_)
 refine wpL_nil ?_
 refine wpF_seq ?_
 refine wpF_seq ?_
 refine wpF_region ?_
 refine lm (v := I ((N : Int))) rfl rfl y0 ?_
 refine lq rfl (q_loadBlkA rfl rfl Try.isAgg51 Try.sizeOf51 rfl (hS6.blk 1 rfl) (fun h => h)) ?_
 refine lo rfl ?_
 refine e_call rfl Try.call42 (arr2 (v0 := I ((N : Int))) (v1 := Vg #[vx, I ((rt : Int))]) rfl rfl) (Check_D vx ch rt N m r (hS6.rdN 2 rfl) hW hrt hv hr hN h4) ?_
 rintro _ H7 ⟨hxx, rfl⟩
 have hS8 := hS6.ext hxx
 refine lo rfl ?_
 refine e_alloc rfl Try.zeroValue28 hS8 (fun g10 H11 hS12 hxx => ?_)
 refine lo rfl ?_
 refine e_storeBlkA (cs' := #[I (0), I (0)]) rfl rfl rfl Try.sizeOf28 rfl rfl (fa rfl (fa rfl fe)) hS12 (fun H13 hS14 hxx => ?_)
 refine wpL_nil ?_
 refine wpF_seq ?_
 refine wpF_region ?_
 refine lq rfl (q_fieldAddr rfl Try.underlying28 rfl Try.sizeOf3 rfl) ?_
 refine lq rfl (q_loadBlk rfl rfl Try.isAgg3 (hS14.blk 0 rfl) rfl (fun h => h)) ?_
 refine lq rfl (q_neq rfl rfl rfl) ?_
 refine wpL_nil ?_
 refine wpF_condF (Eq.trans rfl (congrArg B (decide_eq_false (by decide)))) ?_
 refine wpF_skip ?_
 refine wpF_seq ?_
 refine wpF_region ?_
 refine lm (v := I (q)) rfl rfl y2 ?_
 refine la (v := I (q)) rfl rfl rfl ?_
 refine wpL_nil ?_
 refine wpF_seq ?_
 refine wpF_seq ?_
 refine wpF_region ?_
 refine lm (v := I (q)) rfl rfl y2 ?_
 refine lq rfl (q_geq rfl rfl rfl) ?_
 refine wpL_nil ?_
 refine wpF_condP rfl (fun h21 => ?t37) (fun h21 => ?e37)
 case e37 =>
  exact absurd hq.1 h21
 refine wpF_seq ?_
 refine wpF_region ?_
 refine lm (v := I ((N : Int))) rfl rfl y0 ?_
 refine lq rfl (q_loadBlkA rfl rfl Try.isAgg51 Try.sizeOf51 rfl (hS14.blk 2 rfl) (fun h => h)) ?_
 refine lo rfl ?_
 refine e_call rfl Try.call43 (arr2 (v0 := I ((N : Int))) (v1 := Vg #[vx, I ((rt : Int))]) rfl rfl) (tableOf_D (S := SL (SZ S H0) [bE g10 #[I (0), I (0)] 28, bE g4 #[I (0), I (0)] 28, bE g1 #[vx, I ((rt : Int))] 51, rdE vx (chI ch)]) vx ch rt N (hS14.rdS 3 rfl) hW hrt hN) ?_
 rintro r16 H17 ⟨hxx, hrr16⟩
 have hS18 := hS14.res hxx hrr16
 refine lq rfl (q_lenRd rfl Try.underlying90 rfl (hS18.rdl 0 rfl)) ?_
 refine lm (v := I (0)) rfl rfl rfl ?_
 refine wpL_nil ?_
 refine wpF_block ?_
 refine wpF_loop (fun mz f H => ∃ (i : Nat), mz = 2 ^ N - i ∧ (i ≤ 2 ^ N) ∧ (sumB (tblD ch rt N) i ≤ q) ∧ f 0 = I ((N : Int)) ∧ f 7 = PT g4 0 ∧ f 9 = I (q - sumB (tblD ch rt N) i) ∧ f 24 = r16 ∧ f 25 = I (((tblD ch rt N).length : Int)) ∧ f 26 = I ((i : Int)) ∧ St H0 NoB (SZ S H0) [rdE r16 (tblD ch rt N), bE g10 #[I (0), I (0)] 28, bE g4 #[I (0), I (0)] 28, bE g1 #[vx, I ((rt : Int))] 51, rdE vx (chI ch)] H) (2 ^ N - 0) ?_ ?_
 ·exact ⟨0, rfl, Nat.zero_le _, (by simp [sumB]; omega), y0, rfl, (Eq.trans rfl (congrArg I (by simp [sumB]))), rfl, rfl, (Eq.trans rfl (congrArg I (by omega))), hS18⟩
 intro m20 f20 H20 hI20
 clear y0
 obtain ⟨i, hm20, hi, hle, y0, y7, y9, y24, y25, y26, hS20⟩ := hI20
 refine wpF_seq ?_
 refine wpF_region ?_
 refine lq rfl (q_lss rfl y26 y25) ?_
 refine wpL_nil ?_
 refine wpF_seq ?_
 refine wpF_condP rfl (fun hlt => ?t36) (fun hlt => ?e36)
 case e36 =>
  obtain rfl : i = (2 ^ N) := by omega
  refine wpF_exit ?_
  refine atX_here ?_
  refine wpF_seq ?_
  refine wpF_region ?_
  refine lq rfl (q_build (v := Vg #[I (3), I (-1)]) rfl (par2 (v0 := I (3)) (v1 := I (-1)) rfl rfl) (fun w__ => by kernel_rfl)) ?_
  refine la (v := nS) rfl rfl rfl ?_
  refine lo rfl ?_
  refine e_storeBlkA (cs' := #[I (3), I (-1)]) rfl y7 rfl Try.sizeOf28 rfl rfl (fa rfl (fa rfl fe)) (hS20.front 2 rfl) (fun H34 hS35 hxx => ?_)
  refine wpL_nil ?_
  refine wpF_ret ?_
  refine ⟨_, resT rfl (resC y7 (loadV_blkA Try.isAgg28 Try.sizeOf28 rfl (hS35.blk 0 rfl)) (resN)), hS35.frame, ?_⟩
  show ∃ (w_ : Value) (i_ : Nat), (Value.tuple #[nS, Vg #[I (3), I (-1)]]) = Value.tuple #[w_, Vg #[I (0), I (0)]] ∧ Rd (SZ S H0) H34 w_ (asgL N i_) ∧ i_ < 2 ^ N ∧ bv (nth (tblD ch rt N) i_) = 1 ∧ sumB (tblD ch rt N) i_ = q
  exfalso
  omega
 have hsr := sumB_rng (l := tblD ch rt N) (k := i)
 have hsn := sumB_next (l := tblD ch rt N) (k := i) (by omega)
 have hbi := bv_in (nth (tblD ch rt N) i)
 refine wpF_skip ?_
 refine wpF_seq ?_
 refine wpF_block ?_
 refine wpF_seq ?_
 refine wpF_region ?_
 refine lm (v := I ((i : Int))) rfl rfl y26 ?_
 refine lq rfl (q_indexRd (k := i) rfl Try.underlying90 el_Bt_5_DiaC7 y24 y26 (hS20.rdl 0 rfl) (by omega) (by omega)) ?_
 refine lq rfl (q_loadBt (k := i) rfl rfl el_Bt_5_DiaC7 (hS20.rdl 0 rfl) (by omega) (fun _ h => h)) ?_
 refine la (v := I ((i : Int))) rfl rfl rfl ?_
 refine la (v := U8 (bv (nth (tblD ch rt N) i))) rfl rfl rfl ?_
 refine wpL_nil ?_
 refine wpF_seq ?_
 refine fcr (fun f H => f 0 = I ((N : Int)) ∧ f 7 = PT g4 0 ∧ f 9 = I (q - sumB (tblD ch rt N) i) ∧ f 10 = I ((i : Int)) ∧ f 11 = U8 (bv (nth (tblD ch rt N) i)) ∧ f 24 = r16 ∧ f 25 = I (((tblD ch rt N).length : Int)) ∧ f 26 = I ((i : Int)) ∧ f 36 = B (decide (((bv (nth (tblD ch rt N) i)) = 1) ∧ ((q - sumB (tblD ch rt N) i) = 0))) ∧ H20 = H) ?_ ?_
 ·refine lm (v := U8 (bv (nth (tblD ch rt N) i))) rfl rfl rfl ?_
  refine lq rfl (q_eql8 rfl rfl rfl) ?_
  refine lm (v := B (decide ((bv (nth (tblD ch rt N) i)) = 1))) rfl rfl rfl ?_
  by_cases hg22 : (bv (nth (tblD ch rt N) i)) = 1
  ·have hb23 := Eq.trans rfl (congrArg B (decide_eq_true hg22))
   refine gq rfl rfl rfl hb23 (q_move (v := I (q - sumB (tblD ch rt N) i)) rfl y9) ?_
   refine gq rfl rfl rfl hb23 (q_eql rfl rfl rfl) ?_
   refine lq rfl (q_pickT (v := B (decide ((q - sumB (tblD ch rt N) i) = 0))) rfl hb23 rfl) ?_
   exact ⟨y0, y7, y9, rfl, rfl, y24, y25, y26, (Eq.trans rfl (congrArg B (decide_congr_of ((Iff.rfl).trans (((and_iff_right hg22).trans Iff.rfl)).symm)))), rfl⟩
  ·have hb24 := Eq.trans rfl (congrArg B (decide_eq_false hg22))
   refine wpL_gs rfl rfl rfl hb24 rfl ?_
   refine wpL_gs rfl rfl rfl hb24 rfl ?_
   refine lq rfl (q_pickF (v := B (false)) rfl hb24 rfl) ?_
   exact ⟨y0, y7, y9, rfl, rfl, y24, y25, y26, (Eq.trans rfl (congrArg B ((decide_eq_false (fun h => hg22 h.1)).symm))), rfl⟩
 clear y0 y24 y25 y26 y7 y9
 rintro f25 _ ⟨y0, y7, y9, y10, y11, y24, y25, y26, y36, rfl⟩
 refine wpF_condP y36 (fun h36 => ?t33) (fun h36 => ?e33)
 case e33 =>
  refine wpF_skip ?_
  refine wpF_region ?_
  refine lm (v := I (q - sumB (tblD ch rt N) i)) rfl rfl y9 ?_
  refine lm (v := U8 (bv (nth (tblD ch rt N) i))) rfl rfl y11 ?_
  refine lq rfl (q_conv8 rfl Try.underlying5 Try.underlying3 rfl (by have := bv_in (nth (tblD ch rt N) i); omega)) ?_
  refine lq rfl (q_sub rfl rfl rfl (by constructor <;> omega)) ?_
  refine la (v := I ((q - sumB (tblD ch rt N) i) - (bv (nth (tblD ch rt N) i)))) rfl rfl rfl ?_
  refine wpL_nil ?_
  refine wpF_region ?_
  refine lq rfl (q_add rfl y26 rfl (by constructor <;> omega)) ?_
  refine lm (v := I ((i : Int) + 1)) rfl rfl rfl ?_
  refine wpL_nil ?_
  refine ⟨_, ?_, i + 1, rfl, (by omega), (by omega), y0, y7, (Eq.trans rfl (congrArg I (by omega))), y24, y25, (Eq.trans rfl (congrArg I (by omega))), hS20⟩
  omega
 refine wpF_seq ?_
 refine wpF_region ?_
 refine lm (v := I ((N : Int))) rfl rfl y0 ?_
 refine lm (v := I ((i : Int))) rfl rfl y10 ?_
 refine lo rfl ?_
 refine e_call rfl Try.call44 (arr2 (v0 := I ((N : Int))) (v1 := I ((i : Int))) rfl rfl) (Assignment_A (S := SL (SZ S H0) [rdE r16 (tblD ch rt N), bE g10 #[I (0), I (0)] 28, bE g4 #[I (0), I (0)] 28, bE g1 #[vx, I ((rt : Int))] 51, rdE vx (chI ch)]) N i (by omega) (by omega)) ?_
 rintro r27 H28 ⟨hxx, hrr27⟩
 have hS29 := hS20.res hxx hrr27
 refine lq rfl (q_build (v := Vg #[I (0), I (0)]) rfl par0 (fun w__ => by kernel_rfl)) ?_
 refine la (v := r27) rfl rfl rfl ?_
 refine lo rfl ?_
 refine e_storeBlkA (cs' := #[I (0), I (0)]) rfl y7 rfl Try.sizeOf28 rfl rfl (fa rfl (fa rfl fe)) (hS29.front 3 rfl) (fun H31 hS32 hxx => ?_)
 refine wpL_nil ?_
 refine wpF_ret ?_
 refine ⟨_, resT rfl (resC y7 (loadV_blkA Try.isAgg28 Try.sizeOf28 rfl (hS32.blk 0 rfl)) (resN)), hS32.frame, ?_⟩
 show ∃ (w_ : Value) (i_ : Nat), (Value.tuple #[r27, Vg #[I (0), I (0)]]) = Value.tuple #[w_, Vg #[I (0), I (0)]] ∧ Rd (SZ S H0) H31 w_ (asgL N i_) ∧ i_ < 2 ^ N ∧ bv (nth (tblD ch rt N) i_) = 1 ∧ sumB (tblD ch rt N) i_ = q
 exact ⟨_, i, rfl, (hS32.result (hS32.rdS 1 rfl)), by omega, h36.1, by omega⟩
end Go.Um
