import Derived.Test.YtbfgipgojdinoaaProg
import Derived.Test.YtbfgipgojdinoaaDiaC8
import Derived.Test.YtbfgipgojdinoaaDiaC4
import Derived.Test.YtbfgipgojdinoaaUmTopCountsC
namespace Go.Um
open Go.Proofs
open GoT (sz ag rdc)
open KeyT (kv)
set_option maxHeartbeats 2000000 in
set_option maxRecDepth 100000 in
theorem Built_D {H0 : Heap} {S : Nat → Prop} (vt : Value) (tt : List Bt) (N : Nat) (rt : Rd S H0 vt tt) (htl : tt.length = 2 ^ N) (hN11 : N ≤ 11) : CallsH Try.prog 38 #[vt] H0 (fun rv_ H' => Ext NoB H0 H' ∧ ∃ (vx_ : Value) (ch_ : List Cho) (rt_ : Nat), rv_ = Value.tuple #[Vg #[vx_, I (rt_ : Int)], Vg #[I (0), I (0)]] ∧ Rd (SZ S H0) H' vx_ (chI ch_) ∧ WFc N ch_ ∧ rt_ < ch_.length + 2 ∧ visF ch_ (N + 1) rt_ 2 = some (ch_.length + 2) ∧ tab N ch_ N rt_ = bools tt ∧ ch_.length ≤ 2 ^ N) := by
 have hN : N ≤ 16 := by omega
 have h2N : 2 ^ N ≤ 2048 := Nat.le_trans (Nat.pow_le_pow_right (by decide) hN11) (by decide)
 have hS0 : St H0 NoB (SZ S H0) [rdE vt tt] H0 := St.arg (St.start (fun _ h => h.2)) (Bl0.nil) rt (fun _ h => h.1)
 refine callsH_of_wpF (args := [vt]) (rs := [.cell 2 51, .cell 3 28]) Try.func38 rfl Try.ntmps38 Try.results38 (by kernel_rfl) (Nat.le_of_ble_eq_true rfl) ?_
 have y0 : argF [vt] 0 = vt := rfl
 generalize argF [vt] = f0 at *
 refine wpF_seq ?_
 refine wpF_region ?_
 refine lo rfl ?_
 refine e_alloc rfl Try.zeroValue51 hS0 (fun g1 H2 hS3 hxx => ?_)
 refine lo rfl ?_
 refine e_alloc rfl Try.zeroValue28 hS3 (fun g4 H5 hS6 hxx => ?_)
 refine wpL_nil ?_
 refine wpF_seq ?_
 refine wpF_region ?_
 refine lo rfl ?_
 refine e_makeMap (κ := Chc) (β := Int) rfl hS6 (fun r7 H8 hS9 hxx => ?_)
 refine lo rfl ?_
 refine e_makeMap (κ := Str) (β := Int) rfl hS9 (fun r10 H11 hS12 hxx => ?_)
 refine lq rfl (q_build (v := Vg #[nS, (Value.map (some r7)), (Value.map (some r10))]) rfl (par2 (v0 := (Value.map (some r7))) (v1 := (Value.map (some r10))) rfl rfl) (fun w__ => by kernel_rfl)) ?_
 refine lo rfl ?_
 refine e_box (v := Vg #[nS, (Value.map (some r7)), (Value.map (some r10))]) rfl rfl hS12 (fun g13 H14 hS15 hxx => ?_)
 refine la (v := PT g13 0) rfl rfl rfl ?_
 refine wpL_nil ?_
 obtain ⟨b0, hb0⟩ : ∃ b : Bd, b = ⟨[], fun _ => none⟩ := ⟨_, rfl⟩
 have hinvb0 : Inv N b0 := by rw [hb0]; exact inv_nil
 have hknb0 : KnRel [] b0.ch := by rw [hb0]; exact knRel_nil
 have hsnb0 : SnRel [] b0.sn := by rw [hb0]; exact snRel_nil
 have hl0 : b0.ch.length = 0 := by rw [hb0]; rfl
 obtain ⟨vcs0, hvcs0⟩ : ∃ v : Value, v = nS := ⟨_, rfl⟩
 have hS16 : St H0 NoB (SZ S H0) [rowE 125 vcs0 (chI b0.ch : List Chc), bE g13 #[vcs0, (Value.map (some r7)), (Value.map (some r10))] 118, mapE r10 ([] : List (Str × Int)), mapE r7 ([] : List (Chc × Int)), bE g4 #[I (0), I (0)] 28, bE g1 #[nS, I (0)] 51, rdE vt tt] H14 := by subst hvcs0; rw [show chI b0.ch = [] by rw [hb0]; rfl]; exact hS15.row0 125
 refine wpF_seq ?_
 refine wpF_region ?_
 refine lm (v := PT g13 0) rfl rfl rfl ?_
 refine lm (v := vt) rfl rfl y0 ?_
 have hS17 := (St.drop (show St H0 NoB (SZ S H0) [rowE 125 vcs0 (chI b0.ch : List Chc), bE g13 #[vcs0, (Value.map (some r7)), (Value.map (some r10))] 118, mapE r7 ([] : List (Chc × Int)), mapE r10 ([] : List (Str × Int)), bE g4 #[I (0), I (0)] 28, bE g1 #[nS, I (0)] 51, rdE vt tt] H14 from (((hS16.front 3 rfl).front 2 rfl).front 2 rfl)) (sk (sk (sk (sk (sk (sk (sk (List.Sublist.slnil)))))))))
 refine lo rfl ?_
 refine e_call rfl Try.call65 (arr3 (v0 := PT g13 0) (v1 := vt) (v2 := I (1)) rfl rfl rfl) (node_D _ _ g13 r7 r10 vcs0 vt b0 ([]) ([]) tt N N 1 (St.give (A := [rowE 125 vcs0 (chI b0.ch : List Chc), bE g13 #[vcs0, (Value.map (some r7)), (Value.map (some r10))] 118, mapE r7 ([] : List (Chc × Int)), mapE r10 ([] : List (Str × Int))]) (L := [bE g4 #[I (0), I (0)] 28, bE g1 #[nS, I (0)] 51, rdE vt tt]) hS17) (hS17.rdS 6 rfl) hinvb0 (by omega) hN htl (by omega) hknb0 hsnb0 (by omega) rfl) ?_
 rintro _ H19 ⟨hxx, ir18, br18, vr18, kr18, sr18, hndbr18, rfl, hknbr18, hsnbr18, hgo⟩
 have hS20 : St H0 NoB (SZ S H0) [rowE 125 vr18 (chI br18.ch : List Chc), bE g13 #[vr18, (Value.map (some r7)), (Value.map (some r10))] 118, mapE r7 (kr18 : List (Chc × Int)), mapE r10 (sr18 : List (Str × Int)), bE g4 #[I (0), I (0)] 28, bE g1 #[nS, I (0)] 51, rdE vt tt] H19 := St.back3 (A := [rowE 125 vcs0 (chI b0.ch : List Chc), bE g13 #[vcs0, (Value.map (some r7)), (Value.map (some r10))] 118, mapE r7 ([] : List (Chc × Int)), mapE r10 ([] : List (Str × Int))]) (A' := [rowE 125 vr18 (chI br18.ch : List Chc), bE g13 #[vr18, (Value.map (some r7)), (Value.map (some r10))] 118, mapE r7 (kr18 : List (Chc × Int)), mapE r10 (sr18 : List (Str × Int))]) (L := [bE g4 #[I (0), I (0)] 28, bE g1 #[nS, I (0)] 51, rdE vt tt]) hS17 hxx hgo
 have hmbr18 := node_ok hinvb0 (d := N) (t := bools tt) (by omega) (by rw [bools, List.length_map]; exact htl)
 have hlbr18 := node_len (N := N) (d := N) (t := bools tt) (b := b0)
 rw [hndbr18] at hmbr18 hlbr18
 replace hlbr18 : br18.ch.length + 1 ≤ b0.ch.length + 2 ^ N := hlbr18
 have hinvbr18 : Inv N br18 := hmbr18.inv
 have hltbr18 : ir18 < br18.ch.length + 2 := hmbr18.lt
 refine la (v := I ((ir18 : Int))) rfl rfl rfl ?_
 refine wpL_nil ?_
 refine wpF_seq ?_
 refine wpF_seq ?_
 refine wpF_region ?_
 refine lm (v := PT g13 0) rfl rfl rfl ?_
 refine lq rfl (q_nilCheck rfl rfl) ?_
 refine lq rfl (q_fieldAddr rfl Try.underlying118 rfl Try.sizeOf49 rfl) ?_
 refine lq rfl (q_loadBlk rfl rfl Try.isAgg49 (hS20.blk 1 rfl) rfl (fun h => h)) ?_
 refine lq rfl (q_lenRd rfl Try.underlying49 rfl (hS20.rowl 0 rfl)) ?_
 refine lq rfl (q_gtr rfl rfl rfl) ?_
 refine wpL_nil ?_
 refine wpF_condP rfl (fun h18 => ?t28) (fun h18 => ?e28)
 case t28 =>
  exact absurd h18 (by rw [chI_len]; omega)
 refine wpF_skip ?_
 refine wpF_seq ?_
 refine wpF_region ?_
 refine lm (v := PT g13 0) rfl rfl rfl ?_
 refine lq rfl (q_nilCheck rfl rfl) ?_
 refine lq rfl (q_fieldAddr rfl Try.underlying118 rfl Try.sizeOf49 rfl) ?_
 refine lq rfl (q_loadBlk rfl rfl Try.isAgg49 (hS20.blk 1 rfl) rfl (fun h => h)) ?_
 refine lm (v := I ((ir18 : Int))) rfl rfl rfl ?_
 refine lq rfl (q_build (v := Vg #[vr18, I ((ir18 : Int))]) rfl (par2 (v0 := vr18) (v1 := I ((ir18 : Int))) rfl rfl) ((hS20.rowl 0 rfl).slc (fun zz0 => ∀ w__, (Instr.build 51 #[(0, zz0), (1, I ((ir18 : Int)))]).run Try.prog w__ = .ok (Vg #[zz0, I ((ir18 : Int))]) w__) (fun a0 n0 c0 => (fun w__ => by kernel_rfl)))) ?_
 refine lq rfl (q_build (v := Vg #[I (0), I (0)]) rfl par0 (fun w__ => by kernel_rfl)) ?_
 refine lo rfl ?_
 refine e_storeBlkA (cs' := #[vr18, I ((ir18 : Int))]) rfl rfl rfl Try.sizeOf51 rfl rfl (fa ((oneCell_rdL (hS20.rowl 0 rfl))) (fa rfl fe)) (hS20.front 5 rfl) (fun H23 hS24 hxx => ?_)
 refine lo rfl ?_
 refine e_storeBlkA (cs' := #[I (0), I (0)]) rfl rfl rfl Try.sizeOf28 rfl rfl (fa rfl (fa rfl fe)) (hS24.front 5 rfl) (fun H25 hS26 hxx => ?_)
 refine wpL_nil ?_
 refine wpF_ret ?_
 refine ⟨_, resC rfl (loadV_blkA Try.isAgg51 Try.sizeOf51 rfl (hS26.blk 1 rfl)) (resC rfl (loadV_blkA Try.isAgg28 Try.sizeOf28 rfl (hS26.blk 0 rfl)) (resN)), hS26.frame, ?_⟩
 show ∃ (vx_ : Value) (ch_ : List Cho) (rt_ : Nat), (Value.tuple #[Vg #[vr18, I ((ir18 : Int))], Vg #[I (0), I (0)]]) = Value.tuple #[Vg #[vx_, I (rt_ : Int)], Vg #[I (0), I (0)]] ∧ Rd (SZ S H0) H25 vx_ (chI ch_) ∧ WFc N ch_ ∧ rt_ < ch_.length + 2 ∧ visF ch_ (N + 1) rt_ 2 = some (ch_.length + 2) ∧ tab N ch_ N rt_ = bools tt ∧ ch_.length ≤ 2 ^ N
 have hS27 : St H0 NoB (SZ S H0) [rdE vr18 (chI br18.ch), bE g4 #[I (0), I (0)] 28, bE g1 #[vr18, I ((ir18 : Int))] 51, bE g13 #[vr18, (Value.map (some r7)), (Value.map (some r10))] 118, mapE r7 (kr18 : List (Chc × Int)), mapE r10 (sr18 : List (Str × Int)), rdE vt tt] H25 := St.fin (hS26.front 2 rfl)
 have hmo := node_ok hinvb0 (Nat.le_refl N) (t := bools tt) (by rw [bools, List.length_map]; exact htl)
 have hvo := node_vis hinvb0 (Nat.le_refl N) (t := bools tt) (by rw [bools, List.length_map]; exact htl)
 rw [hndbr18] at hmo hvo
 rw [hl0] at hvo
 exact ⟨_, _, _, rfl, (hS27.result (hS27.rdS 0 rfl)), hmo.inv.wf, hmo.lt, hvo, hmo.tab, by omega⟩
set_option maxHeartbeats 2000000 in
set_option maxRecDepth 100000 in
theorem Of_D {H0 : Heap} {S : Nat → Prop} (vC : Value) (C : List (List Int)) (N : Nat) (rC : Rd S H0 vC C) (hok : cnfOk (N : Int) C) (hlo : ∀ c ∈ C, litsOk (N : Int) c) (hN11 : N ≤ 11) : CallsH Try.prog 15 #[Vg #[I ((N : Int)), vC]] H0 (fun rv_ H' => Ext NoB H0 H' ∧ ∃ (vx_ : Value) (ch_ : List Cho) (rt_ : Nat), rv_ = Value.tuple #[Vg #[vx_, I (rt_ : Int)], Vg #[I (0), I (0)]] ∧ Rd (SZ S H0) H' vx_ (chI ch_) ∧ WFc N ch_ ∧ rt_ < ch_.length + 2 ∧ visF ch_ (N + 1) rt_ 2 = some (ch_.length + 2) ∧ tab N ch_ N rt_ = bools (madeL N fun a => allH C a) ∧ ch_.length ≤ 2 ^ N) := by
 have hS0 : St H0 NoB (SZ S H0) [rdE vC C] H0 := St.arg (St.start (fun _ h => h.2)) (Bl0.nil) rC (fun _ h => h.1)
 refine callsH_of_wpF (args := [Vg #[I ((N : Int)), vC]]) (rs := [.cell 2 51, .cell 3 28]) Try.func15 rfl Try.ntmps15 Try.results15 (by kernel_rfl) (Nat.le_of_ble_eq_true rfl) ?_
 have y0 : argF [Vg #[I ((N : Int)), vC]] 0 = Vg #[I ((N : Int)), vC] := rfl
 generalize argF [Vg #[I ((N : Int)), vC]] = f0 at *
 refine wpF_seq ?_
 refine wpF_region ?_
 refine lo rfl ?_
 refine e_box (v := Vg #[I ((N : Int)), vC]) rfl y0 hS0 (fun g1 H2 hS3 hxx => ?_)
 refine lo rfl ?_
 refine e_alloc rfl Try.zeroValue51 hS3 (fun g4 H5 hS6 hxx => ?_)
 refine lo rfl ?_
 refine e_alloc rfl Try.zeroValue28 hS6 (fun g7 H8 hS9 hxx => ?_)
 refine wpL_nil ?_
 refine wpF_seq ?_
 refine wpF_seq ?_
 refine wpF_region ?_
 refine lq rfl (q_loadBlkA rfl rfl Try.isAgg26 Try.sizeOf26 rfl (hS9.blk 2 rfl) (fun h => h)) ?_
 refine lo rfl ?_
 refine e_call rfl Try.call37 (arr1 (v0 := Vg #[I ((N : Int)), vC]) rfl) (Check_C vC C (N : Int) (hS9.rdN 3 rfl) hok) ?_
 rintro _ H10 ⟨hxx, rfl⟩
 have hS11 := hS9.ext hxx
 refine lo rfl ?_
 refine e_alloc rfl Try.zeroValue28 hS11 (fun g13 H14 hS15 hxx => ?_)
 refine lo rfl ?_
 refine e_storeBlkA (cs' := #[I (0), I (0)]) rfl rfl rfl Try.sizeOf28 rfl rfl (fa rfl (fa rfl fe)) hS15 (fun H16 hS17 hxx => ?_)
 refine wpL_nil ?_
 refine wpF_seq ?_
 refine wpF_region ?_
 refine lq rfl (q_fieldAddr rfl Try.underlying28 rfl Try.sizeOf3 rfl) ?_
 refine lq rfl (q_loadBlk rfl rfl Try.isAgg3 (hS17.blk 0 rfl) rfl (fun h => h)) ?_
 refine lq rfl (q_neq rfl rfl rfl) ?_
 refine wpL_nil ?_
 refine wpF_condF (Eq.trans rfl (congrArg B (decide_eq_false (by decide)))) ?_
 refine wpF_skip ?_
 refine wpF_seq ?_
 refine wpF_seq ?_
 refine wpF_region ?_
 refine lq rfl (q_fieldAddr rfl Try.underlying26 rfl Try.sizeOf3 rfl) ?_
 refine lq rfl (q_loadBlk rfl rfl Try.isAgg3 (hS17.blk 3 rfl) rfl (fun h => h)) ?_
 refine lq rfl (q_gtr rfl rfl rfl) ?_
 refine wpL_nil ?_
 refine wpF_condP rfl (fun h14 => ?t35) (fun h14 => ?e35)
 case t35 =>
  refine wpF_seq ?_
  refine wpF_region ?_
  refine lq rfl (q_build (v := Vg #[nS, I (0)]) rfl par0 (fun w__ => by kernel_rfl)) ?_
  refine lq rfl (q_build (v := Vg #[I (2), I (-1)]) rfl (par2 (v0 := I (2)) (v1 := I (-1)) rfl rfl) (fun w__ => by kernel_rfl)) ?_
  refine lo rfl ?_
  refine e_storeBlkA (cs' := #[nS, I (0)]) rfl rfl rfl Try.sizeOf51 rfl rfl (fa rfl (fa rfl fe)) (hS17.front 2 rfl) (fun H19 hS20 hxx => ?_)
  refine lo rfl ?_
  refine e_storeBlkA (cs' := #[I (2), I (-1)]) rfl rfl rfl Try.sizeOf28 rfl rfl (fa rfl (fa rfl fe)) (hS20.front 2 rfl) (fun H21 hS22 hxx => ?_)
  refine wpL_nil ?_
  refine wpF_ret ?_
  refine ⟨_, resC rfl (loadV_blkA Try.isAgg51 Try.sizeOf51 rfl (hS22.blk 1 rfl)) (resC rfl (loadV_blkA Try.isAgg28 Try.sizeOf28 rfl (hS22.blk 0 rfl)) (resN)), hS22.frame, ?_⟩
  show ∃ (vx_ : Value) (ch_ : List Cho) (rt_ : Nat), (Value.tuple #[Vg #[nS, I (0)], Vg #[I (2), I (-1)]]) = Value.tuple #[Vg #[vx_, I (rt_ : Int)], Vg #[I (0), I (0)]] ∧ Rd (SZ S H0) H21 vx_ (chI ch_) ∧ WFc N ch_ ∧ rt_ < ch_.length + 2 ∧ visF ch_ (N + 1) rt_ 2 = some (ch_.length + 2) ∧ tab N ch_ N rt_ = bools (madeL N fun a => allH C a) ∧ ch_.length ≤ 2 ^ N
  exact absurd h14 (by omega)
 refine wpF_skip ?_
 refine wpF_seq ?_
 refine wpF_region ?_
 refine lq rfl (q_fieldAddr rfl Try.underlying26 rfl Try.sizeOf3 rfl) ?_
 refine lq rfl (q_loadBlk rfl rfl Try.isAgg3 (hS17.blk 3 rfl) rfl (fun h => h)) ?_
 refine lq rfl (q_makeFunc (fi' := #[]) rfl (by simp) (arr1 (v0 := PT g1 0) rfl)) ?_
 refine lo rfl ?_
 refine e_call rfl Try.call39 (arr2 (v0 := I ((N : Int))) (v1 := Value.func (.func 40) #[] #[PT g1 0]) rfl rfl) (Made_D (S := SL (SZ S H0) [bE g13 #[I (0), I (0)] 28, bE g7 #[I (0), I (0)] 28, bE g4 #[nS, I (0)] 51, bE g1 #[I ((N : Int)), vC] 26, rdE vC C]) (Value.func (.func 40) #[] #[PT g1 0]) N (fun a => allH C a) (by omega) (fun k hk u H hE hr => ⟨_, _, rfl, Try.call40, Of_1 u vC g1 (N : Int) (asgL N k) C hr (hE.blk (hS17.blk 3 rfl)) ((hS17.rdN 4 rfl).extN hE) (fun c hc => fit_of asgL_len (by omega) (hlo c hc))⟩)) ?_
 rintro r23 H24 ⟨hxx, hrr23⟩
 have hS25 := hS17.res hxx hrr23
 refine lo rfl ?_
 refine e_call rfl Try.call38 (arr1 (v0 := r23) rfl) (Built_D (S := SL (SZ S H0) [rdE r23 (madeL N (fun a => allH C a)), bE g13 #[I (0), I (0)] 28, bE g7 #[I (0), I (0)] 28, bE g4 #[nS, I (0)] 51, bE g1 #[I ((N : Int)), vC] 26, rdE vC C]) r23 (madeL N (fun a => allH C a)) N (hS25.rdS 0 rfl) madeL_len (by omega)) ?_
 rintro _ H28 ⟨hxx, vr27, chr27, rtr27, rfl, hrr27, hWr27, hrtr27, hvr27, htr27, hcr27⟩
 have hS29 := hS25.res hxx hrr27
 refine lq rfl (q_extract (vs := #[Vg #[vr27, I ((rtr27 : Int))], Vg #[I (0), I (0)]]) (v := Vg #[vr27, I ((rtr27 : Int))]) rfl rfl rfl) ?_
 refine lq rfl (q_extract (vs := #[Vg #[vr27, I ((rtr27 : Int))], Vg #[I (0), I (0)]]) (v := Vg #[I (0), I (0)]) rfl rfl rfl) ?_
 refine lo rfl ?_
 refine e_storeBlkA (cs' := #[vr27, I ((rtr27 : Int))]) rfl rfl rfl Try.sizeOf51 rfl rfl (fa ((oneCell_rdL (hS29.rdl 0 rfl))) (fa rfl fe)) (hS29.front 4 rfl) (fun H31 hS32 hxx => ?_)
 refine lo rfl ?_
 refine e_storeBlkA (cs' := #[I (0), I (0)]) rfl rfl rfl Try.sizeOf28 rfl rfl (fa rfl (fa rfl fe)) (hS32.front 4 rfl) (fun H33 hS34 hxx => ?_)
 refine wpL_nil ?_
 refine wpF_ret ?_
 refine ⟨_, resC rfl (loadV_blkA Try.isAgg51 Try.sizeOf51 rfl (hS34.blk 1 rfl)) (resC rfl (loadV_blkA Try.isAgg28 Try.sizeOf28 rfl (hS34.blk 0 rfl)) (resN)), hS34.frame, ?_⟩
 show ∃ (vx_ : Value) (ch_ : List Cho) (rt_ : Nat), (Value.tuple #[Vg #[vr27, I ((rtr27 : Int))], Vg #[I (0), I (0)]]) = Value.tuple #[Vg #[vx_, I (rt_ : Int)], Vg #[I (0), I (0)]] ∧ Rd (SZ S H0) H33 vx_ (chI ch_) ∧ WFc N ch_ ∧ rt_ < ch_.length + 2 ∧ visF ch_ (N + 1) rt_ 2 = some (ch_.length + 2) ∧ tab N ch_ N rt_ = bools (madeL N fun a => allH C a) ∧ ch_.length ≤ 2 ^ N
 exact ⟨_, _, _, rfl, (hS34.result (hS34.rdS 2 rfl)), hWr27, hrtr27, hvr27, htr27, hcr27⟩
end Go.Um
