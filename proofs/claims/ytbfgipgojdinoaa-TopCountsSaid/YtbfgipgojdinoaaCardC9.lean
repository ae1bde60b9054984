import Derived.Test.YtbfgipgojdinoaaProg
import Derived.Test.YtbfgipgojdinoaaCardC8
import Derived.Test.YtbfgipgojdinoaaUmTopCountsD
namespace Go.Um
open Go.Proofs
open GoT (sz ag rdc)
open KeyT (kv)
set_option maxRecDepth 100000 in
theorem sure_S {H0 : Heap}   : CallsH Try.prog 10 #[] H0 (fun rv_ H' => Ext NoB H0 H' ∧ rv_ = B true) := by
 obtain ⟨g1, g2, g3⟩ := sure_go
 have hS0 : St H0 NoB NoB [] H0 := St.start (fun _ h => h.elim)
 refine callsH_of_wpF (args := []) (rs := [.tmp 0]) Try.func10 rfl Try.ntmps10 Try.results10 (by kernel_rfl) (Nat.le_of_ble_eq_true rfl) ?_
 generalize argF [] = f0 at *
 refine wpF_seq ?_
 refine wpF_region ?_
 refine la (v := B (false)) rfl rfl rfl ?_
 refine wpL_nil ?_
 refine wpF_seq ?_
 refine wpF_region ?_
 refine lo rfl ?_
 refine e_buildSlice (vs := [I (1)]) (xs := ([1] : List Int)) rfl Try.underlying22 Try.zeroValue3 rfl Try.sizeOf3 (par1 (v0 := I (1)) rfl) rfl hS0 (RdVs.cons (Rd.int.2 ⟨rfl, by first | assumption | decide | (constructor <;> omega)⟩) (RdVs.nil)) (by decide) (by decide) (fun v1 H2 hS3 hxx hvv1 => ?_)
 refine lo rfl ?_
 refine e_buildSlice (vs := [I (-1)]) (xs := ([-1] : List Int)) rfl Try.underlying22 Try.zeroValue3 rfl Try.sizeOf3 (par1 (v0 := I (-1)) rfl) rfl hS3 (RdVs.cons (Rd.int.2 ⟨rfl, by first | assumption | decide | (constructor <;> omega)⟩) (RdVs.nil)) (by decide) (by decide) (fun v4 H5 hS6 hxx hvv4 => ?_)
 have hS7 : St H0 NoB NoB [rdE v1 ([1] : List Int), rowE 3 v4 ([-1] : List Int)] H5 := St.fin (hS6.front 1 rfl)
 have hS8 : St H0 NoB NoB [rdE v4 ([-1] : List Int), rdE v1 ([1] : List Int)] H5 := St.fin (hS7.front 1 rfl)
 refine lo rfl ?_
 refine e_buildSlice (vs := [v1, v4]) (xs := ([[1], [-1]] : List (List Int))) rfl Try.underlying24 Try.zeroValue22 rfl Try.sizeOf22 (par2 (v0 := v1) (v1 := v4) rfl rfl) rfl hS8 (RdVs.cons (hS8.rdS 1 rfl) (RdVs.cons (hS8.rdS 0 rfl) (RdVs.nil))) (by decide) (by decide) (fun v9 H10 hS11 hxx hvv9 => ?_)
 refine lq rfl (q_build (v := Vg #[I (1), v9]) rfl (par2 (v0 := I (1)) (v1 := v9) rfl rfl) ((hS11.rowl 0 rfl).slc (fun zz0 => ∀ w__, (Instr.build 26 #[(0, I (1)), (1, zz0)]).run Try.prog w__ = .ok (Vg #[I (1), zz0]) w__) (fun a0 n0 c0 => (fun w__ => by kernel_rfl)))) ?_
 refine lq rfl (q_build (v := Vg #[I (0), I (0), I (0), I (0)]) rfl par0 (fun w__ => by kernel_rfl)) ?_
 have hS12 : St H0 NoB NoB [rdE v9 ([[1], [-1]] : List (List Int)), rdE v4 ([-1] : List Int), rdE v1 ([1] : List Int)] H10 := St.fin hS11
 refine lo rfl ?_
 refine e_call rfl Try.call8 (arr4 (v0 := Vg #[I (1), v9]) (v1 := nS) (v2 := Vg #[I (0), I (0), I (0), I (0)]) (v3 := I (2000)) rfl rfl rfl rfl) (Do_S v9 (nS) ([[1], [-1]]) [] 1 2 0 0 0 0 2 (hS12.rdS 0 rfl) rdNil g1 g2 (by omega) (by omega) (by omega) (by omega) (by decide) g3) ?_
 rintro _ H20 ⟨hxx, r13, r14, r15, u16, rfl, x17, x18, x19, hrr13, hrr14, hrr15, hru16⟩
 have hS21 := ((((hS12.ext hxx).rd (hrr15.sub fun b hb => ⟨hb, SL.lt hS12 hb⟩)).rd (hrr14.sub fun b hb => ⟨(SL_rd hb), SL.lt hS12 (SL_rd hb)⟩)).rd (hrr13.sub fun b hb => ⟨(SL_rd (SL_rd hb)), SL.lt hS12 (SL_rd (SL_rd hb))⟩))
 refine lm (v := Value.tuple #[Vg #[I (2), r13, r14, r15, I (u16)], Vg #[I (0), I (0)]]) rfl rfl rfl ?_
 refine lq rfl (q_extract (vs := #[Vg #[I (2), r13, r14, r15, I (u16)], Vg #[I (0), I (0)]]) (v := Vg #[I (2), r13, r14, r15, I (u16)]) rfl rfl rfl) ?_
 refine lq rfl (q_extract (vs := #[Vg #[I (2), r13, r14, r15, I (u16)], Vg #[I (0), I (0)]]) (v := Vg #[I (0), I (0)]) rfl rfl rfl) ?_
 refine lo rfl ?_
 refine e_alloc rfl Try.zeroValue34 hS21 (fun g23 H24 hS25 hxx => ?_)
 refine lo rfl ?_
 refine e_alloc rfl Try.zeroValue28 hS25 (fun g26 H27 hS28 hxx => ?_)
 refine lo rfl ?_
 refine e_storeBlkA (cs' := #[I (2), r13, r14, r15, I (u16)]) rfl rfl rfl Try.sizeOf34 rfl rfl (fa rfl (fa ((oneCell_rdL (hS28.rdl 2 rfl))) (fa ((oneCell_rdL (hS28.rdl 3 rfl))) (fa ((oneCell_rdL (hS28.rdl 4 rfl))) (fa rfl fe))))) (hS28.front 1 rfl) (fun H29 hS30 hxx => ?_)
 refine lo rfl ?_
 refine e_storeBlkA (cs' := #[I (0), I (0)]) rfl rfl rfl Try.sizeOf28 rfl rfl (fa rfl (fa rfl fe)) (hS30.front 1 rfl) (fun H31 hS32 hxx => ?_)
 refine wpL_nil ?_
 refine wpF_seq ?_
 refine wpF_region ?_
 refine lq rfl (q_fieldAddr rfl Try.underlying28 rfl Try.sizeOf3 rfl) ?_
 refine lq rfl (q_loadBlk rfl rfl Try.isAgg3 (hS32.blk 0 rfl) rfl (fun h => h)) ?_
 refine lq rfl (q_eqlT rfl rfl rfl rfl) ?_
 refine lm (v := B (true)) rfl rfl rfl ?_
 refine gq rfl rfl rfl rfl (q_fieldAddr rfl Try.underlying34 rfl Try.sizeOf3 rfl) ?_
 refine gq rfl rfl rfl rfl (q_loadBlk rfl rfl Try.isAgg3 (hS32.blk 1 rfl) rfl (fun h => h)) ?_
 refine gq rfl rfl rfl rfl (q_eqlT rfl rfl rfl rfl) ?_
 refine lq rfl (q_pickT (v := B (true)) rfl rfl rfl) ?_
 refine la (v := B (true)) rfl rfl rfl ?_
 refine wpL_nil ?_
 refine wpF_ret ?_
 refine ⟨_, resT rfl resN, hS32.frame, ?_⟩
 show (B (true)) = B true
 rfl
set_option maxRecDepth 100000 in
theorem PickedN {H0 : Heap} (a m : Int) (p : Nat) (hn : 1 ≤ m ∧ m ≤ 9223372036854775807) (hp : pickI a m = (p : Int)) : CallsH Try.prog 5 #[I (a), I (m)] H0 (fun rv_ H' => Ext NoB H0 H' ∧ rv_ = I ((p : Int))) := by
 have htm := tmod_rng (a := a) hn.1
 have hS0 : St H0 NoB NoB [] H0 := St.start (fun _ h => h.elim)
 refine callsH_of_wpF (args := [I (a), I (m)]) (rs := [.tmp 4]) Try.func5 rfl Try.ntmps5 Try.results5 (by kernel_rfl) (Nat.le_of_ble_eq_true rfl) ?_
 have y0 : argF [I (a), I (m)] 0 = I (a) := rfl
 have y1 : argF [I (a), I (m)] 1 = I (m) := rfl
 generalize argF [I (a), I (m)] = f0 at *
 refine wpF_seq ?_
 refine wpF_region ?_
 refine la (v := I (0)) rfl rfl rfl ?_
 refine wpL_nil ?_
 refine wpF_seq ?_
 refine wpF_region ?_
 refine lm (v := I (a)) rfl rfl y0 ?_
 refine lm (v := I (m)) rfl rfl y1 ?_
 refine lq rfl (q_rem rfl rfl rfl (by omega)) ?_
 refine la (v := I (a.tmod m)) rfl rfl rfl ?_
 refine wpL_nil ?_
 refine wpF_seq ?_
 refine wpF_seq ?_
 refine wpF_region ?_
 refine lm (v := I (a.tmod m)) rfl rfl rfl ?_
 refine lq rfl (q_lss rfl rfl rfl) ?_
 refine wpL_nil ?_
 refine wpF_condP rfl (fun h9 => ?t2) (fun h9 => ?e2)
 case e2 =>
  refine wpF_skip ?_
  refine wpF_seq ?_
  refine wpF_region ?_
  refine lm (v := I (a.tmod m)) rfl rfl rfl ?_
  refine la (v := I (a.tmod m)) rfl rfl rfl ?_
  refine wpL_nil ?_
  refine wpF_ret ?_
  refine ⟨_, resT rfl resN, hS0.frame, ?_⟩
  show (I (a.tmod m)) = I ((p : Int))
  rw [← hp]
  exact congrArg I (pickI_pos h9).symm
 refine wpF_seq ?_
 refine wpF_region ?_
 refine lm (v := I (a.tmod m)) rfl rfl rfl ?_
 refine lm (v := I (m)) rfl rfl y1 ?_
 refine lq rfl (q_add rfl rfl rfl (by constructor <;> omega)) ?_
 refine la (v := I ((a.tmod m) + m)) rfl rfl rfl ?_
 refine wpL_nil ?_
 refine wpF_ret ?_
 refine ⟨_, resT rfl resN, hS0.frame, ?_⟩
 show (I ((a.tmod m) + m)) = I ((p : Int))
 rw [← hp]
 exact congrArg I (pickI_neg h9).symm
end Go.Um
