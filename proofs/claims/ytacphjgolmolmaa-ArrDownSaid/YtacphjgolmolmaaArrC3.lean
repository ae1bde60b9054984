import Derived.Test.YtacphjgolmolmaaProg
import Derived.Test.YtacphjgolmolmaaArrC2
import Derived.Test.YtacphjgolmolmaaUmArrDownC
namespace Go.Um
open Go.Proofs
open GoT (sz ag rdc)
open KeyT (kv)
theorem el_Decl_43_ArrC3 : ElT Try.prog Decl 43 := ⟨Try.isAgg43, Try.sizeOf43⟩
set_option maxRecDepth 100000 in
theorem got_L {H0 : Heap} {S : Nat → Prop}  : CallsH Try.prog 22 #[] H0 (fun rv_ H' => Ext NoB H0 H' ∧ ∃ w0_ w1_ w2_, rv_ = Vg #[w0_, w1_, w2_] ∧ Rd (SZ S H0) H' w0_ gotA.Decls ∧ Rd (SZ S H0) H' w1_ gotA.Nodes ∧ Rd (SZ S H0) H' w2_ gotA.Hold) := by
 have hS0 : St H0 NoB (SZ S H0) [] H0 := St.start (fun _ h => h.2)
 refine callsH_of_wpF (args := []) (rs := [.cell 0 26]) Try.func22 rfl Try.ntmps22 Try.results22 (by kernel_rfl) (Nat.le_of_ble_eq_true rfl) ?_
 generalize argF [] = f0 at *
 refine fcr (fun f H => ∃ (g1 : Nat), f 0 = PT g1 0 ∧ St H0 NoB (SZ S H0) [bE g1 #[nS, nS, nS] 26] H) ?_ ?_
 ·refine lo rfl ?_
  refine e_alloc rfl Try.zeroValue26 hS0 (fun g1 H2 hS3 hxx => ?_)
  exact ⟨g1, rfl, hS3⟩
 rintro f4 H4 ⟨g1, y0, hS4⟩
 refine fcr (fun f H => ∃ (v5 : Value), ∃ (v20 : Value), ∃ (v23 : Value), f 0 = PT g1 0 ∧ St H0 NoB (SZ S H0) [bE g1 #[v5, v20, v23] 26, rowE 3 v23 ([4] : List Int), rowE 37 v20 ([(Node.mk 9 ([]) 0 0 (ByteArray.mk #[97])), (Node.mk 9 ([]) 0 0 (ByteArray.mk #[116])), (Node.mk 25 ([0, 1, 1]) 0 0 (ByteArray.mk #[])), (Node.mk 24 ([2, 1]) 0 0 (ByteArray.mk #[])), (Node.mk 8 ([3, 1]) 0 0 (ByteArray.mk #[]))] : List Node), rowE 43 v5 ([(Decl.mk (ByteArray.mk #[97]) ([]) 5), (Decl.mk (ByteArray.mk #[116]) ([]) 4)] : List Decl)] H) ?_ ?_
 ·refine lq rfl (q_build (v := Vg #[SB (ByteArray.mk #[97]), nS, I (5)]) rfl (par2 (v0 := SB (ByteArray.mk #[97])) (v1 := I (5)) rfl rfl) (fun w__ => by kernel_rfl)) ?_
  refine lq rfl (q_build (v := Vg #[SB (ByteArray.mk #[116]), nS, I (4)]) rfl (par2 (v0 := SB (ByteArray.mk #[116])) (v1 := I (4)) rfl rfl) (fun w__ => by kernel_rfl)) ?_
  refine lo rfl ?_
  refine e_buildSlice (vs := [Vg #[SB (ByteArray.mk #[97]), nS, I (5)], Vg #[SB (ByteArray.mk #[116]), nS, I (4)]]) (xs := ([(Decl.mk (ByteArray.mk #[97]) ([]) 5), (Decl.mk (ByteArray.mk #[116]) ([]) 4)] : List Decl)) rfl Try.underlying22 Try.zeroValue43 rfl Try.sizeOf43 (par2 (v0 := Vg #[SB (ByteArray.mk #[97]), nS, I (5)]) (v1 := Vg #[SB (ByteArray.mk #[116]), nS, I (4)]) rfl rfl) rfl hS4 (RdVs.cons (Rd.decl.2 ⟨_, rfl, (by first | assumption | exact Nat.zero_le _ | exact Nat.le_of_ble_eq_true rfl), rdNil, (by first | assumption | (constructor <;> (try dsimp only) <;> omega))⟩) (RdVs.cons (Rd.decl.2 ⟨_, rfl, (by first | assumption | exact Nat.zero_le _ | exact Nat.le_of_ble_eq_true rfl), rdNil, (by first | assumption | (constructor <;> (try dsimp only) <;> omega))⟩) (RdVs.nil))) (by decide) (by decide) (fun v5 H6 hS7 hxx hvv5 => ?_)
  refine lq rfl (q_build (v := Vg #[I (9), nS, I (0), I (0), SB (ByteArray.mk #[97])]) rfl (par2 (v0 := I (9)) (v1 := SB (ByteArray.mk #[97])) rfl rfl) (fun w__ => by kernel_rfl)) ?_
  refine lq rfl (q_build (v := Vg #[I (9), nS, I (0), I (0), SB (ByteArray.mk #[116])]) rfl (par2 (v0 := I (9)) (v1 := SB (ByteArray.mk #[116])) rfl rfl) (fun w__ => by kernel_rfl)) ?_
  refine lo rfl ?_
  refine e_buildSlice (vs := [I (0), I (1), I (1)]) (xs := ([0, 1, 1] : List Int)) rfl Try.underlying24 Try.zeroValue3 rfl Try.sizeOf3 (par3 (v0 := I (0)) (v1 := I (1)) (v2 := I (1)) rfl rfl rfl) rfl hS7 (RdVs.cons (Rd.int.2 ⟨rfl, by first | assumption | (constructor <;> (dsimp only; omega)) | (constructor <;> omega)⟩) (RdVs.cons (Rd.int.2 ⟨rfl, by first | assumption | (constructor <;> (dsimp only; omega)) | (constructor <;> omega)⟩) (RdVs.cons (Rd.int.2 ⟨rfl, by first | assumption | (constructor <;> (dsimp only; omega)) | (constructor <;> omega)⟩) (RdVs.nil)))) (by decide) (by decide) (fun v8 H9 hS10 hxx hvv8 => ?_)
  refine lq rfl (q_build (v := Vg #[I (25), v8, I (0), I (0), SB (ByteArray.mk #[])]) rfl (par2 (v0 := I (25)) (v1 := v8) rfl rfl) ((hS10.rowl 0 rfl).slc (fun zz0 => ∀ w__, (Instr.build 37 #[(0, I (25)), (1, zz0)]).run Try.prog w__ = .ok (Vg #[I (25), zz0, I (0), I (0), SB (ByteArray.mk #[])]) w__) (fun a0 n0 c0 => (fun w__ => by kernel_rfl)))) ?_
  refine lo rfl ?_
  refine e_buildSlice (vs := [I (2), I (1)]) (xs := ([2, 1] : List Int)) rfl Try.underlying24 Try.zeroValue3 rfl Try.sizeOf3 (par2 (v0 := I (2)) (v1 := I (1)) rfl rfl) rfl hS10 (RdVs.cons (Rd.int.2 ⟨rfl, by first | assumption | (constructor <;> (dsimp only; omega)) | (constructor <;> omega)⟩) (RdVs.cons (Rd.int.2 ⟨rfl, by first | assumption | (constructor <;> (dsimp only; omega)) | (constructor <;> omega)⟩) (RdVs.nil))) (by decide) (by decide) (fun v11 H12 hS13 hxx hvv11 => ?_)
  refine lq rfl (q_build (v := Vg #[I (24), v11, I (0), I (0), SB (ByteArray.mk #[])]) rfl (par2 (v0 := I (24)) (v1 := v11) rfl rfl) ((hS13.rowl 0 rfl).slc (fun zz0 => ∀ w__, (Instr.build 37 #[(0, I (24)), (1, zz0)]).run Try.prog w__ = .ok (Vg #[I (24), zz0, I (0), I (0), SB (ByteArray.mk #[])]) w__) (fun a0 n0 c0 => (fun w__ => by kernel_rfl)))) ?_
  refine lo rfl ?_
  refine e_buildSlice (vs := [I (3), I (1)]) (xs := ([3, 1] : List Int)) rfl Try.underlying24 Try.zeroValue3 rfl Try.sizeOf3 (par2 (v0 := I (3)) (v1 := I (1)) rfl rfl) rfl hS13 (RdVs.cons (Rd.int.2 ⟨rfl, by first | assumption | (constructor <;> (dsimp only; omega)) | (constructor <;> omega)⟩) (RdVs.cons (Rd.int.2 ⟨rfl, by first | assumption | (constructor <;> (dsimp only; omega)) | (constructor <;> omega)⟩) (RdVs.nil))) (by decide) (by decide) (fun v14 H15 hS16 hxx hvv14 => ?_)
  refine lq rfl (q_build (v := Vg #[I (8), v14, I (0), I (0), SB (ByteArray.mk #[])]) rfl (par2 (v0 := I (8)) (v1 := v14) rfl rfl) ((hS16.rowl 0 rfl).slc (fun zz0 => ∀ w__, (Instr.build 37 #[(0, I (8)), (1, zz0)]).run Try.prog w__ = .ok (Vg #[I (8), zz0, I (0), I (0), SB (ByteArray.mk #[])]) w__) (fun a0 n0 c0 => (fun w__ => by kernel_rfl)))) ?_
  have hS17 : St H0 NoB (SZ S H0) [rdE v8 ([0, 1, 1] : List Int), rowE 3 v14 ([3, 1] : List Int), rowE 3 v11 ([2, 1] : List Int), rowE 43 v5 ([(Decl.mk (ByteArray.mk #[97]) ([]) 5), (Decl.mk (ByteArray.mk #[116]) ([]) 4)] : List Decl), bE g1 #[nS, nS, nS] 26] H15 := St.fin (hS16.front 2 rfl)
  have hS18 : St H0 NoB (SZ S H0) [rdE v11 ([2, 1] : List Int), rdE v8 ([0, 1, 1] : List Int), rowE 3 v14 ([3, 1] : List Int), rowE 43 v5 ([(Decl.mk (ByteArray.mk #[97]) ([]) 5), (Decl.mk (ByteArray.mk #[116]) ([]) 4)] : List Decl), bE g1 #[nS, nS, nS] 26] H15 := St.fin (hS17.front 2 rfl)
  have hS19 : St H0 NoB (SZ S H0) [rdE v14 ([3, 1] : List Int), rdE v11 ([2, 1] : List Int), rdE v8 ([0, 1, 1] : List Int), rowE 43 v5 ([(Decl.mk (ByteArray.mk #[97]) ([]) 5), (Decl.mk (ByteArray.mk #[116]) ([]) 4)] : List Decl), bE g1 #[nS, nS, nS] 26] H15 := St.fin (hS18.front 2 rfl)
  refine lo rfl ?_
  refine e_buildSlice (vs := [Vg #[I (9), nS, I (0), I (0), SB (ByteArray.mk #[97])], Vg #[I (9), nS, I (0), I (0), SB (ByteArray.mk #[116])], Vg #[I (25), v8, I (0), I (0), SB (ByteArray.mk #[])], Vg #[I (24), v11, I (0), I (0), SB (ByteArray.mk #[])], Vg #[I (8), v14, I (0), I (0), SB (ByteArray.mk #[])]]) (xs := ([(Node.mk 9 ([]) 0 0 (ByteArray.mk #[97])), (Node.mk 9 ([]) 0 0 (ByteArray.mk #[116])), (Node.mk 25 ([0, 1, 1]) 0 0 (ByteArray.mk #[])), (Node.mk 24 ([2, 1]) 0 0 (ByteArray.mk #[])), (Node.mk 8 ([3, 1]) 0 0 (ByteArray.mk #[]))] : List Node)) rfl Try.underlying23 Try.zeroValue37 rfl Try.sizeOf37 (par5 (v0 := Vg #[I (9), nS, I (0), I (0), SB (ByteArray.mk #[97])]) (v1 := Vg #[I (9), nS, I (0), I (0), SB (ByteArray.mk #[116])]) (v2 := Vg #[I (25), v8, I (0), I (0), SB (ByteArray.mk #[])]) (v3 := Vg #[I (24), v11, I (0), I (0), SB (ByteArray.mk #[])]) (v4 := Vg #[I (8), v14, I (0), I (0), SB (ByteArray.mk #[])]) rfl rfl rfl rfl rfl) rfl hS19 (RdVs.cons (Rd.node.2 ⟨_, rfl, (by first | assumption | (constructor <;> (try dsimp only) <;> omega)), rdNil, (by first | assumption | (constructor <;> (try dsimp only) <;> omega)), (by first | assumption | (constructor <;> (try dsimp only) <;> omega)), (by first | assumption | exact Nat.zero_le _ | exact Nat.le_of_ble_eq_true rfl)⟩) (RdVs.cons (Rd.node.2 ⟨_, rfl, (by first | assumption | (constructor <;> (try dsimp only) <;> omega)), rdNil, (by first | assumption | (constructor <;> (try dsimp only) <;> omega)), (by first | assumption | (constructor <;> (try dsimp only) <;> omega)), (by first | assumption | exact Nat.zero_le _ | exact Nat.le_of_ble_eq_true rfl)⟩) (RdVs.cons (Rd.node.2 ⟨_, rfl, (by first | assumption | (constructor <;> (try dsimp only) <;> omega)), (hS19.rdS 2 rfl), (by first | assumption | (constructor <;> (try dsimp only) <;> omega)), (by first | assumption | (constructor <;> (try dsimp only) <;> omega)), (by first | assumption | exact Nat.zero_le _ | exact Nat.le_of_ble_eq_true rfl)⟩) (RdVs.cons (Rd.node.2 ⟨_, rfl, (by first | assumption | (constructor <;> (try dsimp only) <;> omega)), (hS19.rdS 1 rfl), (by first | assumption | (constructor <;> (try dsimp only) <;> omega)), (by first | assumption | (constructor <;> (try dsimp only) <;> omega)), (by first | assumption | exact Nat.zero_le _ | exact Nat.le_of_ble_eq_true rfl)⟩) (RdVs.cons (Rd.node.2 ⟨_, rfl, (by first | assumption | (constructor <;> (try dsimp only) <;> omega)), (hS19.rdS 0 rfl), (by first | assumption | (constructor <;> (try dsimp only) <;> omega)), (by first | assumption | (constructor <;> (try dsimp only) <;> omega)), (by first | assumption | exact Nat.zero_le _ | exact Nat.le_of_ble_eq_true rfl)⟩) (RdVs.nil)))))) (by decide) (by decide) (fun v20 H21 hS22 hxx hvv20 => ?_)
  refine lo rfl ?_
  refine e_buildSlice (vs := [I (4)]) (xs := ([4] : List Int)) rfl Try.underlying24 Try.zeroValue3 rfl Try.sizeOf3 (par1 (v0 := I (4)) rfl) rfl hS22 (RdVs.cons (Rd.int.2 ⟨rfl, by first | assumption | (constructor <;> (dsimp only; omega)) | (constructor <;> omega)⟩) (RdVs.nil)) (by decide) (by decide) (fun v23 H24 hS25 hxx hvv23 => ?_)
  refine lq rfl (q_build (v := Vg #[v5, v20, v23]) rfl (par3 (v0 := v5) (v1 := v20) (v2 := v23) rfl rfl rfl) ((hS25.rowl 5 rfl).slc (fun zz0 => ∀ w__, (Instr.build 26 #[(0, zz0), (1, v20), (2, v23)]).run Try.prog w__ = .ok (Vg #[zz0, v20, v23]) w__) (fun a0 n0 c0 => ((hS25.rowl 1 rfl).slc (fun zz1 => ∀ w__, (Instr.build 26 #[(0, (.slice a0 n0 c0)), (1, zz1), (2, v23)]).run Try.prog w__ = .ok (Vg #[(.slice a0 n0 c0), zz1, v23]) w__) (fun a1 n1 c1 => ((hS25.rowl 0 rfl).slc (fun zz2 => ∀ w__, (Instr.build 26 #[(0, (.slice a0 n0 c0)), (1, (.slice a1 n1 c1)), (2, zz2)]).run Try.prog w__ = .ok (Vg #[(.slice a0 n0 c0), (.slice a1 n1 c1), zz2]) w__) (fun a2 n2 c2 => (fun w__ => by kernel_rfl)))))))) ?_
  refine lo rfl ?_
  refine e_storeBlkA (cs' := #[v5, v20, v23]) rfl y0 rfl Try.sizeOf26 rfl rfl (fa ((oneCell_rdL (hS25.rowl 5 rfl))) (fa ((oneCell_rdL (hS25.rowl 1 rfl))) (fa ((oneCell_rdL (hS25.rowl 0 rfl))) fe))) (hS25.front 6 rfl) (fun H26 hS27 hxx => ?_)
  exact ⟨v5, v20, v23, y0, (hS27.drop (sk (sk (sk (sn (sn (sn (sk (List.Sublist.slnil)))))))))⟩
 clear y0
 rintro f28 H28 ⟨v5, v20, v23, y0, hS28⟩
 refine wpF_ret ?_
 refine ⟨_, resC y0 (loadV_blkA Try.isAgg26 Try.sizeOf26 rfl (hS28.blk 0 rfl)) (resN), hS28.frame, ?_⟩
 show ∃ w0_ w1_ w2_, (Vg #[v5, v20, v23]) = Vg #[w0_, w1_, w2_] ∧ Rd (SZ S H0) H28 w0_ gotA.Decls ∧ Rd (SZ S H0) H28 w1_ gotA.Nodes ∧ Rd (SZ S H0) H28 w2_ gotA.Hold
 have hS29 : St H0 NoB (SZ S H0) [rdE v5 ([(Decl.mk (ByteArray.mk #[97]) ([]) 5), (Decl.mk (ByteArray.mk #[116]) ([]) 4)] : List Decl), bE g1 #[v5, v20, v23] 26, rowE 3 v23 ([4] : List Int), rowE 37 v20 ([(Node.mk 9 ([]) 0 0 (ByteArray.mk #[97])), (Node.mk 9 ([]) 0 0 (ByteArray.mk #[116])), (Node.mk 25 ([0, 1, 1]) 0 0 (ByteArray.mk #[])), (Node.mk 24 ([2, 1]) 0 0 (ByteArray.mk #[])), (Node.mk 8 ([3, 1]) 0 0 (ByteArray.mk #[]))] : List Node)] H28 := St.fin (hS28.front 3 rfl)
 have hS30 : St H0 NoB (SZ S H0) [rdE v20 ([(Node.mk 9 ([]) 0 0 (ByteArray.mk #[97])), (Node.mk 9 ([]) 0 0 (ByteArray.mk #[116])), (Node.mk 25 ([0, 1, 1]) 0 0 (ByteArray.mk #[])), (Node.mk 24 ([2, 1]) 0 0 (ByteArray.mk #[])), (Node.mk 8 ([3, 1]) 0 0 (ByteArray.mk #[]))] : List Node), rdE v5 ([(Decl.mk (ByteArray.mk #[97]) ([]) 5), (Decl.mk (ByteArray.mk #[116]) ([]) 4)] : List Decl), bE g1 #[v5, v20, v23] 26, rowE 3 v23 ([4] : List Int)] H28 := St.fin (hS29.front 3 rfl)
 have hS31 : St H0 NoB (SZ S H0) [rdE v23 ([4] : List Int), rdE v20 ([(Node.mk 9 ([]) 0 0 (ByteArray.mk #[97])), (Node.mk 9 ([]) 0 0 (ByteArray.mk #[116])), (Node.mk 25 ([0, 1, 1]) 0 0 (ByteArray.mk #[])), (Node.mk 24 ([2, 1]) 0 0 (ByteArray.mk #[])), (Node.mk 8 ([3, 1]) 0 0 (ByteArray.mk #[]))] : List Node), rdE v5 ([(Decl.mk (ByteArray.mk #[97]) ([]) 5), (Decl.mk (ByteArray.mk #[116]) ([]) 4)] : List Decl), bE g1 #[v5, v20, v23] 26] H28 := St.fin (hS30.front 3 rfl)
 exact ⟨v5, v20, v23, rfl, (hS31.result (hS31.rdS 2 rfl)), (hS31.result (hS31.rdS 1 rfl)), (hS31.result (hS31.rdS 0 rfl))⟩
set_option maxRecDepth 100000 in
theorem arrFact_L {H0 : Heap}   : CallsH Try.prog 13 #[] H0 (fun rv_ H' => Ext NoB H0 H' ∧ rv_ = B true) := by
 obtain ⟨hf1, hf2, hf3, hf4, hf5⟩ := gotA_fact
 have hS0 : St H0 NoB NoB [] H0 := St.start (fun _ h => h.elim)
 refine callsH_of_wpF (args := []) (rs := [.tmp 0]) Try.func13 rfl Try.ntmps13 Try.results13 (by kernel_rfl) (Nat.le_of_ble_eq_true rfl) ?_
 generalize argF [] = f0 at *
 refine fcr (fun f H => H0 = H) ?_ ?_
 ·refine la (v := B (false)) rfl rfl rfl ?_
  exact rfl
 rintro f1 _ rfl
 refine fcr (fun f H => ∃ (r8 : Value), ∃ (r9 : Value), ∃ (r10 : Value), ∃ (g14 : Nat), ∃ (g17 : Nat), f 1 = PT g14 0 ∧ f 2 = PT g17 0 ∧ St H0 NoB NoB [bE g17 #[I ((doF gotA).1), I ((doF gotA).2)] 28, bE g14 #[r8, r9, r10] 26, rdE r8 ((doA gotA).Decls), rdE r9 ((doA gotA).Nodes), rdE r10 ((doA gotA).Hold)] H) ?_ ?_
 ·refine lo rfl ?_
  refine e_call rfl Try.call22 arr0 (got_L (S := SL NoB [])) ?_
  rintro _ H5 ⟨hxx, r2, r3, r4, rfl, hrr2, hrr3, hrr4⟩
  have hS6 := ((((hS0.ext hxx).rd (hrr4.sub fun b hb => ⟨hb, SL.lt hS0 hb⟩)).rd (hrr3.sub fun b hb => ⟨(SL_rd hb), SL.lt hS0 (SL_rd hb)⟩)).rd (hrr2.sub fun b hb => ⟨(SL_rd (SL_rd hb)), SL.lt hS0 (SL_rd (SL_rd hb))⟩))
  refine lo rfl ?_
  refine e_call rfl Try.call6 (arr1 (v0 := Vg #[r2, r3, r4]) rfl) (Do_L r2 r3 r4 gotA (hS6.rdS 0 rfl) (hS6.rdS 1 rfl) (hS6.rdS 2 rfl)) ?_
  rintro _ H11 ⟨hxx, r8, r9, r10, rfl, hrr8, hrr9, hrr10⟩
  have hS12 := ((((hS6.ext hxx).rd (hrr10.sub fun b hb => ⟨hb, SL.lt hS6 hb⟩)).rd (hrr9.sub fun b hb => ⟨(SL_rd hb), SL.lt hS6 (SL_rd hb)⟩)).rd (hrr8.sub fun b hb => ⟨(SL_rd (SL_rd hb)), SL.lt hS6 (SL_rd (SL_rd hb))⟩))
  refine lm (v := Value.tuple #[Vg #[r8, r9, r10], Vg #[I ((doF gotA).1), I ((doF gotA).2)]]) rfl rfl rfl ?_
  refine lq rfl (q_extract (vs := #[Vg #[r8, r9, r10], Vg #[I ((doF gotA).1), I ((doF gotA).2)]]) (v := Vg #[r8, r9, r10]) rfl rfl rfl) ?_
  refine lq rfl (q_extract (vs := #[Vg #[r8, r9, r10], Vg #[I ((doF gotA).1), I ((doF gotA).2)]]) (v := Vg #[I ((doF gotA).1), I ((doF gotA).2)]) rfl rfl rfl) ?_
  refine lo rfl ?_
  refine e_alloc rfl Try.zeroValue26 hS12 (fun g14 H15 hS16 hxx => ?_)
  refine lo rfl ?_
  refine e_alloc rfl Try.zeroValue28 hS16 (fun g17 H18 hS19 hxx => ?_)
  refine lo rfl ?_
  refine e_storeBlkA (cs' := #[r8, r9, r10]) rfl rfl rfl Try.sizeOf26 rfl rfl (fa ((oneCell_rdL (hS19.rdl 2 rfl))) (fa ((oneCell_rdL (hS19.rdl 3 rfl))) (fa ((oneCell_rdL (hS19.rdl 4 rfl))) fe))) (hS19.front 1 rfl) (fun H20 hS21 hxx => ?_)
  refine lo rfl ?_
  refine e_storeBlkA (cs' := #[I ((doF gotA).1), I ((doF gotA).2)]) rfl rfl rfl Try.sizeOf28 rfl rfl (fa rfl (fa rfl fe)) (hS21.front 1 rfl) (fun H22 hS23 hxx => ?_)
  exact ⟨r8, r9, r10, g14, g17, rfl, rfl, (hS23.drop (sk (sk (sk (sk (sk (sn (sn (sn (List.Sublist.slnil))))))))))⟩
 rintro f24 H24 ⟨r8, r9, r10, g14, g17, y1, y2, hS24⟩
 refine fcr (fun f H => f 0 = B (decide (((((((doF gotA).1) = 0) ∧ ((((doA gotA).Nodes).length : Int) = 5)) ∧ ((((doA gotA).Decls).length : Int) = 2)) ∧ (((nth ((doA gotA).Decls) 0).Srt) = 4)) ∧ (((doA gotA).Hold) = ([4])))) ∧ St H0 NoB NoB [bE g17 #[I ((doF gotA).1), I ((doF gotA).2)] 28, bE g14 #[r8, r9, r10] 26, rdE r8 ((doA gotA).Decls), rdE r9 ((doA gotA).Nodes), rdE r10 ((doA gotA).Hold)] H) ?_ ?_
 ·refine lq rfl (q_fieldAddr rfl Try.underlying28 rfl Try.sizeOf3 y2) ?_
  refine lq rfl (q_loadBlk rfl rfl Try.isAgg3 (hS24.blk 0 rfl) rfl (fun h => h)) ?_
  refine lq rfl (q_eql rfl rfl rfl) ?_
  refine lm (v := B (decide (((doF gotA).1) = 0))) rfl rfl rfl ?_
  by_cases hg25 : ((doF gotA).1) = 0
  ·have hb26 := Eq.trans rfl (congrArg B (decide_eq_true hg25))
   refine gq rfl rfl rfl hb26 (q_fieldAddr rfl Try.underlying26 rfl Try.sizeOf23 y1) ?_
   refine gq rfl rfl rfl hb26 (q_loadBlk rfl rfl Try.isAgg23 (hS24.blk 1 rfl) rfl (fun h => h)) ?_
   refine gq rfl rfl rfl hb26 (q_lenRd rfl Try.underlying23 rfl (hS24.rdl 3 rfl)) ?_
   refine gq rfl rfl rfl hb26 (q_eql rfl rfl rfl) ?_
   refine lq rfl (q_pickT (v := B (decide ((((doA gotA).Nodes).length : Int) = 5))) rfl hb26 rfl) ?_
   refine lm (v := B (decide ((((doA gotA).Nodes).length : Int) = 5))) rfl rfl rfl ?_
   by_cases hg28 : (((doA gotA).Nodes).length : Int) = 5
   ·have hb29 := Eq.trans rfl (congrArg B (decide_eq_true hg28))
    refine gq rfl rfl rfl hb29 (q_fieldAddr rfl Try.underlying26 rfl Try.sizeOf22 y1) ?_
    refine gq rfl rfl rfl hb29 (q_loadBlk rfl rfl Try.isAgg22 (hS24.blk 1 rfl) rfl (fun h => h)) ?_
    refine gq rfl rfl rfl hb29 (q_lenRd rfl Try.underlying22 rfl (hS24.rdl 2 rfl)) ?_
    refine gq rfl rfl rfl hb29 (q_eql rfl rfl rfl) ?_
    refine lq rfl (q_pickT (v := B (decide ((((doA gotA).Decls).length : Int) = 2))) rfl hb29 rfl) ?_
    refine lm (v := B (decide ((((doA gotA).Decls).length : Int) = 2))) rfl rfl rfl ?_
    by_cases hg31 : (((doA gotA).Decls).length : Int) = 2
    ·have hb32 := Eq.trans rfl (congrArg B (decide_eq_true hg31))
     refine gq rfl rfl rfl hb32 (q_fieldAddr rfl Try.underlying26 rfl Try.sizeOf22 y1) ?_
     refine gq rfl rfl rfl hb32 (q_loadBlk rfl rfl Try.isAgg22 (hS24.blk 1 rfl) rfl (fun h => h)) ?_
     refine gq rfl rfl rfl hb32 (q_indexRd (k := 0) rfl Try.underlying22 el_Decl_43_ArrC3 rfl rfl (hS24.rdl 2 rfl) (by omega) (by omega)) ?_
     refine gq rfl rfl rfl hb32 (q_fieldE (k := 0) rfl Try.underlying43 rfl Try.sizeOf3 rfl rfl (hS24.rdl 2 rfl) (by omega)) ?_
     obtain ⟨_, hcu34, hFu34⟩ := (Rd.list.1 (hS24.rdS 2 rfl)).cellF 0 (by omega)
     obtain ⟨u34n1, rfl, hu340, hu341, hu342⟩ := hcu34
     refine gq rfl rfl rfl hb32 (q_loadF rfl rfl (hFu34 2 _ Try.prog 3 _ rfl Try.isAgg3 (fun _ h => False.elim h))) ?_
     refine gq rfl rfl rfl hb32 (q_eql rfl rfl rfl) ?_
     refine lq rfl (q_pickT (v := B (decide (((nth ((doA gotA).Decls) 0).Srt) = 4))) rfl hb32 rfl) ?_
     refine lm (v := B (decide (((nth ((doA gotA).Decls) 0).Srt) = 4))) rfl rfl rfl ?_
     by_cases hg35 : ((nth ((doA gotA).Decls) 0).Srt) = 4
     ·have hb36 := Eq.trans rfl (congrArg B (decide_eq_true hg35))
      refine gq rfl rfl rfl hb36 (q_fieldAddr rfl Try.underlying26 rfl Try.sizeOf24 y1) ?_
      refine gq rfl rfl rfl hb36 (q_loadBlk rfl rfl Try.isAgg24 (hS24.blk 1 rfl) rfl (fun h => h)) ?_
      refine wpL_go rfl rfl rfl hb36 ?_
      refine e_buildSlice (vs := [I (4)]) (xs := ([4] : List Int)) rfl Try.underlying24 Try.zeroValue3 rfl Try.sizeOf3 (par1 (v0 := I (4)) rfl) rfl hS24 (RdVs.cons (Rd.int.2 ⟨rfl, by constructor <;> omega⟩) (RdVs.nil)) (by decide) (by decide) (fun v38 H39 hS40 hxx hvv38 => ?_)
      refine wpL_go rfl rfl rfl hb36 ?_
      refine e_call rfl Try.call12 (arr2 (v0 := r10) (v1 := v38) rfl rfl) (Ints_R r10 v38 _ _ (hS40.rdN 5 rfl) (hS40.rowN 0 rfl)) ?_
      rintro _ H41 ⟨hxx, rfl⟩
      have hS42 := hS40.ext hxx
      refine lq rfl (q_pickT (v := B (decide (((doA gotA).Hold) = ([4])))) rfl hb36 rfl) ?_
      refine la (v := B (decide (((doA gotA).Hold) = ([4])))) rfl rfl rfl ?_
      exact ⟨(Eq.trans rfl (congrArg B (decide_congr_of ((Iff.rfl).trans (((and_iff_right ⟨⟨⟨hg25, hg28⟩, hg31⟩, hg35⟩).trans Iff.rfl)).symm)))), (hS42.drop (sn (sk (sk (sk (sk (sk (List.Sublist.slnil))))))))⟩
     ·have hb37 := Eq.trans rfl (congrArg B (decide_eq_false hg35))
      refine wpL_gs rfl rfl rfl hb37 rfl ?_
      refine wpL_gs rfl rfl rfl hb37 rfl ?_
      refine wpL_gs rfl rfl rfl hb37 rfl ?_
      refine wpL_gs rfl rfl rfl hb37 rfl ?_
      refine lq rfl (q_pickF (v := B (false)) rfl hb37 rfl) ?_
      refine la (v := B (false)) rfl rfl rfl ?_
      exact ⟨(Eq.trans rfl (congrArg B ((decide_eq_false (fun h => (fun h => hg35 h.2) h.1)).symm))), hS24⟩
    ·have hb33 := Eq.trans rfl (congrArg B (decide_eq_false hg31))
     refine wpL_gs rfl rfl rfl hb33 rfl ?_
     refine wpL_gs rfl rfl rfl hb33 rfl ?_
     refine wpL_gs rfl rfl rfl hb33 rfl ?_
     refine wpL_gs rfl rfl rfl hb33 rfl ?_
     refine wpL_gs rfl rfl rfl hb33 rfl ?_
     refine wpL_gs rfl rfl rfl hb33 rfl ?_
     refine lq rfl (q_pickF (v := B (false)) rfl hb33 rfl) ?_
     refine lm (v := B (false)) rfl rfl rfl ?_
     refine wpL_gs rfl rfl rfl rfl rfl ?_
     refine wpL_gs rfl rfl rfl rfl rfl ?_
     refine wpL_gs rfl rfl rfl rfl rfl ?_
     refine wpL_gs rfl rfl rfl rfl rfl ?_
     refine lq rfl (q_pickF (v := B (false)) rfl rfl rfl) ?_
     refine la (v := B (false)) rfl rfl rfl ?_
     exact ⟨(Eq.trans rfl (congrArg B ((decide_eq_false (fun h => (fun h => (fun h => hg31 h.2) h.1) h.1)).symm))), hS24⟩
   ·have hb30 := Eq.trans rfl (congrArg B (decide_eq_false hg28))
    refine wpL_gs rfl rfl rfl hb30 rfl ?_
    refine wpL_gs rfl rfl rfl hb30 rfl ?_
    refine wpL_gs rfl rfl rfl hb30 rfl ?_
    refine wpL_gs rfl rfl rfl hb30 rfl ?_
    refine lq rfl (q_pickF (v := B (false)) rfl hb30 rfl) ?_
    refine lm (v := B (false)) rfl rfl rfl ?_
    refine wpL_gs rfl rfl rfl rfl rfl ?_
    refine wpL_gs rfl rfl rfl rfl rfl ?_
    refine wpL_gs rfl rfl rfl rfl rfl ?_
    refine wpL_gs rfl rfl rfl rfl rfl ?_
    refine wpL_gs rfl rfl rfl rfl rfl ?_
    refine wpL_gs rfl rfl rfl rfl rfl ?_
    refine lq rfl (q_pickF (v := B (false)) rfl rfl rfl) ?_
    refine lm (v := B (false)) rfl rfl rfl ?_
    refine wpL_gs rfl rfl rfl rfl rfl ?_
    refine wpL_gs rfl rfl rfl rfl rfl ?_
    refine wpL_gs rfl rfl rfl rfl rfl ?_
    refine wpL_gs rfl rfl rfl rfl rfl ?_
    refine lq rfl (q_pickF (v := B (false)) rfl rfl rfl) ?_
    refine la (v := B (false)) rfl rfl rfl ?_
    exact ⟨(Eq.trans rfl (congrArg B ((decide_eq_false (fun h => (fun h => (fun h => (fun h => hg28 h.2) h.1) h.1) h.1)).symm))), hS24⟩
  ·have hb27 := Eq.trans rfl (congrArg B (decide_eq_false hg25))
   refine wpL_gs rfl rfl rfl hb27 rfl ?_
   refine wpL_gs rfl rfl rfl hb27 rfl ?_
   refine wpL_gs rfl rfl rfl hb27 rfl ?_
   refine wpL_gs rfl rfl rfl hb27 rfl ?_
   refine lq rfl (q_pickF (v := B (false)) rfl hb27 rfl) ?_
   refine lm (v := B (false)) rfl rfl rfl ?_
   refine wpL_gs rfl rfl rfl rfl rfl ?_
   refine wpL_gs rfl rfl rfl rfl rfl ?_
   refine wpL_gs rfl rfl rfl rfl rfl ?_
   refine wpL_gs rfl rfl rfl rfl rfl ?_
   refine lq rfl (q_pickF (v := B (false)) rfl rfl rfl) ?_
   refine lm (v := B (false)) rfl rfl rfl ?_
   refine wpL_gs rfl rfl rfl rfl rfl ?_
   refine wpL_gs rfl rfl rfl rfl rfl ?_
   refine wpL_gs rfl rfl rfl rfl rfl ?_
   refine wpL_gs rfl rfl rfl rfl rfl ?_
   refine wpL_gs rfl rfl rfl rfl rfl ?_
   refine wpL_gs rfl rfl rfl rfl rfl ?_
   refine lq rfl (q_pickF (v := B (false)) rfl rfl rfl) ?_
   refine lm (v := B (false)) rfl rfl rfl ?_
   refine wpL_gs rfl rfl rfl rfl rfl ?_
   refine wpL_gs rfl rfl rfl rfl rfl ?_
   refine wpL_gs rfl rfl rfl rfl rfl ?_
   refine wpL_gs rfl rfl rfl rfl rfl ?_
   refine lq rfl (q_pickF (v := B (false)) rfl rfl rfl) ?_
   refine la (v := B (false)) rfl rfl rfl ?_
   exact ⟨(Eq.trans rfl (congrArg B ((decide_eq_false (fun h => (fun h => (fun h => (fun h => hg25 h.1) h.1) h.1) h.1)).symm))), hS24⟩
 clear y1 y2
 rintro f44 H44 ⟨y0, hS44⟩
 refine wpF_ret ?_
 refine ⟨_, resT y0 resN, hS44.frame, ?_⟩
 show (B (decide (((((((doF gotA).1) = 0) ∧ ((((doA gotA).Nodes).length : Int) = 5)) ∧ ((((doA gotA).Decls).length : Int) = 2)) ∧ (((nth ((doA gotA).Decls) 0).Srt) = 4)) ∧ (((doA gotA).Hold) = ([4]))))) = B true
 exact congrArg B (decide_eq_true ⟨⟨⟨⟨hf1, by omega⟩, by omega⟩, hf4⟩, hf5⟩)
end Go.Um
