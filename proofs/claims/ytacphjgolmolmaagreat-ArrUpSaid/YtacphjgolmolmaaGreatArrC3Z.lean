import Derived.Test.YtacphjgolmolmaaGreatProg
import Derived.Test.YtacphjgolmolmaaGreatArrC2Z
import Derived.Test.YtacphjgolmolmaaGreatUmArrUpC
namespace Go.Um
open Go.Proofs
open GoT (sz ag rdc)
open KeyT (kv)
theorem el_Decl_43_ArrC3 : ElT Tryz.prog Decl 43 := ⟨Tryz.isAgg43, Tryz.sizeOf43⟩
set_option maxRecDepth 100000 in
theorem got_L {H0 : Heap} {S : Nat → Prop}  : CallsH Tryz.prog 10 #[] H0 (fun rv_ H' => Ext NoB H0 H' ∧ ∃ w0_ w1_ w2_, rv_ = Vg #[w0_, w1_, w2_] ∧ Rd (SZ S H0) H' w0_ gotA.Decls ∧ Rd (SZ S H0) H' w1_ gotA.Nodes ∧ Rd (SZ S H0) H' w2_ gotA.Hold) := by
 have hS0 : St H0 NoB (SZ S H0) [] H0 := St.start (fun _ h => h.2)
 refine callsH_of_wpF (args := []) (rs := [.cell 0 26]) Tryz.func10 rfl Tryz.ntmps10 Tryz.results10 (by kernel_rfl) (Nat.le_of_ble_eq_true rfl) ?_
 generalize argF [] = f0 at *
 refine wpF_seq ?_
 refine wpF_region ?_
 refine lo rfl ?_
 refine e_alloc rfl Tryz.zeroValue26 hS0 (fun g1 H2 hS3 hxx => ?_)
 refine wpL_nil ?_
 refine wpF_seq ?_
 refine wpF_region ?_
 refine lq rfl (q_build (v := Vg #[SB (ByteArray.mk #[97]), nS, I (5)]) rfl (par2 (v0 := SB (ByteArray.mk #[97])) (v1 := I (5)) rfl rfl) (fun w__ => by kernel_rfl)) ?_
 refine lq rfl (q_build (v := Vg #[SB (ByteArray.mk #[116]), nS, I (4)]) rfl (par2 (v0 := SB (ByteArray.mk #[116])) (v1 := I (4)) rfl rfl) (fun w__ => by kernel_rfl)) ?_
 refine lo rfl ?_
 refine e_buildSlice (vs := [Vg #[SB (ByteArray.mk #[97]), nS, I (5)], Vg #[SB (ByteArray.mk #[116]), nS, I (4)]]) (xs := ([(Decl.mk (ByteArray.mk #[97]) ([]) 5), (Decl.mk (ByteArray.mk #[116]) ([]) 4)] : List Decl)) rfl Tryz.underlying22 Tryz.zeroValue43 rfl Tryz.sizeOf43 (par2 (v0 := Vg #[SB (ByteArray.mk #[97]), nS, I (5)]) (v1 := Vg #[SB (ByteArray.mk #[116]), nS, I (4)]) rfl rfl) rfl hS3 (RdVs.cons (Rd.decl.2 ⟨_, rfl, (by first | assumption | exact Nat.zero_le _ | exact Nat.le_of_ble_eq_true rfl), rdNil, (by first | assumption | (constructor <;> (try dsimp only) <;> omega))⟩) (RdVs.cons (Rd.decl.2 ⟨_, rfl, (by first | assumption | exact Nat.zero_le _ | exact Nat.le_of_ble_eq_true rfl), rdNil, (by first | assumption | (constructor <;> (try dsimp only) <;> omega))⟩) (RdVs.nil))) (by decide) (by decide) (fun v4 H5 hS6 hxx hvv4 => ?_)
 refine lq rfl (q_build (v := Vg #[I (9), nS, I (0), I (0), SB (ByteArray.mk #[97])]) rfl (par2 (v0 := I (9)) (v1 := SB (ByteArray.mk #[97])) rfl rfl) (fun w__ => by kernel_rfl)) ?_
 refine lq rfl (q_build (v := Vg #[I (9), nS, I (0), I (0), SB (ByteArray.mk #[116])]) rfl (par2 (v0 := I (9)) (v1 := SB (ByteArray.mk #[116])) rfl rfl) (fun w__ => by kernel_rfl)) ?_
 refine lo rfl ?_
 refine e_buildSlice (vs := [I (0), I (1), I (1)]) (xs := ([0, 1, 1] : List Int)) rfl Tryz.underlying24 Tryz.zeroValue3 rfl Tryz.sizeOf3 (par3 (v0 := I (0)) (v1 := I (1)) (v2 := I (1)) rfl rfl rfl) rfl hS6 (RdVs.cons (Rd.int.2 ⟨rfl, by first | assumption | (constructor <;> (dsimp only; omega)) | (constructor <;> omega)⟩) (RdVs.cons (Rd.int.2 ⟨rfl, by first | assumption | (constructor <;> (dsimp only; omega)) | (constructor <;> omega)⟩) (RdVs.cons (Rd.int.2 ⟨rfl, by first | assumption | (constructor <;> (dsimp only; omega)) | (constructor <;> omega)⟩) (RdVs.nil)))) (by decide) (by decide) (fun v7 H8 hS9 hxx hvv7 => ?_)
 refine lq rfl (q_build (v := Vg #[I (25), v7, I (0), I (0), SB (ByteArray.mk #[])]) rfl (par2 (v0 := I (25)) (v1 := v7) rfl rfl) ((hS9.rowl 0 rfl).slc (fun zz0 => ∀ w__, (Instr.build 52 #[(0, I (25)), (1, zz0)]).run Tryz.prog w__ = .ok (Vg #[I (25), zz0, I (0), I (0), SB (ByteArray.mk #[])]) w__) (fun a0 n0 c0 => (fun w__ => by kernel_rfl)))) ?_
 refine lo rfl ?_
 refine e_buildSlice (vs := [I (2), I (1)]) (xs := ([2, 1] : List Int)) rfl Tryz.underlying24 Tryz.zeroValue3 rfl Tryz.sizeOf3 (par2 (v0 := I (2)) (v1 := I (1)) rfl rfl) rfl hS9 (RdVs.cons (Rd.int.2 ⟨rfl, by first | assumption | (constructor <;> (dsimp only; omega)) | (constructor <;> omega)⟩) (RdVs.cons (Rd.int.2 ⟨rfl, by first | assumption | (constructor <;> (dsimp only; omega)) | (constructor <;> omega)⟩) (RdVs.nil))) (by decide) (by decide) (fun v10 H11 hS12 hxx hvv10 => ?_)
 refine lq rfl (q_build (v := Vg #[I (24), v10, I (0), I (0), SB (ByteArray.mk #[])]) rfl (par2 (v0 := I (24)) (v1 := v10) rfl rfl) ((hS12.rowl 0 rfl).slc (fun zz0 => ∀ w__, (Instr.build 52 #[(0, I (24)), (1, zz0)]).run Tryz.prog w__ = .ok (Vg #[I (24), zz0, I (0), I (0), SB (ByteArray.mk #[])]) w__) (fun a0 n0 c0 => (fun w__ => by kernel_rfl)))) ?_
 refine lo rfl ?_
 refine e_buildSlice (vs := [I (3), I (1)]) (xs := ([3, 1] : List Int)) rfl Tryz.underlying24 Tryz.zeroValue3 rfl Tryz.sizeOf3 (par2 (v0 := I (3)) (v1 := I (1)) rfl rfl) rfl hS12 (RdVs.cons (Rd.int.2 ⟨rfl, by first | assumption | (constructor <;> (dsimp only; omega)) | (constructor <;> omega)⟩) (RdVs.cons (Rd.int.2 ⟨rfl, by first | assumption | (constructor <;> (dsimp only; omega)) | (constructor <;> omega)⟩) (RdVs.nil))) (by decide) (by decide) (fun v13 H14 hS15 hxx hvv13 => ?_)
 refine lq rfl (q_build (v := Vg #[I (8), v13, I (0), I (0), SB (ByteArray.mk #[])]) rfl (par2 (v0 := I (8)) (v1 := v13) rfl rfl) ((hS15.rowl 0 rfl).slc (fun zz0 => ∀ w__, (Instr.build 52 #[(0, I (8)), (1, zz0)]).run Tryz.prog w__ = .ok (Vg #[I (8), zz0, I (0), I (0), SB (ByteArray.mk #[])]) w__) (fun a0 n0 c0 => (fun w__ => by kernel_rfl)))) ?_
 have hS16 : St H0 NoB (SZ S H0) [rdE v7 ([0, 1, 1] : List Int), rowE 3 v13 ([3, 1] : List Int), rowE 3 v10 ([2, 1] : List Int), rowE 43 v4 ([(Decl.mk (ByteArray.mk #[97]) ([]) 5), (Decl.mk (ByteArray.mk #[116]) ([]) 4)] : List Decl), bE g1 #[nS, nS, nS] 26] H14 := St.fin (hS15.front 2 rfl)
 have hS17 : St H0 NoB (SZ S H0) [rdE v10 ([2, 1] : List Int), rdE v7 ([0, 1, 1] : List Int), rowE 3 v13 ([3, 1] : List Int), rowE 43 v4 ([(Decl.mk (ByteArray.mk #[97]) ([]) 5), (Decl.mk (ByteArray.mk #[116]) ([]) 4)] : List Decl), bE g1 #[nS, nS, nS] 26] H14 := St.fin (hS16.front 2 rfl)
 have hS18 : St H0 NoB (SZ S H0) [rdE v13 ([3, 1] : List Int), rdE v10 ([2, 1] : List Int), rdE v7 ([0, 1, 1] : List Int), rowE 43 v4 ([(Decl.mk (ByteArray.mk #[97]) ([]) 5), (Decl.mk (ByteArray.mk #[116]) ([]) 4)] : List Decl), bE g1 #[nS, nS, nS] 26] H14 := St.fin (hS17.front 2 rfl)
 refine lo rfl ?_
 refine e_buildSlice (vs := [Vg #[I (9), nS, I (0), I (0), SB (ByteArray.mk #[97])], Vg #[I (9), nS, I (0), I (0), SB (ByteArray.mk #[116])], Vg #[I (25), v7, I (0), I (0), SB (ByteArray.mk #[])], Vg #[I (24), v10, I (0), I (0), SB (ByteArray.mk #[])], Vg #[I (8), v13, I (0), I (0), SB (ByteArray.mk #[])]]) (xs := ([(Node.mk 9 ([]) 0 0 (ByteArray.mk #[97])), (Node.mk 9 ([]) 0 0 (ByteArray.mk #[116])), (Node.mk 25 ([0, 1, 1]) 0 0 (ByteArray.mk #[])), (Node.mk 24 ([2, 1]) 0 0 (ByteArray.mk #[])), (Node.mk 8 ([3, 1]) 0 0 (ByteArray.mk #[]))] : List Node)) rfl Tryz.underlying23 Tryz.zeroValue52 rfl Tryz.sizeOf52 (par5 (v0 := Vg #[I (9), nS, I (0), I (0), SB (ByteArray.mk #[97])]) (v1 := Vg #[I (9), nS, I (0), I (0), SB (ByteArray.mk #[116])]) (v2 := Vg #[I (25), v7, I (0), I (0), SB (ByteArray.mk #[])]) (v3 := Vg #[I (24), v10, I (0), I (0), SB (ByteArray.mk #[])]) (v4 := Vg #[I (8), v13, I (0), I (0), SB (ByteArray.mk #[])]) rfl rfl rfl rfl rfl) rfl hS18 (RdVs.cons (Rd.node.2 ⟨_, rfl, (by first | assumption | (constructor <;> (try dsimp only) <;> omega)), rdNil, (by first | assumption | (constructor <;> (try dsimp only) <;> omega)), (by first | assumption | (constructor <;> (try dsimp only) <;> omega)), (by first | assumption | exact Nat.zero_le _ | exact Nat.le_of_ble_eq_true rfl)⟩) (RdVs.cons (Rd.node.2 ⟨_, rfl, (by first | assumption | (constructor <;> (try dsimp only) <;> omega)), rdNil, (by first | assumption | (constructor <;> (try dsimp only) <;> omega)), (by first | assumption | (constructor <;> (try dsimp only) <;> omega)), (by first | assumption | exact Nat.zero_le _ | exact Nat.le_of_ble_eq_true rfl)⟩) (RdVs.cons (Rd.node.2 ⟨_, rfl, (by first | assumption | (constructor <;> (try dsimp only) <;> omega)), (hS18.rdS 2 rfl), (by first | assumption | (constructor <;> (try dsimp only) <;> omega)), (by first | assumption | (constructor <;> (try dsimp only) <;> omega)), (by first | assumption | exact Nat.zero_le _ | exact Nat.le_of_ble_eq_true rfl)⟩) (RdVs.cons (Rd.node.2 ⟨_, rfl, (by first | assumption | (constructor <;> (try dsimp only) <;> omega)), (hS18.rdS 1 rfl), (by first | assumption | (constructor <;> (try dsimp only) <;> omega)), (by first | assumption | (constructor <;> (try dsimp only) <;> omega)), (by first | assumption | exact Nat.zero_le _ | exact Nat.le_of_ble_eq_true rfl)⟩) (RdVs.cons (Rd.node.2 ⟨_, rfl, (by first | assumption | (constructor <;> (try dsimp only) <;> omega)), (hS18.rdS 0 rfl), (by first | assumption | (constructor <;> (try dsimp only) <;> omega)), (by first | assumption | (constructor <;> (try dsimp only) <;> omega)), (by first | assumption | exact Nat.zero_le _ | exact Nat.le_of_ble_eq_true rfl)⟩) (RdVs.nil)))))) (by decide) (by decide) (fun v19 H20 hS21 hxx hvv19 => ?_)
 refine lo rfl ?_
 refine e_buildSlice (vs := [I (4)]) (xs := ([4] : List Int)) rfl Tryz.underlying24 Tryz.zeroValue3 rfl Tryz.sizeOf3 (par1 (v0 := I (4)) rfl) rfl hS21 (RdVs.cons (Rd.int.2 ⟨rfl, by first | assumption | (constructor <;> (dsimp only; omega)) | (constructor <;> omega)⟩) (RdVs.nil)) (by decide) (by decide) (fun v22 H23 hS24 hxx hvv22 => ?_)
 refine lq rfl (q_build (v := Vg #[v4, v19, v22]) rfl (par3 (v0 := v4) (v1 := v19) (v2 := v22) rfl rfl rfl) ((hS24.rowl 5 rfl).slc (fun zz0 => ∀ w__, (Instr.build 26 #[(0, zz0), (1, v19), (2, v22)]).run Tryz.prog w__ = .ok (Vg #[zz0, v19, v22]) w__) (fun a0 n0 c0 => ((hS24.rowl 1 rfl).slc (fun zz1 => ∀ w__, (Instr.build 26 #[(0, (.slice a0 n0 c0)), (1, zz1), (2, v22)]).run Tryz.prog w__ = .ok (Vg #[(.slice a0 n0 c0), zz1, v22]) w__) (fun a1 n1 c1 => ((hS24.rowl 0 rfl).slc (fun zz2 => ∀ w__, (Instr.build 26 #[(0, (.slice a0 n0 c0)), (1, (.slice a1 n1 c1)), (2, zz2)]).run Tryz.prog w__ = .ok (Vg #[(.slice a0 n0 c0), (.slice a1 n1 c1), zz2]) w__) (fun a2 n2 c2 => (fun w__ => by kernel_rfl)))))))) ?_
 refine lo rfl ?_
 refine e_storeBlkA (cs' := #[v4, v19, v22]) rfl rfl rfl Tryz.sizeOf26 rfl rfl (fa ((oneCell_rdL (hS24.rowl 5 rfl))) (fa ((oneCell_rdL (hS24.rowl 1 rfl))) (fa ((oneCell_rdL (hS24.rowl 0 rfl))) fe))) (hS24.front 6 rfl) (fun H25 hS26 hxx => ?_)
 refine wpL_nil ?_
 refine wpF_ret ?_
 refine ⟨_, resC rfl (loadV_blkA Tryz.isAgg26 Tryz.sizeOf26 rfl (hS26.blk 0 rfl)) (resN), hS26.frame, ?_⟩
 show ∃ w0_ w1_ w2_, (Vg #[v4, v19, v22]) = Vg #[w0_, w1_, w2_] ∧ Rd (SZ S H0) H25 w0_ gotA.Decls ∧ Rd (SZ S H0) H25 w1_ gotA.Nodes ∧ Rd (SZ S H0) H25 w2_ gotA.Hold
 have hS27 : St H0 NoB (SZ S H0) [rdE v4 ([(Decl.mk (ByteArray.mk #[97]) ([]) 5), (Decl.mk (ByteArray.mk #[116]) ([]) 4)] : List Decl), bE g1 #[v4, v19, v22] 26, rowE 3 v22 ([4] : List Int), rowE 52 v19 ([(Node.mk 9 ([]) 0 0 (ByteArray.mk #[97])), (Node.mk 9 ([]) 0 0 (ByteArray.mk #[116])), (Node.mk 25 ([0, 1, 1]) 0 0 (ByteArray.mk #[])), (Node.mk 24 ([2, 1]) 0 0 (ByteArray.mk #[])), (Node.mk 8 ([3, 1]) 0 0 (ByteArray.mk #[]))] : List Node), rdE v13 ([3, 1] : List Int), rdE v10 ([2, 1] : List Int), rdE v7 ([0, 1, 1] : List Int)] H25 := St.fin (hS26.front 6 rfl)
 have hS28 : St H0 NoB (SZ S H0) [rdE v19 ([(Node.mk 9 ([]) 0 0 (ByteArray.mk #[97])), (Node.mk 9 ([]) 0 0 (ByteArray.mk #[116])), (Node.mk 25 ([0, 1, 1]) 0 0 (ByteArray.mk #[])), (Node.mk 24 ([2, 1]) 0 0 (ByteArray.mk #[])), (Node.mk 8 ([3, 1]) 0 0 (ByteArray.mk #[]))] : List Node), rdE v4 ([(Decl.mk (ByteArray.mk #[97]) ([]) 5), (Decl.mk (ByteArray.mk #[116]) ([]) 4)] : List Decl), bE g1 #[v4, v19, v22] 26, rowE 3 v22 ([4] : List Int), rdE v13 ([3, 1] : List Int), rdE v10 ([2, 1] : List Int), rdE v7 ([0, 1, 1] : List Int)] H25 := St.fin (hS27.front 3 rfl)
 have hS29 : St H0 NoB (SZ S H0) [rdE v22 ([4] : List Int), rdE v19 ([(Node.mk 9 ([]) 0 0 (ByteArray.mk #[97])), (Node.mk 9 ([]) 0 0 (ByteArray.mk #[116])), (Node.mk 25 ([0, 1, 1]) 0 0 (ByteArray.mk #[])), (Node.mk 24 ([2, 1]) 0 0 (ByteArray.mk #[])), (Node.mk 8 ([3, 1]) 0 0 (ByteArray.mk #[]))] : List Node), rdE v4 ([(Decl.mk (ByteArray.mk #[97]) ([]) 5), (Decl.mk (ByteArray.mk #[116]) ([]) 4)] : List Decl), bE g1 #[v4, v19, v22] 26, rdE v13 ([3, 1] : List Int), rdE v10 ([2, 1] : List Int), rdE v7 ([0, 1, 1] : List Int)] H25 := St.fin (hS28.front 3 rfl)
 exact ⟨v4, v19, v22, rfl, (hS29.result (hS29.rdS 2 rfl)), (hS29.result (hS29.rdS 1 rfl)), (hS29.result (hS29.rdS 0 rfl))⟩
set_option maxRecDepth 100000 in
theorem arrFact_L {H0 : Heap}   : CallsH Tryz.prog 4 #[] H0 (fun rv_ H' => Ext NoB H0 H' ∧ rv_ = B true) := by
 obtain ⟨hf1, hf2, hf3, hf4, hf5⟩ := gotA_fact
 have hS0 : St H0 NoB NoB [] H0 := St.start (fun _ h => h.elim)
 refine callsH_of_wpF (args := []) (rs := [.tmp 0]) Tryz.func4 rfl Tryz.ntmps4 Tryz.results4 (by kernel_rfl) (Nat.le_of_ble_eq_true rfl) ?_
 generalize argF [] = f0 at *
 refine wpF_seq ?_
 refine wpF_region ?_
 refine la (v := B (false)) rfl rfl rfl ?_
 refine wpL_nil ?_
 refine wpF_seq ?_
 refine wpF_region ?_
 refine lo rfl ?_
 refine e_call rfl Tryz.call10 arr0 (got_L (S := SL NoB [])) ?_
 rintro _ H4 ⟨hxx, r1, r2, r3, rfl, hrr1, hrr2, hrr3⟩
 have hS5 := ((((hS0.ext hxx).rd (hrr3.sub fun b hb => ⟨hb, SL.lt hS0 hb⟩)).rd (hrr2.sub fun b hb => ⟨(SL_rd hb), SL.lt hS0 (SL_rd hb)⟩)).rd (hrr1.sub fun b hb => ⟨(SL_rd (SL_rd hb)), SL.lt hS0 (SL_rd (SL_rd hb))⟩))
 refine lo rfl ?_
 refine e_call rfl Tryz.call5 (arr1 (v0 := Vg #[r1, r2, r3]) rfl) (Do_L r1 r2 r3 gotA (hS5.rdS 0 rfl) (hS5.rdS 1 rfl) (hS5.rdS 2 rfl)) ?_
 rintro _ H10 ⟨hxx, r7, r8, r9, rfl, hrr7, hrr8, hrr9⟩
 have hS11 := ((((hS5.ext hxx).rd (hrr9.sub fun b hb => ⟨hb, SL.lt hS5 hb⟩)).rd (hrr8.sub fun b hb => ⟨(SL_rd hb), SL.lt hS5 (SL_rd hb)⟩)).rd (hrr7.sub fun b hb => ⟨(SL_rd (SL_rd hb)), SL.lt hS5 (SL_rd (SL_rd hb))⟩))
 refine lm (v := Value.tuple #[Vg #[r7, r8, r9], Vg #[I ((doF gotA).1), I ((doF gotA).2)]]) rfl rfl rfl ?_
 refine lq rfl (q_extract (vs := #[Vg #[r7, r8, r9], Vg #[I ((doF gotA).1), I ((doF gotA).2)]]) (v := Vg #[r7, r8, r9]) rfl rfl rfl) ?_
 refine lq rfl (q_extract (vs := #[Vg #[r7, r8, r9], Vg #[I ((doF gotA).1), I ((doF gotA).2)]]) (v := Vg #[I ((doF gotA).1), I ((doF gotA).2)]) rfl rfl rfl) ?_
 refine lo rfl ?_
 refine e_alloc rfl Tryz.zeroValue26 hS11 (fun g13 H14 hS15 hxx => ?_)
 refine lo rfl ?_
 refine e_alloc rfl Tryz.zeroValue32 hS15 (fun g16 H17 hS18 hxx => ?_)
 refine lo rfl ?_
 refine e_storeBlkA (cs' := #[r7, r8, r9]) rfl rfl rfl Tryz.sizeOf26 rfl rfl (fa ((oneCell_rdL (hS18.rdl 2 rfl))) (fa ((oneCell_rdL (hS18.rdl 3 rfl))) (fa ((oneCell_rdL (hS18.rdl 4 rfl))) fe))) (hS18.front 1 rfl) (fun H19 hS20 hxx => ?_)
 refine lo rfl ?_
 refine e_storeBlkA (cs' := #[I ((doF gotA).1), I ((doF gotA).2)]) rfl rfl rfl Tryz.sizeOf32 rfl rfl (fa rfl (fa rfl fe)) (hS20.front 1 rfl) (fun H21 hS22 hxx => ?_)
 refine wpL_nil ?_
 refine fcr (fun f H => f 0 = B (decide (((((((doF gotA).1) = 0) ∧ ((((doA gotA).Nodes).length : Int) = 5)) ∧ ((((doA gotA).Decls).length : Int) = 2)) ∧ (((nth ((doA gotA).Decls) 0).Srt) = 4)) ∧ (((doA gotA).Hold) = ([4])))) ∧ St H0 NoB NoB [bE g16 #[I ((doF gotA).1), I ((doF gotA).2)] 32, bE g13 #[r7, r8, r9] 26, rdE r7 ((doA gotA).Decls), rdE r8 ((doA gotA).Nodes), rdE r9 ((doA gotA).Hold)] H) ?_ ?_
 ·refine lq rfl (q_fieldAddr rfl Tryz.underlying32 rfl Tryz.sizeOf3 rfl) ?_
  refine lq rfl (q_loadBlk rfl rfl Tryz.isAgg3 (hS22.blk 0 rfl) rfl (fun h => h)) ?_
  refine lq rfl (q_eql rfl rfl rfl) ?_
  refine lm (v := B (decide (((doF gotA).1) = 0))) rfl rfl rfl ?_
  by_cases hg23 : ((doF gotA).1) = 0
  ·have hb24 := Eq.trans rfl (congrArg B (decide_eq_true hg23))
   refine gq rfl rfl rfl hb24 (q_fieldAddr rfl Tryz.underlying26 rfl Tryz.sizeOf23 rfl) ?_
   refine gq rfl rfl rfl hb24 (q_loadBlk rfl rfl Tryz.isAgg23 (hS22.blk 1 rfl) rfl (fun h => h)) ?_
   refine gq rfl rfl rfl hb24 (q_lenRd rfl Tryz.underlying23 rfl (hS22.rdl 3 rfl)) ?_
   refine gq rfl rfl rfl hb24 (q_eql rfl rfl rfl) ?_
   refine lq rfl (q_pickT (v := B (decide ((((doA gotA).Nodes).length : Int) = 5))) rfl hb24 rfl) ?_
   refine lm (v := B (decide ((((doA gotA).Nodes).length : Int) = 5))) rfl rfl rfl ?_
   by_cases hg26 : (((doA gotA).Nodes).length : Int) = 5
   ·have hb27 := Eq.trans rfl (congrArg B (decide_eq_true hg26))
    refine gq rfl rfl rfl hb27 (q_fieldAddr rfl Tryz.underlying26 rfl Tryz.sizeOf22 rfl) ?_
    refine gq rfl rfl rfl hb27 (q_loadBlk rfl rfl Tryz.isAgg22 (hS22.blk 1 rfl) rfl (fun h => h)) ?_
    refine gq rfl rfl rfl hb27 (q_lenRd rfl Tryz.underlying22 rfl (hS22.rdl 2 rfl)) ?_
    refine gq rfl rfl rfl hb27 (q_eql rfl rfl rfl) ?_
    refine lq rfl (q_pickT (v := B (decide ((((doA gotA).Decls).length : Int) = 2))) rfl hb27 rfl) ?_
    refine lm (v := B (decide ((((doA gotA).Decls).length : Int) = 2))) rfl rfl rfl ?_
    by_cases hg29 : (((doA gotA).Decls).length : Int) = 2
    ·have hb30 := Eq.trans rfl (congrArg B (decide_eq_true hg29))
     refine gq rfl rfl rfl hb30 (q_fieldAddr rfl Tryz.underlying26 rfl Tryz.sizeOf22 rfl) ?_
     refine gq rfl rfl rfl hb30 (q_loadBlk rfl rfl Tryz.isAgg22 (hS22.blk 1 rfl) rfl (fun h => h)) ?_
     refine gq rfl rfl rfl hb30 (q_indexRd (k := 0) rfl Tryz.underlying22 el_Decl_43_ArrC3 rfl rfl (hS22.rdl 2 rfl) (by omega) (by omega)) ?_
     refine gq rfl rfl rfl hb30 (q_fieldE (k := 0) rfl Tryz.underlying43 rfl Tryz.sizeOf3 rfl rfl (hS22.rdl 2 rfl) (by omega)) ?_
     obtain ⟨_, hcu32, hFu32⟩ := (Rd.list.1 (hS22.rdS 2 rfl)).cellF 0 (by omega)
     obtain ⟨u32n1, rfl, hu320, hu321, hu322⟩ := hcu32
     refine gq rfl rfl rfl hb30 (q_loadF rfl rfl (hFu32 2 _ Tryz.prog 3 _ rfl Tryz.isAgg3 (fun _ h => False.elim h))) ?_
     refine gq rfl rfl rfl hb30 (q_eql rfl rfl rfl) ?_
     refine lq rfl (q_pickT (v := B (decide (((nth ((doA gotA).Decls) 0).Srt) = 4))) rfl hb30 rfl) ?_
     refine lm (v := B (decide (((nth ((doA gotA).Decls) 0).Srt) = 4))) rfl rfl rfl ?_
     by_cases hg33 : ((nth ((doA gotA).Decls) 0).Srt) = 4
     ·have hb34 := Eq.trans rfl (congrArg B (decide_eq_true hg33))
      refine gq rfl rfl rfl hb34 (q_fieldAddr rfl Tryz.underlying26 rfl Tryz.sizeOf24 rfl) ?_
      refine gq rfl rfl rfl hb34 (q_loadBlk rfl rfl Tryz.isAgg24 (hS22.blk 1 rfl) rfl (fun h => h)) ?_
      refine wpL_go rfl rfl rfl hb34 ?_
      refine e_buildSlice (vs := [I (4)]) (xs := ([4] : List Int)) rfl Tryz.underlying24 Tryz.zeroValue3 rfl Tryz.sizeOf3 (par1 (v0 := I (4)) rfl) rfl hS22 (RdVs.cons (Rd.int.2 ⟨rfl, by constructor <;> omega⟩) (RdVs.nil)) (by decide) (by decide) (fun v36 H37 hS38 hxx hvv36 => ?_)
      refine wpL_go rfl rfl rfl hb34 ?_
      refine e_call rfl Tryz.call11 (arr2 (v0 := r9) (v1 := v36) rfl rfl) (Ints_R r9 v36 _ _ (hS38.rdN 5 rfl) (hS38.rowN 0 rfl)) ?_
      rintro _ H39 ⟨hxx, rfl⟩
      have hS40 := hS38.ext hxx
      refine lq rfl (q_pickT (v := B (decide (((doA gotA).Hold) = ([4])))) rfl hb34 rfl) ?_
      refine la (v := B (decide (((doA gotA).Hold) = ([4])))) rfl rfl rfl ?_
      exact ⟨(Eq.trans rfl (congrArg B (decide_congr_of ((Iff.rfl).trans (((and_iff_right ⟨⟨⟨hg23, hg26⟩, hg29⟩, hg33⟩).trans Iff.rfl)).symm)))), (hS40.drop (sn (sk (sk (sk (sk (sk (sn (sn (sn (List.Sublist.slnil)))))))))))⟩
     ·have hb35 := Eq.trans rfl (congrArg B (decide_eq_false hg33))
      refine wpL_gs rfl rfl rfl hb35 rfl ?_
      refine wpL_gs rfl rfl rfl hb35 rfl ?_
      refine wpL_gs rfl rfl rfl hb35 rfl ?_
      refine wpL_gs rfl rfl rfl hb35 rfl ?_
      refine lq rfl (q_pickF (v := B (false)) rfl hb35 rfl) ?_
      refine la (v := B (false)) rfl rfl rfl ?_
      exact ⟨(Eq.trans rfl (congrArg B ((decide_eq_false (fun h => (fun h => hg33 h.2) h.1)).symm))), (hS22.drop (sk (sk (sk (sk (sk (sn (sn (sn (List.Sublist.slnil))))))))))⟩
    ·have hb31 := Eq.trans rfl (congrArg B (decide_eq_false hg29))
     refine wpL_gs rfl rfl rfl hb31 rfl ?_
     refine wpL_gs rfl rfl rfl hb31 rfl ?_
     refine wpL_gs rfl rfl rfl hb31 rfl ?_
     refine wpL_gs rfl rfl rfl hb31 rfl ?_
     refine wpL_gs rfl rfl rfl hb31 rfl ?_
     refine wpL_gs rfl rfl rfl hb31 rfl ?_
     refine lq rfl (q_pickF (v := B (false)) rfl hb31 rfl) ?_
     refine lm (v := B (false)) rfl rfl rfl ?_
     refine wpL_gs rfl rfl rfl rfl rfl ?_
     refine wpL_gs rfl rfl rfl rfl rfl ?_
     refine wpL_gs rfl rfl rfl rfl rfl ?_
     refine wpL_gs rfl rfl rfl rfl rfl ?_
     refine lq rfl (q_pickF (v := B (false)) rfl rfl rfl) ?_
     refine la (v := B (false)) rfl rfl rfl ?_
     exact ⟨(Eq.trans rfl (congrArg B ((decide_eq_false (fun h => (fun h => (fun h => hg29 h.2) h.1) h.1)).symm))), (hS22.drop (sk (sk (sk (sk (sk (sn (sn (sn (List.Sublist.slnil))))))))))⟩
   ·have hb28 := Eq.trans rfl (congrArg B (decide_eq_false hg26))
    refine wpL_gs rfl rfl rfl hb28 rfl ?_
    refine wpL_gs rfl rfl rfl hb28 rfl ?_
    refine wpL_gs rfl rfl rfl hb28 rfl ?_
    refine wpL_gs rfl rfl rfl hb28 rfl ?_
    refine lq rfl (q_pickF (v := B (false)) rfl hb28 rfl) ?_
    refine lm (v := B (false)) rfl rfl rfl ?_
    refine wpL_gs rfl rfl rfl rfl rfl ?_
    refine wpL_gs rfl rfl rfl rfl rfl ?_
    refine wpL_gs rfl rfl rfl rfl rfl ?_
    refine wpL_gs rfl rfl rfl rfl rfl ?_
    refine wpL_gs rfl rfl rfl rfl rfl ?_
    refine wpL_gs rfl rfl rfl rfl rfl ?_
    refine lq rfl (q_pickF (v := B (false)) rfl rfl rfl) ?_
    refine lm (v := B (false)) rfl rfl rfl ?_
    refine wpL_gs rfl rfl rfl rfl rfl ?_
    refine wpL_gs rfl rfl rfl rfl rfl ?_
    refine wpL_gs rfl rfl rfl rfl rfl ?_
    refine wpL_gs rfl rfl rfl rfl rfl ?_
    refine lq rfl (q_pickF (v := B (false)) rfl rfl rfl) ?_
    refine la (v := B (false)) rfl rfl rfl ?_
    exact ⟨(Eq.trans rfl (congrArg B ((decide_eq_false (fun h => (fun h => (fun h => (fun h => hg26 h.2) h.1) h.1) h.1)).symm))), (hS22.drop (sk (sk (sk (sk (sk (sn (sn (sn (List.Sublist.slnil))))))))))⟩
  ·have hb25 := Eq.trans rfl (congrArg B (decide_eq_false hg23))
   refine wpL_gs rfl rfl rfl hb25 rfl ?_
   refine wpL_gs rfl rfl rfl hb25 rfl ?_
   refine wpL_gs rfl rfl rfl hb25 rfl ?_
   refine wpL_gs rfl rfl rfl hb25 rfl ?_
   refine lq rfl (q_pickF (v := B (false)) rfl hb25 rfl) ?_
   refine lm (v := B (false)) rfl rfl rfl ?_
   refine wpL_gs rfl rfl rfl rfl rfl ?_
   refine wpL_gs rfl rfl rfl rfl rfl ?_
   refine wpL_gs rfl rfl rfl rfl rfl ?_
   refine wpL_gs rfl rfl rfl rfl rfl ?_
   refine lq rfl (q_pickF (v := B (false)) rfl rfl rfl) ?_
   refine lm (v := B (false)) rfl rfl rfl ?_
   refine wpL_gs rfl rfl rfl rfl rfl ?_
   refine wpL_gs rfl rfl rfl rfl rfl ?_
   refine wpL_gs rfl rfl rfl rfl rfl ?_
   refine wpL_gs rfl rfl rfl rfl rfl ?_
   refine wpL_gs rfl rfl rfl rfl rfl ?_
   refine wpL_gs rfl rfl rfl rfl rfl ?_
   refine lq rfl (q_pickF (v := B (false)) rfl rfl rfl) ?_
   refine lm (v := B (false)) rfl rfl rfl ?_
   refine wpL_gs rfl rfl rfl rfl rfl ?_
   refine wpL_gs rfl rfl rfl rfl rfl ?_
   refine wpL_gs rfl rfl rfl rfl rfl ?_
   refine wpL_gs rfl rfl rfl rfl rfl ?_
   refine lq rfl (q_pickF (v := B (false)) rfl rfl rfl) ?_
   refine la (v := B (false)) rfl rfl rfl ?_
   exact ⟨(Eq.trans rfl (congrArg B ((decide_eq_false (fun h => (fun h => (fun h => (fun h => hg23 h.1) h.1) h.1) h.1)).symm))), (hS22.drop (sk (sk (sk (sk (sk (sn (sn (sn (List.Sublist.slnil))))))))))⟩
 rintro f42 H42 ⟨y0, hS42⟩
 refine wpF_ret ?_
 refine ⟨_, resT y0 resN, hS42.frame, ?_⟩
 show (B (decide (((((((doF gotA).1) = 0) ∧ ((((doA gotA).Nodes).length : Int) = 5)) ∧ ((((doA gotA).Decls).length : Int) = 2)) ∧ (((nth ((doA gotA).Decls) 0).Srt) = 4)) ∧ (((doA gotA).Hold) = ([4]))))) = B true
 exact congrArg B (decide_eq_true ⟨⟨⟨⟨hf1, by omega⟩, by omega⟩, hf4⟩, hf5⟩)
end Go.Um
