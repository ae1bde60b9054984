import Derived.Test.YtfgibfbgklkgbaaProg
import Derived.Test.YtfgibfbgklkgbaaLoopS5
import Derived.Test.YtfgibfbgklkgbaaLoopW1
import Derived.Test.YtfgibfbgklkgbaaLoopWeak
namespace Go.Um
open Go.Proofs
open GoT (sz ag rdc)
open KeyT (kv)

theorem el_Jump_25_LoopF1 : ElT Try.prog Jump 25 := ⟨Try.isAgg25, Try.sizeOf25⟩
theorem el_LRow_34_LoopF1 : ElT Try.prog LRow 34 := ⟨Try.isAgg34, Try.sizeOf34⟩

set_option maxHeartbeats 1000000 in
set_option maxRecDepth 100000 in
theorem count_L {H0 : Heap} {S : Nat → Prop}  : CallsH Try.prog 66 #[] H0 (fun rv_ H' => Ext NoB H0 H' ∧ ∃ w0_ w1_ w2_ w3_ w4_, rv_ = Value.agg #[w0_, w1_, w2_, w3_, w4_] ∧ Rd (fun b => S b ∧ b < H0.size) H' w0_ (countL : Loop).Low ∧ Rd (fun b => S b ∧ b < H0.size) H' w1_ (countL : Loop).High ∧ Rd (fun b => S b ∧ b < H0.size) H' w2_ (countL : Loop).Start ∧ Rd (fun b => S b ∧ b < H0.size) H' w3_ (countL : Loop).Jumps ∧ Rd (fun b => S b ∧ b < H0.size) H' w4_ (countL : Loop).Bad) := by
  have hS0 : St H0 NoB (fun b => S b ∧ b < H0.size) [] H0 := St.start (fun _ h => h.2)
  refine callsH_of_wpF (args := []) (rs := [.cell 0 42]) Try.func66 rfl Try.ntmps66 Try.results66 (by kernel_rfl) (Nat.le_of_ble_eq_true rfl) ?_
  generalize argF [] = f0 at *
  refine wpF_seq ?_
  refine wpF_cut (fun f H => ∃ (g1 : Nat), f 0 = PT g1 0 ∧ St H0 NoB (fun b => S b ∧ b < H0.size) [blkE g1 (.cells #[(Value.slice none 0 0), (Value.slice none 0 0), (Value.slice none 0 0), (Value.slice none 0 0), (Value.slice none 0 0)] 42)] H) ?_ ?_
  · refine wpF_region ?_
    refine wpL_o rfl ?_
    refine e_alloc rfl Try.zeroValue42 hS0 (fun g1 H2 hS3 hxx => ?_)
    replace hS3 : St H0 NoB (fun b => S b ∧ b < H0.size) [blkE g1 (.cells #[(Value.slice none 0 0), (Value.slice none 0 0), (Value.slice none 0 0), (Value.slice none 0 0), (Value.slice none 0 0)] 42)] H2 := hS3
    exact ⟨g1, rfl, hS3⟩
  rintro f4 H4 ⟨g1, a4_0, hS4⟩
  refine wpF_seq ?_
  refine wpF_cut (fun f H => ∃ (v5 : Value), ∃ (v8 : Value), ∃ (v15 : Value), ∃ (v34 : Value), ∃ (v41 : Value), f 0 = PT g1 0 ∧ St H0 NoB (fun b => S b ∧ b < H0.size) [blkE g1 (.cells #[v5, v8, v15, v34, v41] 42), rowE 34 v41 ([(LRow.mk ([1]) 3 5)] : List LRow), rowE 25 v34 ([(Jump.mk ([(LRow.mk ([1]) 2 3)]) ([[1, 1]]))] : List Jump), rowE 34 v15 ([(LRow.mk ([1]) 3 0)] : List LRow), rowE 3 v8 ([9] : List Int), rowE 3 v5 ([0] : List Int)] H) ?_ ?_
  · refine wpF_region ?_
    refine wpL_o rfl ?_
    refine e_buildSlice (vs := [I (0)]) (xs := ([0] : List Int)) rfl Try.underlying32 Try.zeroValue3 rfl Try.sizeOf3 (par1 (v0 := I (0)) rfl) rfl hS4 (RdVs.cons (Rd.int.2 ⟨rfl, by constructor <;> omega⟩) (RdVs.nil)) (by decide) (by decide) (fun v5 H6 hS7 hxx hvv5 => ?_)
    replace hS7 : St H0 NoB (fun b => S b ∧ b < H0.size) [rowE 3 v5 ([0] : List Int), blkE g1 (.cells #[(Value.slice none 0 0), (Value.slice none 0 0), (Value.slice none 0 0), (Value.slice none 0 0), (Value.slice none 0 0)] 42)] H6 := hS7
    refine wpL_o rfl ?_
    refine e_buildSlice (vs := [I (9)]) (xs := ([9] : List Int)) rfl Try.underlying32 Try.zeroValue3 rfl Try.sizeOf3 (par1 (v0 := I (9)) rfl) rfl hS7 (RdVs.cons (Rd.int.2 ⟨rfl, by constructor <;> omega⟩) (RdVs.nil)) (by decide) (by decide) (fun v8 H9 hS10 hxx hvv8 => ?_)
    replace hS10 : St H0 NoB (fun b => S b ∧ b < H0.size) [rowE 3 v8 ([9] : List Int), rowE 3 v5 ([0] : List Int), blkE g1 (.cells #[(Value.slice none 0 0), (Value.slice none 0 0), (Value.slice none 0 0), (Value.slice none 0 0), (Value.slice none 0 0)] 42)] H9 := hS10
    refine wpL_o rfl ?_
    refine e_buildSlice (vs := [I (1)]) (xs := ([1] : List Int)) rfl Try.underlying32 Try.zeroValue3 rfl Try.sizeOf3 (par1 (v0 := I (1)) rfl) rfl hS10 (RdVs.cons (Rd.int.2 ⟨rfl, by constructor <;> omega⟩) (RdVs.nil)) (by decide) (by decide) (fun v11 H12 hS13 hxx hvv11 => ?_)
    replace hS13 : St H0 NoB (fun b => S b ∧ b < H0.size) [rowE 3 v11 ([1] : List Int), rowE 3 v8 ([9] : List Int), rowE 3 v5 ([0] : List Int), blkE g1 (.cells #[(Value.slice none 0 0), (Value.slice none 0 0), (Value.slice none 0 0), (Value.slice none 0 0), (Value.slice none 0 0)] 42)] H12 := hS13
    refine wpL_q (U := NoB) rfl (q_build (v := Value.agg #[v11, I (3), I (0)]) rfl (par2 (v0 := v11) (v1 := I (3)) rfl rfl) ((hS13.rowl 0 rfl).slc (fun zz0 => ∀ w, (Instr.build 34 #[(0, zz0), (1, I (3))]).run Try.prog w = .ok (Value.agg #[zz0, I (3), I (0)]) w) (fun a0 n0 c0 => (fun w => by kernel_rfl)))) ?_
    have hS14 : St H0 NoB (fun b => S b ∧ b < H0.size) [rdE v11 ([1] : List Int), rowE 3 v8 ([9] : List Int), rowE 3 v5 ([0] : List Int), blkE g1 (.cells #[(Value.slice none 0 0), (Value.slice none 0 0), (Value.slice none 0 0), (Value.slice none 0 0), (Value.slice none 0 0)] 42)] H12 := St.fin hS13
    refine wpL_o rfl ?_
    refine e_buildSlice (vs := [Value.agg #[v11, I (3), I (0)]]) (xs := ([(LRow.mk ([1]) 3 0)] : List LRow)) rfl Try.underlying22 Try.zeroValue34 rfl Try.sizeOf34 (par1 (v0 := Value.agg #[v11, I (3), I (0)]) rfl) rfl hS14 (RdVs.cons (Rd.lRow.2 ⟨_, rfl, (hS14.rdS 0 rfl), (by first | assumption | (constructor <;> (dsimp only; omega)) | (constructor <;> omega)), (by first | assumption | (constructor <;> (dsimp only; omega)) | (constructor <;> omega))⟩) (RdVs.nil)) (by decide) (by decide) (fun v15 H16 hS17 hxx hvv15 => ?_)
    replace hS17 : St H0 NoB (fun b => S b ∧ b < H0.size) [rowE 34 v15 ([(LRow.mk ([1]) 3 0)] : List LRow), rdE v11 ([1] : List Int), rowE 3 v8 ([9] : List Int), rowE 3 v5 ([0] : List Int), blkE g1 (.cells #[(Value.slice none 0 0), (Value.slice none 0 0), (Value.slice none 0 0), (Value.slice none 0 0), (Value.slice none 0 0)] 42)] H16 := hS17
    refine wpL_o rfl ?_
    refine e_buildSlice (vs := [I (1)]) (xs := ([1] : List Int)) rfl Try.underlying32 Try.zeroValue3 rfl Try.sizeOf3 (par1 (v0 := I (1)) rfl) rfl hS17 (RdVs.cons (Rd.int.2 ⟨rfl, by constructor <;> omega⟩) (RdVs.nil)) (by decide) (by decide) (fun v18 H19 hS20 hxx hvv18 => ?_)
    replace hS20 : St H0 NoB (fun b => S b ∧ b < H0.size) [rowE 3 v18 ([1] : List Int), rowE 34 v15 ([(LRow.mk ([1]) 3 0)] : List LRow), rdE v11 ([1] : List Int), rowE 3 v8 ([9] : List Int), rowE 3 v5 ([0] : List Int), blkE g1 (.cells #[(Value.slice none 0 0), (Value.slice none 0 0), (Value.slice none 0 0), (Value.slice none 0 0), (Value.slice none 0 0)] 42)] H19 := hS20
    refine wpL_q (U := NoB) rfl (q_build (v := Value.agg #[v18, I (2), I (3)]) rfl (par3 (v0 := v18) (v1 := I (2)) (v2 := I (3)) rfl rfl rfl) ((hS20.rowl 0 rfl).slc (fun zz0 => ∀ w, (Instr.build 34 #[(0, zz0), (1, I (2)), (2, I (3))]).run Try.prog w = .ok (Value.agg #[zz0, I (2), I (3)]) w) (fun a0 n0 c0 => (fun w => by kernel_rfl)))) ?_
    have hS21 : St H0 NoB (fun b => S b ∧ b < H0.size) [rdE v18 ([1] : List Int), rowE 34 v15 ([(LRow.mk ([1]) 3 0)] : List LRow), rdE v11 ([1] : List Int), rowE 3 v8 ([9] : List Int), rowE 3 v5 ([0] : List Int), blkE g1 (.cells #[(Value.slice none 0 0), (Value.slice none 0 0), (Value.slice none 0 0), (Value.slice none 0 0), (Value.slice none 0 0)] 42)] H19 := St.fin hS20
    refine wpL_o rfl ?_
    refine e_buildSlice (vs := [Value.agg #[v18, I (2), I (3)]]) (xs := ([(LRow.mk ([1]) 2 3)] : List LRow)) rfl Try.underlying22 Try.zeroValue34 rfl Try.sizeOf34 (par1 (v0 := Value.agg #[v18, I (2), I (3)]) rfl) rfl hS21 (RdVs.cons (Rd.lRow.2 ⟨_, rfl, (hS21.rdS 0 rfl), (by first | assumption | (constructor <;> (dsimp only; omega)) | (constructor <;> omega)), (by first | assumption | (constructor <;> (dsimp only; omega)) | (constructor <;> omega))⟩) (RdVs.nil)) (by decide) (by decide) (fun v22 H23 hS24 hxx hvv22 => ?_)
    replace hS24 : St H0 NoB (fun b => S b ∧ b < H0.size) [rowE 34 v22 ([(LRow.mk ([1]) 2 3)] : List LRow), rdE v18 ([1] : List Int), rowE 34 v15 ([(LRow.mk ([1]) 3 0)] : List LRow), rdE v11 ([1] : List Int), rowE 3 v8 ([9] : List Int), rowE 3 v5 ([0] : List Int), blkE g1 (.cells #[(Value.slice none 0 0), (Value.slice none 0 0), (Value.slice none 0 0), (Value.slice none 0 0), (Value.slice none 0 0)] 42)] H23 := hS24
    refine wpL_o rfl ?_
    refine e_buildSlice (vs := [I (1), I (1)]) (xs := ([1, 1] : List Int)) rfl Try.underlying32 Try.zeroValue3 rfl Try.sizeOf3 (par2 (v0 := I (1)) (v1 := I (1)) rfl rfl) rfl hS24 (RdVs.cons (Rd.int.2 ⟨rfl, by constructor <;> omega⟩) (RdVs.cons (Rd.int.2 ⟨rfl, by constructor <;> omega⟩) (RdVs.nil))) (by decide) (by decide) (fun v25 H26 hS27 hxx hvv25 => ?_)
    replace hS27 : St H0 NoB (fun b => S b ∧ b < H0.size) [rowE 3 v25 ([1, 1] : List Int), rowE 34 v22 ([(LRow.mk ([1]) 2 3)] : List LRow), rdE v18 ([1] : List Int), rowE 34 v15 ([(LRow.mk ([1]) 3 0)] : List LRow), rdE v11 ([1] : List Int), rowE 3 v8 ([9] : List Int), rowE 3 v5 ([0] : List Int), blkE g1 (.cells #[(Value.slice none 0 0), (Value.slice none 0 0), (Value.slice none 0 0), (Value.slice none 0 0), (Value.slice none 0 0)] 42)] H26 := hS27
    have hS28 : St H0 NoB (fun b => S b ∧ b < H0.size) [rdE v25 ([1, 1] : List Int), rowE 34 v22 ([(LRow.mk ([1]) 2 3)] : List LRow), rdE v18 ([1] : List Int), rowE 34 v15 ([(LRow.mk ([1]) 3 0)] : List LRow), rdE v11 ([1] : List Int), rowE 3 v8 ([9] : List Int), rowE 3 v5 ([0] : List Int), blkE g1 (.cells #[(Value.slice none 0 0), (Value.slice none 0 0), (Value.slice none 0 0), (Value.slice none 0 0), (Value.slice none 0 0)] 42)] H26 := St.fin hS27
    refine wpL_o rfl ?_
    refine e_buildSlice (vs := [v25]) (xs := ([[1, 1]] : List (List Int))) rfl Try.underlying23 Try.zeroValue32 rfl Try.sizeOf32 (par1 (v0 := v25) rfl) rfl hS28 (RdVs.cons (hS28.rdS 0 rfl) (RdVs.nil)) (by decide) (by decide) (fun v29 H30 hS31 hxx hvv29 => ?_)
    replace hS31 : St H0 NoB (fun b => S b ∧ b < H0.size) [rowE 32 v29 ([[1, 1]] : List (List Int)), rdE v25 ([1, 1] : List Int), rowE 34 v22 ([(LRow.mk ([1]) 2 3)] : List LRow), rdE v18 ([1] : List Int), rowE 34 v15 ([(LRow.mk ([1]) 3 0)] : List LRow), rdE v11 ([1] : List Int), rowE 3 v8 ([9] : List Int), rowE 3 v5 ([0] : List Int), blkE g1 (.cells #[(Value.slice none 0 0), (Value.slice none 0 0), (Value.slice none 0 0), (Value.slice none 0 0), (Value.slice none 0 0)] 42)] H30 := hS31
    refine wpL_q (U := NoB) rfl (q_build (v := Value.agg #[v22, v29]) rfl (par2 (v0 := v22) (v1 := v29) rfl rfl) ((hS31.rowl 2 rfl).slc (fun zz0 => ∀ w, (Instr.build 25 #[(0, zz0), (1, v29)]).run Try.prog w = .ok (Value.agg #[zz0, v29]) w) (fun a0 n0 c0 => ((hS31.rowl 0 rfl).slc (fun zz1 => ∀ w, (Instr.build 25 #[(0, (.slice a0 n0 c0)), (1, zz1)]).run Try.prog w = .ok (Value.agg #[(.slice a0 n0 c0), zz1]) w) (fun a1 n1 c1 => (fun w => by kernel_rfl)))))) ?_
    have hS32 : St H0 NoB (fun b => S b ∧ b < H0.size) [rdE v22 ([(LRow.mk ([1]) 2 3)] : List LRow), rowE 32 v29 ([[1, 1]] : List (List Int)), rdE v25 ([1, 1] : List Int), rdE v18 ([1] : List Int), rowE 34 v15 ([(LRow.mk ([1]) 3 0)] : List LRow), rdE v11 ([1] : List Int), rowE 3 v8 ([9] : List Int), rowE 3 v5 ([0] : List Int), blkE g1 (.cells #[(Value.slice none 0 0), (Value.slice none 0 0), (Value.slice none 0 0), (Value.slice none 0 0), (Value.slice none 0 0)] 42)] H30 := St.fin (hS31.front 2 rfl)
    have hS33 : St H0 NoB (fun b => S b ∧ b < H0.size) [rdE v29 ([[1, 1]] : List (List Int)), rdE v22 ([(LRow.mk ([1]) 2 3)] : List LRow), rdE v25 ([1, 1] : List Int), rdE v18 ([1] : List Int), rowE 34 v15 ([(LRow.mk ([1]) 3 0)] : List LRow), rdE v11 ([1] : List Int), rowE 3 v8 ([9] : List Int), rowE 3 v5 ([0] : List Int), blkE g1 (.cells #[(Value.slice none 0 0), (Value.slice none 0 0), (Value.slice none 0 0), (Value.slice none 0 0), (Value.slice none 0 0)] 42)] H30 := St.fin (hS32.front 1 rfl)
    refine wpL_o rfl ?_
    refine e_buildSlice (vs := [Value.agg #[v22, v29]]) (xs := ([(Jump.mk ([(LRow.mk ([1]) 2 3)]) ([[1, 1]]))] : List Jump)) rfl Try.underlying40 Try.zeroValue25 rfl Try.sizeOf25 (par1 (v0 := Value.agg #[v22, v29]) rfl) rfl hS33 (RdVs.cons (Rd.jump.2 ⟨_, _, rfl, (hS33.rdS 1 rfl), (hS33.rdS 0 rfl)⟩) (RdVs.nil)) (by decide) (by decide) (fun v34 H35 hS36 hxx hvv34 => ?_)
    replace hS36 : St H0 NoB (fun b => S b ∧ b < H0.size) [rowE 25 v34 ([(Jump.mk ([(LRow.mk ([1]) 2 3)]) ([[1, 1]]))] : List Jump), rdE v29 ([[1, 1]] : List (List Int)), rdE v22 ([(LRow.mk ([1]) 2 3)] : List LRow), rdE v25 ([1, 1] : List Int), rdE v18 ([1] : List Int), rowE 34 v15 ([(LRow.mk ([1]) 3 0)] : List LRow), rdE v11 ([1] : List Int), rowE 3 v8 ([9] : List Int), rowE 3 v5 ([0] : List Int), blkE g1 (.cells #[(Value.slice none 0 0), (Value.slice none 0 0), (Value.slice none 0 0), (Value.slice none 0 0), (Value.slice none 0 0)] 42)] H35 := hS36
    refine wpL_o rfl ?_
    refine e_buildSlice (vs := [I (1)]) (xs := ([1] : List Int)) rfl Try.underlying32 Try.zeroValue3 rfl Try.sizeOf3 (par1 (v0 := I (1)) rfl) rfl hS36 (RdVs.cons (Rd.int.2 ⟨rfl, by constructor <;> omega⟩) (RdVs.nil)) (by decide) (by decide) (fun v37 H38 hS39 hxx hvv37 => ?_)
    replace hS39 : St H0 NoB (fun b => S b ∧ b < H0.size) [rowE 3 v37 ([1] : List Int), rowE 25 v34 ([(Jump.mk ([(LRow.mk ([1]) 2 3)]) ([[1, 1]]))] : List Jump), rdE v29 ([[1, 1]] : List (List Int)), rdE v22 ([(LRow.mk ([1]) 2 3)] : List LRow), rdE v25 ([1, 1] : List Int), rdE v18 ([1] : List Int), rowE 34 v15 ([(LRow.mk ([1]) 3 0)] : List LRow), rdE v11 ([1] : List Int), rowE 3 v8 ([9] : List Int), rowE 3 v5 ([0] : List Int), blkE g1 (.cells #[(Value.slice none 0 0), (Value.slice none 0 0), (Value.slice none 0 0), (Value.slice none 0 0), (Value.slice none 0 0)] 42)] H38 := hS39
    refine wpL_q (U := NoB) rfl (q_build (v := Value.agg #[v37, I (3), I (5)]) rfl (par3 (v0 := v37) (v1 := I (3)) (v2 := I (5)) rfl rfl rfl) ((hS39.rowl 0 rfl).slc (fun zz0 => ∀ w, (Instr.build 34 #[(0, zz0), (1, I (3)), (2, I (5))]).run Try.prog w = .ok (Value.agg #[zz0, I (3), I (5)]) w) (fun a0 n0 c0 => (fun w => by kernel_rfl)))) ?_
    have hS40 : St H0 NoB (fun b => S b ∧ b < H0.size) [rdE v37 ([1] : List Int), rowE 25 v34 ([(Jump.mk ([(LRow.mk ([1]) 2 3)]) ([[1, 1]]))] : List Jump), rdE v29 ([[1, 1]] : List (List Int)), rdE v22 ([(LRow.mk ([1]) 2 3)] : List LRow), rdE v25 ([1, 1] : List Int), rdE v18 ([1] : List Int), rowE 34 v15 ([(LRow.mk ([1]) 3 0)] : List LRow), rdE v11 ([1] : List Int), rowE 3 v8 ([9] : List Int), rowE 3 v5 ([0] : List Int), blkE g1 (.cells #[(Value.slice none 0 0), (Value.slice none 0 0), (Value.slice none 0 0), (Value.slice none 0 0), (Value.slice none 0 0)] 42)] H38 := St.fin hS39
    refine wpL_o rfl ?_
    refine e_buildSlice (vs := [Value.agg #[v37, I (3), I (5)]]) (xs := ([(LRow.mk ([1]) 3 5)] : List LRow)) rfl Try.underlying22 Try.zeroValue34 rfl Try.sizeOf34 (par1 (v0 := Value.agg #[v37, I (3), I (5)]) rfl) rfl hS40 (RdVs.cons (Rd.lRow.2 ⟨_, rfl, (hS40.rdS 0 rfl), (by first | assumption | (constructor <;> (dsimp only; omega)) | (constructor <;> omega)), (by first | assumption | (constructor <;> (dsimp only; omega)) | (constructor <;> omega))⟩) (RdVs.nil)) (by decide) (by decide) (fun v41 H42 hS43 hxx hvv41 => ?_)
    replace hS43 : St H0 NoB (fun b => S b ∧ b < H0.size) [rowE 34 v41 ([(LRow.mk ([1]) 3 5)] : List LRow), rdE v37 ([1] : List Int), rowE 25 v34 ([(Jump.mk ([(LRow.mk ([1]) 2 3)]) ([[1, 1]]))] : List Jump), rdE v29 ([[1, 1]] : List (List Int)), rdE v22 ([(LRow.mk ([1]) 2 3)] : List LRow), rdE v25 ([1, 1] : List Int), rdE v18 ([1] : List Int), rowE 34 v15 ([(LRow.mk ([1]) 3 0)] : List LRow), rdE v11 ([1] : List Int), rowE 3 v8 ([9] : List Int), rowE 3 v5 ([0] : List Int), blkE g1 (.cells #[(Value.slice none 0 0), (Value.slice none 0 0), (Value.slice none 0 0), (Value.slice none 0 0), (Value.slice none 0 0)] 42)] H42 := hS43
    refine wpL_q (U := NoB) rfl (q_build (v := Value.agg #[v5, v8, v15, v34, v41]) rfl (par5 (v0 := v5) (v1 := v8) (v2 := v15) (v3 := v34) (v4 := v41) rfl rfl rfl rfl rfl) ((hS43.rowl 10 rfl).slc (fun zz0 => ∀ w, (Instr.build 42 #[(0, zz0), (1, v8), (2, v15), (3, v34), (4, v41)]).run Try.prog w = .ok (Value.agg #[zz0, v8, v15, v34, v41]) w) (fun a0 n0 c0 => ((hS43.rowl 9 rfl).slc (fun zz1 => ∀ w, (Instr.build 42 #[(0, (.slice a0 n0 c0)), (1, zz1), (2, v15), (3, v34), (4, v41)]).run Try.prog w = .ok (Value.agg #[(.slice a0 n0 c0), zz1, v15, v34, v41]) w) (fun a1 n1 c1 => ((hS43.rowl 7 rfl).slc (fun zz2 => ∀ w, (Instr.build 42 #[(0, (.slice a0 n0 c0)), (1, (.slice a1 n1 c1)), (2, zz2), (3, v34), (4, v41)]).run Try.prog w = .ok (Value.agg #[(.slice a0 n0 c0), (.slice a1 n1 c1), zz2, v34, v41]) w) (fun a2 n2 c2 => ((hS43.rowl 2 rfl).slc (fun zz3 => ∀ w, (Instr.build 42 #[(0, (.slice a0 n0 c0)), (1, (.slice a1 n1 c1)), (2, (.slice a2 n2 c2)), (3, zz3), (4, v41)]).run Try.prog w = .ok (Value.agg #[(.slice a0 n0 c0), (.slice a1 n1 c1), (.slice a2 n2 c2), zz3, v41]) w) (fun a3 n3 c3 => ((hS43.rowl 0 rfl).slc (fun zz4 => ∀ w, (Instr.build 42 #[(0, (.slice a0 n0 c0)), (1, (.slice a1 n1 c1)), (2, (.slice a2 n2 c2)), (3, (.slice a3 n3 c3)), (4, zz4)]).run Try.prog w = .ok (Value.agg #[(.slice a0 n0 c0), (.slice a1 n1 c1), (.slice a2 n2 c2), (.slice a3 n3 c3), zz4]) w) (fun a4 n4 c4 => (fun w => by kernel_rfl)))))))))))) ?_
    refine wpL_o rfl ?_
    refine e_storeBlkA (cs' := #[v5, v8, v15, v34, v41]) rfl a4_0 rfl Try.sizeOf42 rfl rfl (List.forall_mem_cons.2 ⟨(oneCell_rdL (hS43.rowl 10 rfl)), List.forall_mem_cons.2 ⟨(oneCell_rdL (hS43.rowl 9 rfl)), List.forall_mem_cons.2 ⟨(oneCell_rdL (hS43.rowl 7 rfl)), List.forall_mem_cons.2 ⟨(oneCell_rdL (hS43.rowl 2 rfl)), List.forall_mem_cons.2 ⟨(oneCell_rdL (hS43.rowl 0 rfl)), List.forall_mem_nil _⟩⟩⟩⟩⟩) (hS43.front 11 rfl) (fun H44 hS45 hxx => ?_)
    replace hS45 : St H0 NoB (fun b => S b ∧ b < H0.size) [blkE g1 (.cells #[v5, v8, v15, v34, v41] 42), rowE 34 v41 ([(LRow.mk ([1]) 3 5)] : List LRow), rdE v37 ([1] : List Int), rowE 25 v34 ([(Jump.mk ([(LRow.mk ([1]) 2 3)]) ([[1, 1]]))] : List Jump), rdE v29 ([[1, 1]] : List (List Int)), rdE v22 ([(LRow.mk ([1]) 2 3)] : List LRow), rdE v25 ([1, 1] : List Int), rdE v18 ([1] : List Int), rowE 34 v15 ([(LRow.mk ([1]) 3 0)] : List LRow), rdE v11 ([1] : List Int), rowE 3 v8 ([9] : List Int), rowE 3 v5 ([0] : List Int)] H44 := hS45
    exact ⟨v5, v8, v15, v34, v41, a4_0, (hS45.drop (List.Sublist.cons_cons _ (List.Sublist.cons_cons _ (List.Sublist.cons _ (List.Sublist.cons_cons _ (List.Sublist.cons _ (List.Sublist.cons _ (List.Sublist.cons _ (List.Sublist.cons _ (List.Sublist.cons_cons _ (List.Sublist.cons _ (List.Sublist.cons_cons _ (List.Sublist.cons_cons _ (List.Sublist.slnil))))))))))))))⟩
  rintro f46 H46 ⟨v5, v8, v15, v34, v41, a46_0, hS46⟩
  clear a4_0
  refine wpF_ret ?_
  refine ⟨_, resC a46_0 (loadV_blkA Try.isAgg42 Try.sizeOf42 rfl (hS46.blk 0 rfl)) (resN), hS46.frame, ?_⟩
  show ∃ w0_ w1_ w2_ w3_ w4_, (Value.agg #[v5, v8, v15, v34, v41]) = Value.agg #[w0_, w1_, w2_, w3_, w4_] ∧ Rd (fun b => S b ∧ b < H0.size) H46 w0_ (countL : Loop).Low ∧ Rd (fun b => S b ∧ b < H0.size) H46 w1_ (countL : Loop).High ∧ Rd (fun b => S b ∧ b < H0.size) H46 w2_ (countL : Loop).Start ∧ Rd (fun b => S b ∧ b < H0.size) H46 w3_ (countL : Loop).Jumps ∧ Rd (fun b => S b ∧ b < H0.size) H46 w4_ (countL : Loop).Bad
  have hS47 : St H0 NoB (fun b => S b ∧ b < H0.size) [rdE v5 ([0] : List Int), blkE g1 (.cells #[v5, v8, v15, v34, v41] 42), rowE 34 v41 ([(LRow.mk ([1]) 3 5)] : List LRow), rowE 25 v34 ([(Jump.mk ([(LRow.mk ([1]) 2 3)]) ([[1, 1]]))] : List Jump), rowE 34 v15 ([(LRow.mk ([1]) 3 0)] : List LRow), rowE 3 v8 ([9] : List Int)] H46 := St.fin (hS46.front 5 rfl)
  have hS48 : St H0 NoB (fun b => S b ∧ b < H0.size) [rdE v8 ([9] : List Int), rdE v5 ([0] : List Int), blkE g1 (.cells #[v5, v8, v15, v34, v41] 42), rowE 34 v41 ([(LRow.mk ([1]) 3 5)] : List LRow), rowE 25 v34 ([(Jump.mk ([(LRow.mk ([1]) 2 3)]) ([[1, 1]]))] : List Jump), rowE 34 v15 ([(LRow.mk ([1]) 3 0)] : List LRow)] H46 := St.fin (hS47.front 5 rfl)
  have hS49 : St H0 NoB (fun b => S b ∧ b < H0.size) [rdE v15 ([(LRow.mk ([1]) 3 0)] : List LRow), rdE v8 ([9] : List Int), rdE v5 ([0] : List Int), blkE g1 (.cells #[v5, v8, v15, v34, v41] 42), rowE 34 v41 ([(LRow.mk ([1]) 3 5)] : List LRow), rowE 25 v34 ([(Jump.mk ([(LRow.mk ([1]) 2 3)]) ([[1, 1]]))] : List Jump)] H46 := St.fin (hS48.front 5 rfl)
  have hS50 : St H0 NoB (fun b => S b ∧ b < H0.size) [rdE v34 ([(Jump.mk ([(LRow.mk ([1]) 2 3)]) ([[1, 1]]))] : List Jump), rdE v15 ([(LRow.mk ([1]) 3 0)] : List LRow), rdE v8 ([9] : List Int), rdE v5 ([0] : List Int), blkE g1 (.cells #[v5, v8, v15, v34, v41] 42), rowE 34 v41 ([(LRow.mk ([1]) 3 5)] : List LRow)] H46 := St.fin (hS49.front 5 rfl)
  have hS51 : St H0 NoB (fun b => S b ∧ b < H0.size) [rdE v41 ([(LRow.mk ([1]) 3 5)] : List LRow), rdE v34 ([(Jump.mk ([(LRow.mk ([1]) 2 3)]) ([[1, 1]]))] : List Jump), rdE v15 ([(LRow.mk ([1]) 3 0)] : List LRow), rdE v8 ([9] : List Int), rdE v5 ([0] : List Int), blkE g1 (.cells #[v5, v8, v15, v34, v41] 42)] H46 := St.fin (hS50.front 5 rfl)
  exact ⟨v5, v8, v15, v34, v41, rfl, (hS51.result (hS51.rdS 4 rfl)), (hS51.result (hS51.rdS 3 rfl)), (hS51.result (hS51.rdS 2 rfl)), (hS51.result (hS51.rdS 1 rfl)), (hS51.result (hS51.rdS 0 rfl))⟩

set_option maxHeartbeats 1000000 in
set_option maxRecDepth 100000 in
theorem loopFact {H0 : Heap}   : CallsH Try.prog 32 #[] H0 (fun rv_ H' => Ext NoB H0 H' ∧ rv_ = B true) := by
  have hcj : (0 : Nat) < countL.Jumps.length := by decide
  have hcw : (wantAll (nth countL.Jumps 0) countL.Bad).length = 1 := count_want.2.1
  have hS0 : St H0 NoB NoB [] H0 := St.start (fun _ h => h.elim)
  refine callsH_of_wpF (args := []) (rs := [.tmp 0]) Try.func32 rfl Try.ntmps32 Try.results32 (by kernel_rfl) (Nat.le_of_ble_eq_true rfl) ?_
  generalize argF [] = f0 at *
  refine wpF_seq ?_
  refine wpF_cut (fun f H => H0 = H) ?_ ?_
  · refine wpF_region ?_
    refine wpL_q (U := NoB) rfl (q_assign (v := B (false)) rfl rfl) ?_
    exact rfl
  rintro f1 _ rfl
  refine wpF_seq ?_
  refine wpF_cut (fun f H => ∃ (r10 : Value), ∃ (g14 : Nat), f 1 = r10 ∧ f 2 = PT g14 0 ∧ St H0 NoB NoB [blkE g14 (.cells #[I ((loopFault countL).1), I ((loopFault countL).2)] 27), rdE r10 (runsOut countL : List (List Int))] H) ?_ ?_
  · refine wpF_region ?_
    refine wpL_o rfl ?_
    refine e_call rfl Try.call66 arr0 (count_L (S := SL NoB [])) ?_
    rintro _ H7 ⟨hxx, r2, r3, r4, r5, r6, rfl, hrr2, hrr3, hrr4, hrr5, hrr6⟩
    have hS8 : St H0 NoB NoB [rdE r2 (countL.Low : List Int), rdE r3 (countL.High : List Int), rdE r4 (countL.Start : List LRow), rdE r5 (countL.Jumps : List Jump), rdE r6 (countL.Bad : List LRow)] H7 := ((((((hS0.ext hxx).rd (hrr6.sub fun b hb => ⟨hb, SL.lt hS0 hb⟩)).rd (hrr5.sub fun b hb => ⟨(SL_rd hb), SL.lt hS0 (SL_rd hb)⟩)).rd (hrr4.sub fun b hb => ⟨(SL_rd (SL_rd hb)), SL.lt hS0 (SL_rd (SL_rd hb))⟩)).rd (hrr3.sub fun b hb => ⟨(SL_rd (SL_rd (SL_rd hb))), SL.lt hS0 (SL_rd (SL_rd (SL_rd hb)))⟩)).rd (hrr2.sub fun b hb => ⟨(SL_rd (SL_rd (SL_rd (SL_rd hb)))), SL.lt hS0 (SL_rd (SL_rd (SL_rd (SL_rd hb))))⟩))
    refine wpL_o rfl ?_
    refine e_call rfl Try.call22 (arr1 (v0 := Value.agg #[r2, r3, r4, r5, r6]) rfl) (Runs_L r2 r3 r4 r5 r6 countL (hS8.rdS 0 rfl) (hS8.rdS 1 rfl) (hS8.rdS 2 rfl) (hS8.rdS 3 rfl) (hS8.rdS 4 rfl) ) ?_
    rintro _ H11 ⟨hxx, r10, rfl, hrr10⟩
    have hS12 : St H0 NoB NoB [rdE r10 (runsOut countL : List (List Int)), rdE r2 (countL.Low : List Int), rdE r3 (countL.High : List Int), rdE r4 (countL.Start : List LRow), rdE r5 (countL.Jumps : List Jump), rdE r6 (countL.Bad : List LRow)] H11 := hS8.res hxx hrr10
    refine wpL_q (U := NoB) rfl (q_move (v := Value.tuple #[r10, Value.agg #[I ((loopFault countL).1), I ((loopFault countL).2)]]) rfl rfl) ?_
    refine wpL_q (U := NoB) rfl (q_extract (vs := #[r10, Value.agg #[I ((loopFault countL).1), I ((loopFault countL).2)]]) (v := r10) rfl rfl rfl) ?_
    refine wpL_q (U := NoB) rfl (q_extract (vs := #[r10, Value.agg #[I ((loopFault countL).1), I ((loopFault countL).2)]]) (v := Value.agg #[I ((loopFault countL).1), I ((loopFault countL).2)]) rfl rfl rfl) ?_
    refine wpL_o rfl ?_
    refine e_alloc rfl Try.zeroValue27 hS12 (fun g14 H15 hS16 hxx => ?_)
    replace hS16 : St H0 NoB NoB [blkE g14 (.cells #[I (0), I (0)] 27), rdE r10 (runsOut countL : List (List Int)), rdE r2 (countL.Low : List Int), rdE r3 (countL.High : List Int), rdE r4 (countL.Start : List LRow), rdE r5 (countL.Jumps : List Jump), rdE r6 (countL.Bad : List LRow)] H15 := hS16
    refine wpL_q (U := NoB) rfl (q_assign (v := r10) rfl rfl) ?_
    refine wpL_o rfl ?_
    refine e_storeBlkA (cs' := #[I ((loopFault countL).1), I ((loopFault countL).2)]) rfl rfl rfl Try.sizeOf27 rfl rfl (List.forall_mem_cons.2 ⟨rfl, List.forall_mem_cons.2 ⟨rfl, List.forall_mem_nil _⟩⟩) hS16 (fun H17 hS18 hxx => ?_)
    replace hS18 : St H0 NoB NoB [blkE g14 (.cells #[I ((loopFault countL).1), I ((loopFault countL).2)] 27), rdE r10 (runsOut countL : List (List Int)), rdE r2 (countL.Low : List Int), rdE r3 (countL.High : List Int), rdE r4 (countL.Start : List LRow), rdE r5 (countL.Jumps : List Jump), rdE r6 (countL.Bad : List LRow)] H17 := hS18
    exact ⟨r10, g14, rfl, rfl, (hS18.drop (List.Sublist.cons_cons _ (List.Sublist.cons_cons _ (List.Sublist.cons _ (List.Sublist.cons _ (List.Sublist.cons _ (List.Sublist.cons _ (List.Sublist.cons _ (List.Sublist.slnil)))))))))⟩
  rintro f19 H19 ⟨r10, g14, a19_1, a19_2, hS19⟩
  refine wpF_seq ?_
  refine wpF_cut (fun f H => ∃ (r32 : Value), ∃ (g36 : Nat), f 1 = r10 ∧ f 2 = PT g14 0 ∧ f 3 = r32 ∧ f 4 = PT g36 0 ∧ St H0 NoB NoB [blkE g36 (.cells #[I ((nextFault countL ([3])).1), I ((nextFault countL ([3])).2)] 27), rdE r32 (nextOut countL ([3]) : List (List Int)), blkE g14 (.cells #[I ((loopFault countL).1), I ((loopFault countL).2)] 27), rdE r10 (runsOut countL : List (List Int))] H) ?_ ?_
  · refine wpF_region ?_
    refine wpL_o rfl ?_
    refine e_call rfl Try.call66 arr0 (count_L (S := SL NoB [blkE g14 (.cells #[I ((loopFault countL).1), I ((loopFault countL).2)] 27), rdE r10 (runsOut countL : List (List Int))])) ?_
    rintro _ H25 ⟨hxx, r20, r21, r22, r23, r24, rfl, hrr20, hrr21, hrr22, hrr23, hrr24⟩
    have hS26 : St H0 NoB NoB [rdE r20 (countL.Low : List Int), rdE r21 (countL.High : List Int), rdE r22 (countL.Start : List LRow), rdE r23 (countL.Jumps : List Jump), rdE r24 (countL.Bad : List LRow), blkE g14 (.cells #[I ((loopFault countL).1), I ((loopFault countL).2)] 27), rdE r10 (runsOut countL : List (List Int))] H25 := ((((((hS19.ext hxx).rd (hrr24.sub fun b hb => ⟨hb, SL.lt hS19 hb⟩)).rd (hrr23.sub fun b hb => ⟨(SL_rd hb), SL.lt hS19 (SL_rd hb)⟩)).rd (hrr22.sub fun b hb => ⟨(SL_rd (SL_rd hb)), SL.lt hS19 (SL_rd (SL_rd hb))⟩)).rd (hrr21.sub fun b hb => ⟨(SL_rd (SL_rd (SL_rd hb))), SL.lt hS19 (SL_rd (SL_rd (SL_rd hb)))⟩)).rd (hrr20.sub fun b hb => ⟨(SL_rd (SL_rd (SL_rd (SL_rd hb)))), SL.lt hS19 (SL_rd (SL_rd (SL_rd (SL_rd hb))))⟩))
    refine wpL_o rfl ?_
    refine e_buildSlice (vs := [I (3)]) (xs := ([3] : List Int)) rfl Try.underlying32 Try.zeroValue3 rfl Try.sizeOf3 (par1 (v0 := I (3)) rfl) rfl hS26 (RdVs.cons (Rd.int.2 ⟨rfl, by constructor <;> omega⟩) (RdVs.nil)) (by decide) (by decide) (fun v28 H29 hS30 hxx hvv28 => ?_)
    replace hS30 : St H0 NoB NoB [rowE 3 v28 ([3] : List Int), rdE r20 (countL.Low : List Int), rdE r21 (countL.High : List Int), rdE r22 (countL.Start : List LRow), rdE r23 (countL.Jumps : List Jump), rdE r24 (countL.Bad : List LRow), blkE g14 (.cells #[I ((loopFault countL).1), I ((loopFault countL).2)] 27), rdE r10 (runsOut countL : List (List Int))] H29 := hS30
    have hS31 : St H0 NoB NoB [rdE v28 ([3] : List Int), rdE r20 (countL.Low : List Int), rdE r21 (countL.High : List Int), rdE r22 (countL.Start : List LRow), rdE r23 (countL.Jumps : List Jump), rdE r24 (countL.Bad : List LRow), blkE g14 (.cells #[I ((loopFault countL).1), I ((loopFault countL).2)] 27), rdE r10 (runsOut countL : List (List Int))] H29 := St.fin hS30
    refine wpL_o rfl ?_
    refine e_call rfl Try.call25 (arr2 (v0 := Value.agg #[r20, r21, r22, r23, r24]) (v1 := v28) rfl rfl) (Next_L r20 r21 r22 r23 r24 v28 countL ([3]) (hS31.rdS 1 rfl) (hS31.rdS 2 rfl) (hS31.rdS 3 rfl) (hS31.rdS 4 rfl) (hS31.rdS 5 rfl) (hS31.rdS 0 rfl) ) ?_
    rintro _ H33 ⟨hxx, r32, rfl, hrr32⟩
    have hS34 : St H0 NoB NoB [rdE r32 (nextOut countL ([3]) : List (List Int)), rdE v28 ([3] : List Int), rdE r20 (countL.Low : List Int), rdE r21 (countL.High : List Int), rdE r22 (countL.Start : List LRow), rdE r23 (countL.Jumps : List Jump), rdE r24 (countL.Bad : List LRow), blkE g14 (.cells #[I ((loopFault countL).1), I ((loopFault countL).2)] 27), rdE r10 (runsOut countL : List (List Int))] H33 := hS31.res hxx hrr32
    refine wpL_q (U := NoB) rfl (q_move (v := Value.tuple #[r32, Value.agg #[I ((nextFault countL ([3])).1), I ((nextFault countL ([3])).2)]]) rfl rfl) ?_
    refine wpL_q (U := NoB) rfl (q_extract (vs := #[r32, Value.agg #[I ((nextFault countL ([3])).1), I ((nextFault countL ([3])).2)]]) (v := r32) rfl rfl rfl) ?_
    refine wpL_q (U := NoB) rfl (q_extract (vs := #[r32, Value.agg #[I ((nextFault countL ([3])).1), I ((nextFault countL ([3])).2)]]) (v := Value.agg #[I ((nextFault countL ([3])).1), I ((nextFault countL ([3])).2)]) rfl rfl rfl) ?_
    refine wpL_o rfl ?_
    refine e_alloc rfl Try.zeroValue27 hS34 (fun g36 H37 hS38 hxx => ?_)
    replace hS38 : St H0 NoB NoB [blkE g36 (.cells #[I (0), I (0)] 27), rdE r32 (nextOut countL ([3]) : List (List Int)), rdE v28 ([3] : List Int), rdE r20 (countL.Low : List Int), rdE r21 (countL.High : List Int), rdE r22 (countL.Start : List LRow), rdE r23 (countL.Jumps : List Jump), rdE r24 (countL.Bad : List LRow), blkE g14 (.cells #[I ((loopFault countL).1), I ((loopFault countL).2)] 27), rdE r10 (runsOut countL : List (List Int))] H37 := hS38
    refine wpL_q (U := NoB) rfl (q_assign (v := r32) rfl rfl) ?_
    refine wpL_o rfl ?_
    refine e_storeBlkA (cs' := #[I ((nextFault countL ([3])).1), I ((nextFault countL ([3])).2)]) rfl rfl rfl Try.sizeOf27 rfl rfl (List.forall_mem_cons.2 ⟨rfl, List.forall_mem_cons.2 ⟨rfl, List.forall_mem_nil _⟩⟩) hS38 (fun H39 hS40 hxx => ?_)
    replace hS40 : St H0 NoB NoB [blkE g36 (.cells #[I ((nextFault countL ([3])).1), I ((nextFault countL ([3])).2)] 27), rdE r32 (nextOut countL ([3]) : List (List Int)), rdE v28 ([3] : List Int), rdE r20 (countL.Low : List Int), rdE r21 (countL.High : List Int), rdE r22 (countL.Start : List LRow), rdE r23 (countL.Jumps : List Jump), rdE r24 (countL.Bad : List LRow), blkE g14 (.cells #[I ((loopFault countL).1), I ((loopFault countL).2)] 27), rdE r10 (runsOut countL : List (List Int))] H39 := hS40
    exact ⟨r32, g36, a19_1, a19_2, rfl, rfl, (hS40.drop (List.Sublist.cons_cons _ (List.Sublist.cons_cons _ (List.Sublist.cons _ (List.Sublist.cons _ (List.Sublist.cons _ (List.Sublist.cons _ (List.Sublist.cons _ (List.Sublist.cons _ (List.Sublist.cons_cons _ (List.Sublist.cons_cons _ (List.Sublist.slnil))))))))))))⟩
  rintro f41 H41 ⟨r32, g36, a41_1, a41_2, a41_3, a41_4, hS41⟩
  clear a19_1 a19_2
  refine wpF_seq ?_
  refine wpF_cut (fun f H => ∃ (r42o6 : Value), ∃ (g42o10 : Nat), f 1 = r10 ∧ f 2 = PT g14 0 ∧ f 3 = r32 ∧ f 4 = PT g36 0 ∧ f 5 = r42o6 ∧ f 6 = PT g42o10 0 ∧ St H0 NoB NoB [blkE g42o10 (.cells #[I ((wantFault (nth countL.Jumps 0) countL.Bad).1), I ((wantFault (nth countL.Jumps 0) countL.Bad).2)] 27), rdE r42o6 (wantAll (nth countL.Jumps 0) countL.Bad : List LRow), blkE g36 (.cells #[I ((nextFault countL ([3])).1), I ((nextFault countL ([3])).2)] 27), rdE r32 (nextOut countL ([3]) : List (List Int)), blkE g14 (.cells #[I ((loopFault countL).1), I ((loopFault countL).2)] 27), rdE r10 (runsOut countL : List (List Int))] H) ?_ ?_
  · refine wpF_drawn [none, none, none, none, none, none, none, none, none, none, none, none, some 0] [[], [], [], [], [], [], [], [], [], [], [], [], []] (fun l b => match l with | 0 => True | _ => False) (by kernel_rfl) (by kernel_rfl) ?_
    refine wpR_n [0, 10] (by kernel_rfl) ?_
    refine List.forall_mem_cons.2 ⟨?_, List.forall_mem_cons.2 ⟨?_, List.forall_mem_nil _⟩⟩
    · refine exE rfl rfl ?_
      refine e_call rfl Try.call66 arr0 (count_L (S := SL NoB [blkE g36 (.cells #[I ((nextFault countL ([3])).1), I ((nextFault countL ([3])).2)] 27), rdE r32 (nextOut countL ([3]) : List (List Int)), blkE g14 (.cells #[I ((loopFault countL).1), I ((loopFault countL).2)] 27), rdE r10 (runsOut countL : List (List Int))])) ?_
      rintro _ H42o0 ⟨hxx, r42o0, r42o0x2, r42o0x3, r42o0x4, r42o0x5, rfl, hrr42o0, hrr42o0x2, hrr42o0x3, hrr42o0x4, hrr42o0x5⟩
      have hS42o0 : St H0 NoB NoB [rdE r42o0 (countL.Low : List Int), rdE r42o0x2 (countL.High : List Int), rdE r42o0x3 (countL.Start : List LRow), rdE r42o0x4 (countL.Jumps : List Jump), rdE r42o0x5 (countL.Bad : List LRow), blkE g36 (.cells #[I ((nextFault countL ([3])).1), I ((nextFault countL ([3])).2)] 27), rdE r32 (nextOut countL ([3]) : List (List Int)), blkE g14 (.cells #[I ((loopFault countL).1), I ((loopFault countL).2)] 27), rdE r10 (runsOut countL : List (List Int))] H42o0 := ((((((hS41.ext hxx).rd (hrr42o0x5.sub fun b hb => ⟨hb, SL.lt hS41 hb⟩)).rd (hrr42o0x4.sub fun b hb => ⟨(SL_rd hb), SL.lt hS41 (SL_rd hb)⟩)).rd (hrr42o0x3.sub fun b hb => ⟨(SL_rd (SL_rd hb)), SL.lt hS41 (SL_rd (SL_rd hb))⟩)).rd (hrr42o0x2.sub fun b hb => ⟨(SL_rd (SL_rd (SL_rd hb))), SL.lt hS41 (SL_rd (SL_rd (SL_rd hb)))⟩)).rd (hrr42o0.sub fun b hb => ⟨(SL_rd (SL_rd (SL_rd (SL_rd hb)))), SL.lt hS41 (SL_rd (SL_rd (SL_rd (SL_rd hb))))⟩))
      refine ⟨Ext.mono hxx (fun _ h => h.elim), ?_⟩
      refine wpR_q 1 (by kernel_rfl) rfl (quietAt rfl rfl (q_field (cs := #[r42o0, r42o0x2, r42o0x3, r42o0x4, r42o0x5]) (v := r42o0x4) rfl Try.underlying42 rfl Try.isAgg40 rfl rfl)) ?_
      refine wpR_q 2 (by kernel_rfl) rfl (quietAt rfl rfl (q_indexRd (k := 0) rfl Try.underlying40 el_Jump_25_LoopF1 rfl rfl (hS42o0.rdl 3 rfl) (by omega) (by omega))) ?_
      obtain ⟨u42o3, huu42o3, hlu42o3⟩ := (Rd.list.1 (hS42o0.rdS 3 rfl)).elem 0 (by omega)
      obtain ⟨u42o3n0, u42o3n1, rfl, hu42o30, hu42o31⟩ := Rd.jump.1 huu42o3
      have hS42o3 : St H0 NoB NoB [rdE u42o3n0 ((nth countL.Jumps 0).When : List LRow), rdE r42o0 (countL.Low : List Int), rdE r42o0x2 (countL.High : List Int), rdE r42o0x3 (countL.Start : List LRow), rdE r42o0x4 (countL.Jumps : List Jump), rdE r42o0x5 (countL.Bad : List LRow), blkE g36 (.cells #[I ((nextFault countL ([3])).1), I ((nextFault countL ([3])).2)] 27), rdE r32 (nextOut countL ([3]) : List (List Int)), blkE g14 (.cells #[I ((loopFault countL).1), I ((loopFault countL).2)] 27), rdE r10 (runsOut countL : List (List Int))] H42o0 := hS42o0.rd hu42o30
      have hS42o3x2 : St H0 NoB NoB [rdE u42o3n1 ((nth countL.Jumps 0).To : List (List Int)), rdE u42o3n0 ((nth countL.Jumps 0).When : List LRow), rdE r42o0 (countL.Low : List Int), rdE r42o0x2 (countL.High : List Int), rdE r42o0x3 (countL.Start : List LRow), rdE r42o0x4 (countL.Jumps : List Jump), rdE r42o0x5 (countL.Bad : List LRow), blkE g36 (.cells #[I ((nextFault countL ([3])).1), I ((nextFault countL ([3])).2)] 27), rdE r32 (nextOut countL ([3]) : List (List Int)), blkE g14 (.cells #[I ((loopFault countL).1), I ((loopFault countL).2)] 27), rdE r10 (runsOut countL : List (List Int))] H42o0 := hS42o3.rd (hu42o31.sub fun _ hb => SL_rd hb)
      refine wpR_q 3 (by kernel_rfl) rfl (quietAt rfl rfl (q_loadE rfl rfl (hlu42o3 Try.prog 25 _ el_Jump_25_LoopF1 (labU_sub [] rfl (List.forall_mem_nil _))))) ?_
      refine wpR_n [4, 10] (by kernel_rfl) ?_
      refine List.forall_mem_cons.2 ⟨?_, List.forall_mem_cons.2 ⟨?_, List.forall_mem_nil _⟩⟩
      · refine exE rfl rfl ?_
        refine e_call rfl Try.call66 arr0 (count_L (S := SL NoB [rdE u42o3n1 ((nth countL.Jumps 0).To : List (List Int)), rdE u42o3n0 ((nth countL.Jumps 0).When : List LRow), rdE r42o0 (countL.Low : List Int), rdE r42o0x2 (countL.High : List Int), rdE r42o0x3 (countL.Start : List LRow), rdE r42o0x4 (countL.Jumps : List Jump), rdE r42o0x5 (countL.Bad : List LRow), blkE g36 (.cells #[I ((nextFault countL ([3])).1), I ((nextFault countL ([3])).2)] 27), rdE r32 (nextOut countL ([3]) : List (List Int)), blkE g14 (.cells #[I ((loopFault countL).1), I ((loopFault countL).2)] 27), rdE r10 (runsOut countL : List (List Int))])) ?_
        rintro _ H42o4 ⟨hxx, r42o4, r42o4x2, r42o4x3, r42o4x4, r42o4x5, rfl, hrr42o4, hrr42o4x2, hrr42o4x3, hrr42o4x4, hrr42o4x5⟩
        have hS42o4 : St H0 NoB NoB [rdE r42o4 (countL.Low : List Int), rdE r42o4x2 (countL.High : List Int), rdE r42o4x3 (countL.Start : List LRow), rdE r42o4x4 (countL.Jumps : List Jump), rdE r42o4x5 (countL.Bad : List LRow), rdE u42o3n1 ((nth countL.Jumps 0).To : List (List Int)), rdE u42o3n0 ((nth countL.Jumps 0).When : List LRow), rdE r42o0 (countL.Low : List Int), rdE r42o0x2 (countL.High : List Int), rdE r42o0x3 (countL.Start : List LRow), rdE r42o0x4 (countL.Jumps : List Jump), rdE r42o0x5 (countL.Bad : List LRow), blkE g36 (.cells #[I ((nextFault countL ([3])).1), I ((nextFault countL ([3])).2)] 27), rdE r32 (nextOut countL ([3]) : List (List Int)), blkE g14 (.cells #[I ((loopFault countL).1), I ((loopFault countL).2)] 27), rdE r10 (runsOut countL : List (List Int))] H42o4 := ((((((hS42o3x2.ext hxx).rd (hrr42o4x5.sub fun b hb => ⟨hb, SL.lt hS42o3x2 hb⟩)).rd (hrr42o4x4.sub fun b hb => ⟨(SL_rd hb), SL.lt hS42o3x2 (SL_rd hb)⟩)).rd (hrr42o4x3.sub fun b hb => ⟨(SL_rd (SL_rd hb)), SL.lt hS42o3x2 (SL_rd (SL_rd hb))⟩)).rd (hrr42o4x2.sub fun b hb => ⟨(SL_rd (SL_rd (SL_rd hb))), SL.lt hS42o3x2 (SL_rd (SL_rd (SL_rd hb)))⟩)).rd (hrr42o4.sub fun b hb => ⟨(SL_rd (SL_rd (SL_rd (SL_rd hb)))), SL.lt hS42o3x2 (SL_rd (SL_rd (SL_rd (SL_rd hb))))⟩))
        refine ⟨Ext.mono hxx (fun _ h => h.elim), ?_⟩
        refine wpR_q 5 (by kernel_rfl) rfl (quietAt rfl rfl (q_field (cs := #[r42o4, r42o4x2, r42o4x3, r42o4x4, r42o4x5]) (v := r42o4x5) rfl Try.underlying42 rfl Try.isAgg22 rfl rfl)) ?_
        refine wpR_n [6, 10] (by kernel_rfl) ?_
        refine List.forall_mem_cons.2 ⟨?_, List.forall_mem_cons.2 ⟨?_, List.forall_mem_nil _⟩⟩
        · refine exE rfl rfl ?_
          refine e_call rfl Try.call17 (arr2 (v0 := Value.agg #[u42o3n0, u42o3n1]) (v1 := r42o4x5) rfl rfl) (Want_L u42o3n0 u42o3n1 r42o4x5 (nth countL.Jumps 0) countL.Bad (hS42o4.rdS 6 rfl) (hS42o4.rdS 5 rfl) (hS42o4.rdS 4 rfl)) ?_
          rintro _ H42o6 ⟨hxx, r42o6, rfl, hrr42o6⟩
          have hS42o6 : St H0 NoB NoB [rdE r42o6 (wantAll (nth countL.Jumps 0) countL.Bad : List LRow), rdE r42o4 (countL.Low : List Int), rdE r42o4x2 (countL.High : List Int), rdE r42o4x3 (countL.Start : List LRow), rdE r42o4x4 (countL.Jumps : List Jump), rdE r42o4x5 (countL.Bad : List LRow), rdE u42o3n1 ((nth countL.Jumps 0).To : List (List Int)), rdE u42o3n0 ((nth countL.Jumps 0).When : List LRow), rdE r42o0 (countL.Low : List Int), rdE r42o0x2 (countL.High : List Int), rdE r42o0x3 (countL.Start : List LRow), rdE r42o0x4 (countL.Jumps : List Jump), rdE r42o0x5 (countL.Bad : List LRow), blkE g36 (.cells #[I ((nextFault countL ([3])).1), I ((nextFault countL ([3])).2)] 27), rdE r32 (nextOut countL ([3]) : List (List Int)), blkE g14 (.cells #[I ((loopFault countL).1), I ((loopFault countL).2)] 27), rdE r10 (runsOut countL : List (List Int))] H42o6 := (hS42o4.res hxx hrr42o6)
          refine ⟨Ext.mono hxx (fun _ h => h.elim), ?_⟩
          refine wpR_q 7 (by kernel_rfl) rfl (quietAt rfl rfl (q_move (v := Value.tuple #[r42o6, Value.agg #[I ((wantFault (nth countL.Jumps 0) countL.Bad).1), I ((wantFault (nth countL.Jumps 0) countL.Bad).2)]]) rfl rfl)) ?_
          refine wpR_q 8 (by kernel_rfl) rfl (quietAt rfl rfl (q_extract (vs := #[r42o6, Value.agg #[I ((wantFault (nth countL.Jumps 0) countL.Bad).1), I ((wantFault (nth countL.Jumps 0) countL.Bad).2)]]) (v := r42o6) rfl rfl rfl)) ?_
          refine wpR_q 9 (by kernel_rfl) rfl (quietAt rfl rfl (q_extract (vs := #[r42o6, Value.agg #[I ((wantFault (nth countL.Jumps 0) countL.Bad).1), I ((wantFault (nth countL.Jumps 0) countL.Bad).2)]]) (v := Value.agg #[I ((wantFault (nth countL.Jumps 0) countL.Bad).1), I ((wantFault (nth countL.Jumps 0) countL.Bad).2)]) rfl rfl rfl)) ?_
          refine wpR_n [10] (by kernel_rfl) ?_
          refine List.forall_mem_cons.2 ⟨?_, List.forall_mem_nil _⟩
          refine exE rfl rfl ?_
          refine e_alloc rfl Try.zeroValue27 hS42o6 (fun g42o10 H42o10 hS42o10 hxx => ?_)
          replace hS42o10 : St H0 NoB NoB [blkE g42o10 (.cells #[I (0), I (0)] 27), rdE r42o6 (wantAll (nth countL.Jumps 0) countL.Bad : List LRow), rdE r42o4 (countL.Low : List Int), rdE r42o4x2 (countL.High : List Int), rdE r42o4x3 (countL.Start : List LRow), rdE r42o4x4 (countL.Jumps : List Jump), rdE r42o4x5 (countL.Bad : List LRow), rdE u42o3n1 ((nth countL.Jumps 0).To : List (List Int)), rdE u42o3n0 ((nth countL.Jumps 0).When : List LRow), rdE r42o0 (countL.Low : List Int), rdE r42o0x2 (countL.High : List Int), rdE r42o0x3 (countL.Start : List LRow), rdE r42o0x4 (countL.Jumps : List Jump), rdE r42o0x5 (countL.Bad : List LRow), blkE g36 (.cells #[I ((nextFault countL ([3])).1), I ((nextFault countL ([3])).2)] 27), rdE r32 (nextOut countL ([3]) : List (List Int)), blkE g14 (.cells #[I ((loopFault countL).1), I ((loopFault countL).2)] 27), rdE r10 (runsOut countL : List (List Int))] H42o10 := hS42o10
          refine ⟨Ext.mono hxx (fun _ h => h.elim), ?_⟩
          refine wpR_q 11 (by kernel_rfl) rfl (quietAt rfl rfl (q_assign (v := r42o6) rfl rfl)) ?_
          refine wpR_n [12] (by kernel_rfl) ?_
          refine List.forall_mem_cons.2 ⟨?_, List.forall_mem_nil _⟩
          refine exE rfl rfl ?_
          refine e_storeBlkA (cs' := #[I ((wantFault (nth countL.Jumps 0) countL.Bad).1), I ((wantFault (nth countL.Jumps 0) countL.Bad).2)]) rfl rfl rfl Try.sizeOf27 rfl rfl (List.forall_mem_cons.2 ⟨rfl, List.forall_mem_cons.2 ⟨rfl, List.forall_mem_nil _⟩⟩) hS42o10 (fun H42o12 hS42o12 hxx => ?_)
          replace hS42o12 : St H0 NoB NoB [blkE g42o10 (.cells #[I ((wantFault (nth countL.Jumps 0) countL.Bad).1), I ((wantFault (nth countL.Jumps 0) countL.Bad).2)] 27), rdE r42o6 (wantAll (nth countL.Jumps 0) countL.Bad : List LRow), rdE r42o4 (countL.Low : List Int), rdE r42o4x2 (countL.High : List Int), rdE r42o4x3 (countL.Start : List LRow), rdE r42o4x4 (countL.Jumps : List Jump), rdE r42o4x5 (countL.Bad : List LRow), rdE u42o3n1 ((nth countL.Jumps 0).To : List (List Int)), rdE u42o3n0 ((nth countL.Jumps 0).When : List LRow), rdE r42o0 (countL.Low : List Int), rdE r42o0x2 (countL.High : List Int), rdE r42o0x3 (countL.Start : List LRow), rdE r42o0x4 (countL.Jumps : List Jump), rdE r42o0x5 (countL.Bad : List LRow), blkE g36 (.cells #[I ((nextFault countL ([3])).1), I ((nextFault countL ([3])).2)] 27), rdE r32 (nextOut countL ([3]) : List (List Int)), blkE g14 (.cells #[I ((loopFault countL).1), I ((loopFault countL).2)] 27), rdE r10 (runsOut countL : List (List Int))] H42o12 := hS42o12
          refine ⟨Ext.mono hxx (labS_of 0 rfl (fun _ _ => trivial)), ?_⟩
          refine wpR_end (by kernel_rfl) ?_
          exact ⟨r42o6, g42o10, a41_1, a41_2, a41_3, a41_4, rfl, rfl, (hS42o12.drop (List.Sublist.cons_cons _ (List.Sublist.cons_cons _ (List.Sublist.cons _ (List.Sublist.cons _ (List.Sublist.cons _ (List.Sublist.cons _ (List.Sublist.cons _ (List.Sublist.cons _ (List.Sublist.cons _ (List.Sublist.cons _ (List.Sublist.cons _ (List.Sublist.cons _ (List.Sublist.cons _ (List.Sublist.cons _ (List.Sublist.cons_cons _ (List.Sublist.cons_cons _ (List.Sublist.cons_cons _ (List.Sublist.cons_cons _ (List.Sublist.slnil))))))))))))))))))))⟩
        · refine exE rfl rfl ?_
          refine e_alloc rfl Try.zeroValue27 hS42o4 (fun g42o10 H42o10 hS42o10 hxx => ?_)
          replace hS42o10 : St H0 NoB NoB [blkE g42o10 (.cells #[I (0), I (0)] 27), rdE r42o4 (countL.Low : List Int), rdE r42o4x2 (countL.High : List Int), rdE r42o4x3 (countL.Start : List LRow), rdE r42o4x4 (countL.Jumps : List Jump), rdE r42o4x5 (countL.Bad : List LRow), rdE u42o3n1 ((nth countL.Jumps 0).To : List (List Int)), rdE u42o3n0 ((nth countL.Jumps 0).When : List LRow), rdE r42o0 (countL.Low : List Int), rdE r42o0x2 (countL.High : List Int), rdE r42o0x3 (countL.Start : List LRow), rdE r42o0x4 (countL.Jumps : List Jump), rdE r42o0x5 (countL.Bad : List LRow), blkE g36 (.cells #[I ((nextFault countL ([3])).1), I ((nextFault countL ([3])).2)] 27), rdE r32 (nextOut countL ([3]) : List (List Int)), blkE g14 (.cells #[I ((loopFault countL).1), I ((loopFault countL).2)] 27), rdE r10 (runsOut countL : List (List Int))] H42o10 := hS42o10
          refine ⟨Ext.mono hxx (fun _ h => h.elim), ?_⟩
          refine wpR_n [6] (by kernel_rfl) ?_
          refine List.forall_mem_cons.2 ⟨?_, List.forall_mem_nil _⟩
          refine exE rfl rfl ?_
          refine e_call rfl Try.call17 (arr2 (v0 := Value.agg #[u42o3n0, u42o3n1]) (v1 := r42o4x5) rfl rfl) (Want_L u42o3n0 u42o3n1 r42o4x5 (nth countL.Jumps 0) countL.Bad (hS42o10.rdS 7 rfl) (hS42o10.rdS 6 rfl) (hS42o10.rdS 5 rfl)) ?_
          rintro _ H42o6 ⟨hxx, r42o6, rfl, hrr42o6⟩
          have hS42o6 : St H0 NoB NoB [rdE r42o6 (wantAll (nth countL.Jumps 0) countL.Bad : List LRow), blkE g42o10 (.cells #[I (0), I (0)] 27), rdE r42o4 (countL.Low : List Int), rdE r42o4x2 (countL.High : List Int), rdE r42o4x3 (countL.Start : List LRow), rdE r42o4x4 (countL.Jumps : List Jump), rdE r42o4x5 (countL.Bad : List LRow), rdE u42o3n1 ((nth countL.Jumps 0).To : List (List Int)), rdE u42o3n0 ((nth countL.Jumps 0).When : List LRow), rdE r42o0 (countL.Low : List Int), rdE r42o0x2 (countL.High : List Int), rdE r42o0x3 (countL.Start : List LRow), rdE r42o0x4 (countL.Jumps : List Jump), rdE r42o0x5 (countL.Bad : List LRow), blkE g36 (.cells #[I ((nextFault countL ([3])).1), I ((nextFault countL ([3])).2)] 27), rdE r32 (nextOut countL ([3]) : List (List Int)), blkE g14 (.cells #[I ((loopFault countL).1), I ((loopFault countL).2)] 27), rdE r10 (runsOut countL : List (List Int))] H42o6 := (hS42o10.res hxx hrr42o6)
          refine ⟨Ext.mono hxx (fun _ h => h.elim), ?_⟩
          refine wpR_q 7 (by kernel_rfl) rfl (quietAt rfl rfl (q_move (v := Value.tuple #[r42o6, Value.agg #[I ((wantFault (nth countL.Jumps 0) countL.Bad).1), I ((wantFault (nth countL.Jumps 0) countL.Bad).2)]]) rfl rfl)) ?_
          refine wpR_q 8 (by kernel_rfl) rfl (quietAt rfl rfl (q_extract (vs := #[r42o6, Value.agg #[I ((wantFault (nth countL.Jumps 0) countL.Bad).1), I ((wantFault (nth countL.Jumps 0) countL.Bad).2)]]) (v := r42o6) rfl rfl rfl)) ?_
          refine wpR_q 9 (by kernel_rfl) rfl (quietAt rfl rfl (q_extract (vs := #[r42o6, Value.agg #[I ((wantFault (nth countL.Jumps 0) countL.Bad).1), I ((wantFault (nth countL.Jumps 0) countL.Bad).2)]]) (v := Value.agg #[I ((wantFault (nth countL.Jumps 0) countL.Bad).1), I ((wantFault (nth countL.Jumps 0) countL.Bad).2)]) rfl rfl rfl)) ?_
          refine wpR_q 11 (by kernel_rfl) rfl (quietAt rfl rfl (q_assign (v := r42o6) rfl rfl)) ?_
          refine wpR_n [12] (by kernel_rfl) ?_
          refine List.forall_mem_cons.2 ⟨?_, List.forall_mem_nil _⟩
          refine exE rfl rfl ?_
          refine e_storeBlkA (cs' := #[I ((wantFault (nth countL.Jumps 0) countL.Bad).1), I ((wantFault (nth countL.Jumps 0) countL.Bad).2)]) rfl rfl rfl Try.sizeOf27 rfl rfl (List.forall_mem_cons.2 ⟨rfl, List.forall_mem_cons.2 ⟨rfl, List.forall_mem_nil _⟩⟩) (hS42o6.front 1 rfl) (fun H42o12 hS42o12 hxx => ?_)
          replace hS42o12 : St H0 NoB NoB [blkE g42o10 (.cells #[I ((wantFault (nth countL.Jumps 0) countL.Bad).1), I ((wantFault (nth countL.Jumps 0) countL.Bad).2)] 27), rdE r42o6 (wantAll (nth countL.Jumps 0) countL.Bad : List LRow), rdE r42o4 (countL.Low : List Int), rdE r42o4x2 (countL.High : List Int), rdE r42o4x3 (countL.Start : List LRow), rdE r42o4x4 (countL.Jumps : List Jump), rdE r42o4x5 (countL.Bad : List LRow), rdE u42o3n1 ((nth countL.Jumps 0).To : List (List Int)), rdE u42o3n0 ((nth countL.Jumps 0).When : List LRow), rdE r42o0 (countL.Low : List Int), rdE r42o0x2 (countL.High : List Int), rdE r42o0x3 (countL.Start : List LRow), rdE r42o0x4 (countL.Jumps : List Jump), rdE r42o0x5 (countL.Bad : List LRow), blkE g36 (.cells #[I ((nextFault countL ([3])).1), I ((nextFault countL ([3])).2)] 27), rdE r32 (nextOut countL ([3]) : List (List Int)), blkE g14 (.cells #[I ((loopFault countL).1), I ((loopFault countL).2)] 27), rdE r10 (runsOut countL : List (List Int))] H42o12 := hS42o12
          refine ⟨Ext.mono hxx (labS_of 0 rfl (fun _ _ => trivial)), ?_⟩
          refine wpR_end (by kernel_rfl) ?_
          exact ⟨r42o6, g42o10, a41_1, a41_2, a41_3, a41_4, rfl, rfl, (hS42o12.drop (List.Sublist.cons_cons _ (List.Sublist.cons_cons _ (List.Sublist.cons _ (List.Sublist.cons _ (List.Sublist.cons _ (List.Sublist.cons _ (List.Sublist.cons _ (List.Sublist.cons _ (List.Sublist.cons _ (List.Sublist.cons _ (List.Sublist.cons _ (List.Sublist.cons _ (List.Sublist.cons _ (List.Sublist.cons _ (List.Sublist.cons_cons _ (List.Sublist.cons_cons _ (List.Sublist.cons_cons _ (List.Sublist.cons_cons _ (List.Sublist.slnil))))))))))))))))))))⟩
      · refine exE rfl rfl ?_
        refine e_alloc rfl Try.zeroValue27 hS42o3x2 (fun g42o10 H42o10 hS42o10 hxx => ?_)
        replace hS42o10 : St H0 NoB NoB [blkE g42o10 (.cells #[I (0), I (0)] 27), rdE u42o3n1 ((nth countL.Jumps 0).To : List (List Int)), rdE u42o3n0 ((nth countL.Jumps 0).When : List LRow), rdE r42o0 (countL.Low : List Int), rdE r42o0x2 (countL.High : List Int), rdE r42o0x3 (countL.Start : List LRow), rdE r42o0x4 (countL.Jumps : List Jump), rdE r42o0x5 (countL.Bad : List LRow), blkE g36 (.cells #[I ((nextFault countL ([3])).1), I ((nextFault countL ([3])).2)] 27), rdE r32 (nextOut countL ([3]) : List (List Int)), blkE g14 (.cells #[I ((loopFault countL).1), I ((loopFault countL).2)] 27), rdE r10 (runsOut countL : List (List Int))] H42o10 := hS42o10
        refine ⟨Ext.mono hxx (fun _ h => h.elim), ?_⟩
        refine wpR_n [4] (by kernel_rfl) ?_
        refine List.forall_mem_cons.2 ⟨?_, List.forall_mem_nil _⟩
        refine exE rfl rfl ?_
        refine e_call rfl Try.call66 arr0 (count_L (S := SL NoB [blkE g42o10 (.cells #[I (0), I (0)] 27), rdE u42o3n1 ((nth countL.Jumps 0).To : List (List Int)), rdE u42o3n0 ((nth countL.Jumps 0).When : List LRow), rdE r42o0 (countL.Low : List Int), rdE r42o0x2 (countL.High : List Int), rdE r42o0x3 (countL.Start : List LRow), rdE r42o0x4 (countL.Jumps : List Jump), rdE r42o0x5 (countL.Bad : List LRow), blkE g36 (.cells #[I ((nextFault countL ([3])).1), I ((nextFault countL ([3])).2)] 27), rdE r32 (nextOut countL ([3]) : List (List Int)), blkE g14 (.cells #[I ((loopFault countL).1), I ((loopFault countL).2)] 27), rdE r10 (runsOut countL : List (List Int))])) ?_
        rintro _ H42o4 ⟨hxx, r42o4, r42o4x2, r42o4x3, r42o4x4, r42o4x5, rfl, hrr42o4, hrr42o4x2, hrr42o4x3, hrr42o4x4, hrr42o4x5⟩
        have hS42o4 : St H0 NoB NoB [rdE r42o4 (countL.Low : List Int), rdE r42o4x2 (countL.High : List Int), rdE r42o4x3 (countL.Start : List LRow), rdE r42o4x4 (countL.Jumps : List Jump), rdE r42o4x5 (countL.Bad : List LRow), blkE g42o10 (.cells #[I (0), I (0)] 27), rdE u42o3n1 ((nth countL.Jumps 0).To : List (List Int)), rdE u42o3n0 ((nth countL.Jumps 0).When : List LRow), rdE r42o0 (countL.Low : List Int), rdE r42o0x2 (countL.High : List Int), rdE r42o0x3 (countL.Start : List LRow), rdE r42o0x4 (countL.Jumps : List Jump), rdE r42o0x5 (countL.Bad : List LRow), blkE g36 (.cells #[I ((nextFault countL ([3])).1), I ((nextFault countL ([3])).2)] 27), rdE r32 (nextOut countL ([3]) : List (List Int)), blkE g14 (.cells #[I ((loopFault countL).1), I ((loopFault countL).2)] 27), rdE r10 (runsOut countL : List (List Int))] H42o4 := ((((((hS42o10.ext hxx).rd (hrr42o4x5.sub fun b hb => ⟨hb, SL.lt hS42o10 hb⟩)).rd (hrr42o4x4.sub fun b hb => ⟨(SL_rd hb), SL.lt hS42o10 (SL_rd hb)⟩)).rd (hrr42o4x3.sub fun b hb => ⟨(SL_rd (SL_rd hb)), SL.lt hS42o10 (SL_rd (SL_rd hb))⟩)).rd (hrr42o4x2.sub fun b hb => ⟨(SL_rd (SL_rd (SL_rd hb))), SL.lt hS42o10 (SL_rd (SL_rd (SL_rd hb)))⟩)).rd (hrr42o4.sub fun b hb => ⟨(SL_rd (SL_rd (SL_rd (SL_rd hb)))), SL.lt hS42o10 (SL_rd (SL_rd (SL_rd (SL_rd hb))))⟩))
        refine ⟨Ext.mono hxx (fun _ h => h.elim), ?_⟩
        refine wpR_q 5 (by kernel_rfl) rfl (quietAt rfl rfl (q_field (cs := #[r42o4, r42o4x2, r42o4x3, r42o4x4, r42o4x5]) (v := r42o4x5) rfl Try.underlying42 rfl Try.isAgg22 rfl rfl)) ?_
        refine wpR_n [6] (by kernel_rfl) ?_
        refine List.forall_mem_cons.2 ⟨?_, List.forall_mem_nil _⟩
        refine exE rfl rfl ?_
        refine e_call rfl Try.call17 (arr2 (v0 := Value.agg #[u42o3n0, u42o3n1]) (v1 := r42o4x5) rfl rfl) (Want_L u42o3n0 u42o3n1 r42o4x5 (nth countL.Jumps 0) countL.Bad (hS42o4.rdS 7 rfl) (hS42o4.rdS 6 rfl) (hS42o4.rdS 4 rfl)) ?_
        rintro _ H42o6 ⟨hxx, r42o6, rfl, hrr42o6⟩
        have hS42o6 : St H0 NoB NoB [rdE r42o6 (wantAll (nth countL.Jumps 0) countL.Bad : List LRow), rdE r42o4 (countL.Low : List Int), rdE r42o4x2 (countL.High : List Int), rdE r42o4x3 (countL.Start : List LRow), rdE r42o4x4 (countL.Jumps : List Jump), rdE r42o4x5 (countL.Bad : List LRow), blkE g42o10 (.cells #[I (0), I (0)] 27), rdE u42o3n1 ((nth countL.Jumps 0).To : List (List Int)), rdE u42o3n0 ((nth countL.Jumps 0).When : List LRow), rdE r42o0 (countL.Low : List Int), rdE r42o0x2 (countL.High : List Int), rdE r42o0x3 (countL.Start : List LRow), rdE r42o0x4 (countL.Jumps : List Jump), rdE r42o0x5 (countL.Bad : List LRow), blkE g36 (.cells #[I ((nextFault countL ([3])).1), I ((nextFault countL ([3])).2)] 27), rdE r32 (nextOut countL ([3]) : List (List Int)), blkE g14 (.cells #[I ((loopFault countL).1), I ((loopFault countL).2)] 27), rdE r10 (runsOut countL : List (List Int))] H42o6 := (hS42o4.res hxx hrr42o6)
        refine ⟨Ext.mono hxx (fun _ h => h.elim), ?_⟩
        refine wpR_q 7 (by kernel_rfl) rfl (quietAt rfl rfl (q_move (v := Value.tuple #[r42o6, Value.agg #[I ((wantFault (nth countL.Jumps 0) countL.Bad).1), I ((wantFault (nth countL.Jumps 0) countL.Bad).2)]]) rfl rfl)) ?_
        refine wpR_q 8 (by kernel_rfl) rfl (quietAt rfl rfl (q_extract (vs := #[r42o6, Value.agg #[I ((wantFault (nth countL.Jumps 0) countL.Bad).1), I ((wantFault (nth countL.Jumps 0) countL.Bad).2)]]) (v := r42o6) rfl rfl rfl)) ?_
        refine wpR_q 9 (by kernel_rfl) rfl (quietAt rfl rfl (q_extract (vs := #[r42o6, Value.agg #[I ((wantFault (nth countL.Jumps 0) countL.Bad).1), I ((wantFault (nth countL.Jumps 0) countL.Bad).2)]]) (v := Value.agg #[I ((wantFault (nth countL.Jumps 0) countL.Bad).1), I ((wantFault (nth countL.Jumps 0) countL.Bad).2)]) rfl rfl rfl)) ?_
        refine wpR_q 11 (by kernel_rfl) rfl (quietAt rfl rfl (q_assign (v := r42o6) rfl rfl)) ?_
        refine wpR_n [12] (by kernel_rfl) ?_
        refine List.forall_mem_cons.2 ⟨?_, List.forall_mem_nil _⟩
        refine exE rfl rfl ?_
        refine e_storeBlkA (cs' := #[I ((wantFault (nth countL.Jumps 0) countL.Bad).1), I ((wantFault (nth countL.Jumps 0) countL.Bad).2)]) rfl rfl rfl Try.sizeOf27 rfl rfl (List.forall_mem_cons.2 ⟨rfl, List.forall_mem_cons.2 ⟨rfl, List.forall_mem_nil _⟩⟩) (hS42o6.front 6 rfl) (fun H42o12 hS42o12 hxx => ?_)
        replace hS42o12 : St H0 NoB NoB [blkE g42o10 (.cells #[I ((wantFault (nth countL.Jumps 0) countL.Bad).1), I ((wantFault (nth countL.Jumps 0) countL.Bad).2)] 27), rdE r42o6 (wantAll (nth countL.Jumps 0) countL.Bad : List LRow), rdE r42o4 (countL.Low : List Int), rdE r42o4x2 (countL.High : List Int), rdE r42o4x3 (countL.Start : List LRow), rdE r42o4x4 (countL.Jumps : List Jump), rdE r42o4x5 (countL.Bad : List LRow), rdE u42o3n1 ((nth countL.Jumps 0).To : List (List Int)), rdE u42o3n0 ((nth countL.Jumps 0).When : List LRow), rdE r42o0 (countL.Low : List Int), rdE r42o0x2 (countL.High : List Int), rdE r42o0x3 (countL.Start : List LRow), rdE r42o0x4 (countL.Jumps : List Jump), rdE r42o0x5 (countL.Bad : List LRow), blkE g36 (.cells #[I ((nextFault countL ([3])).1), I ((nextFault countL ([3])).2)] 27), rdE r32 (nextOut countL ([3]) : List (List Int)), blkE g14 (.cells #[I ((loopFault countL).1), I ((loopFault countL).2)] 27), rdE r10 (runsOut countL : List (List Int))] H42o12 := hS42o12
        refine ⟨Ext.mono hxx (labS_of 0 rfl (fun _ _ => trivial)), ?_⟩
        refine wpR_end (by kernel_rfl) ?_
        exact ⟨r42o6, g42o10, a41_1, a41_2, a41_3, a41_4, rfl, rfl, (hS42o12.drop (List.Sublist.cons_cons _ (List.Sublist.cons_cons _ (List.Sublist.cons _ (List.Sublist.cons _ (List.Sublist.cons _ (List.Sublist.cons _ (List.Sublist.cons _ (List.Sublist.cons _ (List.Sublist.cons _ (List.Sublist.cons _ (List.Sublist.cons _ (List.Sublist.cons _ (List.Sublist.cons _ (List.Sublist.cons _ (List.Sublist.cons_cons _ (List.Sublist.cons_cons _ (List.Sublist.cons_cons _ (List.Sublist.cons_cons _ (List.Sublist.slnil))))))))))))))))))))⟩
    · refine exE rfl rfl ?_
      refine e_alloc rfl Try.zeroValue27 hS41 (fun g42o10 H42o10 hS42o10 hxx => ?_)
      replace hS42o10 : St H0 NoB NoB [blkE g42o10 (.cells #[I (0), I (0)] 27), blkE g36 (.cells #[I ((nextFault countL ([3])).1), I ((nextFault countL ([3])).2)] 27), rdE r32 (nextOut countL ([3]) : List (List Int)), blkE g14 (.cells #[I ((loopFault countL).1), I ((loopFault countL).2)] 27), rdE r10 (runsOut countL : List (List Int))] H42o10 := hS42o10
      refine ⟨Ext.mono hxx (fun _ h => h.elim), ?_⟩
      refine wpR_n [0] (by kernel_rfl) ?_
      refine List.forall_mem_cons.2 ⟨?_, List.forall_mem_nil _⟩
      refine exE rfl rfl ?_
      refine e_call rfl Try.call66 arr0 (count_L (S := SL NoB [blkE g42o10 (.cells #[I (0), I (0)] 27), blkE g36 (.cells #[I ((nextFault countL ([3])).1), I ((nextFault countL ([3])).2)] 27), rdE r32 (nextOut countL ([3]) : List (List Int)), blkE g14 (.cells #[I ((loopFault countL).1), I ((loopFault countL).2)] 27), rdE r10 (runsOut countL : List (List Int))])) ?_
      rintro _ H42o0 ⟨hxx, r42o0, r42o0x2, r42o0x3, r42o0x4, r42o0x5, rfl, hrr42o0, hrr42o0x2, hrr42o0x3, hrr42o0x4, hrr42o0x5⟩
      have hS42o0 : St H0 NoB NoB [rdE r42o0 (countL.Low : List Int), rdE r42o0x2 (countL.High : List Int), rdE r42o0x3 (countL.Start : List LRow), rdE r42o0x4 (countL.Jumps : List Jump), rdE r42o0x5 (countL.Bad : List LRow), blkE g42o10 (.cells #[I (0), I (0)] 27), blkE g36 (.cells #[I ((nextFault countL ([3])).1), I ((nextFault countL ([3])).2)] 27), rdE r32 (nextOut countL ([3]) : List (List Int)), blkE g14 (.cells #[I ((loopFault countL).1), I ((loopFault countL).2)] 27), rdE r10 (runsOut countL : List (List Int))] H42o0 := ((((((hS42o10.ext hxx).rd (hrr42o0x5.sub fun b hb => ⟨hb, SL.lt hS42o10 hb⟩)).rd (hrr42o0x4.sub fun b hb => ⟨(SL_rd hb), SL.lt hS42o10 (SL_rd hb)⟩)).rd (hrr42o0x3.sub fun b hb => ⟨(SL_rd (SL_rd hb)), SL.lt hS42o10 (SL_rd (SL_rd hb))⟩)).rd (hrr42o0x2.sub fun b hb => ⟨(SL_rd (SL_rd (SL_rd hb))), SL.lt hS42o10 (SL_rd (SL_rd (SL_rd hb)))⟩)).rd (hrr42o0.sub fun b hb => ⟨(SL_rd (SL_rd (SL_rd (SL_rd hb)))), SL.lt hS42o10 (SL_rd (SL_rd (SL_rd (SL_rd hb))))⟩))
      refine ⟨Ext.mono hxx (fun _ h => h.elim), ?_⟩
      refine wpR_q 1 (by kernel_rfl) rfl (quietAt rfl rfl (q_field (cs := #[r42o0, r42o0x2, r42o0x3, r42o0x4, r42o0x5]) (v := r42o0x4) rfl Try.underlying42 rfl Try.isAgg40 rfl rfl)) ?_
      refine wpR_q 2 (by kernel_rfl) rfl (quietAt rfl rfl (q_indexRd (k := 0) rfl Try.underlying40 el_Jump_25_LoopF1 rfl rfl (hS42o0.rdl 3 rfl) (by omega) (by omega))) ?_
      obtain ⟨u42o3, huu42o3, hlu42o3⟩ := (Rd.list.1 (hS42o0.rdS 3 rfl)).elem 0 (by omega)
      obtain ⟨u42o3n0, u42o3n1, rfl, hu42o30, hu42o31⟩ := Rd.jump.1 huu42o3
      have hS42o3 : St H0 NoB NoB [rdE u42o3n0 ((nth countL.Jumps 0).When : List LRow), rdE r42o0 (countL.Low : List Int), rdE r42o0x2 (countL.High : List Int), rdE r42o0x3 (countL.Start : List LRow), rdE r42o0x4 (countL.Jumps : List Jump), rdE r42o0x5 (countL.Bad : List LRow), blkE g42o10 (.cells #[I (0), I (0)] 27), blkE g36 (.cells #[I ((nextFault countL ([3])).1), I ((nextFault countL ([3])).2)] 27), rdE r32 (nextOut countL ([3]) : List (List Int)), blkE g14 (.cells #[I ((loopFault countL).1), I ((loopFault countL).2)] 27), rdE r10 (runsOut countL : List (List Int))] H42o0 := hS42o0.rd hu42o30
      have hS42o3x2 : St H0 NoB NoB [rdE u42o3n1 ((nth countL.Jumps 0).To : List (List Int)), rdE u42o3n0 ((nth countL.Jumps 0).When : List LRow), rdE r42o0 (countL.Low : List Int), rdE r42o0x2 (countL.High : List Int), rdE r42o0x3 (countL.Start : List LRow), rdE r42o0x4 (countL.Jumps : List Jump), rdE r42o0x5 (countL.Bad : List LRow), blkE g42o10 (.cells #[I (0), I (0)] 27), blkE g36 (.cells #[I ((nextFault countL ([3])).1), I ((nextFault countL ([3])).2)] 27), rdE r32 (nextOut countL ([3]) : List (List Int)), blkE g14 (.cells #[I ((loopFault countL).1), I ((loopFault countL).2)] 27), rdE r10 (runsOut countL : List (List Int))] H42o0 := hS42o3.rd (hu42o31.sub fun _ hb => SL_rd hb)
      refine wpR_q 3 (by kernel_rfl) rfl (quietAt rfl rfl (q_loadE rfl rfl (hlu42o3 Try.prog 25 _ el_Jump_25_LoopF1 (labU_sub [] rfl (List.forall_mem_nil _))))) ?_
      refine wpR_n [4] (by kernel_rfl) ?_
      refine List.forall_mem_cons.2 ⟨?_, List.forall_mem_nil _⟩
      refine exE rfl rfl ?_
      refine e_call rfl Try.call66 arr0 (count_L (S := SL NoB [rdE u42o3n1 ((nth countL.Jumps 0).To : List (List Int)), rdE u42o3n0 ((nth countL.Jumps 0).When : List LRow), rdE r42o0 (countL.Low : List Int), rdE r42o0x2 (countL.High : List Int), rdE r42o0x3 (countL.Start : List LRow), rdE r42o0x4 (countL.Jumps : List Jump), rdE r42o0x5 (countL.Bad : List LRow), blkE g42o10 (.cells #[I (0), I (0)] 27), blkE g36 (.cells #[I ((nextFault countL ([3])).1), I ((nextFault countL ([3])).2)] 27), rdE r32 (nextOut countL ([3]) : List (List Int)), blkE g14 (.cells #[I ((loopFault countL).1), I ((loopFault countL).2)] 27), rdE r10 (runsOut countL : List (List Int))])) ?_
      rintro _ H42o4 ⟨hxx, r42o4, r42o4x2, r42o4x3, r42o4x4, r42o4x5, rfl, hrr42o4, hrr42o4x2, hrr42o4x3, hrr42o4x4, hrr42o4x5⟩
      have hS42o4 : St H0 NoB NoB [rdE r42o4 (countL.Low : List Int), rdE r42o4x2 (countL.High : List Int), rdE r42o4x3 (countL.Start : List LRow), rdE r42o4x4 (countL.Jumps : List Jump), rdE r42o4x5 (countL.Bad : List LRow), rdE u42o3n1 ((nth countL.Jumps 0).To : List (List Int)), rdE u42o3n0 ((nth countL.Jumps 0).When : List LRow), rdE r42o0 (countL.Low : List Int), rdE r42o0x2 (countL.High : List Int), rdE r42o0x3 (countL.Start : List LRow), rdE r42o0x4 (countL.Jumps : List Jump), rdE r42o0x5 (countL.Bad : List LRow), blkE g42o10 (.cells #[I (0), I (0)] 27), blkE g36 (.cells #[I ((nextFault countL ([3])).1), I ((nextFault countL ([3])).2)] 27), rdE r32 (nextOut countL ([3]) : List (List Int)), blkE g14 (.cells #[I ((loopFault countL).1), I ((loopFault countL).2)] 27), rdE r10 (runsOut countL : List (List Int))] H42o4 := ((((((hS42o3x2.ext hxx).rd (hrr42o4x5.sub fun b hb => ⟨hb, SL.lt hS42o3x2 hb⟩)).rd (hrr42o4x4.sub fun b hb => ⟨(SL_rd hb), SL.lt hS42o3x2 (SL_rd hb)⟩)).rd (hrr42o4x3.sub fun b hb => ⟨(SL_rd (SL_rd hb)), SL.lt hS42o3x2 (SL_rd (SL_rd hb))⟩)).rd (hrr42o4x2.sub fun b hb => ⟨(SL_rd (SL_rd (SL_rd hb))), SL.lt hS42o3x2 (SL_rd (SL_rd (SL_rd hb)))⟩)).rd (hrr42o4.sub fun b hb => ⟨(SL_rd (SL_rd (SL_rd (SL_rd hb)))), SL.lt hS42o3x2 (SL_rd (SL_rd (SL_rd (SL_rd hb))))⟩))
      refine ⟨Ext.mono hxx (fun _ h => h.elim), ?_⟩
      refine wpR_q 5 (by kernel_rfl) rfl (quietAt rfl rfl (q_field (cs := #[r42o4, r42o4x2, r42o4x3, r42o4x4, r42o4x5]) (v := r42o4x5) rfl Try.underlying42 rfl Try.isAgg22 rfl rfl)) ?_
      refine wpR_n [6] (by kernel_rfl) ?_
      refine List.forall_mem_cons.2 ⟨?_, List.forall_mem_nil _⟩
      refine exE rfl rfl ?_
      refine e_call rfl Try.call17 (arr2 (v0 := Value.agg #[u42o3n0, u42o3n1]) (v1 := r42o4x5) rfl rfl) (Want_L u42o3n0 u42o3n1 r42o4x5 (nth countL.Jumps 0) countL.Bad (hS42o4.rdS 6 rfl) (hS42o4.rdS 5 rfl) (hS42o4.rdS 4 rfl)) ?_
      rintro _ H42o6 ⟨hxx, r42o6, rfl, hrr42o6⟩
      have hS42o6 : St H0 NoB NoB [rdE r42o6 (wantAll (nth countL.Jumps 0) countL.Bad : List LRow), rdE r42o4 (countL.Low : List Int), rdE r42o4x2 (countL.High : List Int), rdE r42o4x3 (countL.Start : List LRow), rdE r42o4x4 (countL.Jumps : List Jump), rdE r42o4x5 (countL.Bad : List LRow), rdE u42o3n1 ((nth countL.Jumps 0).To : List (List Int)), rdE u42o3n0 ((nth countL.Jumps 0).When : List LRow), rdE r42o0 (countL.Low : List Int), rdE r42o0x2 (countL.High : List Int), rdE r42o0x3 (countL.Start : List LRow), rdE r42o0x4 (countL.Jumps : List Jump), rdE r42o0x5 (countL.Bad : List LRow), blkE g42o10 (.cells #[I (0), I (0)] 27), blkE g36 (.cells #[I ((nextFault countL ([3])).1), I ((nextFault countL ([3])).2)] 27), rdE r32 (nextOut countL ([3]) : List (List Int)), blkE g14 (.cells #[I ((loopFault countL).1), I ((loopFault countL).2)] 27), rdE r10 (runsOut countL : List (List Int))] H42o6 := (hS42o4.res hxx hrr42o6)
      refine ⟨Ext.mono hxx (fun _ h => h.elim), ?_⟩
      refine wpR_q 7 (by kernel_rfl) rfl (quietAt rfl rfl (q_move (v := Value.tuple #[r42o6, Value.agg #[I ((wantFault (nth countL.Jumps 0) countL.Bad).1), I ((wantFault (nth countL.Jumps 0) countL.Bad).2)]]) rfl rfl)) ?_
      refine wpR_q 8 (by kernel_rfl) rfl (quietAt rfl rfl (q_extract (vs := #[r42o6, Value.agg #[I ((wantFault (nth countL.Jumps 0) countL.Bad).1), I ((wantFault (nth countL.Jumps 0) countL.Bad).2)]]) (v := r42o6) rfl rfl rfl)) ?_
      refine wpR_q 9 (by kernel_rfl) rfl (quietAt rfl rfl (q_extract (vs := #[r42o6, Value.agg #[I ((wantFault (nth countL.Jumps 0) countL.Bad).1), I ((wantFault (nth countL.Jumps 0) countL.Bad).2)]]) (v := Value.agg #[I ((wantFault (nth countL.Jumps 0) countL.Bad).1), I ((wantFault (nth countL.Jumps 0) countL.Bad).2)]) rfl rfl rfl)) ?_
      refine wpR_q 11 (by kernel_rfl) rfl (quietAt rfl rfl (q_assign (v := r42o6) rfl rfl)) ?_
      refine wpR_n [12] (by kernel_rfl) ?_
      refine List.forall_mem_cons.2 ⟨?_, List.forall_mem_nil _⟩
      refine exE rfl rfl ?_
      refine e_storeBlkA (cs' := #[I ((wantFault (nth countL.Jumps 0) countL.Bad).1), I ((wantFault (nth countL.Jumps 0) countL.Bad).2)]) rfl rfl rfl Try.sizeOf27 rfl rfl (List.forall_mem_cons.2 ⟨rfl, List.forall_mem_cons.2 ⟨rfl, List.forall_mem_nil _⟩⟩) (hS42o6.front 13 rfl) (fun H42o12 hS42o12 hxx => ?_)
      replace hS42o12 : St H0 NoB NoB [blkE g42o10 (.cells #[I ((wantFault (nth countL.Jumps 0) countL.Bad).1), I ((wantFault (nth countL.Jumps 0) countL.Bad).2)] 27), rdE r42o6 (wantAll (nth countL.Jumps 0) countL.Bad : List LRow), rdE r42o4 (countL.Low : List Int), rdE r42o4x2 (countL.High : List Int), rdE r42o4x3 (countL.Start : List LRow), rdE r42o4x4 (countL.Jumps : List Jump), rdE r42o4x5 (countL.Bad : List LRow), rdE u42o3n1 ((nth countL.Jumps 0).To : List (List Int)), rdE u42o3n0 ((nth countL.Jumps 0).When : List LRow), rdE r42o0 (countL.Low : List Int), rdE r42o0x2 (countL.High : List Int), rdE r42o0x3 (countL.Start : List LRow), rdE r42o0x4 (countL.Jumps : List Jump), rdE r42o0x5 (countL.Bad : List LRow), blkE g36 (.cells #[I ((nextFault countL ([3])).1), I ((nextFault countL ([3])).2)] 27), rdE r32 (nextOut countL ([3]) : List (List Int)), blkE g14 (.cells #[I ((loopFault countL).1), I ((loopFault countL).2)] 27), rdE r10 (runsOut countL : List (List Int))] H42o12 := hS42o12
      refine ⟨Ext.mono hxx (labS_of 0 rfl (fun _ _ => trivial)), ?_⟩
      refine wpR_end (by kernel_rfl) ?_
      exact ⟨r42o6, g42o10, a41_1, a41_2, a41_3, a41_4, rfl, rfl, (hS42o12.drop (List.Sublist.cons_cons _ (List.Sublist.cons_cons _ (List.Sublist.cons _ (List.Sublist.cons _ (List.Sublist.cons _ (List.Sublist.cons _ (List.Sublist.cons _ (List.Sublist.cons _ (List.Sublist.cons _ (List.Sublist.cons _ (List.Sublist.cons _ (List.Sublist.cons _ (List.Sublist.cons _ (List.Sublist.cons _ (List.Sublist.cons_cons _ (List.Sublist.cons_cons _ (List.Sublist.cons_cons _ (List.Sublist.cons_cons _ (List.Sublist.slnil))))))))))))))))))))⟩
  rintro f43 H43 ⟨r42o6, g42o10, a43_1, a43_2, a43_3, a43_4, a43_5, a43_6, hS43⟩
  clear a41_1 a41_2 a41_3 a41_4
  refine wpF_seq ?_
  refine wpF_cut (fun f H => f 0 = B (decide (((((((((loopFault countL).1) = 0) ∧ (((nextFault countL ([3])).1) = 0)) ∧ (((wantFault (nth countL.Jumps 0) countL.Bad).1) = 0)) ∧ ((runsOut countL) = ([[0], [1], [2], [3]]))) ∧ (((nextOut countL ([3])).length : Int) = 0)) ∧ (((wantAll (nth countL.Jumps 0) countL.Bad).length : Int) = 1)) ∧ (((nth (wantAll (nth countL.Jumps 0) countL.Bad) 0).To) = 4))) ∧ St H0 NoB NoB [blkE g42o10 (.cells #[I ((wantFault (nth countL.Jumps 0) countL.Bad).1), I ((wantFault (nth countL.Jumps 0) countL.Bad).2)] 27), blkE g36 (.cells #[I ((nextFault countL ([3])).1), I ((nextFault countL ([3])).2)] 27), blkE g14 (.cells #[I ((loopFault countL).1), I ((loopFault countL).2)] 27)] H) ?_ ?_
  · refine wpF_region ?_
    refine wpL_q (U := NoB) rfl (q_fieldAddr rfl Try.underlying27 rfl Try.sizeOf3 a43_2) ?_
    refine wpL_q (U := NoB) rfl (q_loadBlk rfl rfl Try.isAgg3 (hS43.blk 4 rfl) rfl (fun h => h)) ?_
    refine wpL_q (U := NoB) rfl (q_eql rfl rfl rfl) ?_
    refine wpL_q (U := NoB) rfl (q_move (v := B (decide (((loopFault countL).1) = 0))) rfl rfl) ?_
    by_cases hg44 : ((loopFault countL).1) = 0
    · have hb45 := Eq.trans rfl (congrArg B (decide_eq_true hg44))
      refine wpL_gq (U := NoB) rfl rfl rfl hb45 (q_fieldAddr rfl Try.underlying27 rfl Try.sizeOf3 a43_4) ?_
      refine wpL_gq (U := NoB) rfl rfl rfl hb45 (q_loadBlk rfl rfl Try.isAgg3 (hS43.blk 2 rfl) rfl (fun h => h)) ?_
      refine wpL_gq (U := NoB) rfl rfl rfl hb45 (q_eql rfl rfl rfl) ?_
      refine wpL_q (U := NoB) rfl (q_pickT (v := B (decide (((nextFault countL ([3])).1) = 0))) rfl hb45 rfl) ?_
      refine wpL_q (U := NoB) rfl (q_move (v := B (decide (((nextFault countL ([3])).1) = 0))) rfl rfl) ?_
      by_cases hg47 : ((nextFault countL ([3])).1) = 0
      · have hb48 := Eq.trans rfl (congrArg B (decide_eq_true hg47))
        refine wpL_gq (U := NoB) rfl rfl rfl hb48 (q_fieldAddr rfl Try.underlying27 rfl Try.sizeOf3 a43_6) ?_
        refine wpL_gq (U := NoB) rfl rfl rfl hb48 (q_loadBlk rfl rfl Try.isAgg3 (hS43.blk 0 rfl) rfl (fun h => h)) ?_
        refine wpL_gq (U := NoB) rfl rfl rfl hb48 (q_eql rfl rfl rfl) ?_
        refine wpL_q (U := NoB) rfl (q_pickT (v := B (decide (((wantFault (nth countL.Jumps 0) countL.Bad).1) = 0))) rfl hb48 rfl) ?_
        refine wpL_q (U := NoB) rfl (q_move (v := B (decide (((wantFault (nth countL.Jumps 0) countL.Bad).1) = 0))) rfl rfl) ?_
        by_cases hg50 : ((wantFault (nth countL.Jumps 0) countL.Bad).1) = 0
        · have hb51 := Eq.trans rfl (congrArg B (decide_eq_true hg50))
          refine wpL_gq (U := NoB) rfl rfl rfl hb51 (q_move (v := r10) rfl a43_1) ?_
          refine wpL_go rfl rfl rfl hb51 ?_
          refine e_buildSlice (vs := [I (0)]) (xs := ([0] : List Int)) rfl Try.underlying32 Try.zeroValue3 rfl Try.sizeOf3 (par1 (v0 := I (0)) rfl) rfl hS43 (RdVs.cons (Rd.int.2 ⟨rfl, by constructor <;> omega⟩) (RdVs.nil)) (by decide) (by decide) (fun v53 H54 hS55 hxx hvv53 => ?_)
          replace hS55 : St H0 NoB NoB [rowE 3 v53 ([0] : List Int), blkE g42o10 (.cells #[I ((wantFault (nth countL.Jumps 0) countL.Bad).1), I ((wantFault (nth countL.Jumps 0) countL.Bad).2)] 27), rdE r42o6 (wantAll (nth countL.Jumps 0) countL.Bad : List LRow), blkE g36 (.cells #[I ((nextFault countL ([3])).1), I ((nextFault countL ([3])).2)] 27), rdE r32 (nextOut countL ([3]) : List (List Int)), blkE g14 (.cells #[I ((loopFault countL).1), I ((loopFault countL).2)] 27), rdE r10 (runsOut countL : List (List Int))] H54 := hS55
          refine wpL_go rfl rfl rfl hb51 ?_
          refine e_buildSlice (vs := [I (1)]) (xs := ([1] : List Int)) rfl Try.underlying32 Try.zeroValue3 rfl Try.sizeOf3 (par1 (v0 := I (1)) rfl) rfl hS55 (RdVs.cons (Rd.int.2 ⟨rfl, by constructor <;> omega⟩) (RdVs.nil)) (by decide) (by decide) (fun v56 H57 hS58 hxx hvv56 => ?_)
          replace hS58 : St H0 NoB NoB [rowE 3 v56 ([1] : List Int), rowE 3 v53 ([0] : List Int), blkE g42o10 (.cells #[I ((wantFault (nth countL.Jumps 0) countL.Bad).1), I ((wantFault (nth countL.Jumps 0) countL.Bad).2)] 27), rdE r42o6 (wantAll (nth countL.Jumps 0) countL.Bad : List LRow), blkE g36 (.cells #[I ((nextFault countL ([3])).1), I ((nextFault countL ([3])).2)] 27), rdE r32 (nextOut countL ([3]) : List (List Int)), blkE g14 (.cells #[I ((loopFault countL).1), I ((loopFault countL).2)] 27), rdE r10 (runsOut countL : List (List Int))] H57 := hS58
          refine wpL_go rfl rfl rfl hb51 ?_
          refine e_buildSlice (vs := [I (2)]) (xs := ([2] : List Int)) rfl Try.underlying32 Try.zeroValue3 rfl Try.sizeOf3 (par1 (v0 := I (2)) rfl) rfl hS58 (RdVs.cons (Rd.int.2 ⟨rfl, by constructor <;> omega⟩) (RdVs.nil)) (by decide) (by decide) (fun v59 H60 hS61 hxx hvv59 => ?_)
          replace hS61 : St H0 NoB NoB [rowE 3 v59 ([2] : List Int), rowE 3 v56 ([1] : List Int), rowE 3 v53 ([0] : List Int), blkE g42o10 (.cells #[I ((wantFault (nth countL.Jumps 0) countL.Bad).1), I ((wantFault (nth countL.Jumps 0) countL.Bad).2)] 27), rdE r42o6 (wantAll (nth countL.Jumps 0) countL.Bad : List LRow), blkE g36 (.cells #[I ((nextFault countL ([3])).1), I ((nextFault countL ([3])).2)] 27), rdE r32 (nextOut countL ([3]) : List (List Int)), blkE g14 (.cells #[I ((loopFault countL).1), I ((loopFault countL).2)] 27), rdE r10 (runsOut countL : List (List Int))] H60 := hS61
          refine wpL_go rfl rfl rfl hb51 ?_
          refine e_buildSlice (vs := [I (3)]) (xs := ([3] : List Int)) rfl Try.underlying32 Try.zeroValue3 rfl Try.sizeOf3 (par1 (v0 := I (3)) rfl) rfl hS61 (RdVs.cons (Rd.int.2 ⟨rfl, by constructor <;> omega⟩) (RdVs.nil)) (by decide) (by decide) (fun v62 H63 hS64 hxx hvv62 => ?_)
          replace hS64 : St H0 NoB NoB [rowE 3 v62 ([3] : List Int), rowE 3 v59 ([2] : List Int), rowE 3 v56 ([1] : List Int), rowE 3 v53 ([0] : List Int), blkE g42o10 (.cells #[I ((wantFault (nth countL.Jumps 0) countL.Bad).1), I ((wantFault (nth countL.Jumps 0) countL.Bad).2)] 27), rdE r42o6 (wantAll (nth countL.Jumps 0) countL.Bad : List LRow), blkE g36 (.cells #[I ((nextFault countL ([3])).1), I ((nextFault countL ([3])).2)] 27), rdE r32 (nextOut countL ([3]) : List (List Int)), blkE g14 (.cells #[I ((loopFault countL).1), I ((loopFault countL).2)] 27), rdE r10 (runsOut countL : List (List Int))] H63 := hS64
          have hS65 : St H0 NoB NoB [rdE v53 ([0] : List Int), rowE 3 v62 ([3] : List Int), rowE 3 v59 ([2] : List Int), rowE 3 v56 ([1] : List Int), blkE g42o10 (.cells #[I ((wantFault (nth countL.Jumps 0) countL.Bad).1), I ((wantFault (nth countL.Jumps 0) countL.Bad).2)] 27), rdE r42o6 (wantAll (nth countL.Jumps 0) countL.Bad : List LRow), blkE g36 (.cells #[I ((nextFault countL ([3])).1), I ((nextFault countL ([3])).2)] 27), rdE r32 (nextOut countL ([3]) : List (List Int)), blkE g14 (.cells #[I ((loopFault countL).1), I ((loopFault countL).2)] 27), rdE r10 (runsOut countL : List (List Int))] H63 := St.fin (hS64.front 3 rfl)
          have hS66 : St H0 NoB NoB [rdE v56 ([1] : List Int), rdE v53 ([0] : List Int), rowE 3 v62 ([3] : List Int), rowE 3 v59 ([2] : List Int), blkE g42o10 (.cells #[I ((wantFault (nth countL.Jumps 0) countL.Bad).1), I ((wantFault (nth countL.Jumps 0) countL.Bad).2)] 27), rdE r42o6 (wantAll (nth countL.Jumps 0) countL.Bad : List LRow), blkE g36 (.cells #[I ((nextFault countL ([3])).1), I ((nextFault countL ([3])).2)] 27), rdE r32 (nextOut countL ([3]) : List (List Int)), blkE g14 (.cells #[I ((loopFault countL).1), I ((loopFault countL).2)] 27), rdE r10 (runsOut countL : List (List Int))] H63 := St.fin (hS65.front 3 rfl)
          have hS67 : St H0 NoB NoB [rdE v59 ([2] : List Int), rdE v56 ([1] : List Int), rdE v53 ([0] : List Int), rowE 3 v62 ([3] : List Int), blkE g42o10 (.cells #[I ((wantFault (nth countL.Jumps 0) countL.Bad).1), I ((wantFault (nth countL.Jumps 0) countL.Bad).2)] 27), rdE r42o6 (wantAll (nth countL.Jumps 0) countL.Bad : List LRow), blkE g36 (.cells #[I ((nextFault countL ([3])).1), I ((nextFault countL ([3])).2)] 27), rdE r32 (nextOut countL ([3]) : List (List Int)), blkE g14 (.cells #[I ((loopFault countL).1), I ((loopFault countL).2)] 27), rdE r10 (runsOut countL : List (List Int))] H63 := St.fin (hS66.front 3 rfl)
          have hS68 : St H0 NoB NoB [rdE v62 ([3] : List Int), rdE v59 ([2] : List Int), rdE v56 ([1] : List Int), rdE v53 ([0] : List Int), blkE g42o10 (.cells #[I ((wantFault (nth countL.Jumps 0) countL.Bad).1), I ((wantFault (nth countL.Jumps 0) countL.Bad).2)] 27), rdE r42o6 (wantAll (nth countL.Jumps 0) countL.Bad : List LRow), blkE g36 (.cells #[I ((nextFault countL ([3])).1), I ((nextFault countL ([3])).2)] 27), rdE r32 (nextOut countL ([3]) : List (List Int)), blkE g14 (.cells #[I ((loopFault countL).1), I ((loopFault countL).2)] 27), rdE r10 (runsOut countL : List (List Int))] H63 := St.fin (hS67.front 3 rfl)
          refine wpL_go rfl rfl rfl hb51 ?_
          refine e_buildSlice (vs := [v53, v56, v59, v62]) (xs := ([[0], [1], [2], [3]] : List (List Int))) rfl Try.underlying23 Try.zeroValue32 rfl Try.sizeOf32 (par4 (v0 := v53) (v1 := v56) (v2 := v59) (v3 := v62) rfl rfl rfl rfl) rfl hS68 (RdVs.cons (hS68.rdS 3 rfl) (RdVs.cons (hS68.rdS 2 rfl) (RdVs.cons (hS68.rdS 1 rfl) (RdVs.cons (hS68.rdS 0 rfl) (RdVs.nil))))) (by decide) (by decide) (fun v69 H70 hS71 hxx hvv69 => ?_)
          replace hS71 : St H0 NoB NoB [rowE 32 v69 ([[0], [1], [2], [3]] : List (List Int)), rdE v62 ([3] : List Int), rdE v59 ([2] : List Int), rdE v56 ([1] : List Int), rdE v53 ([0] : List Int), blkE g42o10 (.cells #[I ((wantFault (nth countL.Jumps 0) countL.Bad).1), I ((wantFault (nth countL.Jumps 0) countL.Bad).2)] 27), rdE r42o6 (wantAll (nth countL.Jumps 0) countL.Bad : List LRow), blkE g36 (.cells #[I ((nextFault countL ([3])).1), I ((nextFault countL ([3])).2)] 27), rdE r32 (nextOut countL ([3]) : List (List Int)), blkE g14 (.cells #[I ((loopFault countL).1), I ((loopFault countL).2)] 27), rdE r10 (runsOut countL : List (List Int))] H70 := hS71
          refine wpL_go rfl rfl rfl hb51 ?_
          refine e_call rfl Try.call29 (arr2 (v0 := r10) (v1 := v69) rfl rfl) (rows_L r10 v69 _ _ (hS71.rdN 10 rfl) (hS71.rowN 0 rfl)) ?_
          rintro _ H72 ⟨hxx, rfl⟩
          have hS73 : St H0 NoB NoB [rowE 32 v69 ([[0], [1], [2], [3]] : List (List Int)), rdE v62 ([3] : List Int), rdE v59 ([2] : List Int), rdE v56 ([1] : List Int), rdE v53 ([0] : List Int), blkE g42o10 (.cells #[I ((wantFault (nth countL.Jumps 0) countL.Bad).1), I ((wantFault (nth countL.Jumps 0) countL.Bad).2)] 27), rdE r42o6 (wantAll (nth countL.Jumps 0) countL.Bad : List LRow), blkE g36 (.cells #[I ((nextFault countL ([3])).1), I ((nextFault countL ([3])).2)] 27), rdE r32 (nextOut countL ([3]) : List (List Int)), blkE g14 (.cells #[I ((loopFault countL).1), I ((loopFault countL).2)] 27), rdE r10 (runsOut countL : List (List Int))] H72 := hS71.ext hxx
          refine wpL_q (U := NoB) rfl (q_pickT (v := B (decide ((runsOut countL) = ([[0], [1], [2], [3]])))) rfl hb51 rfl) ?_
          refine wpL_q (U := NoB) rfl (q_move (v := B (decide ((runsOut countL) = ([[0], [1], [2], [3]])))) rfl rfl) ?_
          by_cases hg75 : (runsOut countL) = ([[0], [1], [2], [3]])
          · have hb76 := Eq.trans rfl (congrArg B (decide_eq_true hg75))
            refine wpL_gq (U := NoB) rfl rfl rfl hb76 (q_move (v := r32) rfl a43_3) ?_
            refine wpL_gq (U := NoB) rfl rfl rfl hb76 (q_lenRd rfl Try.underlying23 rfl (hS73.rdl 8 rfl)) ?_
            refine wpL_gq (U := NoB) rfl rfl rfl hb76 (q_eql rfl rfl rfl) ?_
            refine wpL_q (U := NoB) rfl (q_pickT (v := B (decide (((nextOut countL ([3])).length : Int) = 0))) rfl hb76 rfl) ?_
            refine wpL_q (U := NoB) rfl (q_move (v := B (decide (((nextOut countL ([3])).length : Int) = 0))) rfl rfl) ?_
            by_cases hg78 : ((nextOut countL ([3])).length : Int) = 0
            · have hb79 := Eq.trans rfl (congrArg B (decide_eq_true hg78))
              refine wpL_gq (U := NoB) rfl rfl rfl hb79 (q_move (v := r42o6) rfl a43_5) ?_
              refine wpL_gq (U := NoB) rfl rfl rfl hb79 (q_lenRd rfl Try.underlying22 rfl (hS73.rdl 6 rfl)) ?_
              refine wpL_gq (U := NoB) rfl rfl rfl hb79 (q_eql rfl rfl rfl) ?_
              refine wpL_q (U := NoB) rfl (q_pickT (v := B (decide (((wantAll (nth countL.Jumps 0) countL.Bad).length : Int) = 1))) rfl hb79 rfl) ?_
              refine wpL_q (U := NoB) rfl (q_move (v := B (decide (((wantAll (nth countL.Jumps 0) countL.Bad).length : Int) = 1))) rfl rfl) ?_
              by_cases hg81 : ((wantAll (nth countL.Jumps 0) countL.Bad).length : Int) = 1
              · have hb82 := Eq.trans rfl (congrArg B (decide_eq_true hg81))
                refine wpL_gq (U := NoB) rfl rfl rfl hb82 (q_move (v := r42o6) rfl a43_5) ?_
                refine wpL_gq (U := NoB) rfl rfl rfl hb82 (q_indexRd (k := 0) rfl Try.underlying22 el_LRow_34_LoopF1 rfl rfl (hS73.rdl 6 rfl) (by omega) (by omega)) ?_
                refine wpL_gq (U := NoB) rfl rfl rfl hb82 (q_fieldE (k := 0) rfl Try.underlying34 rfl Try.sizeOf3 rfl rfl (hS73.rdl 6 rfl) (by omega)) ?_
                obtain ⟨_, hcu84, hFu84⟩ := (Rd.list.1 (hS73.rdS 6 rfl)).cellF 0 (by omega)
                obtain ⟨u84n0, rfl, hu840, hu841, hu842⟩ := hcu84
                refine wpL_gq (U := NoB) rfl rfl rfl hb82 (q_loadF rfl rfl (hFu84 2 _ Try.prog 3 _ rfl Try.isAgg3 (fun _ h => False.elim h))) ?_
                refine wpL_gq (U := NoB) rfl rfl rfl hb82 (q_eql rfl rfl rfl) ?_
                refine wpL_q (U := NoB) rfl (q_pickT (v := B (decide (((nth (wantAll (nth countL.Jumps 0) countL.Bad) 0).To) = 4))) rfl hb82 rfl) ?_
                refine wpL_q (U := NoB) rfl (q_assign (v := B (decide (((nth (wantAll (nth countL.Jumps 0) countL.Bad) 0).To) = 4))) rfl rfl) ?_
                exact ⟨(Eq.trans rfl (congrArg B (decide_congr_of ((Iff.rfl).trans (((and_iff_right ⟨⟨⟨⟨⟨hg44, hg47⟩, hg50⟩, hg75⟩, hg78⟩, hg81⟩).trans Iff.rfl)).symm)))), (hS73.drop (List.Sublist.cons _ (List.Sublist.cons _ (List.Sublist.cons _ (List.Sublist.cons _ (List.Sublist.cons _ (List.Sublist.cons_cons _ (List.Sublist.cons _ (List.Sublist.cons_cons _ (List.Sublist.cons _ (List.Sublist.cons_cons _ (List.Sublist.cons _ (List.Sublist.slnil)))))))))))))⟩
              · have hb83 := Eq.trans rfl (congrArg B (decide_eq_false hg81))
                refine wpL_gs rfl rfl rfl hb83 rfl ?_
                refine wpL_gs rfl rfl rfl hb83 rfl ?_
                refine wpL_gs rfl rfl rfl hb83 rfl ?_
                refine wpL_gs rfl rfl rfl hb83 rfl ?_
                refine wpL_gs rfl rfl rfl hb83 rfl ?_
                refine wpL_q (U := NoB) rfl (q_pickF (v := B (false)) rfl hb83 rfl) ?_
                refine wpL_q (U := NoB) rfl (q_assign (v := B (false)) rfl rfl) ?_
                exact ⟨(Eq.trans rfl (congrArg B ((decide_eq_false (fun h => (fun h => hg81 h.2) h.1)).symm))), (hS73.drop (List.Sublist.cons _ (List.Sublist.cons _ (List.Sublist.cons _ (List.Sublist.cons _ (List.Sublist.cons _ (List.Sublist.cons_cons _ (List.Sublist.cons _ (List.Sublist.cons_cons _ (List.Sublist.cons _ (List.Sublist.cons_cons _ (List.Sublist.cons _ (List.Sublist.slnil)))))))))))))⟩
            · have hb80 := Eq.trans rfl (congrArg B (decide_eq_false hg78))
              refine wpL_gs rfl rfl rfl hb80 rfl ?_
              refine wpL_gs rfl rfl rfl hb80 rfl ?_
              refine wpL_gs rfl rfl rfl hb80 rfl ?_
              refine wpL_q (U := NoB) rfl (q_pickF (v := B (false)) rfl hb80 rfl) ?_
              refine wpL_q (U := NoB) rfl (q_move (v := B (false)) rfl rfl) ?_
              refine wpL_gs rfl rfl rfl rfl rfl ?_
              refine wpL_gs rfl rfl rfl rfl rfl ?_
              refine wpL_gs rfl rfl rfl rfl rfl ?_
              refine wpL_gs rfl rfl rfl rfl rfl ?_
              refine wpL_gs rfl rfl rfl rfl rfl ?_
              refine wpL_q (U := NoB) rfl (q_pickF (v := B (false)) rfl rfl rfl) ?_
              refine wpL_q (U := NoB) rfl (q_assign (v := B (false)) rfl rfl) ?_
              exact ⟨(Eq.trans rfl (congrArg B ((decide_eq_false (fun h => (fun h => (fun h => hg78 h.2) h.1) h.1)).symm))), (hS73.drop (List.Sublist.cons _ (List.Sublist.cons _ (List.Sublist.cons _ (List.Sublist.cons _ (List.Sublist.cons _ (List.Sublist.cons_cons _ (List.Sublist.cons _ (List.Sublist.cons_cons _ (List.Sublist.cons _ (List.Sublist.cons_cons _ (List.Sublist.cons _ (List.Sublist.slnil)))))))))))))⟩
          · have hb77 := Eq.trans rfl (congrArg B (decide_eq_false hg75))
            refine wpL_gs rfl rfl rfl hb77 rfl ?_
            refine wpL_gs rfl rfl rfl hb77 rfl ?_
            refine wpL_gs rfl rfl rfl hb77 rfl ?_
            refine wpL_q (U := NoB) rfl (q_pickF (v := B (false)) rfl hb77 rfl) ?_
            refine wpL_q (U := NoB) rfl (q_move (v := B (false)) rfl rfl) ?_
            refine wpL_gs rfl rfl rfl rfl rfl ?_
            refine wpL_gs rfl rfl rfl rfl rfl ?_
            refine wpL_gs rfl rfl rfl rfl rfl ?_
            refine wpL_q (U := NoB) rfl (q_pickF (v := B (false)) rfl rfl rfl) ?_
            refine wpL_q (U := NoB) rfl (q_move (v := B (false)) rfl rfl) ?_
            refine wpL_gs rfl rfl rfl rfl rfl ?_
            refine wpL_gs rfl rfl rfl rfl rfl ?_
            refine wpL_gs rfl rfl rfl rfl rfl ?_
            refine wpL_gs rfl rfl rfl rfl rfl ?_
            refine wpL_gs rfl rfl rfl rfl rfl ?_
            refine wpL_q (U := NoB) rfl (q_pickF (v := B (false)) rfl rfl rfl) ?_
            refine wpL_q (U := NoB) rfl (q_assign (v := B (false)) rfl rfl) ?_
            exact ⟨(Eq.trans rfl (congrArg B ((decide_eq_false (fun h => (fun h => (fun h => (fun h => hg75 h.2) h.1) h.1) h.1)).symm))), (hS73.drop (List.Sublist.cons _ (List.Sublist.cons _ (List.Sublist.cons _ (List.Sublist.cons _ (List.Sublist.cons _ (List.Sublist.cons_cons _ (List.Sublist.cons _ (List.Sublist.cons_cons _ (List.Sublist.cons _ (List.Sublist.cons_cons _ (List.Sublist.cons _ (List.Sublist.slnil)))))))))))))⟩
        · have hb52 := Eq.trans rfl (congrArg B (decide_eq_false hg50))
          refine wpL_gs rfl rfl rfl hb52 rfl ?_
          refine wpL_gs rfl rfl rfl hb52 rfl ?_
          refine wpL_gs rfl rfl rfl hb52 rfl ?_
          refine wpL_gs rfl rfl rfl hb52 rfl ?_
          refine wpL_gs rfl rfl rfl hb52 rfl ?_
          refine wpL_gs rfl rfl rfl hb52 rfl ?_
          refine wpL_gs rfl rfl rfl hb52 rfl ?_
          refine wpL_q (U := NoB) rfl (q_pickF (v := B (false)) rfl hb52 rfl) ?_
          refine wpL_q (U := NoB) rfl (q_move (v := B (false)) rfl rfl) ?_
          refine wpL_gs rfl rfl rfl rfl rfl ?_
          refine wpL_gs rfl rfl rfl rfl rfl ?_
          refine wpL_gs rfl rfl rfl rfl rfl ?_
          refine wpL_q (U := NoB) rfl (q_pickF (v := B (false)) rfl rfl rfl) ?_
          refine wpL_q (U := NoB) rfl (q_move (v := B (false)) rfl rfl) ?_
          refine wpL_gs rfl rfl rfl rfl rfl ?_
          refine wpL_gs rfl rfl rfl rfl rfl ?_
          refine wpL_gs rfl rfl rfl rfl rfl ?_
          refine wpL_q (U := NoB) rfl (q_pickF (v := B (false)) rfl rfl rfl) ?_
          refine wpL_q (U := NoB) rfl (q_move (v := B (false)) rfl rfl) ?_
          refine wpL_gs rfl rfl rfl rfl rfl ?_
          refine wpL_gs rfl rfl rfl rfl rfl ?_
          refine wpL_gs rfl rfl rfl rfl rfl ?_
          refine wpL_gs rfl rfl rfl rfl rfl ?_
          refine wpL_gs rfl rfl rfl rfl rfl ?_
          refine wpL_q (U := NoB) rfl (q_pickF (v := B (false)) rfl rfl rfl) ?_
          refine wpL_q (U := NoB) rfl (q_assign (v := B (false)) rfl rfl) ?_
          exact ⟨(Eq.trans rfl (congrArg B ((decide_eq_false (fun h => (fun h => (fun h => (fun h => (fun h => hg50 h.2) h.1) h.1) h.1) h.1)).symm))), (hS43.drop (List.Sublist.cons_cons _ (List.Sublist.cons _ (List.Sublist.cons_cons _ (List.Sublist.cons _ (List.Sublist.cons_cons _ (List.Sublist.cons _ (List.Sublist.slnil))))))))⟩
      · have hb49 := Eq.trans rfl (congrArg B (decide_eq_false hg47))
        refine wpL_gs rfl rfl rfl hb49 rfl ?_
        refine wpL_gs rfl rfl rfl hb49 rfl ?_
        refine wpL_gs rfl rfl rfl hb49 rfl ?_
        refine wpL_q (U := NoB) rfl (q_pickF (v := B (false)) rfl hb49 rfl) ?_
        refine wpL_q (U := NoB) rfl (q_move (v := B (false)) rfl rfl) ?_
        refine wpL_gs rfl rfl rfl rfl rfl ?_
        refine wpL_gs rfl rfl rfl rfl rfl ?_
        refine wpL_gs rfl rfl rfl rfl rfl ?_
        refine wpL_gs rfl rfl rfl rfl rfl ?_
        refine wpL_gs rfl rfl rfl rfl rfl ?_
        refine wpL_gs rfl rfl rfl rfl rfl ?_
        refine wpL_gs rfl rfl rfl rfl rfl ?_
        refine wpL_q (U := NoB) rfl (q_pickF (v := B (false)) rfl rfl rfl) ?_
        refine wpL_q (U := NoB) rfl (q_move (v := B (false)) rfl rfl) ?_
        refine wpL_gs rfl rfl rfl rfl rfl ?_
        refine wpL_gs rfl rfl rfl rfl rfl ?_
        refine wpL_gs rfl rfl rfl rfl rfl ?_
        refine wpL_q (U := NoB) rfl (q_pickF (v := B (false)) rfl rfl rfl) ?_
        refine wpL_q (U := NoB) rfl (q_move (v := B (false)) rfl rfl) ?_
        refine wpL_gs rfl rfl rfl rfl rfl ?_
        refine wpL_gs rfl rfl rfl rfl rfl ?_
        refine wpL_gs rfl rfl rfl rfl rfl ?_
        refine wpL_q (U := NoB) rfl (q_pickF (v := B (false)) rfl rfl rfl) ?_
        refine wpL_q (U := NoB) rfl (q_move (v := B (false)) rfl rfl) ?_
        refine wpL_gs rfl rfl rfl rfl rfl ?_
        refine wpL_gs rfl rfl rfl rfl rfl ?_
        refine wpL_gs rfl rfl rfl rfl rfl ?_
        refine wpL_gs rfl rfl rfl rfl rfl ?_
        refine wpL_gs rfl rfl rfl rfl rfl ?_
        refine wpL_q (U := NoB) rfl (q_pickF (v := B (false)) rfl rfl rfl) ?_
        refine wpL_q (U := NoB) rfl (q_assign (v := B (false)) rfl rfl) ?_
        exact ⟨(Eq.trans rfl (congrArg B ((decide_eq_false (fun h => (fun h => (fun h => (fun h => (fun h => (fun h => hg47 h.2) h.1) h.1) h.1) h.1) h.1)).symm))), (hS43.drop (List.Sublist.cons_cons _ (List.Sublist.cons _ (List.Sublist.cons_cons _ (List.Sublist.cons _ (List.Sublist.cons_cons _ (List.Sublist.cons _ (List.Sublist.slnil))))))))⟩
    · have hb46 := Eq.trans rfl (congrArg B (decide_eq_false hg44))
      refine wpL_gs rfl rfl rfl hb46 rfl ?_
      refine wpL_gs rfl rfl rfl hb46 rfl ?_
      refine wpL_gs rfl rfl rfl hb46 rfl ?_
      refine wpL_q (U := NoB) rfl (q_pickF (v := B (false)) rfl hb46 rfl) ?_
      refine wpL_q (U := NoB) rfl (q_move (v := B (false)) rfl rfl) ?_
      refine wpL_gs rfl rfl rfl rfl rfl ?_
      refine wpL_gs rfl rfl rfl rfl rfl ?_
      refine wpL_gs rfl rfl rfl rfl rfl ?_
      refine wpL_q (U := NoB) rfl (q_pickF (v := B (false)) rfl rfl rfl) ?_
      refine wpL_q (U := NoB) rfl (q_move (v := B (false)) rfl rfl) ?_
      refine wpL_gs rfl rfl rfl rfl rfl ?_
      refine wpL_gs rfl rfl rfl rfl rfl ?_
      refine wpL_gs rfl rfl rfl rfl rfl ?_
      refine wpL_gs rfl rfl rfl rfl rfl ?_
      refine wpL_gs rfl rfl rfl rfl rfl ?_
      refine wpL_gs rfl rfl rfl rfl rfl ?_
      refine wpL_gs rfl rfl rfl rfl rfl ?_
      refine wpL_q (U := NoB) rfl (q_pickF (v := B (false)) rfl rfl rfl) ?_
      refine wpL_q (U := NoB) rfl (q_move (v := B (false)) rfl rfl) ?_
      refine wpL_gs rfl rfl rfl rfl rfl ?_
      refine wpL_gs rfl rfl rfl rfl rfl ?_
      refine wpL_gs rfl rfl rfl rfl rfl ?_
      refine wpL_q (U := NoB) rfl (q_pickF (v := B (false)) rfl rfl rfl) ?_
      refine wpL_q (U := NoB) rfl (q_move (v := B (false)) rfl rfl) ?_
      refine wpL_gs rfl rfl rfl rfl rfl ?_
      refine wpL_gs rfl rfl rfl rfl rfl ?_
      refine wpL_gs rfl rfl rfl rfl rfl ?_
      refine wpL_q (U := NoB) rfl (q_pickF (v := B (false)) rfl rfl rfl) ?_
      refine wpL_q (U := NoB) rfl (q_move (v := B (false)) rfl rfl) ?_
      refine wpL_gs rfl rfl rfl rfl rfl ?_
      refine wpL_gs rfl rfl rfl rfl rfl ?_
      refine wpL_gs rfl rfl rfl rfl rfl ?_
      refine wpL_gs rfl rfl rfl rfl rfl ?_
      refine wpL_gs rfl rfl rfl rfl rfl ?_
      refine wpL_q (U := NoB) rfl (q_pickF (v := B (false)) rfl rfl rfl) ?_
      refine wpL_q (U := NoB) rfl (q_assign (v := B (false)) rfl rfl) ?_
      exact ⟨(Eq.trans rfl (congrArg B ((decide_eq_false (fun h => (fun h => (fun h => (fun h => (fun h => (fun h => hg44 h.1) h.1) h.1) h.1) h.1) h.1)).symm))), (hS43.drop (List.Sublist.cons_cons _ (List.Sublist.cons _ (List.Sublist.cons_cons _ (List.Sublist.cons _ (List.Sublist.cons_cons _ (List.Sublist.cons _ (List.Sublist.slnil))))))))⟩
  rintro f85 H85 ⟨a85_0, hS85⟩
  clear a43_1 a43_2 a43_3 a43_4 a43_5 a43_6
  refine wpF_ret ?_
  refine ⟨_, resT a85_0 resN, hS85.frame, ?_⟩
  show (B (decide (((((((((loopFault countL).1) = 0) ∧ (((nextFault countL ([3])).1) = 0)) ∧ (((wantFault (nth countL.Jumps 0) countL.Bad).1) = 0)) ∧ ((runsOut countL) = ([[0], [1], [2], [3]]))) ∧ (((nextOut countL ([3])).length : Int) = 0)) ∧ (((wantAll (nth countL.Jumps 0) countL.Bad).length : Int) = 1)) ∧ (((nth (wantAll (nth countL.Jumps 0) countL.Bad) 0).To) = 4)))) = B true
  exact congrArg B (decide_eq_true (by rw [count_runs.1, count_runs.2, count_next.1, count_next.2, count_want.1, count_want.2.1, count_want.2.2]; decide))

end Go.Um
