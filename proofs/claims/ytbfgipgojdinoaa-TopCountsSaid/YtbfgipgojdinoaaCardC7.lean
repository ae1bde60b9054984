import Derived.Test.YtbfgipgojdinoaaProg
import Derived.Test.YtbfgipgojdinoaaCardC6
import Derived.Test.YtbfgipgojdinoaaUmTopCountsD
namespace Go.Um
open Go.Proofs
open GoT (sz ag rdc)
open KeyT (kv)
theorem el_Int_3_CardC7 : ElT Try.prog Int 3 := ⟨Try.isAgg3, Try.sizeOf3⟩
theorem em_Int_3_CardC7 : ElemOk Try.prog Int 3 := ⟨Try.t3, (.int .i64 0), by kernel_rfl, by kernel_rfl, by kernel_rfl, by kernel_rfl, by kernel_rfl⟩
theorem em_Stp_106_CardC7 : ElemOk Try.prog Stp 106 := ⟨Try.t106, (.agg #[(.int .i64 0), (.slice none 0 0), (.slice none 0 0), (.int .i64 0), (.int .i64 0), (.int .i64 0), (.slice none 0 0), (.int .i64 0), (.int .i64 0)]), by kernel_rfl, by kernel_rfl, by kernel_rfl, by kernel_rfl, by kernel_rfl⟩
set_option maxRecDepth 100000 in
theorem Negated_S {H0 : Heap} {S : Nat → Prop} (vl : Value) (l : List Int) (rl : Rd S H0 vl l) (hl : litsIn l) : CallsH Try.prog 50 #[vl] H0 (fun rv_ H' => Ext NoB H0 H' ∧ Rd (SZ S H0) H' rv_ (negL l)) := by
 have hsm := (Rd.list.1 rl).bound
 have hb8 : GoT.bytes Int = 8 := rfl
 rw [hb8] at hsm
 have hS0 : St H0 NoB (SZ S H0) [rdE vl l] H0 := St.arg (St.start (fun _ h => h.2)) (Bl0.nil) rl (fun _ h => h.1)
 refine callsH_of_wpF (args := [vl]) (rs := [.tmp 2]) Try.func50 rfl Try.ntmps50 Try.results50 (by kernel_rfl) (Nat.le_of_ble_eq_true rfl) ?_
 have y0 : argF [vl] 0 = vl := rfl
 generalize argF [vl] = f0 at *
 refine wpF_seq ?_
 refine wpF_region ?_
 refine la (v := nS) rfl rfl rfl ?_
 refine wpL_nil ?_
 refine wpF_seq ?_
 refine wpF_region ?_
 refine la (v := nS) rfl rfl rfl ?_
 refine wpL_nil ?_
 have hS1 : St H0 NoB (SZ S H0) [rowE 3 nS ([] : List Int), rdE vl l] H0 := hS0.row0 3
 refine wpF_seq ?_
 refine wpF_seq ?_
 refine wpF_region ?_
 refine lm (v := vl) rfl rfl y0 ?_
 refine lq rfl (q_lenRd rfl Try.underlying22 rfl (hS1.rdl 1 rfl)) ?_
 refine lm (v := I (0)) rfl rfl rfl ?_
 refine wpL_nil ?_
 refine wpF_block ?_
 refine wpF_loop (fun mz f H => ∃ (i : Nat), ∃ (vo : Value), mz = l.length - i ∧ (i ≤ l.length) ∧ f 3 = vo ∧ f 6 = vl ∧ f 7 = I ((l.length : Int)) ∧ f 8 = I ((i : Int)) ∧ St H0 NoB (SZ S H0) [rowE 3 vo (negL (l.take i) : List Int), rdE vl l] H) (l.length - 0) ?_ ?_
 ·exact ⟨0, nS, rfl, Nat.zero_le _, rfl, rfl, rfl, (Eq.trans rfl (congrArg I (by omega))), (show St H0 NoB (SZ S H0) [rowE 3 nS (negL (l.take 0) : List Int), rdE vl l] H0 from hS1)⟩
 intro m2 f2 H2 hI2
 obtain ⟨i, vo, hm2, hi, y3, y6, y7, y8, hS2⟩ := hI2
 refine wpF_seq ?_
 refine wpF_region ?_
 refine lq rfl (q_lss rfl y8 y7) ?_
 refine wpL_nil ?_
 refine wpF_seq ?_
 refine wpF_condP rfl (fun hlt => ?t15) (fun hlt => ?e15)
 case e15 =>
  obtain rfl : i = l.length := by omega
  refine wpF_exit ?_
  refine atX_here ?_
  refine wpF_seq ?_
  have hS13 : St H0 NoB (SZ S H0) [rowE 3 vo (negL l : List Int), rdE vl l] H2 := by have h__ := hS2; rw [List.take_length] at h__; exact h__
  refine wpF_region ?_
  refine lm (v := vo) rfl rfl y3 ?_
  refine la (v := vo) rfl rfl rfl ?_
  refine wpL_nil ?_
  refine wpF_ret ?_
  refine ⟨_, resT rfl resN, hS13.frame, ?_⟩
  show Rd (SZ S H0) H2 vo (negL l)
  have hS14 : St H0 NoB (SZ S H0) [rdE vo (negL l), rdE vl l] H2 := St.fin hS13
  exact (hS14.result (hS14.rdS 0 rfl))
 have hli := hl i (by omega)
 refine wpF_skip ?_
 refine wpF_seq ?_
 refine wpF_block ?_
 refine wpF_seq ?_
 refine wpF_region ?_
 refine lq rfl (q_indexRd (k := i) rfl Try.underlying22 el_Int_3_CardC7 y6 y8 (hS2.rdl 1 rfl) (by omega) (by omega)) ?_
 refine lq rfl (q_loadInt (k := i) rfl rfl el_Int_3_CardC7 (hS2.rdl 1 rfl) (by omega) (fun _ h => h)) ?_
 refine la (v := I (nth l i)) rfl rfl rfl ?_
 refine wpL_nil ?_
 refine wpF_region ?_
 refine lm (v := vo) rfl rfl y3 ?_
 refine lm (v := I (nth l i)) rfl rfl rfl ?_
 refine lq rfl (q_neg rfl rfl (by constructor <;> omega)) ?_
 refine lo rfl ?_
 refine e_buildSlice (vs := [I (-(nth l i))]) (xs := ([-(nth l i)] : List Int)) rfl Try.underlying22 Try.zeroValue3 rfl Try.sizeOf3 (par1 (v0 := I (-(nth l i))) rfl) rfl hS2 (RdVs.cons (Rd.int.2 ⟨rfl, by first | assumption | (constructor <;> omega)⟩) (RdVs.nil)) (by decide) (by decide) (fun v4 H5 hS6 hxx hvv4 => ?_)
 have hS7 : St H0 NoB (SZ S H0) [rdE v4 ([-(nth l i)] : List Int), rowE 3 vo (negL (l.take i) : List Int), rdE vl l] H5 := St.fin hS6
 have hS8 := (hS7.front 1 rfl)
 refine lo rfl ?_
 refine e_append rfl Try.underlying22 em_Int_3_CardC7 rfl rfl hS8 (hS8.rdS 1 rfl) (fun _ h => h) (by have hb : GoT.bytes Int = 8 := rfl; simp [hb, negL]; omega) (by decide) (fun v9 H10 hS11 hxx => ?_)
 have hS12 : St H0 NoB (SZ S H0) [rowE 3 v9 (negL (l.take (i + 1)) : List Int), rdE v4 ([-(nth l i)] : List Int), rdE vl l] H10 := by rw [show (negL (l.take (i + 1))) = ((negL (l.take i)) ++ ([-(nth l i)])) from (neg_next (by omega))]; exact hS11
 refine la (v := v9) rfl rfl rfl ?_
 refine wpL_nil ?_
 refine wpF_region ?_
 refine lq rfl (q_add rfl y8 rfl (by constructor <;> omega)) ?_
 refine lm (v := I ((i : Int) + 1)) rfl rfl rfl ?_
 refine wpL_nil ?_
 refine ⟨_, ?_, i + 1, v9, rfl, (by omega), rfl, y6, y7, (Eq.trans rfl (congrArg I (by omega))), (hS12.drop (sk (sn (sk (List.Sublist.slnil)))))⟩
 omega
set_option maxHeartbeats 1000000 in
set_option maxRecDepth 100000 in
theorem no_S {H0 : Heap} (S : Nat → Prop) (gs : Nat) (vA vt vv vc : Value) (vars lv u : Int) (ph : Bool) (l : List Int) (hg : Given S [bE gs #[I (vars), vA, B (ph), vt, vv, I (lv), nS] 68] H0) (rl : Rd S H0 vc l) (hl : litsIn l) (hu : In64 u) : CallsH Try.prog 26 #[PT gs 0, vc, I (u)] H0 (fun rv_ H' => Ext (own [bE gs #[I (vars), vA, B (ph), vt, vv, I (lv), nS] 68]) H0 H' ∧ ∃ (vz_ : Value) (sl_ : List Stp), rv_ = Vg #[I 2, nS, vz_, vc, I u] ∧ Gone S [bE gs #[I (vars), vA, B (ph), vt, vv, I (lv), nS] 68] [rdE vz_ sl_, bE gs #[I (vars), vA, B (ph), vt, vv, I (lv), vz_] 68] H0 H') := by
 have hS0 : St H0 (own [bE gs #[I (vars), vA, B (ph), vt, vv, I (lv), nS] 68]) (fun b => S b ∧ ¬ own [bE gs #[I (vars), vA, B (ph), vt, vv, I (lv), nS] 68] b) [rdE vc l, bE gs #[I (vars), vA, B (ph), vt, vv, I (lv), nS] 68] H0 := (hg.st.rdG rl fun b hb => hg.sub hb)
 refine callsH_of_wpF (args := [PT gs 0, vc, I (u)]) (rs := [.cell 6 34]) Try.func26 rfl Try.ntmps26 Try.results26 (by kernel_rfl) (Nat.le_of_ble_eq_true rfl) ?_
 have y0 : argF [PT gs 0, vc, I (u)] 0 = PT gs 0 := rfl
 have y1 : argF [PT gs 0, vc, I (u)] 1 = vc := rfl
 have y2 : argF [PT gs 0, vc, I (u)] 2 = I (u) := rfl
 generalize argF [PT gs 0, vc, I (u)] = f0 at *
 refine wpF_seq ?_
 refine wpF_region ?_
 refine lo rfl ?_
 refine e_alloc rfl Try.zeroValue34 hS0 (fun g1 H2 hS3 hxx => ?_)
 refine wpL_nil ?_
 refine wpF_seq ?_
 refine wpF_drawn [none, none, none, none, none, none, none, none, none, some 0, none, none, some 1] [[0], [], [], [], [], [], [], [], [], [], [], [], []] (fun l b => match l with | 0 => rowB nS b | 1 => True | _ => False) (by kernel_rfl) (by kernel_rfl) ?_
 refine rq 0 (by kernel_rfl) rfl rfl (q_move (v := PT gs 0) rfl y0) ?_
 refine rq 1 (by kernel_rfl) rfl rfl (q_move (v := PT gs 0) rfl y0) ?_
 refine rq 2 (by kernel_rfl) rfl rfl (q_nilCheck rfl rfl) ?_
 refine rq 3 (by kernel_rfl) rfl rfl (q_fieldAddr rfl Try.underlying68 rfl Try.sizeOf32 rfl) ?_
 refine rq 4 (by kernel_rfl) rfl rfl (q_loadBlk rfl rfl Try.isAgg32 (hS3.blk 2 rfl) rfl (labU_not [] rfl (fe))) ?_
 refine rq 5 (by kernel_rfl) rfl rfl (q_move (v := vc) rfl y1) ?_
 refine wpR_n [6] (by kernel_rfl) ?_
 refine fa ?_ fe
 refine exE rfl rfl ?_
 refine e_call rfl Try.call50 (arr1 (v0 := vc) rfl) (Negated_S vc l (hS3.rdS 1 rfl) hl) ?_
 rintro r4o6 H4o6 ⟨hxx, hrr4o6⟩
 have hS4o6 := hS3.res hxx hrr4o6
 refine ⟨Ext.mono hxx (fun _ h => h.elim), ?_⟩
 refine rq 7 (by kernel_rfl) rfl rfl (q_build (v := Vg #[I (1), r4o6, nS, I (0), I (0), I (0), nS, I (0), I (0)]) rfl (par2 (v0 := I (1)) (v1 := r4o6) rfl rfl) ((hS4o6.rdl 0 rfl).slc (fun zz0 => ∀ w__, (Instr.build 106 #[(0, I (1)), (1, zz0)]).run Try.prog w__ = .ok (Vg #[I (1), zz0, nS, I (0), I (0), I (0), nS, I (0), I (0)]) w__) (fun a0 n0 c0 => (fun w__ => by kernel_rfl)))) ?_
 refine wpR_n [8] (by kernel_rfl) ?_
 refine fa ?_ fe
 refine exE rfl rfl ?_
 refine e_buildSlice (vs := [Vg #[I (1), r4o6, nS, I (0), I (0), I (0), nS, I (0), I (0)]]) (xs := ([(Stp.mk 1 (negL l) ([]) 0 0 0 ([]) 0 0)] : List Stp)) rfl Try.underlying32 Try.zeroValue106 rfl Try.sizeOf106 (par1 (v0 := Vg #[I (1), r4o6, nS, I (0), I (0), I (0), nS, I (0), I (0)]) rfl) rfl hS4o6 (RdVs.cons (Rd.stp.2 ⟨_, _, _, rfl, (by first | assumption | (constructor <;> (try dsimp only) <;> omega)), (hS4o6.rdS 0 rfl), rdNil, (by first | assumption | (constructor <;> (try dsimp only) <;> omega)), (by first | assumption | (constructor <;> (try dsimp only) <;> omega)), (by first | assumption | (constructor <;> (try dsimp only) <;> omega)), rdNil, (by first | assumption | (constructor <;> (try dsimp only) <;> omega)), (by first | assumption | (constructor <;> (try dsimp only) <;> omega))⟩) (RdVs.nil)) (by decide) (by decide) (fun v4o8 H4o8 hS4o8 hxx hvv4o8 => ?_)
 refine ⟨Ext.mono hxx (fun _ h => h.elim), ?_⟩
 refine wpR_n [9] (by kernel_rfl) ?_
 refine fa ?_ fe
 have hS4o9 : St H0 (own [bE gs #[I (vars), vA, B (ph), vt, vv, I (lv), nS] 68]) (fun b => S b ∧ ¬ own [bE gs #[I (vars), vA, B (ph), vt, vv, I (lv), nS] 68] b) [rdE v4o8 ([(Stp.mk 1 (negL l) ([]) 0 0 0 ([]) 0 0)] : List Stp), rdE r4o6 (negL l), bE g1 #[I (0), nS, nS, nS, I (0)] 34, rdE vc l, bE gs #[I (vars), vA, B (ph), vt, vv, I (lv), nS] 68] H4o8 := St.fin hS4o8
 have hS4o9x2 : St H0 (own [bE gs #[I (vars), vA, B (ph), vt, vv, I (lv), nS] 68]) (fun b => S b ∧ ¬ own [bE gs #[I (vars), vA, B (ph), vt, vv, I (lv), nS] 68] b) [rowE 106 nS ([] : List Stp), rdE v4o8 ([(Stp.mk 1 (negL l) ([]) 0 0 0 ([]) 0 0)] : List Stp), rdE r4o6 (negL l), bE g1 #[I (0), nS, nS, nS, I (0)] 34, rdE vc l, bE gs #[I (vars), vA, B (ph), vt, vv, I (lv), nS] 68] H4o8 := hS4o9.row0 106
 have hS4o9x3 := hS4o9x2
 refine exE rfl rfl ?_
 refine e_append rfl Try.underlying32 em_Stp_106_CardC7 rfl rfl hS4o9x3 (hS4o9x3.rdS 1 rfl) (fun _ h => h) (by have hb : GoT.bytes Stp = 120 := rfl; simp [hb]) (by decide) (fun v4o9 H4o9 hS4o9x4 hxx => ?_)
 replace hS4o9x4 : St H0 (own [bE gs #[I (vars), vA, B (ph), vt, vv, I (lv), nS] 68]) (fun b => S b ∧ ¬ own [bE gs #[I (vars), vA, B (ph), vt, vv, I (lv), nS] 68] b) [rowE 106 v4o9 ([(Stp.mk 1 (negL l) ([]) 0 0 0 ([]) 0 0)] : List Stp), rdE v4o8 ([(Stp.mk 1 (negL l) ([]) 0 0 0 ([]) 0 0)] : List Stp), rdE r4o6 (negL l), bE g1 #[I (0), nS, nS, nS, I (0)] 34, rdE vc l, bE gs #[I (vars), vA, B (ph), vt, vv, I (lv), nS] 68] H4o9 := by simpa using hS4o9x4
 refine ⟨Ext.mono hxx (labS_of 0 rfl (fun b hb => hb)), ?_⟩
 refine rq 10 (by kernel_rfl) rfl rfl (q_nilCheck rfl rfl) ?_
 refine rq 11 (by kernel_rfl) rfl rfl (q_fieldAddr rfl Try.underlying68 rfl Try.sizeOf32 rfl) ?_
 refine wpR_n [12] (by kernel_rfl) ?_
 refine fa ?_ fe
 refine exE rfl rfl ?_
 refine e_storeBlk (v := v4o9) rfl rfl rfl (oneCell_rdL (hS4o9x4.rowl 0 rfl)) Try.sizeOf32 (by show _ < 7; decide) (hS4o9x4.front 5 rfl) (fun H4o12 hS4o12 hxx => ?_)
 refine ⟨Ext.mono hxx (labS_of 1 rfl (fun _ _ => trivial)), ?_⟩
 refine wpR_end (by kernel_rfl) ?_
 skip
 refine wpF_seq ?_
 refine wpF_region ?_
 refine lm (v := PT gs 0) rfl rfl y0 ?_
 refine lq rfl (q_nilCheck rfl rfl) ?_
 refine lq rfl (q_fieldAddr rfl Try.underlying68 rfl Try.sizeOf32 rfl) ?_
 refine lq rfl (q_loadBlk rfl rfl Try.isAgg32 (hS4o12.blk 0 rfl) rfl (fun h => h)) ?_
 refine lm (v := vc) rfl rfl y1 ?_
 refine lm (v := I (u)) rfl rfl y2 ?_
 refine lq rfl (q_build (v := Vg #[I (2), nS, v4o9, vc, I (u)]) rfl (par4 (v0 := I (2)) (v1 := v4o9) (v2 := vc) (v3 := I (u)) rfl rfl rfl rfl) ((hS4o12.rowl 1 rfl).slc (fun zz0 => ∀ w__, (Instr.build 34 #[(0, I (2)), (2, zz0), (3, vc), (4, I (u))]).run Try.prog w__ = .ok (Vg #[I (2), nS, zz0, vc, I (u)]) w__) (fun a0 n0 c0 => ((hS4o12.rdl 5 rfl).slc (fun zz1 => ∀ w__, (Instr.build 34 #[(0, I (2)), (2, (.slice a0 n0 c0)), (3, zz1), (4, I (u))]).run Try.prog w__ = .ok (Vg #[I (2), nS, (.slice a0 n0 c0), zz1, I (u)]) w__) (fun a1 n1 c1 => (fun w__ => by kernel_rfl)))))) ?_
 refine lo rfl ?_
 refine e_storeBlkA (cs' := #[I (2), nS, v4o9, vc, I (u)]) rfl rfl rfl Try.sizeOf34 rfl rfl (fa rfl (fa rfl (fa ((oneCell_rdL (hS4o12.rowl 1 rfl))) (fa ((oneCell_rdL (hS4o12.rdl 5 rfl))) (fa rfl fe))))) (hS4o12.front 4 rfl) (fun H5 hS6 hxx => ?_)
 refine wpL_nil ?_
 refine wpF_ret ?_
 refine ⟨_, resC rfl (loadV_blkA Try.isAgg34 Try.sizeOf34 rfl (hS6.blk 0 rfl)) (resN), hS6.frameM, ?_⟩
 show ∃ (vz_ : Value) (sl_ : List Stp), (Vg #[I (2), nS, v4o9, vc, I (u)]) = Vg #[I 2, nS, vz_, vc, I u] ∧ Gone S [bE gs #[I (vars), vA, B (ph), vt, vv, I (lv), nS] 68] [rdE vz_ sl_, bE gs #[I (vars), vA, B (ph), vt, vv, I (lv), vz_] 68] H0 H5
 have hS7 : St H0 (own [bE gs #[I (vars), vA, B (ph), vt, vv, I (lv), nS] 68]) (fun b => S b ∧ ¬ own [bE gs #[I (vars), vA, B (ph), vt, vv, I (lv), nS] 68] b) [rdE v4o9 ([(Stp.mk 1 (negL l) ([]) 0 0 0 ([]) 0 0)] : List Stp), bE g1 #[I (2), nS, v4o9, vc, I (u)] 34, bE gs #[I (vars), vA, B (ph), vt, vv, I (lv), v4o9] 68, rdE v4o8 ([(Stp.mk 1 (negL l) ([]) 0 0 0 ([]) 0 0)] : List Stp), rdE r4o6 (negL l), rdE vc l] H5 := St.fin (hS6.front 2 rfl)
 have hL : St H0 (own [bE gs #[I (vars), vA, B (ph), vt, vv, I (lv), nS] 68]) (fun b => S b ∧ ¬ own [bE gs #[I (vars), vA, B (ph), vt, vv, I (lv), nS] 68] b) [rdE v4o9 ([(Stp.mk 1 (negL l) ([]) 0 0 0 ([]) 0 0)] : List Stp), bE gs #[I (vars), vA, B (ph), vt, vv, I (lv), v4o9] 68] H5 := (hS7.drop (sk (sn (sk (sn (sn (sn (List.Sublist.slnil))))))))
 exact ⟨_, _, rfl, St.leave3 hL⟩
end Go.Um
