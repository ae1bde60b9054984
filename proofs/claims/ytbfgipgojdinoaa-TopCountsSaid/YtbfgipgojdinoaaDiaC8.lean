import Derived.Test.YtbfgipgojdinoaaProg
import Derived.Test.YtbfgipgojdinoaaDiaC4
import Derived.Test.YtbfgipgojdinoaaUmTopCountsC
namespace Go.Um
open Go.Proofs
open GoT (sz ag rdc)
open KeyT (kv)
theorem el_Bt_5_DiaC8 : ElT Try.prog Bt 5 := ⟨Try.isAgg5, Try.sizeOf5⟩
theorem em_Chc_125_DiaC8 : ElemOk Try.prog Chc 125 := ⟨Try.t125, (.agg #[(.int .i64 0), (.int .i64 0), (.int .i64 0)]), by kernel_rfl, by kernel_rfl, by kernel_rfl, by kernel_rfl, by kernel_rfl⟩
theorem keyLaw_chc_125_DiaC8 : KeyLaw Try.prog 125 Chc := keyLaw_chc Try.underlying125 Try.underlying3 Try.underlying3 Try.underlying3 (by decide) (by decide) (by decide) rfl rfl rfl Try.isAgg3 Try.isAgg3 Try.isAgg3 (by kernel_rfl)
set_option maxHeartbeats 8000000 in
set_option maxRecDepth 100000 in
theorem node_D : ∀ (nn : Nat) {H0 : Heap} (S : Nat → Prop) (gb rk rs : Nat) (vcs vt : Value) (bd : Bd) (kn : List (Chc × Int)) (sm : List (Str × Int)) (tt : List Bt) (N d : Nat) (v : Int) (_hg : Given S [rowE 125 vcs (chI bd.ch : List Chc), bE gb #[vcs, (Value.map (some rk)), (Value.map (some rs))] 118, mapE rk (kn : List (Chc × Int)), mapE rs (sm : List (Str × Int))] H0) (_rt : Rd S H0 vt tt) (_hinv : Inv N bd) (_hd : d ≤ N) (_hN : N ≤ 16) (_htl : tt.length = 2 ^ d) (_hv : v = (N : Int) + 1 - d) (_hkn : KnRel kn bd.ch) (_hsn : SnRel sm bd.sn) (_hB : bd.ch.length + 2 ^ d ≤ 200000) (_hn : d = nn), CallsH Try.prog 65 #[PT gb 0, vt, I (v)] H0 (fun rv_ H' => Ext (own [rowE 125 vcs (chI bd.ch : List Chc), bE gb #[vcs, (Value.map (some rk)), (Value.map (some rs))] 118, mapE rk (kn : List (Chc × Int)), mapE rs (sm : List (Str × Int))]) H0 H' ∧ ∃ (i_ : Nat) (b_ : Bd) (vcs_ : Value) (kn_ : List (Chc × Int)) (sm_ : List (Str × Int)), nodeB N d (bools tt) bd = (i_, b_) ∧ rv_ = I (i_ : Int) ∧ KnRel kn_ b_.ch ∧ SnRel sm_ b_.sn ∧ Gone S [rowE 125 vcs (chI bd.ch : List Chc), bE gb #[vcs, (Value.map (some rk)), (Value.map (some rs))] 118, mapE rk (kn : List (Chc × Int)), mapE rs (sm : List (Str × Int))] [rowE 125 vcs_ (chI b_.ch : List Chc), bE gb #[vcs_, (Value.map (some rk)), (Value.map (some rs))] 118, mapE rk (kn_ : List (Chc × Int)), mapE rs (sm_ : List (Str × Int))] H0 H') := by
 intro nn
 induction nn using Nat.strongRecOn with
 | _ nn ih =>
 intro H0 S gb rk rs vcs vt bd kn sm tt N d v hg rt hinv hd hN htl hv hkn hsn hB hnn
 have hS0 : St H0 (own [rowE 125 vcs (chI bd.ch : List Chc), bE gb #[vcs, (Value.map (some rk)), (Value.map (some rs))] 118, mapE rk (kn : List (Chc × Int)), mapE rs (sm : List (Str × Int))]) (fun b => S b ∧ ¬ own [rowE 125 vcs (chI bd.ch : List Chc), bE gb #[vcs, (Value.map (some rk)), (Value.map (some rs))] 118, mapE rk (kn : List (Chc × Int)), mapE rs (sm : List (Str × Int))] b) [rdE vt tt, rowE 125 vcs (chI bd.ch : List Chc), bE gb #[vcs, (Value.map (some rk)), (Value.map (some rs))] 118, mapE rk (kn : List (Chc × Int)), mapE rs (sm : List (Str × Int))] H0 := (hg.st.rdG rt fun b hb => hg.sub hb)
 have hsm := (Rd.list.1 rt).small
 have hp1 : 1 ≤ 2 ^ d := Nat.one_le_two_pow
 refine callsH_of_wpF (args := [PT gb 0, vt, I (v)]) (rs := [.tmp 6]) Try.func65 rfl Try.ntmps65 Try.results65 (by kernel_rfl) (Nat.le_of_ble_eq_true rfl) ?_
 have y0 : argF [PT gb 0, vt, I (v)] 0 = PT gb 0 := rfl
 have y1 : argF [PT gb 0, vt, I (v)] 1 = vt := rfl
 have y2 : argF [PT gb 0, vt, I (v)] 2 = I (v) := rfl
 generalize argF [PT gb 0, vt, I (v)] = f0 at *
 refine wpF_seq ?_
 refine wpF_region ?_
 refine la (v := I (0)) rfl rfl rfl ?_
 refine wpL_nil ?_
 refine wpF_seq ?_
 refine wpF_seq ?_
 refine wpF_region ?_
 refine lm (v := vt) rfl rfl y1 ?_
 refine lq rfl (q_lenRd rfl Try.underlying90 rfl (hS0.rdl 0 rfl)) ?_
 refine lq rfl (q_eql rfl rfl rfl) ?_
 refine wpL_nil ?_
 refine wpF_condP rfl (fun h15 => ?t19) (fun h15 => ?e19)
 case t19 =>
  refine wpF_seq ?_
  refine wpF_region ?_
  refine lm (v := vt) rfl rfl y1 ?_
  refine lq rfl (q_indexRd (k := 0) rfl Try.underlying90 el_Bt_5_DiaC8 rfl rfl (hS0.rdl 0 rfl) (by omega) (by omega)) ?_
  refine lq rfl (q_loadBt (k := 0) rfl rfl el_Bt_5_DiaC8 (hS0.rdl 0 rfl) (by omega) (fun _ h => h)) ?_
  refine lq rfl (q_conv8 rfl Try.underlying5 Try.underlying3 rfl (by have := bv_in (nth tt 0); omega)) ?_
  refine la (v := I (bv (nth tt 0))) rfl rfl rfl ?_
  refine wpL_nil ?_
  refine wpF_ret ?_
  refine ⟨_, resT rfl resN, hS0.frameM, ?_⟩
  show ∃ (i_ : Nat) (b_ : Bd) (vcs_ : Value) (kn_ : List (Chc × Int)) (sm_ : List (Str × Int)), nodeB N d (bools tt) bd = (i_, b_) ∧ (I (bv (nth tt 0))) = I (i_ : Int) ∧ KnRel kn_ b_.ch ∧ SnRel sm_ b_.sn ∧ Gone S [rowE 125 vcs (chI bd.ch : List Chc), bE gb #[vcs, (Value.map (some rk)), (Value.map (some rs))] 118, mapE rk (kn : List (Chc × Int)), mapE rs (sm : List (Str × Int))] [rowE 125 vcs_ (chI b_.ch : List Chc), bE gb #[vcs_, (Value.map (some rk)), (Value.map (some rs))] 118, mapE rk (kn_ : List (Chc × Int)), mapE rs (sm_ : List (Str × Int))] H0 H0
  have hd0 : d = 0 := pow_one (by omega)
  subst hd0
  have hL : St H0 (own [rowE 125 vcs (chI bd.ch : List Chc), bE gb #[vcs, (Value.map (some rk)), (Value.map (some rs))] 118, mapE rk (kn : List (Chc × Int)), mapE rs (sm : List (Str × Int))]) (fun b => S b ∧ ¬ own [rowE 125 vcs (chI bd.ch : List Chc), bE gb #[vcs, (Value.map (some rk)), (Value.map (some rs))] 118, mapE rk (kn : List (Chc × Int)), mapE rs (sm : List (Str × Int))] b) [rowE 125 vcs (chI bd.ch : List Chc), bE gb #[vcs, (Value.map (some rk)), (Value.map (some rs))] 118, mapE rk (kn : List (Chc × Int)), mapE rs (sm : List (Str × Int))] H0 := (hS0.drop (sn (sk (sk (sk (sk (List.Sublist.slnil)))))))
  exact ⟨_, bd, _, _, _, rfl, congrArg I (bv_nat (by omega)), hkn, hsn, St.leave3 hL⟩
 obtain ⟨d2, hd2⟩ : ∃ d2, d = d2 + 1 := ⟨d - 1, by have : d ≠ 0 := fun e => h15 (by rw [htl, e]; rfl); omega⟩
 have htd : tt.length = 2 ^ (d2 + 1) := by rw [← hd2]; exact htl
 have hpd : 2 ^ d = 2 ^ d2 * 2 := by rw [hd2]; exact Nat.pow_succ ..
 have hp2 : 1 ≤ 2 ^ d2 := Nat.one_le_two_pow
 have hne : tt ≠ [] := fun e => by rw [e] at htl; simp only [List.length_nil] at htl; omega
 obtain ⟨hf, hhf⟩ : ∃ hf : Nat, hf = 2 ^ d2 := ⟨_, rfl⟩
 have hq2 : ((tt.length : Int).tdiv 2) = (hf : Int) := by rw [hhf]; exact half_q htd
 refine wpF_skip ?_
 refine wpF_seq ?_
 refine wpF_seq ?_
 refine wpF_drawn [] [] (fun _ _ => False) (by kernel_rfl) (by kernel_rfl) ?_
 refine rq 0 (by kernel_rfl) rfl rfl (q_move (v := PT gb 0) rfl y0) ?_
 refine rq 1 (by kernel_rfl) rfl rfl (q_nilCheck rfl rfl) ?_
 refine rq 2 (by kernel_rfl) rfl rfl (q_fieldAddr rfl Try.underlying118 rfl Try.sizeOf116 rfl) ?_
 refine rq 3 (by kernel_rfl) rfl rfl (q_loadBlk rfl rfl Try.isAgg116 (hS0.blk 2 rfl) rfl (labU_not [] rfl (fe))) ?_
 refine rq 4 (by kernel_rfl) rfl rfl (q_move (v := vt) rfl y1) ?_
 refine rq 5 (by kernel_rfl) rfl rfl (q_convT rfl Try.underlying90 Try.underlying5 Try.underlying9 rfl (Rd.list.1 (hS0.rdS 0 rfl)) (hne) (labU_sub [] rfl (fe))) ?_
 obtain ⟨u2o6, hlu2o6, hru2o6⟩ := lookD (t := 116) (d := (0 : Int)) Try.underlying116 (keyLaw_str Try.underlying9) Try.zeroValue3 (fun _ _ => Rd.int.2 ⟨rfl, by decide⟩) (strT tt) (hS0.get 4 rfl)
 obtain ⟨rfl, hiu2o6⟩ := Rd.int.1 hru2o6
 refine rq 6 (by kernel_rfl) rfl rfl (q_lookup1 rfl rfl rfl (hlu2o6 _ (labU_not [] rfl (fe)))) ?_
 refine rq 7 (by kernel_rfl) rfl rfl (q_move (v := Value.tuple #[I ((mget sm (strT tt)).getD 0), B ((mget sm (strT tt)).isSome)]) rfl rfl) ?_
 refine rq 8 (by kernel_rfl) rfl rfl (q_extract (vs := #[I ((mget sm (strT tt)).getD 0), B ((mget sm (strT tt)).isSome)]) (v := I ((mget sm (strT tt)).getD 0)) rfl rfl rfl) ?_
 refine rq 9 (by kernel_rfl) rfl rfl (q_extract (vs := #[I ((mget sm (strT tt)).getD 0), B ((mget sm (strT tt)).isSome)]) (v := B ((mget sm (strT tt)).isSome)) rfl rfl rfl) ?_
 refine rq 10 (by kernel_rfl) rfl rfl (q_assign (v := I ((mget sm (strT tt)).getD 0)) rfl rfl) ?_
 refine rq 11 (by kernel_rfl) rfl rfl (q_assign (v := B ((mget sm (strT tt)).isSome)) rfl rfl) ?_
 refine wpR_end (by kernel_rfl) ?_
 skip
 refine wpF_seq ?_
 refine wpF_region ?_
 refine lm (v := B ((mget sm (strT tt)).isSome)) rfl rfl rfl ?_
 refine wpL_nil ?_
 refine wpF_cond rfl (fun h30 => ?t18) (fun h30 => ?e18)
 case t18 =>
  refine wpF_seq ?_
  refine wpF_region ?_
  refine lm (v := I ((mget sm (strT tt)).getD 0)) rfl rfl rfl ?_
  refine la (v := I ((mget sm (strT tt)).getD 0)) rfl rfl rfl ?_
  refine wpL_nil ?_
  refine wpF_ret ?_
  refine ⟨_, resT rfl resN, hS0.frameM, ?_⟩
  show ∃ (i_ : Nat) (b_ : Bd) (vcs_ : Value) (kn_ : List (Chc × Int)) (sm_ : List (Str × Int)), nodeB N d (bools tt) bd = (i_, b_) ∧ (I ((mget sm (strT tt)).getD 0)) = I (i_ : Int) ∧ KnRel kn_ b_.ch ∧ SnRel sm_ b_.sn ∧ Gone S [rowE 125 vcs (chI bd.ch : List Chc), bE gb #[vcs, (Value.map (some rk)), (Value.map (some rs))] 118, mapE rk (kn : List (Chc × Int)), mapE rs (sm : List (Str × Int))] [rowE 125 vcs_ (chI b_.ch : List Chc), bE gb #[vcs_, (Value.map (some rk)), (Value.map (some rs))] 118, mapE rk (kn_ : List (Chc × Int)), mapE rs (sm_ : List (Str × Int))] H0 H0
  subst hd2
  obtain ⟨i, hi1, hi2⟩ := snRel_some hsn h30
  have hL : St H0 (own [rowE 125 vcs (chI bd.ch : List Chc), bE gb #[vcs, (Value.map (some rk)), (Value.map (some rs))] 118, mapE rk (kn : List (Chc × Int)), mapE rs (sm : List (Str × Int))]) (fun b => S b ∧ ¬ own [rowE 125 vcs (chI bd.ch : List Chc), bE gb #[vcs, (Value.map (some rk)), (Value.map (some rs))] 118, mapE rk (kn : List (Chc × Int)), mapE rs (sm : List (Str × Int))] b) [rowE 125 vcs (chI bd.ch : List Chc), bE gb #[vcs, (Value.map (some rk)), (Value.map (some rs))] 118, mapE rk (kn : List (Chc × Int)), mapE rs (sm : List (Str × Int))] H0 := (hS0.drop (sn (sk (sk (sk (sk (List.Sublist.slnil)))))))
  exact ⟨i, bd, _, _, _, node_memo hi1, congrArg I hi2, hkn, hsn, St.leave3 hL⟩
 have hno := snRel_none hsn h30
 refine wpF_skip ?_
 refine wpF_seq ?_
 refine wpF_region ?_
 refine lm (v := vt) rfl rfl y1 ?_
 refine lq rfl (q_lenRd rfl Try.underlying90 rfl (hS0.rdl 0 rfl)) ?_
 refine lq rfl (q_quo rfl rfl rfl (by first | assumption | omega) (by omega)) ?_
 refine la (v := I ((tt.length : Int).tdiv 2)) rfl rfl rfl ?_
 refine wpL_nil ?_
 have b4 := Eq.trans rfl (congrArg I (hq2))
 refine sc (fun f H => ∃ (ir5o7 : Nat), ∃ (br5o7 : Bd), ∃ (kr5o7 : List (Chc × Int)), ∃ (sr5o7 : List (Str × Int)), ∃ (ir5o14 : Nat), ∃ (br5o14 : Bd), ∃ (vr5o14 : Value), ∃ (kr5o14 : List (Chc × Int)), ∃ (sr5o14 : List (Str × Int)), ∃ (g5o16 : Nat), (nodeB N d2 (bools (tt.take hf)) bd = (ir5o7, br5o7)) ∧ (KnRel kr5o7 br5o7.ch) ∧ (SnRel sr5o7 br5o7.sn) ∧ (Inv N br5o7) ∧ (ir5o7 < br5o7.ch.length + 2) ∧ (br5o7.ch.length + 1 ≤ bd.ch.length + 2 ^ d2) ∧ (nodeB N d2 (bools (tt.drop hf)) br5o7 = (ir5o14, br5o14)) ∧ (KnRel kr5o14 br5o14.ch) ∧ (SnRel sr5o14 br5o14.sn) ∧ (Inv N br5o14) ∧ (ir5o14 < br5o14.ch.length + 2) ∧ (br5o14.ch.length + 1 ≤ br5o7.ch.length + 2 ^ d2) ∧ f 0 = PT gb 0 ∧ f 1 = vt ∧ f 10 = PT g5o16 0 ∧ St H0 (own [rowE 125 vcs (chI bd.ch : List Chc), bE gb #[vcs, (Value.map (some rk)), (Value.map (some rs))] 118, mapE rk (kn : List (Chc × Int)), mapE rs (sm : List (Str × Int))]) (fun b => S b ∧ ¬ own [rowE 125 vcs (chI bd.ch : List Chc), bE gb #[vcs, (Value.map (some rk)), (Value.map (some rs))] 118, mapE rk (kn : List (Chc × Int)), mapE rs (sm : List (Str × Int))] b) [bE g5o16 #[I (v), I ((ir5o7 : Int)), I ((ir5o14 : Int))] 125, rowE 125 vr5o14 (chI br5o14.ch : List Chc), bE gb #[vr5o14, (Value.map (some rk)), (Value.map (some rs))] 118, mapE rk (kr5o14 : List (Chc × Int)), mapE rs (sr5o14 : List (Str × Int)), rdE vt tt] H) ?_ ?_
 ·refine wpF_drawn [none, none, none, none, none, none, none, some 0, none, none, none, none, none, none, some 1, none, none, some 2] [[0, 1], [], [], [], [], [], [], [], [0], [0], [0], [0], [0], [0], [], [], [0, 1], []] (fun l b => match l with | 0 => True | 1 => True | 2 => True | _ => False) (by kernel_rfl) (by kernel_rfl) ?_
  refine rq 0 (by kernel_rfl) rfl rfl (q_move (v := I (v)) rfl y2) ?_
  refine rq 1 (by kernel_rfl) rfl rfl (q_move (v := PT gb 0) rfl y0) ?_
  refine rq 2 (by kernel_rfl) rfl rfl (q_move (v := vt) rfl y1) ?_
  refine rq 3 (by kernel_rfl) rfl rfl (q_move (v := I ((hf : Int))) rfl b4) ?_
  have hS5o4 : St H0 (own [rowE 125 vcs (chI bd.ch : List Chc), bE gb #[vcs, (Value.map (some rk)), (Value.map (some rs))] 118, mapE rk (kn : List (Chc × Int)), mapE rs (sm : List (Str × Int))]) (fun b => S b ∧ ¬ own [rowE 125 vcs (chI bd.ch : List Chc), bE gb #[vcs, (Value.map (some rk)), (Value.map (some rs))] 118, mapE rk (kn : List (Chc × Int)), mapE rs (sm : List (Str × Int))] b) [rdE (sliceV 1 vt 0 hf) (tt.take hf : List Bt), rdE vt tt, rowE 125 vcs (chI bd.ch : List Chc), bE gb #[vcs, (Value.map (some rk)), (Value.map (some rs))] 118, mapE rk (kn : List (Chc × Int)), mapE rs (sm : List (Str × Int))] H0 := hS0.rd (Rd.list.2 (sliceV_hi (m := hf) (Rd.list.1 (hS0.rdS 0 rfl)) (by omega)))
  refine rq 4 (by kernel_rfl) rfl rfl (q_sliceRd (k := 0) (m := hf) rfl Try.underlying90 el_Bt_5_DiaC8 rfl (hS0.rdl 0 rfl) lo0 (lo1 rfl (by omega)) (by omega) (by omega)) ?_
  refine rq 5 (by kernel_rfl) rfl rfl (q_move (v := I (v)) rfl y2) ?_
  refine rq 6 (by kernel_rfl) rfl rfl (q_add rfl rfl rfl (by constructor <;> omega)) ?_
  refine rq 8 (by kernel_rfl) rfl rfl (q_move (v := PT gb 0) rfl y0) ?_
  refine rq 9 (by kernel_rfl) rfl rfl (q_move (v := vt) rfl y1) ?_
  refine rq 10 (by kernel_rfl) rfl rfl (q_move (v := I ((hf : Int))) rfl b4) ?_
  have hS5o11 : St H0 (own [rowE 125 vcs (chI bd.ch : List Chc), bE gb #[vcs, (Value.map (some rk)), (Value.map (some rs))] 118, mapE rk (kn : List (Chc × Int)), mapE rs (sm : List (Str × Int))]) (fun b => S b ∧ ¬ own [rowE 125 vcs (chI bd.ch : List Chc), bE gb #[vcs, (Value.map (some rk)), (Value.map (some rs))] 118, mapE rk (kn : List (Chc × Int)), mapE rs (sm : List (Str × Int))] b) [rdE (sliceV 1 vt hf tt.length) (tt.drop hf : List Bt), rdE (sliceV 1 vt 0 hf) (tt.take hf : List Bt), rdE vt tt, rowE 125 vcs (chI bd.ch : List Chc), bE gb #[vcs, (Value.map (some rk)), (Value.map (some rs))] 118, mapE rk (kn : List (Chc × Int)), mapE rs (sm : List (Str × Int))] H0 := hS5o4.rd (Rd.list.2 (sliceV_lo (k := hf) (Rd.list.1 (hS5o4.rdS 1 rfl)) (by omega)))
  refine rq 11 (by kernel_rfl) rfl rfl (q_sliceRd (k := hf) (m := tt.length) rfl Try.underlying90 el_Bt_5_DiaC8 rfl (hS5o4.rdl 1 rfl) (lo1 rfl (by omega)) hi0 (by omega) (by omega)) ?_
  refine rq 12 (by kernel_rfl) rfl rfl (q_move (v := I (v)) rfl y2) ?_
  refine rq 13 (by kernel_rfl) rfl rfl (q_add rfl rfl rfl (by constructor <;> omega)) ?_
  refine wpR_n [7, 16] (by kernel_rfl) ?_
  refine fa ?_ (fa ?_ fe)
  ·have hS5o7 := (St.drop (show St H0 (own [rowE 125 vcs (chI bd.ch : List Chc), bE gb #[vcs, (Value.map (some rk)), (Value.map (some rs))] 118, mapE rk (kn : List (Chc × Int)), mapE rs (sm : List (Str × Int))]) (fun b => S b ∧ ¬ own [rowE 125 vcs (chI bd.ch : List Chc), bE gb #[vcs, (Value.map (some rk)), (Value.map (some rs))] 118, mapE rk (kn : List (Chc × Int)), mapE rs (sm : List (Str × Int))] b) [rowE 125 vcs (chI bd.ch : List Chc), bE gb #[vcs, (Value.map (some rk)), (Value.map (some rs))] 118, mapE rk (kn : List (Chc × Int)), mapE rs (sm : List (Str × Int)), rdE (sliceV 1 vt hf tt.length) (tt.drop hf : List Bt), rdE (sliceV 1 vt 0 hf) (tt.take hf : List Bt), rdE vt tt] H0 from ((((hS5o11.front 6 rfl).front 6 rfl).front 6 rfl).front 6 rfl)) (sk (sk (sk (sk (sk (sk (sk (List.Sublist.slnil)))))))))
   refine exE rfl rfl ?_
   refine e_call rfl Try.call65 (arr3 (v0 := PT gb 0) (v1 := (sliceV 1 vt 0 hf)) (v2 := I (v + 1)) rfl rfl rfl) (ih _ (by omega) _ gb rk rs vcs ((sliceV 1 vt 0 hf)) bd kn sm (tt.take hf) N d2 (v + 1) (St.give (A := [rowE 125 vcs (chI bd.ch : List Chc), bE gb #[vcs, (Value.map (some rk)), (Value.map (some rs))] 118, mapE rk (kn : List (Chc × Int)), mapE rs (sm : List (Str × Int))]) (L := [rdE (sliceV 1 vt hf tt.length) (tt.drop hf : List Bt), rdE (sliceV 1 vt 0 hf) (tt.take hf : List Bt), rdE vt tt]) hS5o7) (hS5o7.rdS 5 rfl) hinv (by omega) hN (by rw [hhf]; exact half_tt1 htd) (by omega) hkn hsn (by omega) rfl) ?_
   rintro _ H5o7 ⟨hxx, ir5o7, br5o7, vr5o7, kr5o7, sr5o7, hndbr5o7, rfl, hknbr5o7, hsnbr5o7, hgo⟩
   have hS5o7x2 : St H0 (own [rowE 125 vcs (chI bd.ch : List Chc), bE gb #[vcs, (Value.map (some rk)), (Value.map (some rs))] 118, mapE rk (kn : List (Chc × Int)), mapE rs (sm : List (Str × Int))]) (fun b => S b ∧ ¬ own [rowE 125 vcs (chI bd.ch : List Chc), bE gb #[vcs, (Value.map (some rk)), (Value.map (some rs))] 118, mapE rk (kn : List (Chc × Int)), mapE rs (sm : List (Str × Int))] b) [rowE 125 vr5o7 (chI br5o7.ch : List Chc), bE gb #[vr5o7, (Value.map (some rk)), (Value.map (some rs))] 118, mapE rk (kr5o7 : List (Chc × Int)), mapE rs (sr5o7 : List (Str × Int)), rdE (sliceV 1 vt hf tt.length) (tt.drop hf : List Bt), rdE (sliceV 1 vt 0 hf) (tt.take hf : List Bt), rdE vt tt] H5o7 := St.back3 (A := [rowE 125 vcs (chI bd.ch : List Chc), bE gb #[vcs, (Value.map (some rk)), (Value.map (some rs))] 118, mapE rk (kn : List (Chc × Int)), mapE rs (sm : List (Str × Int))]) (A' := [rowE 125 vr5o7 (chI br5o7.ch : List Chc), bE gb #[vr5o7, (Value.map (some rk)), (Value.map (some rs))] 118, mapE rk (kr5o7 : List (Chc × Int)), mapE rs (sr5o7 : List (Str × Int))]) (L := [rdE (sliceV 1 vt hf tt.length) (tt.drop hf : List Bt), rdE (sliceV 1 vt 0 hf) (tt.take hf : List Bt), rdE vt tt]) hS5o7 hxx hgo
   have hmbr5o7 := node_ok hinv (d := d2) (t := bools (tt.take hf)) (by omega) (by rw [bools, List.length_map]; exact (by rw [hhf]; exact half_tt1 htd))
   have hlbr5o7 := node_len (N := N) (d := d2) (t := bools (tt.take hf)) (b := bd)
   rw [hndbr5o7] at hmbr5o7 hlbr5o7
   replace hlbr5o7 : br5o7.ch.length + 1 ≤ bd.ch.length + 2 ^ d2 := hlbr5o7
   have hinvbr5o7 : Inv N br5o7 := hmbr5o7.inv
   have hltbr5o7 : ir5o7 < br5o7.ch.length + 2 := hmbr5o7.lt
   refine ⟨Ext.mono hxx (labS_of 0 rfl (fun _ _ => trivial)), ?_⟩
   refine wpR_n [14, 16] (by kernel_rfl) ?_
   refine fa ?_ (fa ?_ fe)
   ·have hS5o14 := hS5o7x2
    refine exE rfl rfl ?_
    refine e_call rfl Try.call65 (arr3 (v0 := PT gb 0) (v1 := (sliceV 1 vt hf tt.length)) (v2 := I (v + 1)) rfl rfl rfl) (ih _ (by omega) _ gb rk rs vr5o7 ((sliceV 1 vt hf tt.length)) br5o7 kr5o7 sr5o7 (tt.drop hf) N d2 (v + 1) (St.give (A := [rowE 125 vr5o7 (chI br5o7.ch : List Chc), bE gb #[vr5o7, (Value.map (some rk)), (Value.map (some rs))] 118, mapE rk (kr5o7 : List (Chc × Int)), mapE rs (sr5o7 : List (Str × Int))]) (L := [rdE (sliceV 1 vt hf tt.length) (tt.drop hf : List Bt), rdE (sliceV 1 vt 0 hf) (tt.take hf : List Bt), rdE vt tt]) hS5o14) (hS5o14.rdS 4 rfl) hinvbr5o7 (by omega) hN (by rw [hhf]; exact half_tt2 htd) (by omega) hknbr5o7 hsnbr5o7 (by omega) rfl) ?_
    rintro _ H5o14 ⟨hxx, ir5o14, br5o14, vr5o14, kr5o14, sr5o14, hndbr5o14, rfl, hknbr5o14, hsnbr5o14, hgo⟩
    have hS5o14x2 : St H0 (own [rowE 125 vcs (chI bd.ch : List Chc), bE gb #[vcs, (Value.map (some rk)), (Value.map (some rs))] 118, mapE rk (kn : List (Chc × Int)), mapE rs (sm : List (Str × Int))]) (fun b => S b ∧ ¬ own [rowE 125 vcs (chI bd.ch : List Chc), bE gb #[vcs, (Value.map (some rk)), (Value.map (some rs))] 118, mapE rk (kn : List (Chc × Int)), mapE rs (sm : List (Str × Int))] b) [rowE 125 vr5o14 (chI br5o14.ch : List Chc), bE gb #[vr5o14, (Value.map (some rk)), (Value.map (some rs))] 118, mapE rk (kr5o14 : List (Chc × Int)), mapE rs (sr5o14 : List (Str × Int)), rdE (sliceV 1 vt hf tt.length) (tt.drop hf : List Bt), rdE (sliceV 1 vt 0 hf) (tt.take hf : List Bt), rdE vt tt] H5o14 := St.back3 (A := [rowE 125 vr5o7 (chI br5o7.ch : List Chc), bE gb #[vr5o7, (Value.map (some rk)), (Value.map (some rs))] 118, mapE rk (kr5o7 : List (Chc × Int)), mapE rs (sr5o7 : List (Str × Int))]) (A' := [rowE 125 vr5o14 (chI br5o14.ch : List Chc), bE gb #[vr5o14, (Value.map (some rk)), (Value.map (some rs))] 118, mapE rk (kr5o14 : List (Chc × Int)), mapE rs (sr5o14 : List (Str × Int))]) (L := [rdE (sliceV 1 vt hf tt.length) (tt.drop hf : List Bt), rdE (sliceV 1 vt 0 hf) (tt.take hf : List Bt), rdE vt tt]) hS5o14 hxx hgo
    have hmbr5o14 := node_ok hinvbr5o7 (d := d2) (t := bools (tt.drop hf)) (by omega) (by rw [bools, List.length_map]; exact (by rw [hhf]; exact half_tt2 htd))
    have hlbr5o14 := node_len (N := N) (d := d2) (t := bools (tt.drop hf)) (b := br5o7)
    rw [hndbr5o14] at hmbr5o14 hlbr5o14
    replace hlbr5o14 : br5o14.ch.length + 1 ≤ br5o7.ch.length + 2 ^ d2 := hlbr5o14
    have hinvbr5o14 : Inv N br5o14 := hmbr5o14.inv
    have hltbr5o14 : ir5o14 < br5o14.ch.length + 2 := hmbr5o14.lt
    refine ⟨Ext.mono hxx (labS_of 1 rfl (fun _ _ => trivial)), ?_⟩
    refine rq 15 (by kernel_rfl) rfl rfl (q_build (v := Vg #[I (v), I ((ir5o7 : Int)), I ((ir5o14 : Int))]) rfl (par3 (v0 := I (v)) (v1 := I ((ir5o7 : Int))) (v2 := I ((ir5o14 : Int))) rfl rfl rfl) (fun w__ => by kernel_rfl)) ?_
    refine wpR_n [16] (by kernel_rfl) ?_
    refine fa ?_ fe
    refine exE rfl rfl ?_
    refine e_alloc rfl Try.zeroValue125 hS5o14x2 (fun g5o16 H5o16 hS5o16 hxx => ?_)
    refine ⟨Ext.mono hxx (fun _ h => h.elim), ?_⟩
    refine wpR_n [17] (by kernel_rfl) ?_
    refine fa ?_ fe
    refine exE rfl rfl ?_
    refine e_storeBlkA (cs' := #[I (v), I ((ir5o7 : Int)), I ((ir5o14 : Int))]) rfl rfl rfl Try.sizeOf125 rfl rfl (fa rfl (fa rfl (fa rfl fe))) hS5o16 (fun H5o17 hS5o17 hxx => ?_)
    refine ⟨Ext.mono hxx (labS_of 2 rfl (fun _ _ => trivial)), ?_⟩
    refine wpR_end (by kernel_rfl) ?_
    exact ⟨ir5o7, br5o7, kr5o7, sr5o7, ir5o14, br5o14, vr5o14, kr5o14, sr5o14, g5o16, hndbr5o7, hknbr5o7, hsnbr5o7, hinvbr5o7, hltbr5o7, hlbr5o7, hndbr5o14, hknbr5o14, hsnbr5o14, hinvbr5o14, hltbr5o14, hlbr5o14, y0, y1, rfl, (hS5o17.drop (sk (sk (sk (sk (sk (sn (sn (sk (List.Sublist.slnil))))))))))⟩
   ·refine exE rfl rfl ?_
    refine e_alloc rfl Try.zeroValue125 hS5o7x2 (fun g5o16 H5o16 hS5o16 hxx => ?_)
    refine ⟨Ext.mono hxx (fun _ h => h.elim), ?_⟩
    refine wpR_n [14] (by kernel_rfl) ?_
    refine fa ?_ fe
    have hS5o14 := (St.drop (show St H0 (own [rowE 125 vcs (chI bd.ch : List Chc), bE gb #[vcs, (Value.map (some rk)), (Value.map (some rs))] 118, mapE rk (kn : List (Chc × Int)), mapE rs (sm : List (Str × Int))]) (fun b => S b ∧ ¬ own [rowE 125 vcs (chI bd.ch : List Chc), bE gb #[vcs, (Value.map (some rk)), (Value.map (some rs))] 118, mapE rk (kn : List (Chc × Int)), mapE rs (sm : List (Str × Int))] b) [rowE 125 vr5o7 (chI br5o7.ch : List Chc), bE gb #[vr5o7, (Value.map (some rk)), (Value.map (some rs))] 118, mapE rk (kr5o7 : List (Chc × Int)), mapE rs (sr5o7 : List (Str × Int)), bE g5o16 #[I (0), I (0), I (0)] 125, rdE (sliceV 1 vt hf tt.length) (tt.drop hf : List Bt), rdE (sliceV 1 vt 0 hf) (tt.take hf : List Bt), rdE vt tt] H5o16 from ((((hS5o16.front 4 rfl).front 4 rfl).front 4 rfl).front 4 rfl)) (sk (sk (sk (sk (sk (sk (sk (sk (List.Sublist.slnil))))))))))
    refine exE rfl rfl ?_
    refine e_call rfl Try.call65 (arr3 (v0 := PT gb 0) (v1 := (sliceV 1 vt hf tt.length)) (v2 := I (v + 1)) rfl rfl rfl) (ih _ (by omega) _ gb rk rs vr5o7 ((sliceV 1 vt hf tt.length)) br5o7 kr5o7 sr5o7 (tt.drop hf) N d2 (v + 1) (St.give (A := [rowE 125 vr5o7 (chI br5o7.ch : List Chc), bE gb #[vr5o7, (Value.map (some rk)), (Value.map (some rs))] 118, mapE rk (kr5o7 : List (Chc × Int)), mapE rs (sr5o7 : List (Str × Int))]) (L := [bE g5o16 #[I (0), I (0), I (0)] 125, rdE (sliceV 1 vt hf tt.length) (tt.drop hf : List Bt), rdE (sliceV 1 vt 0 hf) (tt.take hf : List Bt), rdE vt tt]) hS5o14) (hS5o14.rdS 5 rfl) hinvbr5o7 (by omega) hN (by rw [hhf]; exact half_tt2 htd) (by omega) hknbr5o7 hsnbr5o7 (by omega) rfl) ?_
    rintro _ H5o14 ⟨hxx, ir5o14, br5o14, vr5o14, kr5o14, sr5o14, hndbr5o14, rfl, hknbr5o14, hsnbr5o14, hgo⟩
    have hS5o14x2 : St H0 (own [rowE 125 vcs (chI bd.ch : List Chc), bE gb #[vcs, (Value.map (some rk)), (Value.map (some rs))] 118, mapE rk (kn : List (Chc × Int)), mapE rs (sm : List (Str × Int))]) (fun b => S b ∧ ¬ own [rowE 125 vcs (chI bd.ch : List Chc), bE gb #[vcs, (Value.map (some rk)), (Value.map (some rs))] 118, mapE rk (kn : List (Chc × Int)), mapE rs (sm : List (Str × Int))] b) [rowE 125 vr5o14 (chI br5o14.ch : List Chc), bE gb #[vr5o14, (Value.map (some rk)), (Value.map (some rs))] 118, mapE rk (kr5o14 : List (Chc × Int)), mapE rs (sr5o14 : List (Str × Int)), bE g5o16 #[I (0), I (0), I (0)] 125, rdE (sliceV 1 vt hf tt.length) (tt.drop hf : List Bt), rdE (sliceV 1 vt 0 hf) (tt.take hf : List Bt), rdE vt tt] H5o14 := St.back3 (A := [rowE 125 vr5o7 (chI br5o7.ch : List Chc), bE gb #[vr5o7, (Value.map (some rk)), (Value.map (some rs))] 118, mapE rk (kr5o7 : List (Chc × Int)), mapE rs (sr5o7 : List (Str × Int))]) (A' := [rowE 125 vr5o14 (chI br5o14.ch : List Chc), bE gb #[vr5o14, (Value.map (some rk)), (Value.map (some rs))] 118, mapE rk (kr5o14 : List (Chc × Int)), mapE rs (sr5o14 : List (Str × Int))]) (L := [bE g5o16 #[I (0), I (0), I (0)] 125, rdE (sliceV 1 vt hf tt.length) (tt.drop hf : List Bt), rdE (sliceV 1 vt 0 hf) (tt.take hf : List Bt), rdE vt tt]) hS5o14 hxx hgo
    have hmbr5o14 := node_ok hinvbr5o7 (d := d2) (t := bools (tt.drop hf)) (by omega) (by rw [bools, List.length_map]; exact (by rw [hhf]; exact half_tt2 htd))
    have hlbr5o14 := node_len (N := N) (d := d2) (t := bools (tt.drop hf)) (b := br5o7)
    rw [hndbr5o14] at hmbr5o14 hlbr5o14
    replace hlbr5o14 : br5o14.ch.length + 1 ≤ br5o7.ch.length + 2 ^ d2 := hlbr5o14
    have hinvbr5o14 : Inv N br5o14 := hmbr5o14.inv
    have hltbr5o14 : ir5o14 < br5o14.ch.length + 2 := hmbr5o14.lt
    refine ⟨Ext.mono hxx (labS_of 1 rfl (fun _ _ => trivial)), ?_⟩
    refine rq 15 (by kernel_rfl) rfl rfl (q_build (v := Vg #[I (v), I ((ir5o7 : Int)), I ((ir5o14 : Int))]) rfl (par3 (v0 := I (v)) (v1 := I ((ir5o7 : Int))) (v2 := I ((ir5o14 : Int))) rfl rfl rfl) (fun w__ => by kernel_rfl)) ?_
    refine wpR_n [17] (by kernel_rfl) ?_
    refine fa ?_ fe
    refine exE rfl rfl ?_
    refine e_storeBlkA (cs' := #[I (v), I ((ir5o7 : Int)), I ((ir5o14 : Int))]) rfl rfl rfl Try.sizeOf125 rfl rfl (fa rfl (fa rfl (fa rfl fe))) (hS5o14x2.front 4 rfl) (fun H5o17 hS5o17 hxx => ?_)
    refine ⟨Ext.mono hxx (labS_of 2 rfl (fun _ _ => trivial)), ?_⟩
    refine wpR_end (by kernel_rfl) ?_
    exact ⟨ir5o7, br5o7, kr5o7, sr5o7, ir5o14, br5o14, vr5o14, kr5o14, sr5o14, g5o16, hndbr5o7, hknbr5o7, hsnbr5o7, hinvbr5o7, hltbr5o7, hlbr5o7, hndbr5o14, hknbr5o14, hsnbr5o14, hinvbr5o14, hltbr5o14, hlbr5o14, y0, y1, rfl, (hS5o17.drop (sk (sk (sk (sk (sk (sn (sn (sk (List.Sublist.slnil))))))))))⟩
  ·refine exE rfl rfl ?_
   refine e_alloc rfl Try.zeroValue125 hS5o11 (fun g5o16 H5o16 hS5o16 hxx => ?_)
   refine ⟨Ext.mono hxx (fun _ h => h.elim), ?_⟩
   refine wpR_n [7] (by kernel_rfl) ?_
   refine fa ?_ fe
   have hS5o7 := (St.drop (show St H0 (own [rowE 125 vcs (chI bd.ch : List Chc), bE gb #[vcs, (Value.map (some rk)), (Value.map (some rs))] 118, mapE rk (kn : List (Chc × Int)), mapE rs (sm : List (Str × Int))]) (fun b => S b ∧ ¬ own [rowE 125 vcs (chI bd.ch : List Chc), bE gb #[vcs, (Value.map (some rk)), (Value.map (some rs))] 118, mapE rk (kn : List (Chc × Int)), mapE rs (sm : List (Str × Int))] b) [rowE 125 vcs (chI bd.ch : List Chc), bE gb #[vcs, (Value.map (some rk)), (Value.map (some rs))] 118, mapE rk (kn : List (Chc × Int)), mapE rs (sm : List (Str × Int)), bE g5o16 #[I (0), I (0), I (0)] 125, rdE (sliceV 1 vt hf tt.length) (tt.drop hf : List Bt), rdE (sliceV 1 vt 0 hf) (tt.take hf : List Bt), rdE vt tt] H5o16 from ((((hS5o16.front 7 rfl).front 7 rfl).front 7 rfl).front 7 rfl)) (sk (sk (sk (sk (sk (sk (sk (sk (List.Sublist.slnil))))))))))
   refine exE rfl rfl ?_
   refine e_call rfl Try.call65 (arr3 (v0 := PT gb 0) (v1 := (sliceV 1 vt 0 hf)) (v2 := I (v + 1)) rfl rfl rfl) (ih _ (by omega) _ gb rk rs vcs ((sliceV 1 vt 0 hf)) bd kn sm (tt.take hf) N d2 (v + 1) (St.give (A := [rowE 125 vcs (chI bd.ch : List Chc), bE gb #[vcs, (Value.map (some rk)), (Value.map (some rs))] 118, mapE rk (kn : List (Chc × Int)), mapE rs (sm : List (Str × Int))]) (L := [bE g5o16 #[I (0), I (0), I (0)] 125, rdE (sliceV 1 vt hf tt.length) (tt.drop hf : List Bt), rdE (sliceV 1 vt 0 hf) (tt.take hf : List Bt), rdE vt tt]) hS5o7) (hS5o7.rdS 6 rfl) hinv (by omega) hN (by rw [hhf]; exact half_tt1 htd) (by omega) hkn hsn (by omega) rfl) ?_
   rintro _ H5o7 ⟨hxx, ir5o7, br5o7, vr5o7, kr5o7, sr5o7, hndbr5o7, rfl, hknbr5o7, hsnbr5o7, hgo⟩
   have hS5o7x2 : St H0 (own [rowE 125 vcs (chI bd.ch : List Chc), bE gb #[vcs, (Value.map (some rk)), (Value.map (some rs))] 118, mapE rk (kn : List (Chc × Int)), mapE rs (sm : List (Str × Int))]) (fun b => S b ∧ ¬ own [rowE 125 vcs (chI bd.ch : List Chc), bE gb #[vcs, (Value.map (some rk)), (Value.map (some rs))] 118, mapE rk (kn : List (Chc × Int)), mapE rs (sm : List (Str × Int))] b) [rowE 125 vr5o7 (chI br5o7.ch : List Chc), bE gb #[vr5o7, (Value.map (some rk)), (Value.map (some rs))] 118, mapE rk (kr5o7 : List (Chc × Int)), mapE rs (sr5o7 : List (Str × Int)), bE g5o16 #[I (0), I (0), I (0)] 125, rdE (sliceV 1 vt hf tt.length) (tt.drop hf : List Bt), rdE (sliceV 1 vt 0 hf) (tt.take hf : List Bt), rdE vt tt] H5o7 := St.back3 (A := [rowE 125 vcs (chI bd.ch : List Chc), bE gb #[vcs, (Value.map (some rk)), (Value.map (some rs))] 118, mapE rk (kn : List (Chc × Int)), mapE rs (sm : List (Str × Int))]) (A' := [rowE 125 vr5o7 (chI br5o7.ch : List Chc), bE gb #[vr5o7, (Value.map (some rk)), (Value.map (some rs))] 118, mapE rk (kr5o7 : List (Chc × Int)), mapE rs (sr5o7 : List (Str × Int))]) (L := [bE g5o16 #[I (0), I (0), I (0)] 125, rdE (sliceV 1 vt hf tt.length) (tt.drop hf : List Bt), rdE (sliceV 1 vt 0 hf) (tt.take hf : List Bt), rdE vt tt]) hS5o7 hxx hgo
   have hmbr5o7 := node_ok hinv (d := d2) (t := bools (tt.take hf)) (by omega) (by rw [bools, List.length_map]; exact (by rw [hhf]; exact half_tt1 htd))
   have hlbr5o7 := node_len (N := N) (d := d2) (t := bools (tt.take hf)) (b := bd)
   rw [hndbr5o7] at hmbr5o7 hlbr5o7
   replace hlbr5o7 : br5o7.ch.length + 1 ≤ bd.ch.length + 2 ^ d2 := hlbr5o7
   have hinvbr5o7 : Inv N br5o7 := hmbr5o7.inv
   have hltbr5o7 : ir5o7 < br5o7.ch.length + 2 := hmbr5o7.lt
   refine ⟨Ext.mono hxx (labS_of 0 rfl (fun _ _ => trivial)), ?_⟩
   refine wpR_n [14] (by kernel_rfl) ?_
   refine fa ?_ fe
   have hS5o14 := hS5o7x2
   refine exE rfl rfl ?_
   refine e_call rfl Try.call65 (arr3 (v0 := PT gb 0) (v1 := (sliceV 1 vt hf tt.length)) (v2 := I (v + 1)) rfl rfl rfl) (ih _ (by omega) _ gb rk rs vr5o7 ((sliceV 1 vt hf tt.length)) br5o7 kr5o7 sr5o7 (tt.drop hf) N d2 (v + 1) (St.give (A := [rowE 125 vr5o7 (chI br5o7.ch : List Chc), bE gb #[vr5o7, (Value.map (some rk)), (Value.map (some rs))] 118, mapE rk (kr5o7 : List (Chc × Int)), mapE rs (sr5o7 : List (Str × Int))]) (L := [bE g5o16 #[I (0), I (0), I (0)] 125, rdE (sliceV 1 vt hf tt.length) (tt.drop hf : List Bt), rdE (sliceV 1 vt 0 hf) (tt.take hf : List Bt), rdE vt tt]) hS5o14) (hS5o14.rdS 5 rfl) hinvbr5o7 (by omega) hN (by rw [hhf]; exact half_tt2 htd) (by omega) hknbr5o7 hsnbr5o7 (by omega) rfl) ?_
   rintro _ H5o14 ⟨hxx, ir5o14, br5o14, vr5o14, kr5o14, sr5o14, hndbr5o14, rfl, hknbr5o14, hsnbr5o14, hgo⟩
   have hS5o14x2 : St H0 (own [rowE 125 vcs (chI bd.ch : List Chc), bE gb #[vcs, (Value.map (some rk)), (Value.map (some rs))] 118, mapE rk (kn : List (Chc × Int)), mapE rs (sm : List (Str × Int))]) (fun b => S b ∧ ¬ own [rowE 125 vcs (chI bd.ch : List Chc), bE gb #[vcs, (Value.map (some rk)), (Value.map (some rs))] 118, mapE rk (kn : List (Chc × Int)), mapE rs (sm : List (Str × Int))] b) [rowE 125 vr5o14 (chI br5o14.ch : List Chc), bE gb #[vr5o14, (Value.map (some rk)), (Value.map (some rs))] 118, mapE rk (kr5o14 : List (Chc × Int)), mapE rs (sr5o14 : List (Str × Int)), bE g5o16 #[I (0), I (0), I (0)] 125, rdE (sliceV 1 vt hf tt.length) (tt.drop hf : List Bt), rdE (sliceV 1 vt 0 hf) (tt.take hf : List Bt), rdE vt tt] H5o14 := St.back3 (A := [rowE 125 vr5o7 (chI br5o7.ch : List Chc), bE gb #[vr5o7, (Value.map (some rk)), (Value.map (some rs))] 118, mapE rk (kr5o7 : List (Chc × Int)), mapE rs (sr5o7 : List (Str × Int))]) (A' := [rowE 125 vr5o14 (chI br5o14.ch : List Chc), bE gb #[vr5o14, (Value.map (some rk)), (Value.map (some rs))] 118, mapE rk (kr5o14 : List (Chc × Int)), mapE rs (sr5o14 : List (Str × Int))]) (L := [bE g5o16 #[I (0), I (0), I (0)] 125, rdE (sliceV 1 vt hf tt.length) (tt.drop hf : List Bt), rdE (sliceV 1 vt 0 hf) (tt.take hf : List Bt), rdE vt tt]) hS5o14 hxx hgo
   have hmbr5o14 := node_ok hinvbr5o7 (d := d2) (t := bools (tt.drop hf)) (by omega) (by rw [bools, List.length_map]; exact (by rw [hhf]; exact half_tt2 htd))
   have hlbr5o14 := node_len (N := N) (d := d2) (t := bools (tt.drop hf)) (b := br5o7)
   rw [hndbr5o14] at hmbr5o14 hlbr5o14
   replace hlbr5o14 : br5o14.ch.length + 1 ≤ br5o7.ch.length + 2 ^ d2 := hlbr5o14
   have hinvbr5o14 : Inv N br5o14 := hmbr5o14.inv
   have hltbr5o14 : ir5o14 < br5o14.ch.length + 2 := hmbr5o14.lt
   refine ⟨Ext.mono hxx (labS_of 1 rfl (fun _ _ => trivial)), ?_⟩
   refine rq 15 (by kernel_rfl) rfl rfl (q_build (v := Vg #[I (v), I ((ir5o7 : Int)), I ((ir5o14 : Int))]) rfl (par3 (v0 := I (v)) (v1 := I ((ir5o7 : Int))) (v2 := I ((ir5o14 : Int))) rfl rfl rfl) (fun w__ => by kernel_rfl)) ?_
   refine wpR_n [17] (by kernel_rfl) ?_
   refine fa ?_ fe
   refine exE rfl rfl ?_
   refine e_storeBlkA (cs' := #[I (v), I ((ir5o7 : Int)), I ((ir5o14 : Int))]) rfl rfl rfl Try.sizeOf125 rfl rfl (fa rfl (fa rfl (fa rfl fe))) (hS5o14x2.front 4 rfl) (fun H5o17 hS5o17 hxx => ?_)
   refine ⟨Ext.mono hxx (labS_of 2 rfl (fun _ _ => trivial)), ?_⟩
   refine wpR_end (by kernel_rfl) ?_
   exact ⟨ir5o7, br5o7, kr5o7, sr5o7, ir5o14, br5o14, vr5o14, kr5o14, sr5o14, g5o16, hndbr5o7, hknbr5o7, hsnbr5o7, hinvbr5o7, hltbr5o7, hlbr5o7, hndbr5o14, hknbr5o14, hsnbr5o14, hinvbr5o14, hltbr5o14, hlbr5o14, y0, y1, rfl, (hS5o17.drop (sk (sk (sk (sk (sk (sn (sn (sk (List.Sublist.slnil))))))))))⟩
 clear y0 y1 y2
 rintro f6 H6 ⟨ir5o7, br5o7, kr5o7, sr5o7, ir5o14, br5o14, vr5o14, kr5o14, sr5o14, g5o16, hndbr5o7, hknbr5o7, hsnbr5o7, hinvbr5o7, hltbr5o7, hlbr5o7, hndbr5o14, hknbr5o14, hsnbr5o14, hinvbr5o14, hltbr5o14, hlbr5o14, y0, y1, y10, hS6⟩
 refine wpF_seq ?_
 refine wpF_drawn [] [] (fun _ _ => False) (by kernel_rfl) (by kernel_rfl) ?_
 refine rq 0 (by kernel_rfl) rfl rfl (q_move (v := PT gb 0) rfl y0) ?_
 refine rq 1 (by kernel_rfl) rfl rfl (q_nilCheck rfl rfl) ?_
 refine rq 2 (by kernel_rfl) rfl rfl (q_fieldAddr rfl Try.underlying118 rfl Try.sizeOf115 rfl) ?_
 refine rq 3 (by kernel_rfl) rfl rfl (q_loadBlk rfl rfl Try.isAgg115 (hS6.blk 2 rfl) rfl (labU_not [] rfl (fe))) ?_
 refine rq 4 (by kernel_rfl) rfl rfl (q_loadBlkA rfl y10 Try.isAgg125 Try.sizeOf125 rfl (hS6.blk 0 rfl) (labU_not [] rfl (fe))) ?_
 obtain ⟨u7o5, hlu7o5, hru7o5⟩ := lookD (t := 115) (d := (0 : Int)) Try.underlying115 (keyLaw_chc_125_DiaC8) Try.zeroValue3 (fun _ _ => Rd.int.2 ⟨rfl, by decide⟩) (Chc.mk v (ir5o7 : Int) (ir5o14 : Int)) (hS6.get 3 rfl)
 obtain ⟨rfl, hiu7o5⟩ := Rd.int.1 hru7o5
 refine rq 5 (by kernel_rfl) rfl rfl (q_lookup1 rfl rfl rfl (hlu7o5 _ (labU_not [] rfl (fe)))) ?_
 refine rq 6 (by kernel_rfl) rfl rfl (q_move (v := Value.tuple #[I ((mget kr5o14 (Chc.mk v (ir5o7 : Int) (ir5o14 : Int))).getD 0), B ((mget kr5o14 (Chc.mk v (ir5o7 : Int) (ir5o14 : Int))).isSome)]) rfl rfl) ?_
 refine rq 7 (by kernel_rfl) rfl rfl (q_extract (vs := #[I ((mget kr5o14 (Chc.mk v (ir5o7 : Int) (ir5o14 : Int))).getD 0), B ((mget kr5o14 (Chc.mk v (ir5o7 : Int) (ir5o14 : Int))).isSome)]) (v := I ((mget kr5o14 (Chc.mk v (ir5o7 : Int) (ir5o14 : Int))).getD 0)) rfl rfl rfl) ?_
 refine rq 8 (by kernel_rfl) rfl rfl (q_extract (vs := #[I ((mget kr5o14 (Chc.mk v (ir5o7 : Int) (ir5o14 : Int))).getD 0), B ((mget kr5o14 (Chc.mk v (ir5o7 : Int) (ir5o14 : Int))).isSome)]) (v := B ((mget kr5o14 (Chc.mk v (ir5o7 : Int) (ir5o14 : Int))).isSome)) rfl rfl rfl) ?_
 refine rq 9 (by kernel_rfl) rfl rfl (q_assign (v := I ((mget kr5o14 (Chc.mk v (ir5o7 : Int) (ir5o14 : Int))).getD 0)) rfl rfl) ?_
 refine rq 10 (by kernel_rfl) rfl rfl (q_assign (v := B ((mget kr5o14 (Chc.mk v (ir5o7 : Int) (ir5o14 : Int))).isSome)) rfl rfl) ?_
 refine wpR_end (by kernel_rfl) ?_
 skip
 refine wpF_seq ?_
 refine wpF_block ?_
 refine wpF_seq ?_
 refine wpF_region ?_
 refine lq rfl (q_fieldAddr rfl Try.underlying125 rfl Try.sizeOf3 y10) ?_
 refine lq rfl (q_loadBlk rfl rfl Try.isAgg3 (hS6.blk 0 rfl) rfl (fun h => h)) ?_
 refine lq rfl (q_fieldAddr rfl Try.underlying125 rfl Try.sizeOf3 y10) ?_
 refine lq rfl (q_loadBlk rfl rfl Try.isAgg3 (hS6.blk 0 rfl) rfl (fun h => h)) ?_
 refine lq rfl (q_eql rfl rfl rfl) ?_
 refine la (v := B (decide ((ir5o7 : Int) = (ir5o14 : Int)))) rfl rfl rfl ?_
 refine wpL_nil ?_
 refine wpF_condP rfl (fun h60 => ?t17) (fun h60 => ?e17)
 case t17 =>
  refine wpF_region ?_
  refine lq rfl (q_fieldAddr rfl Try.underlying125 rfl Try.sizeOf3 y10) ?_
  refine lq rfl (q_loadBlk rfl rfl Try.isAgg3 (hS6.blk 0 rfl) rfl (fun h => h)) ?_
  refine la (v := I ((ir5o7 : Int))) rfl rfl rfl ?_
  refine wpL_nil ?_
  refine wpF_seq ?_
  refine wpF_drawn [none, none, none, none, none, none, none, some 0] [[], [], [], [], [], [], [], []] (fun l b => match l with | 0 => True | _ => False) (by kernel_rfl) (by kernel_rfl) ?_
  refine rq 0 (by kernel_rfl) rfl rfl (q_move (v := PT gb 0) rfl y0) ?_
  refine rq 1 (by kernel_rfl) rfl rfl (q_nilCheck rfl rfl) ?_
  refine rq 2 (by kernel_rfl) rfl rfl (q_fieldAddr rfl Try.underlying118 rfl Try.sizeOf116 rfl) ?_
  refine rq 3 (by kernel_rfl) rfl rfl (q_loadBlk rfl rfl Try.isAgg116 (hS6.blk 2 rfl) rfl (labU_not [] rfl (fe))) ?_
  refine rq 4 (by kernel_rfl) rfl rfl (q_move (v := vt) rfl y1) ?_
  refine rq 5 (by kernel_rfl) rfl rfl (q_convT rfl Try.underlying90 Try.underlying5 Try.underlying9 rfl (Rd.list.1 (hS6.rdS 5 rfl)) (hne) (labU_sub [] rfl (fe))) ?_
  refine rq 6 (by kernel_rfl) rfl rfl (q_move (v := I ((ir5o7 : Int))) rfl rfl) ?_
  refine wpR_n [7] (by kernel_rfl) ?_
  refine fa ?_ fe
  have hS9o7 := (hS6.front 4 rfl)
  refine exE rfl rfl ?_
  refine e_mapUpdate (k := (strT tt)) (.inl rfl) Try.underlying116 (keyLaw_str Try.underlying9) rfl rfl rfl hS9o7 (Rd.int.2 ⟨rfl, by first | assumption | (constructor <;> omega) | (simp only [List.length_append, List.length_singleton, chI_len]; constructor <;> omega)⟩) (fun H9o7 hS9o7x2 hxx => ?_)
  refine ⟨Ext.mono hxx (labS_of 0 rfl (fun _ _ => trivial)), ?_⟩
  refine wpR_end (by kernel_rfl) ?_
  skip
  refine wpF_seq ?_
  refine wpF_region ?_
  refine lm (v := I ((ir5o7 : Int))) rfl rfl rfl ?_
  refine la (v := I ((ir5o7 : Int))) rfl rfl rfl ?_
  refine wpL_nil ?_
  refine wpF_ret ?_
  refine ⟨_, resT rfl resN, hS9o7x2.frameM, ?_⟩
  show ∃ (i_ : Nat) (b_ : Bd) (vcs_ : Value) (kn_ : List (Chc × Int)) (sm_ : List (Str × Int)), nodeB N d (bools tt) bd = (i_, b_) ∧ (I ((ir5o7 : Int))) = I (i_ : Int) ∧ KnRel kn_ b_.ch ∧ SnRel sm_ b_.sn ∧ Gone S [rowE 125 vcs (chI bd.ch : List Chc), bE gb #[vcs, (Value.map (some rk)), (Value.map (some rs))] 118, mapE rk (kn : List (Chc × Int)), mapE rs (sm : List (Str × Int))] [rowE 125 vcs_ (chI b_.ch : List Chc), bE gb #[vcs_, (Value.map (some rk)), (Value.map (some rs))] 118, mapE rk (kn_ : List (Chc × Int)), mapE rs (sm_ : List (Str × Int))] H0 H9o7
  subst hd2
  have hn1 := hndbr5o7
  rw [bools_take, hhf] at hn1
  have hn2 := hndbr5o14
  rw [bools_drop, hhf] at hn2
  have hL : St H0 (own [rowE 125 vcs (chI bd.ch : List Chc), bE gb #[vcs, (Value.map (some rk)), (Value.map (some rs))] 118, mapE rk (kn : List (Chc × Int)), mapE rs (sm : List (Str × Int))]) (fun b => S b ∧ ¬ own [rowE 125 vcs (chI bd.ch : List Chc), bE gb #[vcs, (Value.map (some rk)), (Value.map (some rs))] 118, mapE rk (kn : List (Chc × Int)), mapE rs (sm : List (Str × Int))] b) [rowE 125 vr5o14 (chI br5o14.ch : List Chc), bE gb #[vr5o14, (Value.map (some rk)), (Value.map (some rs))] 118, mapE rk (kr5o14 : List (Chc × Int)), mapE rs (mset sr5o14 (strT tt) (ir5o7 : Int) : List (Str × Int))] H9o7 := (St.drop (show St H0 (own [rowE 125 vcs (chI bd.ch : List Chc), bE gb #[vcs, (Value.map (some rk)), (Value.map (some rs))] 118, mapE rk (kn : List (Chc × Int)), mapE rs (sm : List (Str × Int))]) (fun b => S b ∧ ¬ own [rowE 125 vcs (chI bd.ch : List Chc), bE gb #[vcs, (Value.map (some rk)), (Value.map (some rs))] 118, mapE rk (kn : List (Chc × Int)), mapE rs (sm : List (Str × Int))] b) [rowE 125 vr5o14 (chI br5o14.ch : List Chc), bE gb #[vr5o14, (Value.map (some rk)), (Value.map (some rs))] 118, mapE rk (kr5o14 : List (Chc × Int)), mapE rs (mset sr5o14 (strT tt) (ir5o7 : Int) : List (Str × Int)), bE g5o16 #[I (v), I ((ir5o7 : Int)), I ((ir5o14 : Int))] 125, rdE vt tt] H9o7 from (((hS9o7x2.front 4 rfl).front 4 rfl).front 4 rfl)) (sk (sk (sk (sk (sn (sn (List.Sublist.slnil))))))))
  exact ⟨ir5o7, ⟨br5o14.ch, fun s => if s = bools tt then some (ir5o7) else br5o14.sn s⟩, _, _, _, node_same hno hn1 hn2 (by omega), rfl, hknbr5o14, snRel_add hsnbr5o14 rfl, St.leave3 hL⟩
 refine wpF_seq ?_
 refine wpF_region ?_
 refine lm (v := B ((mget kr5o14 (Chc.mk v (ir5o7 : Int) (ir5o14 : Int))).isSome)) rfl rfl rfl ?_
 refine lq rfl (q_not rfl rfl) ?_
 refine la (v := B (!((mget kr5o14 (Chc.mk v (ir5o7 : Int) (ir5o14 : Int))).isSome))) rfl rfl rfl ?_
 refine wpL_nil ?_
 refine wpF_cond rfl (fun h68 => ?t16) (fun h68 => ?e16)
 case e16 =>
  refine wpF_skip ?_
  refine wpF_seq ?_
  refine wpF_drawn [none, none, none, none, none, none, none, some 0] [[], [], [], [], [], [], [], []] (fun l b => match l with | 0 => True | _ => False) (by kernel_rfl) (by kernel_rfl) ?_
  refine rq 0 (by kernel_rfl) rfl rfl (q_move (v := PT gb 0) rfl y0) ?_
  refine rq 1 (by kernel_rfl) rfl rfl (q_nilCheck rfl rfl) ?_
  refine rq 2 (by kernel_rfl) rfl rfl (q_fieldAddr rfl Try.underlying118 rfl Try.sizeOf116 rfl) ?_
  refine rq 3 (by kernel_rfl) rfl rfl (q_loadBlk rfl rfl Try.isAgg116 (hS6.blk 2 rfl) rfl (labU_not [] rfl (fe))) ?_
  refine rq 4 (by kernel_rfl) rfl rfl (q_move (v := vt) rfl y1) ?_
  refine rq 5 (by kernel_rfl) rfl rfl (q_convT rfl Try.underlying90 Try.underlying5 Try.underlying9 rfl (Rd.list.1 (hS6.rdS 5 rfl)) (hne) (labU_sub [] rfl (fe))) ?_
  refine rq 6 (by kernel_rfl) rfl rfl (q_move (v := I ((mget kr5o14 (Chc.mk v (ir5o7 : Int) (ir5o14 : Int))).getD 0)) rfl rfl) ?_
  refine wpR_n [7] (by kernel_rfl) ?_
  refine fa ?_ fe
  have hS15o7 := (hS6.front 4 rfl)
  refine exE rfl rfl ?_
  refine e_mapUpdate (k := (strT tt)) (.inl rfl) Try.underlying116 (keyLaw_str Try.underlying9) rfl rfl rfl hS15o7 (Rd.int.2 ⟨rfl, by first | assumption | (constructor <;> omega) | (simp only [List.length_append, List.length_singleton, chI_len]; constructor <;> omega)⟩) (fun H15o7 hS15o7x2 hxx => ?_)
  refine ⟨Ext.mono hxx (labS_of 0 rfl (fun _ _ => trivial)), ?_⟩
  refine wpR_end (by kernel_rfl) ?_
  skip
  refine wpF_seq ?_
  refine wpF_region ?_
  refine lm (v := I ((mget kr5o14 (Chc.mk v (ir5o7 : Int) (ir5o14 : Int))).getD 0)) rfl rfl rfl ?_
  refine la (v := I ((mget kr5o14 (Chc.mk v (ir5o7 : Int) (ir5o14 : Int))).getD 0)) rfl rfl rfl ?_
  refine wpL_nil ?_
  refine wpF_ret ?_
  refine ⟨_, resT rfl resN, hS15o7x2.frameM, ?_⟩
  show ∃ (i_ : Nat) (b_ : Bd) (vcs_ : Value) (kn_ : List (Chc × Int)) (sm_ : List (Str × Int)), nodeB N d (bools tt) bd = (i_, b_) ∧ (I ((mget kr5o14 (Chc.mk v (ir5o7 : Int) (ir5o14 : Int))).getD 0)) = I (i_ : Int) ∧ KnRel kn_ b_.ch ∧ SnRel sm_ b_.sn ∧ Gone S [rowE 125 vcs (chI bd.ch : List Chc), bE gb #[vcs, (Value.map (some rk)), (Value.map (some rs))] 118, mapE rk (kn : List (Chc × Int)), mapE rs (sm : List (Str × Int))] [rowE 125 vcs_ (chI b_.ch : List Chc), bE gb #[vcs_, (Value.map (some rk)), (Value.map (some rs))] 118, mapE rk (kn_ : List (Chc × Int)), mapE rs (sm_ : List (Str × Int))] H0 H15o7
  subst hd2
  have hn1 := hndbr5o7
  rw [bools_take, hhf] at hn1
  have hn2 := hndbr5o14
  rw [bools_drop, hhf] at hn2
  have hck : Chc.mk v (ir5o7 : Int) (ir5o14 : Int) = toI ((N - d2, ir5o7, ir5o14) : Cho) := by show Chc.mk v _ _ = Chc.mk ((N - d2 : Nat) : Int) _ _; rw [show v = ((N - d2 : Nat) : Int) by omega]
  obtain ⟨hc1, hc2⟩ := knRel_some hknbr5o14 hck (by simpa using h68)
  have hL : St H0 (own [rowE 125 vcs (chI bd.ch : List Chc), bE gb #[vcs, (Value.map (some rk)), (Value.map (some rs))] 118, mapE rk (kn : List (Chc × Int)), mapE rs (sm : List (Str × Int))]) (fun b => S b ∧ ¬ own [rowE 125 vcs (chI bd.ch : List Chc), bE gb #[vcs, (Value.map (some rk)), (Value.map (some rs))] 118, mapE rk (kn : List (Chc × Int)), mapE rs (sm : List (Str × Int))] b) [rowE 125 vr5o14 (chI br5o14.ch : List Chc), bE gb #[vr5o14, (Value.map (some rk)), (Value.map (some rs))] 118, mapE rk (kr5o14 : List (Chc × Int)), mapE rs (mset sr5o14 (strT tt) ((mget kr5o14 (Chc.mk v (ir5o7 : Int) (ir5o14 : Int))).getD 0) : List (Str × Int))] H15o7 := (St.drop (show St H0 (own [rowE 125 vcs (chI bd.ch : List Chc), bE gb #[vcs, (Value.map (some rk)), (Value.map (some rs))] 118, mapE rk (kn : List (Chc × Int)), mapE rs (sm : List (Str × Int))]) (fun b => S b ∧ ¬ own [rowE 125 vcs (chI bd.ch : List Chc), bE gb #[vcs, (Value.map (some rk)), (Value.map (some rs))] 118, mapE rk (kn : List (Chc × Int)), mapE rs (sm : List (Str × Int))] b) [rowE 125 vr5o14 (chI br5o14.ch : List Chc), bE gb #[vr5o14, (Value.map (some rk)), (Value.map (some rs))] 118, mapE rk (kr5o14 : List (Chc × Int)), mapE rs (mset sr5o14 (strT tt) ((mget kr5o14 (Chc.mk v (ir5o7 : Int) (ir5o14 : Int))).getD 0) : List (Str × Int)), bE g5o16 #[I (v), I ((ir5o7 : Int)), I ((ir5o14 : Int))] 125, rdE vt tt] H15o7 from (((hS15o7x2.front 4 rfl).front 4 rfl).front 4 rfl)) (sk (sk (sk (sk (sn (sn (List.Sublist.slnil))))))))
  exact ⟨br5o14.ch.idxOf ((N - d2, ir5o7, ir5o14) : Cho) + 2, ⟨br5o14.ch, fun s => if s = bools tt then some (br5o14.ch.idxOf ((N - d2, ir5o7, ir5o14) : Cho) + 2) else br5o14.sn s⟩, _, _, _, node_have hno hn1 hn2 (by omega) hc1, congrArg I hc2, hknbr5o14, snRel_add hsnbr5o14 hc2, St.leave3 hL⟩
 refine wpF_seq ?_
 refine wpF_drawn [none, none, none, none, none, none, none, some 0, none, none, some 1] [[0], [], [], [], [], [], [], [], [], [], []] (fun l b => match l with | 0 => rowB vr5o14 b | 1 => True | _ => False) (by kernel_rfl) (by kernel_rfl) ?_
 refine rq 0 (by kernel_rfl) rfl rfl (q_move (v := PT gb 0) rfl y0) ?_
 refine rq 1 (by kernel_rfl) rfl rfl (q_move (v := PT gb 0) rfl y0) ?_
 refine rq 2 (by kernel_rfl) rfl rfl (q_nilCheck rfl rfl) ?_
 refine rq 3 (by kernel_rfl) rfl rfl (q_fieldAddr rfl Try.underlying118 rfl Try.sizeOf49 rfl) ?_
 refine rq 4 (by kernel_rfl) rfl rfl (q_loadBlk rfl rfl Try.isAgg49 (hS6.blk 2 rfl) rfl (labU_not [] rfl (fe))) ?_
 refine rq 5 (by kernel_rfl) rfl rfl (q_loadBlkA rfl y10 Try.isAgg125 Try.sizeOf125 rfl (hS6.blk 0 rfl) (labU_not [] rfl (fe))) ?_
 refine wpR_n [6] (by kernel_rfl) ?_
 refine fa ?_ fe
 refine exE rfl rfl ?_
 refine e_buildSlice (vs := [Vg #[I (v), I ((ir5o7 : Int)), I ((ir5o14 : Int))]]) (xs := ([(Chc.mk v (ir5o7 : Int) (ir5o14 : Int))] : List Chc)) rfl Try.underlying49 Try.zeroValue125 rfl Try.sizeOf125 (par1 (v0 := Vg #[I (v), I ((ir5o7 : Int)), I ((ir5o14 : Int))]) rfl) rfl hS6 (RdVs.cons ((Rd.chc (a := (Chc.mk v (ir5o7 : Int) (ir5o14 : Int)))).2 ⟨rfl, (by first | assumption | (constructor <;> (try dsimp only) <;> omega)), (by first | assumption | (constructor <;> (try dsimp only) <;> omega)), (by first | assumption | (constructor <;> (try dsimp only) <;> omega))⟩) (RdVs.nil)) (by decide) (by decide) (fun v11o6 H11o6 hS11o6 hxx hvv11o6 => ?_)
 refine ⟨Ext.mono hxx (fun _ h => h.elim), ?_⟩
 refine wpR_n [7] (by kernel_rfl) ?_
 refine fa ?_ fe
 have hS11o7 : St H0 (own [rowE 125 vcs (chI bd.ch : List Chc), bE gb #[vcs, (Value.map (some rk)), (Value.map (some rs))] 118, mapE rk (kn : List (Chc × Int)), mapE rs (sm : List (Str × Int))]) (fun b => S b ∧ ¬ own [rowE 125 vcs (chI bd.ch : List Chc), bE gb #[vcs, (Value.map (some rk)), (Value.map (some rs))] 118, mapE rk (kn : List (Chc × Int)), mapE rs (sm : List (Str × Int))] b) [rdE v11o6 ([(Chc.mk v (ir5o7 : Int) (ir5o14 : Int))] : List Chc), bE g5o16 #[I (v), I ((ir5o7 : Int)), I ((ir5o14 : Int))] 125, rowE 125 vr5o14 (chI br5o14.ch : List Chc), bE gb #[vr5o14, (Value.map (some rk)), (Value.map (some rs))] 118, mapE rk (kr5o14 : List (Chc × Int)), mapE rs (sr5o14 : List (Str × Int)), rdE vt tt] H11o6 := St.fin hS11o6
 have hS11o7x2 := (hS11o7.front 2 rfl)
 refine exE rfl rfl ?_
 refine e_append rfl Try.underlying49 em_Chc_125_DiaC8 rfl rfl hS11o7x2 (hS11o7x2.rdS 1 rfl) (fun _ h => h) (by have hb : GoT.bytes Chc = 24 := rfl; rw [hb]; simp only [List.length_append, List.length_singleton, chI_len]; omega) (by decide) (fun v11o7 H11o7 hS11o7x3 hxx => ?_)
 refine ⟨Ext.mono hxx (labS_of 0 rfl (fun b hb => hb)), ?_⟩
 refine rq 8 (by kernel_rfl) rfl rfl (q_nilCheck rfl rfl) ?_
 refine rq 9 (by kernel_rfl) rfl rfl (q_fieldAddr rfl Try.underlying118 rfl Try.sizeOf49 rfl) ?_
 refine wpR_n [10] (by kernel_rfl) ?_
 refine fa ?_ fe
 refine exE rfl rfl ?_
 refine e_storeBlk (v := v11o7) rfl rfl rfl (oneCell_rdL (hS11o7x3.rowl 0 rfl)) Try.sizeOf49 (by show _ < 3; decide) (hS11o7x3.front 3 rfl) (fun H11o10 hS11o10 hxx => ?_)
 refine ⟨Ext.mono hxx (labS_of 1 rfl (fun _ _ => trivial)), ?_⟩
 refine wpR_end (by kernel_rfl) ?_
 skip
 refine wpF_seq ?_
 refine wpF_region ?_
 refine lm (v := PT gb 0) rfl rfl y0 ?_
 refine lq rfl (q_nilCheck rfl rfl) ?_
 refine lq rfl (q_fieldAddr rfl Try.underlying118 rfl Try.sizeOf49 rfl) ?_
 refine lq rfl (q_loadBlk rfl rfl Try.isAgg49 (hS11o10.blk 0 rfl) rfl (fun h => h)) ?_
 refine lq rfl (q_lenRd rfl Try.underlying49 rfl (hS11o10.rowl 1 rfl)) ?_
 refine lq rfl (q_add rfl rfl rfl (by (simp only [List.length_append, List.length_singleton, chI_len]; constructor <;> omega))) ?_
 refine la (v := I ((((chI br5o14.ch) ++ ([(Chc.mk v (ir5o7 : Int) (ir5o14 : Int))])).length : Int) + 1)) rfl rfl rfl ?_
 refine wpL_nil ?_
 refine wpF_cut (fun f H => f 0 = PT gb 0 ∧ f 1 = vt ∧ f 11 = I ((((chI br5o14.ch) ++ ([(Chc.mk v (ir5o7 : Int) (ir5o14 : Int))])).length : Int) + 1) ∧ St H0 (own [rowE 125 vcs (chI bd.ch : List Chc), bE gb #[vcs, (Value.map (some rk)), (Value.map (some rs))] 118, mapE rk (kn : List (Chc × Int)), mapE rs (sm : List (Str × Int))]) (fun b => S b ∧ ¬ own [rowE 125 vcs (chI bd.ch : List Chc), bE gb #[vcs, (Value.map (some rk)), (Value.map (some rs))] 118, mapE rk (kn : List (Chc × Int)), mapE rs (sm : List (Str × Int))] b) [mapE rk (mset kr5o14 (Chc.mk v (ir5o7 : Int) (ir5o14 : Int)) ((((chI br5o14.ch) ++ ([(Chc.mk v (ir5o7 : Int) (ir5o14 : Int))])).length : Int) + 1) : List (Chc × Int)), bE gb #[v11o7, (Value.map (some rk)), (Value.map (some rs))] 118, rowE 125 v11o7 ((chI br5o14.ch) ++ ([(Chc.mk v (ir5o7 : Int) (ir5o14 : Int))]) : List Chc), bE g5o16 #[I (v), I ((ir5o7 : Int)), I ((ir5o14 : Int))] 125, mapE rs (sr5o14 : List (Str × Int)), rdE vt tt] H) ?_ ?_
 ·refine wpF_drawn [none, none, none, none, none, none, some 0] [[], [], [], [], [], [], []] (fun l b => match l with | 0 => True | _ => False) (by kernel_rfl) (by kernel_rfl) ?_
  refine rq 0 (by kernel_rfl) rfl rfl (q_move (v := PT gb 0) rfl y0) ?_
  refine rq 1 (by kernel_rfl) rfl rfl (q_nilCheck rfl rfl) ?_
  refine rq 2 (by kernel_rfl) rfl rfl (q_fieldAddr rfl Try.underlying118 rfl Try.sizeOf115 rfl) ?_
  refine rq 3 (by kernel_rfl) rfl rfl (q_loadBlk rfl rfl Try.isAgg115 (hS11o10.blk 0 rfl) rfl (labU_not [] rfl (fe))) ?_
  refine rq 4 (by kernel_rfl) rfl rfl (q_loadBlkA rfl y10 Try.isAgg125 Try.sizeOf125 rfl (hS11o10.blk 3 rfl) (labU_not [] rfl (fe))) ?_
  refine rq 5 (by kernel_rfl) rfl rfl (q_move (v := I ((((chI br5o14.ch) ++ ([(Chc.mk v (ir5o7 : Int) (ir5o14 : Int))])).length : Int) + 1)) rfl rfl) ?_
  refine wpR_n [6] (by kernel_rfl) ?_
  refine fa ?_ fe
  have hS12o6 := (hS11o10.front 4 rfl)
  refine exE rfl rfl ?_
  refine e_mapUpdate (k := (Chc.mk v (ir5o7 : Int) (ir5o14 : Int))) (.inl rfl) Try.underlying115 (keyLaw_chc_125_DiaC8) rfl rfl rfl hS12o6 (Rd.int.2 ⟨rfl, by first | assumption | (constructor <;> omega) | (simp only [List.length_append, List.length_singleton, chI_len]; constructor <;> omega)⟩) (fun H12o6 hS12o6x2 hxx => ?_)
  refine ⟨Ext.mono hxx (labS_of 0 rfl (fun _ _ => trivial)), ?_⟩
  refine wpR_end (by kernel_rfl) ?_
  exact ⟨y0, y1, rfl, (hS12o6x2.drop (sk (sk (sk (sn (sk (sk (sk (List.Sublist.slnil)))))))))⟩
 clear y0 y1 y10
 rintro f13 H13 ⟨y0, y1, y11, hS13⟩
 refine wpF_seq ?_
 refine wpF_drawn [none, none, none, none, none, none, none, some 0] [[], [], [], [], [], [], [], []] (fun l b => match l with | 0 => True | _ => False) (by kernel_rfl) (by kernel_rfl) ?_
 refine rq 0 (by kernel_rfl) rfl rfl (q_move (v := PT gb 0) rfl y0) ?_
 refine rq 1 (by kernel_rfl) rfl rfl (q_nilCheck rfl rfl) ?_
 refine rq 2 (by kernel_rfl) rfl rfl (q_fieldAddr rfl Try.underlying118 rfl Try.sizeOf116 rfl) ?_
 refine rq 3 (by kernel_rfl) rfl rfl (q_loadBlk rfl rfl Try.isAgg116 (hS13.blk 1 rfl) rfl (labU_not [] rfl (fe))) ?_
 refine rq 4 (by kernel_rfl) rfl rfl (q_move (v := vt) rfl y1) ?_
 refine rq 5 (by kernel_rfl) rfl rfl (q_convT rfl Try.underlying90 Try.underlying5 Try.underlying9 rfl (Rd.list.1 (hS13.rdS 5 rfl)) (hne) (labU_sub [] rfl (fe))) ?_
 refine rq 6 (by kernel_rfl) rfl rfl (q_move (v := I ((((chI br5o14.ch) ++ ([(Chc.mk v (ir5o7 : Int) (ir5o14 : Int))])).length : Int) + 1)) rfl y11) ?_
 refine wpR_n [7] (by kernel_rfl) ?_
 refine fa ?_ fe
 have hS14o7 := (hS13.front 4 rfl)
 refine exE rfl rfl ?_
 refine e_mapUpdate (k := (strT tt)) (.inl rfl) Try.underlying116 (keyLaw_str Try.underlying9) rfl rfl rfl hS14o7 (Rd.int.2 ⟨rfl, by first | assumption | (constructor <;> omega) | (simp only [List.length_append, List.length_singleton, chI_len]; constructor <;> omega)⟩) (fun H14o7 hS14o7x2 hxx => ?_)
 refine ⟨Ext.mono hxx (labS_of 0 rfl (fun _ _ => trivial)), ?_⟩
 refine wpR_end (by kernel_rfl) ?_
 skip
 refine wpF_seq ?_
 refine wpF_region ?_
 refine lm (v := I ((((chI br5o14.ch) ++ ([(Chc.mk v (ir5o7 : Int) (ir5o14 : Int))])).length : Int) + 1)) rfl rfl y11 ?_
 refine la (v := I ((((chI br5o14.ch) ++ ([(Chc.mk v (ir5o7 : Int) (ir5o14 : Int))])).length : Int) + 1)) rfl rfl rfl ?_
 refine wpL_nil ?_
 refine wpF_ret ?_
 refine ⟨_, resT rfl resN, hS14o7x2.frameM, ?_⟩
 show ∃ (i_ : Nat) (b_ : Bd) (vcs_ : Value) (kn_ : List (Chc × Int)) (sm_ : List (Str × Int)), nodeB N d (bools tt) bd = (i_, b_) ∧ (I ((((chI br5o14.ch) ++ ([(Chc.mk v (ir5o7 : Int) (ir5o14 : Int))])).length : Int) + 1)) = I (i_ : Int) ∧ KnRel kn_ b_.ch ∧ SnRel sm_ b_.sn ∧ Gone S [rowE 125 vcs (chI bd.ch : List Chc), bE gb #[vcs, (Value.map (some rk)), (Value.map (some rs))] 118, mapE rk (kn : List (Chc × Int)), mapE rs (sm : List (Str × Int))] [rowE 125 vcs_ (chI b_.ch : List Chc), bE gb #[vcs_, (Value.map (some rk)), (Value.map (some rs))] 118, mapE rk (kn_ : List (Chc × Int)), mapE rs (sm_ : List (Str × Int))] H0 H14o7
 subst hd2
 have hn1 := hndbr5o7
 rw [bools_take, hhf] at hn1
 have hn2 := hndbr5o14
 rw [bools_drop, hhf] at hn2
 have hck : Chc.mk v (ir5o7 : Int) (ir5o14 : Int) = toI ((N - d2, ir5o7, ir5o14) : Cho) := by show Chc.mk v _ _ = Chc.mk ((N - d2 : Nat) : Int) _ _; rw [show v = ((N - d2 : Nat) : Int) by omega]
 have hc1 := knRel_none hknbr5o14 hck (by simpa using h68)
 have hL : St H0 (own [rowE 125 vcs (chI bd.ch : List Chc), bE gb #[vcs, (Value.map (some rk)), (Value.map (some rs))] 118, mapE rk (kn : List (Chc × Int)), mapE rs (sm : List (Str × Int))]) (fun b => S b ∧ ¬ own [rowE 125 vcs (chI bd.ch : List Chc), bE gb #[vcs, (Value.map (some rk)), (Value.map (some rs))] 118, mapE rk (kn : List (Chc × Int)), mapE rs (sm : List (Str × Int))] b) [rowE 125 v11o7 ((chI br5o14.ch) ++ ([(Chc.mk v (ir5o7 : Int) (ir5o14 : Int))]) : List Chc), bE gb #[v11o7, (Value.map (some rk)), (Value.map (some rs))] 118, mapE rk (mset kr5o14 (Chc.mk v (ir5o7 : Int) (ir5o14 : Int)) ((((chI br5o14.ch) ++ ([(Chc.mk v (ir5o7 : Int) (ir5o14 : Int))])).length : Int) + 1) : List (Chc × Int)), mapE rs (mset sr5o14 (strT tt) ((((chI br5o14.ch) ++ ([(Chc.mk v (ir5o7 : Int) (ir5o14 : Int))])).length : Int) + 1) : List (Str × Int))] H14o7 := (St.drop (show St H0 (own [rowE 125 vcs (chI bd.ch : List Chc), bE gb #[vcs, (Value.map (some rk)), (Value.map (some rs))] 118, mapE rk (kn : List (Chc × Int)), mapE rs (sm : List (Str × Int))]) (fun b => S b ∧ ¬ own [rowE 125 vcs (chI bd.ch : List Chc), bE gb #[vcs, (Value.map (some rk)), (Value.map (some rs))] 118, mapE rk (kn : List (Chc × Int)), mapE rs (sm : List (Str × Int))] b) [rowE 125 v11o7 ((chI br5o14.ch) ++ ([(Chc.mk v (ir5o7 : Int) (ir5o14 : Int))]) : List Chc), bE gb #[v11o7, (Value.map (some rk)), (Value.map (some rs))] 118, mapE rk (mset kr5o14 (Chc.mk v (ir5o7 : Int) (ir5o14 : Int)) ((((chI br5o14.ch) ++ ([(Chc.mk v (ir5o7 : Int) (ir5o14 : Int))])).length : Int) + 1) : List (Chc × Int)), mapE rs (mset sr5o14 (strT tt) ((((chI br5o14.ch) ++ ([(Chc.mk v (ir5o7 : Int) (ir5o14 : Int))])).length : Int) + 1) : List (Str × Int)), bE g5o16 #[I (v), I ((ir5o7 : Int)), I ((ir5o14 : Int))] 125, rdE vt tt] H14o7 from (((hS14o7x2.front 1 rfl).front 2 rfl).front 3 rfl)) (sk (sk (sk (sk (sn (sn (List.Sublist.slnil))))))))
 rw [hck, ← chI_app] at hL
 have hz : (((chI (br5o14.ch ++ [((N - d2, ir5o7, ir5o14) : Cho)])).length : Int) + 1) = ((br5o14.ch.length + 2 : Nat) : Int) := by rw [chI_len, List.length_append, List.length_singleton]; omega
 exact ⟨br5o14.ch.length + 2, ⟨br5o14.ch ++ [((N - d2, ir5o7, ir5o14) : Cho)], fun s => if s = bools tt then some (br5o14.ch.length + 2) else br5o14.sn s⟩, _, _, _, node_new hno hn1 hn2 (by omega) hc1, congrArg I (by rw [List.length_append, List.length_singleton, chI_len]; omega), knRel_add hknbr5o14 hc1 rfl hz, snRel_add hsnbr5o14 hz, St.leave3 hL⟩
end Go.Um
