import Derived.Test.YtkhpaklglggagaaProg
import Derived.Test.YtkhpaklglggagaaAutoA3
import Derived.Test.YtkhpaklglggagaaRopeCut
namespace Go.Um
open Go.Proofs
open GoT (sz ag rdc)
open KeyT (kv)

theorem el_Auto_36 : ElT Try.prog Auto 36 := ⟨Try.isAgg36, Try.sizeOf36⟩
theorem keyLaw_pair_87 : KeyLaw Try.prog 87 (Int × Int) := keyLaw_pair (i := Try.t3) Try.underlying87 Try.underlying3 Try.isAgg3 Try.sizeOf3 (by kernel_rfl) (by kernel_rfl)

set_option maxRecDepth 100000 in
theorem cut_F : ∀ (nn : Nat) {H0 : Heap} (gx r : Nat) (vl vt : Value) (l : List Auto) (t : List Int) (i q : Int) (m : List ((Int × Int) × Bool)) (sg : Int) (S : Nat → Prop) (_hA : ∀ e ∈ [mapE r (m : List ((Int × Int) × Bool)), blkE gx (.cells #[vl, vt, (Value.map (some r))] 78)], e.ok S H0) (_hsb : ∀ b, S b → b < H0.size) (_hin : ∀ b, own [mapE r (m : List ((Int × Int) × Bool)), blkE gx (.cells #[vl, vt, (Value.map (some r))] 78)] b → S b) (_hne : r ≠ gx) (_rl : Rd S H0 vl l) (_rt : Rd S H0 vt t) (_hwf : ∀ j, j < l.length → WF (nth l j)) (_hsgs : ∀ j, j < l.length → (nth l j).Signs = sg) (_hv : ∀ c ∈ t, 0 ≤ c ∧ c < sg) (_htl : t.length ≤ 30) (_hll : l.length ≤ 6) (_hi : 0 ≤ i ∧ i ≤ (l.length : Int)) (_hq : 0 ≤ q ∧ q ≤ (t.length : Int)) (_hni : NoInv l t (mget m)) (_hn : (l.length - i.toNat) = nn), CallsH Try.prog 55 #[PT gx 0, I (i), I (q)] H0 (fun rv_ H' => Ext (own [mapE r (m : List ((Int × Int) × Bool)), blkE gx (.cells #[vl, vt, (Value.map (some r))] 78)]) H0 H' ∧ ∃ rx_ y_ m2_, rv_ = Value.tuple #[rx_, B (cutG (l.drop i.toNat) (t.drop q.toNat)).isSome] ∧ (∀ s, cutG (l.drop i.toNat) (t.drop q.toNat) = some s → y_ = s) ∧ (cutG (l.drop i.toNat) (t.drop q.toNat) = none → y_ = []) ∧ NoInv l t (mget m2_) ∧ ∀ e ∈ [rdE rx_ (y_ : List Int), mapE r (m2_ : List ((Int × Int) × Bool)), blkE gx (.cells #[vl, vt, (Value.map (some r))] 78)], e.ok (lv S [mapE r (m : List ((Int × Int) × Bool)), blkE gx (.cells #[vl, vt, (Value.map (some r))] 78)] [rdE rx_ (y_ : List Int), mapE r (m2_ : List ((Int × Int) × Bool)), blkE gx (.cells #[vl, vt, (Value.map (some r))] 78)]) H') := by
  intro nn
  induction nn using Nat.strongRecOn with
  | _ nn ih =>
  intro H0 gx r vl vt l t i q m sg S hA hsb hin hne rl rt hwf hsgs hv htl hll hi hq hni hnn
  have hS00 := St.handed hA (pw2 (fun b h1 h2 => hne (h1.symm.trans h2))) hsb hin
  have hS01 := hS00.rd (rt.sub fun b hb => handed_sub hin hb)
  have hS0 : St H0 (own [mapE r (m : List ((Int × Int) × Bool)), blkE gx (.cells #[vl, vt, (Value.map (some r))] 78)]) (fun b => S b ∧ ¬ own [mapE r (m : List ((Int × Int) × Bool)), blkE gx (.cells #[vl, vt, (Value.map (some r))] 78)] b) [rdE vl (l : List Auto), rdE vt (t : List Int), mapE r (m : List ((Int × Int) × Bool)), blkE gx (.cells #[vl, vt, (Value.map (some r))] 78)] H0 := hS01.rd (rl.sub fun b hb => handed_sub hin (SL_rd hb))
  refine callsH_of_wpF (args := [PT gx 0, I (i), I (q)]) (rs := [.tmp 6, .tmp 7]) Try.func55 rfl Try.ntmps55 Try.results55 (by kernel_rfl) (Nat.le_of_ble_eq_true rfl) ?_
  have a0_0 : argF [PT gx 0, I (i), I (q)] 0 = PT gx 0 := rfl
  have a0_1 : argF [PT gx 0, I (i), I (q)] 1 = I (i) := rfl
  have a0_2 : argF [PT gx 0, I (i), I (q)] 2 = I (q) := rfl
  generalize argF [PT gx 0, I (i), I (q)] = f0 at *
  refine wpF_seq ?_
  refine wpF_cut (fun f H => f 0 = PT gx 0 ∧ f 1 = I (i) ∧ f 2 = I (q) ∧ H0 = H) ?_ ?_
  · refine wpF_region ?_
    refine wpL_q (U := NoB) rfl (q_assign (v := (Value.slice none 0 0)) rfl rfl) ?_
    refine wpL_q (U := NoB) rfl (q_assign (v := B (false)) rfl rfl) ?_
    exact ⟨a0_0, a0_1, a0_2, rfl⟩
  rintro f1 _ ⟨a1_0, a1_1, a1_2, rfl⟩
  clear a0_0 a0_1 a0_2
  refine wpF_seq ?_
  refine wpF_seq ?_
  refine wpF_cut (fun f H => f 0 = PT gx 0 ∧ f 1 = I (i) ∧ f 2 = I (q) ∧ f 17 = B (decide (i = (l.length : Int))) ∧ H0 = H) ?_ ?_
  · refine wpF_region ?_
    refine wpL_q (U := NoB) rfl (q_move (v := I (i)) rfl a1_1) ?_
    refine wpL_q (U := NoB) rfl (q_move (v := PT gx 0) rfl a1_0) ?_
    refine wpL_q (U := NoB) rfl (q_nilCheck rfl rfl) ?_
    refine wpL_q (U := NoB) rfl (q_fieldAddr rfl Try.underlying78 rfl Try.sizeOf48 rfl) ?_
    refine wpL_q (U := NoB) rfl (q_loadBlk rfl rfl Try.isAgg48 (hS0.blk 3 rfl) rfl (fun h => h)) ?_
    refine wpL_q (U := NoB) rfl (q_lenRd rfl Try.underlying48 rfl (hS0.rdl 0 rfl)) ?_
    refine wpL_q (U := NoB) rfl (q_eql rfl rfl rfl) ?_
    exact ⟨a1_0, a1_1, a1_2, rfl, rfl⟩
  rintro f2 _ ⟨a2_0, a2_1, a2_2, a2_17, rfl⟩
  clear a1_0 a1_1 a1_2
  refine wpF_condP a2_17 (fun hend => ?t50) (fun hend => ?e50)
  case t50 =>
    refine wpF_seq ?_
    refine wpF_cut (fun f H => f 6 = (Value.slice none 0 0) ∧ f 7 = B (decide (q = (t.length : Int))) ∧ H0 = H) ?_ ?_
    · refine wpF_drawn [] [] (fun _ _ => False) (by kernel_rfl) (by kernel_rfl) ?_
      refine wpR_q 0 (by kernel_rfl) rfl (quietAt rfl rfl (q_move (v := I (q)) rfl a2_2)) ?_
      refine wpR_q 1 (by kernel_rfl) rfl (quietAt rfl rfl (q_move (v := PT gx 0) rfl a2_0)) ?_
      refine wpR_q 2 (by kernel_rfl) rfl (quietAt rfl rfl (q_nilCheck rfl rfl)) ?_
      refine wpR_q 3 (by kernel_rfl) rfl (quietAt rfl rfl (q_fieldAddr rfl Try.underlying78 rfl Try.sizeOf22 rfl)) ?_
      refine wpR_q 4 (by kernel_rfl) rfl (quietAt rfl rfl (q_loadBlk rfl rfl Try.isAgg22 (hS0.blk 3 rfl) rfl (labU_not [] rfl (List.forall_mem_nil _)))) ?_
      refine wpR_q 5 (by kernel_rfl) rfl (quietAt rfl rfl (q_lenRd rfl Try.underlying22 rfl (hS0.rdl 1 rfl))) ?_
      refine wpR_q 6 (by kernel_rfl) rfl (quietAt rfl rfl (q_eql rfl rfl rfl)) ?_
      refine wpR_q 7 (by kernel_rfl) rfl (quietAt rfl rfl (q_assign (v := (Value.slice none 0 0)) rfl rfl)) ?_
      refine wpR_q 8 (by kernel_rfl) rfl (quietAt rfl rfl (q_assign (v := B (decide (q = (t.length : Int)))) rfl rfl)) ?_
      refine wpR_end (by kernel_rfl) ?_
      exact ⟨rfl, rfl, rfl⟩
    rintro f5 _ ⟨a5_6, a5_7, rfl⟩
    clear a2_0 a2_1 a2_17 a2_2
    refine wpF_ret ?_
    refine ⟨_, resT a5_6 (resT a5_7 resN), hS0.frameM, ?_⟩
    show ∃ rx_ y_ m2_, (Value.tuple #[(Value.slice none 0 0), B (decide (q = (t.length : Int)))]) = Value.tuple #[rx_, B (cutG (l.drop i.toNat) (t.drop q.toNat)).isSome] ∧ (∀ s, cutG (l.drop i.toNat) (t.drop q.toNat) = some s → y_ = s) ∧ (cutG (l.drop i.toNat) (t.drop q.toNat) = none → y_ = []) ∧ NoInv l t (mget m2_) ∧ ∀ e ∈ [rdE rx_ (y_ : List Int), mapE r (m2_ : List ((Int × Int) × Bool)), blkE gx (.cells #[vl, vt, (Value.map (some r))] 78)], e.ok (lv S [mapE r (m : List ((Int × Int) × Bool)), blkE gx (.cells #[vl, vt, (Value.map (some r))] 78)] [rdE rx_ (y_ : List Int), mapE r (m2_ : List ((Int × Int) × Bool)), blkE gx (.cells #[vl, vt, (Value.map (some r))] 78)]) H0
    have hS6 : St H0 (own [mapE r (m : List ((Int × Int) × Bool)), blkE gx (.cells #[vl, vt, (Value.map (some r))] 78)]) (fun b => S b ∧ ¬ own [mapE r (m : List ((Int × Int) × Bool)), blkE gx (.cells #[vl, vt, (Value.map (some r))] 78)] b) [rdE (Value.slice none 0 0) ([] : List Int), rdE vl (l : List Auto), rdE vt (t : List Int), mapE r (m : List ((Int × Int) × Bool)), blkE gx (.cells #[vl, vt, (Value.map (some r))] 78)] H0 := hS0.rd rdNil
    have hF : cutG (l.drop i.toNat) (t.drop q.toNat) = if (t.drop q.toNat).length = 0 then some [] else none := by rw [show l.drop i.toNat = [] from List.drop_eq_nil_of_le (by omega)]; rfl
    exact ⟨_, [], _, by rw [hF, List.length_drop]; by_cases hq0 : q = (t.length : Int) <;> simp [hq0] <;> omega, by rw [hF]; intro s hs; split at hs <;> cases hs; rfl, fun _ => rfl, hni, St.leave (hS6.drop (List.Sublist.cons_cons _ (List.Sublist.cons _ (List.Sublist.cons _ (List.Sublist.cons_cons _ (List.Sublist.cons_cons _ (List.Sublist.slnil)))))))⟩
  have hil : i.toNat < l.length := by omega
  have hwi := hwf i.toNat hil
  have hmt := hwi.takes
  have hmn := hwi.many
  have hsi := hsgs i.toNat hil
  refine wpF_skip ?_
  refine wpF_seq ?_
  refine wpF_seq ?_
  refine wpF_cut (fun f H => f 0 = PT gx 0 ∧ f 1 = I (i) ∧ f 2 = I (q) ∧ f 32 = B ((mget m (i, q)).getD false) ∧ H0 = H) ?_ ?_
  · refine wpF_region ?_
    refine wpL_q (U := NoB) rfl (q_move (v := PT gx 0) rfl a2_0) ?_
    refine wpL_q (U := NoB) rfl (q_nilCheck rfl rfl) ?_
    refine wpL_q (U := NoB) rfl (q_fieldAddr rfl Try.underlying78 rfl Try.sizeOf76 rfl) ?_
    refine wpL_q (U := NoB) rfl (q_loadBlk rfl rfl Try.isAgg76 (hS0.blk 3 rfl) rfl (fun h => h)) ?_
    refine wpL_q (U := NoB) rfl (q_move (v := I (i)) rfl a2_1) ?_
    refine wpL_q (U := NoB) rfl (q_move (v := I (q)) rfl a2_2) ?_
    refine wpL_q (U := NoB) rfl (q_build (v := Value.agg #[I (i), I (q)]) rfl (par2 (v0 := I (i)) (v1 := I (q)) rfl rfl) (fun w => by kernel_rfl)) ?_
    obtain ⟨u7, hlu7, hru7⟩ := lookD (t := 76) (d := (false : Bool)) Try.underlying76 (keyLaw_pair_87) Try.zeroValue4 (fun _ _ => Rd.bool.2 rfl) (i, q) (hS0.get 2 rfl)
    obtain rfl := Rd.bool.1 hru7
    refine wpL_q (U := NoB) rfl (q_lookup0 rfl rfl rfl (hlu7 _ (fun h => h))) ?_
    exact ⟨a2_0, a2_1, a2_2, rfl, rfl⟩
  rintro f8 _ ⟨a8_0, a8_1, a8_2, a8_32, rfl⟩
  clear a2_0 a2_1 a2_17 a2_2
  refine wpF_cond a8_32 (fun hno => ?t49) (fun hno => ?e49)
  case t49 =>
    refine wpF_seq ?_
    refine wpF_cut (fun f H => f 6 = (Value.slice none 0 0) ∧ f 7 = B (false) ∧ H0 = H) ?_ ?_
    · refine wpF_region ?_
      refine wpL_q (U := NoB) rfl (q_assign (v := (Value.slice none 0 0)) rfl rfl) ?_
      refine wpL_q (U := NoB) rfl (q_assign (v := B (false)) rfl rfl) ?_
      exact ⟨rfl, rfl, rfl⟩
    rintro f10 _ ⟨a10_6, a10_7, rfl⟩
    clear a8_0 a8_1 a8_2 a8_32
    refine wpF_ret ?_
    refine ⟨_, resT a10_6 (resT a10_7 resN), hS0.frameM, ?_⟩
    show ∃ rx_ y_ m2_, (Value.tuple #[(Value.slice none 0 0), B (false)]) = Value.tuple #[rx_, B (cutG (l.drop i.toNat) (t.drop q.toNat)).isSome] ∧ (∀ s, cutG (l.drop i.toNat) (t.drop q.toNat) = some s → y_ = s) ∧ (cutG (l.drop i.toNat) (t.drop q.toNat) = none → y_ = []) ∧ NoInv l t (mget m2_) ∧ ∀ e ∈ [rdE rx_ (y_ : List Int), mapE r (m2_ : List ((Int × Int) × Bool)), blkE gx (.cells #[vl, vt, (Value.map (some r))] 78)], e.ok (lv S [mapE r (m : List ((Int × Int) × Bool)), blkE gx (.cells #[vl, vt, (Value.map (some r))] 78)] [rdE rx_ (y_ : List Int), mapE r (m2_ : List ((Int × Int) × Bool)), blkE gx (.cells #[vl, vt, (Value.map (some r))] 78)]) H0
    have hS11 : St H0 (own [mapE r (m : List ((Int × Int) × Bool)), blkE gx (.cells #[vl, vt, (Value.map (some r))] 78)]) (fun b => S b ∧ ¬ own [mapE r (m : List ((Int × Int) × Bool)), blkE gx (.cells #[vl, vt, (Value.map (some r))] 78)] b) [rdE (Value.slice none 0 0) ([] : List Int), rdE vl (l : List Auto), rdE vt (t : List Int), mapE r (m : List ((Int × Int) × Bool)), blkE gx (.cells #[vl, vt, (Value.map (some r))] 78)] H0 := hS0.rd rdNil
    have hF := hni i q hno
    exact ⟨_, [], _, by rw [hF]; rfl, none_all hF, fun _ => rfl, hni, St.leave (hS11.drop (List.Sublist.cons_cons _ (List.Sublist.cons _ (List.Sublist.cons _ (List.Sublist.cons_cons _ (List.Sublist.cons_cons _ (List.Sublist.slnil)))))))⟩
  refine wpF_skip ?_
  refine wpF_seq ?_
  refine wpF_seq ?_
  refine wpF_cut (fun f H => f 0 = PT gx 0 ∧ f 1 = I (i) ∧ f 2 = I (q) ∧ f 8 = I (q) ∧ H0 = H) ?_ ?_
  · refine wpF_region ?_
    refine wpL_q (U := NoB) rfl (q_move (v := I (q)) rfl a8_2) ?_
    refine wpL_q (U := NoB) rfl (q_assign (v := I (q)) rfl rfl) ?_
    exact ⟨a8_0, a8_1, a8_2, rfl, rfl⟩
  rintro f12 _ ⟨a12_0, a12_1, a12_2, a12_8, rfl⟩
  clear a8_0 a8_1 a8_2 a8_32
  refine wpF_block ?_
  refine wpF_loop (fun mz f H => ∃ (n : Nat), ∃ (m1 : List ((Int × Int) × Bool)), mz = t.length + 1 - n ∧ (q + (n : Int) ≤ (t.length : Int) + 1) ∧ (∀ j, j < n → cutStep (cutG (l.drop (i.toNat + 1))) (nth l i.toNat) (t.drop q.toNat) j = none) ∧ (NoInv l t (mget m1)) ∧ f 0 = PT gx 0 ∧ f 1 = I (i) ∧ f 2 = I (q) ∧ f 8 = I (q + (n : Int)) ∧ St H0 (own [mapE r (m : List ((Int × Int) × Bool)), blkE gx (.cells #[vl, vt, (Value.map (some r))] 78)]) (fun b => S b ∧ ¬ own [mapE r (m : List ((Int × Int) × Bool)), blkE gx (.cells #[vl, vt, (Value.map (some r))] 78)] b) [rdE vl (l : List Auto), rdE vt (t : List Int), mapE r (m1 : List ((Int × Int) × Bool)), blkE gx (.cells #[vl, vt, (Value.map (some r))] 78)] H) (t.length + 1 - 0) ?_ ?_
  · exact ⟨0, m, rfl, (by omega), (fun j hj => absurd hj (Nat.not_lt_zero j)), hni, a12_0, a12_1, a12_2, (Eq.trans a12_8 (congrArg I (by omega))), hS0⟩
  intro m13 f13 H13 hI13
  obtain ⟨n, m1, hm13, hn, hloop, hni, a13_0, a13_1, a13_2, a13_8, hS13⟩ := hI13
  clear a12_0 a12_1 a12_2 a12_8
  refine wpF_seq ?_
  refine wpF_seq ?_
  refine wpF_cut (fun f H => f 0 = PT gx 0 ∧ f 1 = I (i) ∧ f 2 = I (q) ∧ f 8 = I (q + (n : Int)) ∧ f 40 = B (decide ((q + (n : Int)) ≤ (t.length : Int))) ∧ H13 = H) ?_ ?_
  · refine wpF_region ?_
    refine wpL_q (U := NoB) rfl (q_move (v := I (q + (n : Int))) rfl a13_8) ?_
    refine wpL_q (U := NoB) rfl (q_move (v := PT gx 0) rfl a13_0) ?_
    refine wpL_q (U := NoB) rfl (q_nilCheck rfl rfl) ?_
    refine wpL_q (U := NoB) rfl (q_fieldAddr rfl Try.underlying78 rfl Try.sizeOf22 rfl) ?_
    refine wpL_q (U := NoB) rfl (q_loadBlk rfl rfl Try.isAgg22 (hS13.blk 3 rfl) rfl (fun h => h)) ?_
    refine wpL_q (U := NoB) rfl (q_lenRd rfl Try.underlying22 rfl (hS13.rdl 1 rfl)) ?_
    refine wpL_q (U := NoB) rfl (q_leq rfl rfl rfl) ?_
    exact ⟨a13_0, a13_1, a13_2, a13_8, rfl, rfl⟩
  rintro f14 _ ⟨a14_0, a14_1, a14_2, a14_8, a14_40, rfl⟩
  clear a13_0 a13_1 a13_2 a13_8
  refine wpF_condP a14_40 (fun hlt => ?t48) (fun hlt => ?e48)
  case e48 =>
    have hF : cutG (l.drop i.toNat) (t.drop q.toNat) = none := cutG_lost (by omega) (by rw [List.length_drop]; omega) hloop
    refine wpF_exit ?_
    refine atX_here ?_
    refine wpF_seq ?_
    refine wpF_cut (fun f H => St H0 (own [mapE r (m : List ((Int × Int) × Bool)), blkE gx (.cells #[vl, vt, (Value.map (some r))] 78)]) (fun b => S b ∧ ¬ own [mapE r (m : List ((Int × Int) × Bool)), blkE gx (.cells #[vl, vt, (Value.map (some r))] 78)] b) [mapE r (mset m1 (i, q) true : List ((Int × Int) × Bool)), rdE vl (l : List Auto), rdE vt (t : List Int), blkE gx (.cells #[vl, vt, (Value.map (some r))] 78)] H) ?_ ?_
    · refine wpF_region ?_
      refine wpL_q (U := NoB) rfl (q_move (v := PT gx 0) rfl a14_0) ?_
      refine wpL_q (U := NoB) rfl (q_nilCheck rfl rfl) ?_
      refine wpL_q (U := NoB) rfl (q_fieldAddr rfl Try.underlying78 rfl Try.sizeOf76 rfl) ?_
      refine wpL_q (U := NoB) rfl (q_loadBlk rfl rfl Try.isAgg76 (hS13.blk 3 rfl) rfl (fun h => h)) ?_
      refine wpL_q (U := NoB) rfl (q_move (v := I (i)) rfl a14_1) ?_
      refine wpL_q (U := NoB) rfl (q_move (v := I (q)) rfl a14_2) ?_
      refine wpL_q (U := NoB) rfl (q_build (v := Value.agg #[I (i), I (q)]) rfl (par2 (v0 := I (i)) (v1 := I (q)) rfl rfl) (fun w => by kernel_rfl)) ?_
      have hS42 : St H0 (own [mapE r (m : List ((Int × Int) × Bool)), blkE gx (.cells #[vl, vt, (Value.map (some r))] 78)]) (fun b => S b ∧ ¬ own [mapE r (m : List ((Int × Int) × Bool)), blkE gx (.cells #[vl, vt, (Value.map (some r))] 78)] b) [mapE r (m1 : List ((Int × Int) × Bool)), rdE vl (l : List Auto), rdE vt (t : List Int), blkE gx (.cells #[vl, vt, (Value.map (some r))] 78)] H13 := (hS13.front 2 rfl)
      refine wpL_o rfl ?_
      refine e_mapUpdate (k := (i, q)) (.inl rfl) Try.underlying76 (keyLaw_pair_87) rfl rfl rfl hS42 (Rd.bool.2 rfl) (fun H43 hS44 hxx => ?_)
      replace hS44 : St H0 (own [mapE r (m : List ((Int × Int) × Bool)), blkE gx (.cells #[vl, vt, (Value.map (some r))] 78)]) (fun b => S b ∧ ¬ own [mapE r (m : List ((Int × Int) × Bool)), blkE gx (.cells #[vl, vt, (Value.map (some r))] 78)] b) [mapE r (mset m1 (i, q) true : List ((Int × Int) × Bool)), rdE vl (l : List Auto), rdE vt (t : List Int), blkE gx (.cells #[vl, vt, (Value.map (some r))] 78)] H43 := hS44
      exact hS44
    rintro f45 H45 hS45
    clear a14_0 a14_1 a14_2 a14_40 a14_8
    refine wpF_seq ?_
    refine wpF_cut (fun f H => f 6 = (Value.slice none 0 0) ∧ f 7 = B (false) ∧ H45 = H) ?_ ?_
    · refine wpF_region ?_
      refine wpL_q (U := NoB) rfl (q_assign (v := (Value.slice none 0 0)) rfl rfl) ?_
      refine wpL_q (U := NoB) rfl (q_assign (v := B (false)) rfl rfl) ?_
      exact ⟨rfl, rfl, rfl⟩
    rintro f46 _ ⟨a46_6, a46_7, rfl⟩
    refine wpF_ret ?_
    refine ⟨_, resT a46_6 (resT a46_7 resN), hS45.frameM, ?_⟩
    show ∃ rx_ y_ m2_, (Value.tuple #[(Value.slice none 0 0), B (false)]) = Value.tuple #[rx_, B (cutG (l.drop i.toNat) (t.drop q.toNat)).isSome] ∧ (∀ s, cutG (l.drop i.toNat) (t.drop q.toNat) = some s → y_ = s) ∧ (cutG (l.drop i.toNat) (t.drop q.toNat) = none → y_ = []) ∧ NoInv l t (mget m2_) ∧ ∀ e ∈ [rdE rx_ (y_ : List Int), mapE r (m2_ : List ((Int × Int) × Bool)), blkE gx (.cells #[vl, vt, (Value.map (some r))] 78)], e.ok (lv S [mapE r (m : List ((Int × Int) × Bool)), blkE gx (.cells #[vl, vt, (Value.map (some r))] 78)] [rdE rx_ (y_ : List Int), mapE r (m2_ : List ((Int × Int) × Bool)), blkE gx (.cells #[vl, vt, (Value.map (some r))] 78)]) H45
    have hS47 : St H0 (own [mapE r (m : List ((Int × Int) × Bool)), blkE gx (.cells #[vl, vt, (Value.map (some r))] 78)]) (fun b => S b ∧ ¬ own [mapE r (m : List ((Int × Int) × Bool)), blkE gx (.cells #[vl, vt, (Value.map (some r))] 78)] b) [rdE (Value.slice none 0 0) ([] : List Int), mapE r (mset m1 (i, q) true : List ((Int × Int) × Bool)), rdE vl (l : List Auto), rdE vt (t : List Int), blkE gx (.cells #[vl, vt, (Value.map (some r))] 78)] H45 := hS45.rd rdNil
    exact ⟨_, [], _, by rw [hF]; rfl, none_all hF, fun _ => rfl, hni.put hF, St.leave (hS47.drop (List.Sublist.cons_cons _ (List.Sublist.cons_cons _ (List.Sublist.cons _ (List.Sublist.cons _ (List.Sublist.cons_cons _ (List.Sublist.slnil)))))))⟩
  have hr := hwi.run (l := (t.take (q + (n : Int)).toNat).drop q.toNat) (fun c hc => by rw [hsi]; exact hv c (List.mem_of_mem_take (List.mem_of_mem_drop hc))) (s := 0) (by omega)
  refine wpF_skip ?_
  refine wpF_seq ?_
  refine wpF_block ?_
  refine wpF_seq ?_
  refine wpF_seq ?_
  refine wpF_cut (fun f H => (In64 (nth l ((i).toNat)).Signs) ∧ f 0 = PT gx 0 ∧ f 1 = I (i) ∧ f 2 = I (q) ∧ f 8 = I (q + (n : Int)) ∧ f 68 = B (!(nth ((nth l ((i).toNat)).Takes) ((runA (nth l ((i).toNat)) 0 ((t.take ((q + (n : Int)).toNat)).drop ((q).toNat))).toNat))) ∧ St H0 (own [mapE r (m : List ((Int × Int) × Bool)), blkE gx (.cells #[vl, vt, (Value.map (some r))] 78)]) (fun b => S b ∧ ¬ own [mapE r (m : List ((Int × Int) × Bool)), blkE gx (.cells #[vl, vt, (Value.map (some r))] 78)] b) [rdE vl (l : List Auto), rdE vt (t : List Int), mapE r (m1 : List ((Int × Int) × Bool)), blkE gx (.cells #[vl, vt, (Value.map (some r))] 78)] H) ?_ ?_
  · refine wpF_drawn [] [] (fun _ _ => False) (by kernel_rfl) (by kernel_rfl) ?_
    refine wpR_q 0 (by kernel_rfl) rfl (quietAt rfl rfl (q_move (v := PT gx 0) rfl a14_0)) ?_
    refine wpR_q 1 (by kernel_rfl) rfl (quietAt rfl rfl (q_nilCheck rfl rfl)) ?_
    refine wpR_q 2 (by kernel_rfl) rfl (quietAt rfl rfl (q_fieldAddr rfl Try.underlying78 rfl Try.sizeOf48 rfl)) ?_
    refine wpR_q 3 (by kernel_rfl) rfl (quietAt rfl rfl (q_loadBlk rfl rfl Try.isAgg48 (hS13.blk 3 rfl) rfl (labU_not [] rfl (List.forall_mem_nil _)))) ?_
    refine wpR_q 4 (by kernel_rfl) rfl (quietAt rfl rfl (q_move (v := I (i)) rfl a14_1)) ?_
    refine wpR_q 5 (by kernel_rfl) rfl (quietAt rfl rfl (q_indexRd (k := (i).toNat) rfl Try.underlying48 el_Auto_36 rfl rfl (hS13.rdl 0 rfl) (by omega) (by omega))) ?_
    refine wpR_q 6 (by kernel_rfl) rfl (quietAt rfl rfl (q_fieldE (k := (i).toNat) rfl Try.underlying36 rfl Try.sizeOf32 rfl rfl (hS13.rdl 0 rfl) (by omega))) ?_
    obtain ⟨_, hcu16o7, hFu16o7⟩ := (Rd.list.1 (hS13.rdS 0 rfl)).cellF ((i).toNat) (by omega)
    obtain ⟨u16o7n1, u16o7n2, rfl, hu16o70, hu16o71, hu16o72⟩ := hcu16o7
    have hS16o7 : St H0 (own [mapE r (m : List ((Int × Int) × Bool)), blkE gx (.cells #[vl, vt, (Value.map (some r))] 78)]) (fun b => S b ∧ ¬ own [mapE r (m : List ((Int × Int) × Bool)), blkE gx (.cells #[vl, vt, (Value.map (some r))] 78)] b) [rdE u16o7n2 ((nth l ((i).toNat)).Takes : List Bool), rdE vl (l : List Auto), rdE vt (t : List Int), mapE r (m1 : List ((Int × Int) × Bool)), blkE gx (.cells #[vl, vt, (Value.map (some r))] 78)] H13 := hS13.rd (Rd.list.2 hu16o72)
    refine wpR_q 7 (by kernel_rfl) rfl (quietAt rfl rfl (q_loadF rfl rfl (hFu16o7 2 _ Try.prog 32 _ rfl Try.isAgg32 (labU_sub [] rfl (List.forall_mem_nil _))))) ?_
    refine wpR_q 8 (by kernel_rfl) rfl (quietAt rfl rfl (q_move (v := PT gx 0) rfl a14_0)) ?_
    refine wpR_q 9 (by kernel_rfl) rfl (quietAt rfl rfl (q_nilCheck rfl rfl)) ?_
    refine wpR_q 10 (by kernel_rfl) rfl (quietAt rfl rfl (q_fieldAddr rfl Try.underlying78 rfl Try.sizeOf48 rfl)) ?_
    refine wpR_q 11 (by kernel_rfl) rfl (quietAt rfl rfl (q_loadBlk rfl rfl Try.isAgg48 (hS16o7.blk 4 rfl) rfl (labU_not [] rfl (List.forall_mem_nil _)))) ?_
    refine wpR_q 12 (by kernel_rfl) rfl (quietAt rfl rfl (q_move (v := I (i)) rfl a14_1)) ?_
    refine wpR_q 13 (by kernel_rfl) rfl (quietAt rfl rfl (q_indexRd (k := (i).toNat) rfl Try.underlying48 el_Auto_36 rfl rfl (hS16o7.rdl 1 rfl) (by omega) (by omega))) ?_
    obtain ⟨u16o14, huu16o14, hlu16o14⟩ := (Rd.list.1 (hS16o7.rdS 1 rfl)).elem ((i).toNat) (by omega)
    obtain ⟨u16o14n1, u16o14n2, rfl, hu16o140, hu16o141, hu16o142⟩ := Rd.auto.1 huu16o14
    have hS16o14 : St H0 (own [mapE r (m : List ((Int × Int) × Bool)), blkE gx (.cells #[vl, vt, (Value.map (some r))] 78)]) (fun b => S b ∧ ¬ own [mapE r (m : List ((Int × Int) × Bool)), blkE gx (.cells #[vl, vt, (Value.map (some r))] 78)] b) [rdE u16o14n1 ((nth l ((i).toNat)).Next : List (List Int)), rdE u16o7n2 ((nth l ((i).toNat)).Takes : List Bool), rdE vl (l : List Auto), rdE vt (t : List Int), mapE r (m1 : List ((Int × Int) × Bool)), blkE gx (.cells #[vl, vt, (Value.map (some r))] 78)] H13 := hS16o7.rd hu16o141
    have hS16o14x2 : St H0 (own [mapE r (m : List ((Int × Int) × Bool)), blkE gx (.cells #[vl, vt, (Value.map (some r))] 78)]) (fun b => S b ∧ ¬ own [mapE r (m : List ((Int × Int) × Bool)), blkE gx (.cells #[vl, vt, (Value.map (some r))] 78)] b) [rdE u16o14n2 ((nth l ((i).toNat)).Takes : List Bool), rdE u16o14n1 ((nth l ((i).toNat)).Next : List (List Int)), rdE u16o7n2 ((nth l ((i).toNat)).Takes : List Bool), rdE vl (l : List Auto), rdE vt (t : List Int), mapE r (m1 : List ((Int × Int) × Bool)), blkE gx (.cells #[vl, vt, (Value.map (some r))] 78)] H13 := hS16o14.rd (hu16o142.sub fun _ hb => SL_rd hb)
    refine wpR_q 14 (by kernel_rfl) rfl (quietAt rfl rfl (q_loadE rfl rfl (hlu16o14 Try.prog 36 _ el_Auto_36 (labU_sub [] rfl (List.forall_mem_nil _))))) ?_
    refine wpR_q 15 (by kernel_rfl) rfl (quietAt rfl rfl (q_move (v := PT gx 0) rfl a14_0)) ?_
    refine wpR_q 16 (by kernel_rfl) rfl (quietAt rfl rfl (q_nilCheck rfl rfl)) ?_
    refine wpR_q 17 (by kernel_rfl) rfl (quietAt rfl rfl (q_fieldAddr rfl Try.underlying78 rfl Try.sizeOf22 rfl)) ?_
    refine wpR_q 18 (by kernel_rfl) rfl (quietAt rfl rfl (q_loadBlk rfl rfl Try.isAgg22 (hS16o14x2.blk 6 rfl) rfl (labU_not [] rfl (List.forall_mem_nil _)))) ?_
    refine wpR_q 19 (by kernel_rfl) rfl (quietAt rfl rfl (q_move (v := I (q)) rfl a14_2)) ?_
    refine wpR_q 20 (by kernel_rfl) rfl (quietAt rfl rfl (q_move (v := I (q + (n : Int))) rfl a14_8)) ?_
    have hS16o21 : St H0 (own [mapE r (m : List ((Int × Int) × Bool)), blkE gx (.cells #[vl, vt, (Value.map (some r))] 78)]) (fun b => S b ∧ ¬ own [mapE r (m : List ((Int × Int) × Bool)), blkE gx (.cells #[vl, vt, (Value.map (some r))] 78)] b) [rdE (sliceV 1 vt ((q).toNat) ((q + (n : Int)).toNat)) ((t.take ((q + (n : Int)).toNat)).drop ((q).toNat) : List Int), rdE u16o14n2 ((nth l ((i).toNat)).Takes : List Bool), rdE u16o14n1 ((nth l ((i).toNat)).Next : List (List Int)), rdE u16o7n2 ((nth l ((i).toNat)).Takes : List Bool), rdE vl (l : List Auto), rdE vt (t : List Int), mapE r (m1 : List ((Int × Int) × Bool)), blkE gx (.cells #[vl, vt, (Value.map (some r))] 78)] H13 := hS16o14x2.rd (Rd.list.2 (sliceV_rd (k := (q).toNat) (m := (q + (n : Int)).toNat) (Rd.list.1 (hS16o14x2.rdS 4 rfl)) (by omega) (by omega)))
    refine wpR_q 21 (by kernel_rfl) rfl (quietAt rfl rfl (q_sliceRd (k := (q).toNat) (m := (q + (n : Int)).toNat) rfl Try.underlying22 el_Int_3 rfl (hS16o14x2.rdl 4 rfl) (lo1 rfl (by omega)) (lo1 rfl (by omega)) (by omega) (by omega))) ?_
    refine wpR_n [22] (by kernel_rfl) ?_
    refine List.forall_mem_cons.2 ⟨?_, List.forall_mem_nil _⟩
    refine exE rfl rfl ?_
    refine e_call rfl Try.call52 (arr2 (v0 := Value.agg #[I ((nth l ((i).toNat)).Signs), u16o14n1, u16o14n2]) (v1 := (sliceV 1 vt ((q).toNat) ((q + (n : Int)).toNat))) rfl rfl) (Run u16o14n1 u16o14n2 ((sliceV 1 vt ((q).toNat) ((q + (n : Int)).toNat))) (nth l ((i).toNat)) ((t.take ((q + (n : Int)).toNat)).drop ((q).toNat)) (hS16o21.rdN 2 rfl) (hS16o21.rdN 1 rfl) (by assumption) (hS16o21.rdN 0 rfl) hwi (fun c hc => by rw [hsi]; exact hv c (List.mem_of_mem_take (List.mem_of_mem_drop hc)))) ?_
    rintro _ H16o22 ⟨hxx, rfl⟩
    have hS16o22 : St H0 (own [mapE r (m : List ((Int × Int) × Bool)), blkE gx (.cells #[vl, vt, (Value.map (some r))] 78)]) (fun b => S b ∧ ¬ own [mapE r (m : List ((Int × Int) × Bool)), blkE gx (.cells #[vl, vt, (Value.map (some r))] 78)] b) [rdE (sliceV 1 vt ((q).toNat) ((q + (n : Int)).toNat)) ((t.take ((q + (n : Int)).toNat)).drop ((q).toNat) : List Int), rdE u16o14n2 ((nth l ((i).toNat)).Takes : List Bool), rdE u16o14n1 ((nth l ((i).toNat)).Next : List (List Int)), rdE u16o7n2 ((nth l ((i).toNat)).Takes : List Bool), rdE vl (l : List Auto), rdE vt (t : List Int), mapE r (m1 : List ((Int × Int) × Bool)), blkE gx (.cells #[vl, vt, (Value.map (some r))] 78)] H16o22 := hS16o21.ext hxx
    refine ⟨Ext.mono hxx (fun _ h => h.elim), ?_⟩
    refine wpR_q 23 (by kernel_rfl) rfl (quietAt rfl rfl (q_indexRd (k := (runA (nth l ((i).toNat)) 0 ((t.take ((q + (n : Int)).toNat)).drop ((q).toNat))).toNat) rfl Try.underlying32 el_Bool_4 rfl rfl (hS16o22.rdl 3 rfl) (by omega) (by omega))) ?_
    refine wpR_q 24 (by kernel_rfl) rfl (quietAt rfl rfl (q_loadBool (k := (runA (nth l ((i).toNat)) 0 ((t.take ((q + (n : Int)).toNat)).drop ((q).toNat))).toNat) rfl rfl el_Bool_4 (hS16o22.rdl 3 rfl) (by omega) (labU_sub [] rfl (List.forall_mem_nil _)))) ?_
    refine wpR_q 25 (by kernel_rfl) rfl (quietAt rfl rfl (q_not rfl rfl)) ?_
    refine wpR_end (by kernel_rfl) ?_
    exact ⟨hu16o140, a14_0, a14_1, a14_2, a14_8, rfl, (hS16o22.drop (List.Sublist.cons _ (List.Sublist.cons _ (List.Sublist.cons _ (List.Sublist.cons _ (List.Sublist.cons_cons _ (List.Sublist.cons_cons _ (List.Sublist.cons_cons _ (List.Sublist.cons_cons _ (List.Sublist.slnil))))))))))⟩
  rintro f17 H17 ⟨hu16o140, a17_0, a17_1, a17_2, a17_8, a17_68, hS17⟩
  clear a14_0 a14_1 a14_2 a14_40 a14_8
  refine wpF_cond a17_68 (fun hacc => ?t41) (fun hacc => ?e41)
  case t41 =>
    have hstep : cutStep (cutG (l.drop (i.toNat + 1))) (nth l i.toNat) (t.drop q.toNat) n = none := by rw [cutStep, ← cut_mid hq.1, if_neg (fun h => by rw [takesA] at h; rw [h] at hacc; cases hacc)]
    refine wpF_exit ?_
    refine atX_here ?_
    refine wpF_cut (fun f H => f 0 = PT gx 0 ∧ f 1 = I (i) ∧ f 2 = I (q) ∧ f 8 = I ((q + (n : Int)) + 1) ∧ H17 = H) ?_ ?_
    · refine wpF_region ?_
      refine wpL_q (U := NoB) rfl (q_move (v := I (q + (n : Int))) rfl a17_8) ?_
      refine wpL_q (U := NoB) rfl (q_add rfl rfl rfl (by constructor <;> omega)) ?_
      refine wpL_q (U := NoB) rfl (q_assign (v := I ((q + (n : Int)) + 1)) rfl rfl) ?_
      exact ⟨a17_0, a17_1, a17_2, rfl, rfl⟩
    rintro f19 _ ⟨a19_0, a19_1, a19_2, a19_8, rfl⟩
    clear a17_0 a17_1 a17_2 a17_68 a17_8
    refine ⟨_, ?_, n + 1, m1, rfl, (by omega), (all_succ hloop hstep), hni, a19_0, a19_1, a19_2, (Eq.trans a19_8 (congrArg I (by omega))), hS17⟩
    omega
  have hacc2 : takesA (nth l i.toNat) 0 ((t.take (q + (n : Int)).toNat).drop q.toNat) = true := by rw [takesA]; simpa using hacc
  refine wpF_skip ?_
  refine wpF_seq ?_
  refine wpF_cut (fun f H => ∃ (m21 : List ((Int × Int) × Bool)), ∃ (r22 : Value), ∃ (y23 : List Int), (∀ s, cutG (l.drop (i + 1).toNat) (t.drop (q + (n : Int)).toNat) = some s → y23 = s) ∧ (cutG (l.drop (i + 1).toNat) (t.drop (q + (n : Int)).toNat) = none → y23 = []) ∧ (NoInv l t (mget m21)) ∧ f 0 = PT gx 0 ∧ f 1 = I (i) ∧ f 2 = I (q) ∧ f 8 = I (q + (n : Int)) ∧ f 9 = r22 ∧ f 10 = B ((cutG (l.drop (i + 1).toNat) (t.drop (q + (n : Int)).toNat)).isSome) ∧ St H0 (own [mapE r (m : List ((Int × Int) × Bool)), blkE gx (.cells #[vl, vt, (Value.map (some r))] 78)]) (fun b => S b ∧ ¬ own [mapE r (m : List ((Int × Int) × Bool)), blkE gx (.cells #[vl, vt, (Value.map (some r))] 78)] b) [rdE r22 (y23 : List Int), mapE r (m21 : List ((Int × Int) × Bool)), blkE gx (.cells #[vl, vt, (Value.map (some r))] 78), rdE vl (l : List Auto), rdE vt (t : List Int)] H) ?_ ?_
  · refine wpF_region ?_
    refine wpL_q (U := NoB) rfl (q_move (v := PT gx 0) rfl a17_0) ?_
    refine wpL_q (U := NoB) rfl (q_move (v := I (i)) rfl a17_1) ?_
    refine wpL_q (U := NoB) rfl (q_add rfl rfl rfl (by constructor <;> omega)) ?_
    refine wpL_q (U := NoB) rfl (q_move (v := I (q + (n : Int))) rfl a17_8) ?_
    have hS20 : St H0 (own [mapE r (m : List ((Int × Int) × Bool)), blkE gx (.cells #[vl, vt, (Value.map (some r))] 78)]) (fun b => S b ∧ ¬ own [mapE r (m : List ((Int × Int) × Bool)), blkE gx (.cells #[vl, vt, (Value.map (some r))] 78)] b) [mapE r (m1 : List ((Int × Int) × Bool)), blkE gx (.cells #[vl, vt, (Value.map (some r))] 78), rdE vl (l : List Auto), rdE vt (t : List Int)] H17 := (St.drop (show St H0 (own [mapE r (m : List ((Int × Int) × Bool)), blkE gx (.cells #[vl, vt, (Value.map (some r))] 78)]) (fun b => S b ∧ ¬ own [mapE r (m : List ((Int × Int) × Bool)), blkE gx (.cells #[vl, vt, (Value.map (some r))] 78)] b) [mapE r (m1 : List ((Int × Int) × Bool)), blkE gx (.cells #[vl, vt, (Value.map (some r))] 78), rdE vl (l : List Auto), rdE vt (t : List Int)] H17 from ((((hS17.front 1 rfl).front 1 rfl).front 3 rfl).front 3 rfl)) (List.Sublist.cons_cons _ (List.Sublist.cons_cons _ (List.Sublist.cons_cons _ (List.Sublist.cons_cons _ (List.Sublist.slnil))))))
    have hrg : r ≠ gx := fun e => hS20.dis 0 1 (by decide) rfl rfl _ rfl e
    refine wpL_o rfl ?_
    refine e_call rfl Try.call55 (arr3 (v0 := PT gx 0) (v1 := I (i + 1)) (v2 := I (q + (n : Int))) rfl rfl rfl) (ih _ (by omega) gx r vl vt l t (i + 1) (q + (n : Int)) m1 sg _ (fun e he => hS20.ok e (List.mem_append_left [rdE vl (l : List Auto), rdE vt (t : List Int)] he)) (fun b hb => SL.lt hS20 hb) (fun b ⟨e, he, hb⟩ => .inr ⟨e, List.mem_append_left [rdE vl (l : List Auto), rdE vt (t : List Int)] he, hb⟩) hrg (hS20.rdS 2 rfl) (hS20.rdS 3 rfl) hwf hsgs hv htl hll (by omega) (by omega) hni rfl) ?_
    rintro _ H24 ⟨hxx, r22, y23, m21, rfl, hym21, hzm21, hnim21, hok⟩
    have hS25 : St H0 (own [mapE r (m : List ((Int × Int) × Bool)), blkE gx (.cells #[vl, vt, (Value.map (some r))] 78)]) (fun b => S b ∧ ¬ own [mapE r (m : List ((Int × Int) × Bool)), blkE gx (.cells #[vl, vt, (Value.map (some r))] 78)] b) [rdE r22 (y23 : List Int), mapE r (m21 : List ((Int × Int) × Bool)), blkE gx (.cells #[vl, vt, (Value.map (some r))] 78), rdE vl (l : List Auto), rdE vt (t : List Int)] H24 := St.back (A := [mapE r (m1 : List ((Int × Int) × Bool)), blkE gx (.cells #[vl, vt, (Value.map (some r))] 78)]) (A' := [rdE r22 (y23 : List Int), mapE r (m21 : List ((Int × Int) × Bool)), blkE gx (.cells #[vl, vt, (Value.map (some r))] 78)]) (L := [rdE vl (l : List Auto), rdE vt (t : List Int)]) hS20 hxx hok (by intro b hb; left; simpa [own_cons, own_nil, mapE, blkE, rdE] using hb) ((List.pairwise_cons.2 ⟨fun _ _ _ h => h.elim, pw2 (fun b h1 h2 => hrg (h1.symm.trans h2))⟩))
    refine wpL_q (U := NoB) rfl (q_move (v := Value.tuple #[r22, B ((cutG (l.drop (i + 1).toNat) (t.drop (q + (n : Int)).toNat)).isSome)]) rfl rfl) ?_
    refine wpL_q (U := NoB) rfl (q_extract (vs := #[r22, B ((cutG (l.drop (i + 1).toNat) (t.drop (q + (n : Int)).toNat)).isSome)]) (v := r22) rfl rfl rfl) ?_
    refine wpL_q (U := NoB) rfl (q_extract (vs := #[r22, B ((cutG (l.drop (i + 1).toNat) (t.drop (q + (n : Int)).toNat)).isSome)]) (v := B ((cutG (l.drop (i + 1).toNat) (t.drop (q + (n : Int)).toNat)).isSome)) rfl rfl rfl) ?_
    refine wpL_q (U := NoB) rfl (q_assign (v := r22) rfl rfl) ?_
    refine wpL_q (U := NoB) rfl (q_assign (v := B ((cutG (l.drop (i + 1).toNat) (t.drop (q + (n : Int)).toNat)).isSome)) rfl rfl) ?_
    exact ⟨m21, r22, y23, hym21, hzm21, hnim21, a17_0, a17_1, a17_2, a17_8, rfl, rfl, hS25⟩
  rintro f27 H27 ⟨m21, r22, y23, hym21, hzm21, hnim21, a27_0, a27_1, a27_2, a27_8, a27_9, a27_10, hS27⟩
  clear a17_0 a17_1 a17_2 a17_68 a17_8
  refine wpF_seq ?_
  refine wpF_cut (fun f H => f 0 = PT gx 0 ∧ f 1 = I (i) ∧ f 2 = I (q) ∧ f 8 = I (q + (n : Int)) ∧ f 9 = r22 ∧ f 77 = B ((cutG (l.drop (i + 1).toNat) (t.drop (q + (n : Int)).toNat)).isSome) ∧ H27 = H) ?_ ?_
  · refine wpF_region ?_
    refine wpL_q (U := NoB) rfl (q_move (v := B ((cutG (l.drop (i + 1).toNat) (t.drop (q + (n : Int)).toNat)).isSome)) rfl a27_10) ?_
    exact ⟨a27_0, a27_1, a27_2, a27_8, a27_9, rfl, rfl⟩
  rintro f28 _ ⟨a28_0, a28_1, a28_2, a28_8, a28_9, a28_77, rfl⟩
  clear a27_0 a27_1 a27_10 a27_2 a27_8 a27_9
  refine wpF_cond a28_77 (fun hfound => ?t40) (fun hfound => ?e40)
  case e40 =>
    have hstep : cutStep (cutG (l.drop (i.toNat + 1))) (nth l i.toNat) (t.drop q.toNat) n = none := by rw [cutStep, ← cut_mid hq.1, if_pos hacc2, ← cut_on hq.1, show i.toNat + 1 = (i + 1).toNat from by omega, opt_cases (o := cutG (l.drop (i + 1).toNat) (t.drop (q + (n : Int)).toNat)) (by simpa using hfound)]; rfl
    refine wpF_skip ?_
    refine wpF_cut (fun f H => f 0 = PT gx 0 ∧ f 1 = I (i) ∧ f 2 = I (q) ∧ f 8 = I ((q + (n : Int)) + 1) ∧ H27 = H) ?_ ?_
    · refine wpF_region ?_
      refine wpL_q (U := NoB) rfl (q_move (v := I (q + (n : Int))) rfl a28_8) ?_
      refine wpL_q (U := NoB) rfl (q_add rfl rfl rfl (by constructor <;> omega)) ?_
      refine wpL_q (U := NoB) rfl (q_assign (v := I ((q + (n : Int)) + 1)) rfl rfl) ?_
      exact ⟨a28_0, a28_1, a28_2, rfl, rfl⟩
    rintro f39 _ ⟨a39_0, a39_1, a39_2, a39_8, rfl⟩
    clear a28_0 a28_1 a28_2 a28_77 a28_8 a28_9
    refine ⟨_, ?_, n + 1, m21, rfl, (by omega), (all_succ hloop hstep), hnim21, a39_0, a39_1, a39_2, (Eq.trans a39_8 (congrArg I (by omega))), (St.drop (show St H0 (own [mapE r (m : List ((Int × Int) × Bool)), blkE gx (.cells #[vl, vt, (Value.map (some r))] 78)]) (fun b => S b ∧ ¬ own [mapE r (m : List ((Int × Int) × Bool)), blkE gx (.cells #[vl, vt, (Value.map (some r))] 78)] b) [rdE vl (l : List Auto), rdE vt (t : List Int), mapE r (m21 : List ((Int × Int) × Bool)), blkE gx (.cells #[vl, vt, (Value.map (some r))] 78), rdE r22 (y23 : List Int)] H27 from ((((hS27.front 2 rfl).front 2 rfl).front 4 rfl).front 4 rfl)) (List.Sublist.cons_cons _ (List.Sublist.cons_cons _ (List.Sublist.cons_cons _ (List.Sublist.cons_cons _ (List.Sublist.cons _ (List.Sublist.slnil)))))))⟩
    omega
  obtain ⟨s, hs⟩ := Option.isSome_iff_exists.1 hfound
  have hyy := hym21 s hs
  have hyl := cutG_len hs
  rw [← hyy, List.length_drop] at hyl
  refine wpF_seq ?_
  refine wpF_cut (fun f H => ∃ (v34 : Value), f 6 = v34 ∧ f 7 = B (true) ∧ St H0 (own [mapE r (m : List ((Int × Int) × Bool)), blkE gx (.cells #[vl, vt, (Value.map (some r))] 78)]) (fun b => S b ∧ ¬ own [mapE r (m : List ((Int × Int) × Bool)), blkE gx (.cells #[vl, vt, (Value.map (some r))] 78)] b) [rowE 3 v34 (([(q + (n : Int)) - q]) ++ y23 : List Int), mapE r (m21 : List ((Int × Int) × Bool)), blkE gx (.cells #[vl, vt, (Value.map (some r))] 78), rdE vl (l : List Auto), rdE vt (t : List Int)] H) ?_ ?_
  · refine wpF_region ?_
    refine wpL_q (U := NoB) rfl (q_move (v := I (q + (n : Int))) rfl a28_8) ?_
    refine wpL_q (U := NoB) rfl (q_move (v := I (q)) rfl a28_2) ?_
    refine wpL_q (U := NoB) rfl (q_sub rfl rfl rfl (by constructor <;> omega)) ?_
    refine wpL_o rfl ?_
    refine e_buildSlice (vs := [I ((q + (n : Int)) - q)]) (xs := ([(q + (n : Int)) - q] : List Int)) rfl Try.underlying22 Try.zeroValue3 rfl Try.sizeOf3 (par1 (v0 := I ((q + (n : Int)) - q)) rfl) rfl hS27 (RdVs.cons (Rd.int.2 ⟨rfl, by constructor <;> omega⟩) (RdVs.nil)) (by decide) (by decide) (fun v30 H31 hS32 hxx hvv30 => ?_)
    replace hS32 : St H0 (own [mapE r (m : List ((Int × Int) × Bool)), blkE gx (.cells #[vl, vt, (Value.map (some r))] 78)]) (fun b => S b ∧ ¬ own [mapE r (m : List ((Int × Int) × Bool)), blkE gx (.cells #[vl, vt, (Value.map (some r))] 78)] b) [rowE 3 v30 ([(q + (n : Int)) - q] : List Int), rdE r22 (y23 : List Int), mapE r (m21 : List ((Int × Int) × Bool)), blkE gx (.cells #[vl, vt, (Value.map (some r))] 78), rdE vl (l : List Auto), rdE vt (t : List Int)] H31 := hS32
    refine wpL_q (U := NoB) rfl (q_move (v := r22) rfl a28_9) ?_
    have hS33 : St H0 (own [mapE r (m : List ((Int × Int) × Bool)), blkE gx (.cells #[vl, vt, (Value.map (some r))] 78)]) (fun b => S b ∧ ¬ own [mapE r (m : List ((Int × Int) × Bool)), blkE gx (.cells #[vl, vt, (Value.map (some r))] 78)] b) [rowE 3 v30 ([(q + (n : Int)) - q] : List Int), rdE r22 (y23 : List Int), mapE r (m21 : List ((Int × Int) × Bool)), blkE gx (.cells #[vl, vt, (Value.map (some r))] 78), rdE vl (l : List Auto), rdE vt (t : List Int)] H31 := hS32
    refine wpL_o rfl ?_
    refine e_append rfl Try.underlying22 em_Int_3 rfl rfl hS33 (hS33.rdS 1 rfl) (fun _ h => h) (by have hb : GoT.bytes Int = 8 := rfl; simp [hb]; omega) (by decide) (fun v34 H35 hS36 hxx => ?_)
    replace hS36 : St H0 (own [mapE r (m : List ((Int × Int) × Bool)), blkE gx (.cells #[vl, vt, (Value.map (some r))] 78)]) (fun b => S b ∧ ¬ own [mapE r (m : List ((Int × Int) × Bool)), blkE gx (.cells #[vl, vt, (Value.map (some r))] 78)] b) [rowE 3 v34 (([(q + (n : Int)) - q]) ++ y23 : List Int), rdE r22 (y23 : List Int), mapE r (m21 : List ((Int × Int) × Bool)), blkE gx (.cells #[vl, vt, (Value.map (some r))] 78), rdE vl (l : List Auto), rdE vt (t : List Int)] H35 := hS36
    refine wpL_q (U := NoB) rfl (q_assign (v := v34) rfl rfl) ?_
    refine wpL_q (U := NoB) rfl (q_assign (v := B (true)) rfl rfl) ?_
    exact ⟨v34, rfl, rfl, (hS36.drop (List.Sublist.cons_cons _ (List.Sublist.cons _ (List.Sublist.cons_cons _ (List.Sublist.cons_cons _ (List.Sublist.cons_cons _ (List.Sublist.cons_cons _ (List.Sublist.slnil))))))))⟩
  rintro f37 H37 ⟨v34, a37_6, a37_7, hS37⟩
  clear a28_0 a28_1 a28_2 a28_77 a28_8 a28_9
  refine wpF_ret ?_
  refine ⟨_, resT a37_6 (resT a37_7 resN), hS37.frameM, ?_⟩
  show ∃ rx_ y_ m2_, (Value.tuple #[v34, B (true)]) = Value.tuple #[rx_, B (cutG (l.drop i.toNat) (t.drop q.toNat)).isSome] ∧ (∀ s, cutG (l.drop i.toNat) (t.drop q.toNat) = some s → y_ = s) ∧ (cutG (l.drop i.toNat) (t.drop q.toNat) = none → y_ = []) ∧ NoInv l t (mget m2_) ∧ ∀ e ∈ [rdE rx_ (y_ : List Int), mapE r (m2_ : List ((Int × Int) × Bool)), blkE gx (.cells #[vl, vt, (Value.map (some r))] 78)], e.ok (lv S [mapE r (m : List ((Int × Int) × Bool)), blkE gx (.cells #[vl, vt, (Value.map (some r))] 78)] [rdE rx_ (y_ : List Int), mapE r (m2_ : List ((Int × Int) × Bool)), blkE gx (.cells #[vl, vt, (Value.map (some r))] 78)]) H37
  have hS38 : St H0 (own [mapE r (m : List ((Int × Int) × Bool)), blkE gx (.cells #[vl, vt, (Value.map (some r))] 78)]) (fun b => S b ∧ ¬ own [mapE r (m : List ((Int × Int) × Bool)), blkE gx (.cells #[vl, vt, (Value.map (some r))] 78)] b) [rdE v34 (([(q + (n : Int)) - q]) ++ y23 : List Int), mapE r (m21 : List ((Int × Int) × Bool)), blkE gx (.cells #[vl, vt, (Value.map (some r))] 78), rdE vl (l : List Auto), rdE vt (t : List Int)] H37 := St.fin hS37
  have hF : cutG (l.drop i.toNat) (t.drop q.toNat) = some ((n : Int) :: s) := cutG_found (by omega) (by rw [List.length_drop]; omega) hloop (by rw [cutStep, ← cut_mid hq.1, if_pos hacc2, ← cut_on hq.1, show i.toNat + 1 = (i + 1).toNat from by omega, hs]; rfl)
  have hy := hym21 s hs
  exact ⟨_, ([(q + (n : Int)) - q]) ++ y23, _, by rw [hF]; rfl, (fun s2 hs2 => by rw [hF] at hs2; cases hs2; rw [hy]; simp; omega), (fun h => by rw [hF] at h; cases h), hnim21, St.leave (hS38.drop (List.Sublist.cons_cons _ (List.Sublist.cons_cons _ (List.Sublist.cons_cons _ (List.Sublist.cons _ (List.Sublist.cons _ (List.Sublist.slnil)))))))⟩

set_option maxRecDepth 100000 in
theorem rope_Cut {H0 : Heap} {S : Nat → Prop} (vl vt : Value) (l : List Auto) (t : List Int) (rl : Rd S H0 vl l) (rt : Rd S H0 vt t) : CallsH Try.prog 30 #[vl, vt] H0 (fun rv_ H' => Ext NoB H0 H' ∧ ∃ rx_, rv_ = Value.tuple #[rx_, B (cutOk l t), Value.agg #[I (cutFault l t).1, I (cutFault l t).2]] ∧ Rd (fun b => S b ∧ b < H0.size) H' rx_ (cutList l t)) := by
  have hsl := (Rd.list.1 rl).small
  have hst := (Rd.list.1 rt).small
  have hS0 : St H0 NoB (fun b => S b ∧ b < H0.size) [rdE vl (l : List Auto), rdE vt (t : List Int)] H0 := St.arg (St.arg (St.start (fun _ h => h.2)) (Bl0.nil) rt (fun _ h => h.1)) (Bl0.cons (Bl0.nil)) rl (fun _ h => h.1)
  refine callsH_of_wpF (args := [vl, vt]) (rs := [.tmp 4, .tmp 5, .cell 6 24]) Try.func30 rfl Try.ntmps30 Try.results30 (by kernel_rfl) (Nat.le_of_ble_eq_true rfl) ?_
  have a0_0 : argF [vl, vt] 0 = vl := rfl
  have a0_1 : argF [vl, vt] 1 = vt := rfl
  generalize argF [vl, vt] = f0 at *
  refine wpF_seq ?_
  refine wpF_cut (fun f H => ∃ (g1 : Nat), f 0 = vl ∧ f 1 = vt ∧ f 6 = PT g1 0 ∧ St H0 NoB (fun b => S b ∧ b < H0.size) [blkE g1 (.cells #[I (0), I (0)] 24), rdE vl (l : List Auto), rdE vt (t : List Int)] H) ?_ ?_
  · refine wpF_region ?_
    refine wpL_q (U := NoB) rfl (q_assign (v := (Value.slice none 0 0)) rfl rfl) ?_
    refine wpL_q (U := NoB) rfl (q_assign (v := B (false)) rfl rfl) ?_
    refine wpL_o rfl ?_
    refine e_alloc rfl Try.zeroValue24 hS0 (fun g1 H2 hS3 hxx => ?_)
    replace hS3 : St H0 NoB (fun b => S b ∧ b < H0.size) [blkE g1 (.cells #[I (0), I (0)] 24), rdE vl (l : List Auto), rdE vt (t : List Int)] H2 := hS3
    exact ⟨g1, a0_0, a0_1, rfl, hS3⟩
  rintro f4 H4 ⟨g1, a4_0, a4_1, a4_6, hS4⟩
  clear a0_0 a0_1
  refine wpF_seq ?_
  refine wpF_seq ?_
  refine wpF_cut (fun f H => f 0 = vl ∧ f 1 = vt ∧ f 6 = PT g1 0 ∧ f 21 = B (decide (((l.length : Int) < 1) ∨ (6 < (l.length : Int)))) ∧ H4 = H) ?_ ?_
  · refine wpF_region ?_
    refine wpL_q (U := NoB) rfl (q_move (v := vl) rfl a4_0) ?_
    refine wpL_q (U := NoB) rfl (q_lenRd rfl Try.underlying48 rfl (hS4.rdl 1 rfl)) ?_
    refine wpL_q (U := NoB) rfl (q_lss rfl rfl rfl) ?_
    refine wpL_q (U := NoB) rfl (q_move (v := B (decide ((l.length : Int) < 1))) rfl rfl) ?_
    by_cases hg5 : (l.length : Int) < 1
    · have hb6 := Eq.trans rfl (congrArg B (decide_eq_true hg5))
      refine wpL_gs rfl rfl rfl hb6 rfl ?_
      refine wpL_gs rfl rfl rfl hb6 rfl ?_
      refine wpL_gs rfl rfl rfl hb6 rfl ?_
      refine wpL_q (U := NoB) rfl (q_pickT (v := B (true)) rfl hb6 rfl) ?_
      exact ⟨a4_0, a4_1, a4_6, (Eq.trans rfl (congrArg B ((decide_eq_true (Or.inl hg5)).symm))), rfl⟩
    · have hb7 := Eq.trans rfl (congrArg B (decide_eq_false hg5))
      refine wpL_gq (U := NoB) rfl rfl rfl hb7 (q_move (v := vl) rfl a4_0) ?_
      refine wpL_gq (U := NoB) rfl rfl rfl hb7 (q_lenRd rfl Try.underlying48 rfl (hS4.rdl 1 rfl)) ?_
      refine wpL_gq (U := NoB) rfl rfl rfl hb7 (q_gtr rfl rfl rfl) ?_
      refine wpL_q (U := NoB) rfl (q_pickF (v := B (decide (6 < (l.length : Int)))) rfl hb7 rfl) ?_
      exact ⟨a4_0, a4_1, a4_6, (Eq.trans rfl (congrArg B (decide_congr_of ((Iff.rfl).trans (((or_iff_right hg5).trans Iff.rfl)).symm)))), rfl⟩
  rintro f8 _ ⟨a8_0, a8_1, a8_6, a8_21, rfl⟩
  clear a4_0 a4_1 a4_6
  refine wpF_condP a8_21 (fun h1 => ?t82) (fun h1 => ?e82)
  case t82 =>
    refine wpF_seq ?_
    refine wpF_cut (fun f H => f 4 = (Value.slice none 0 0) ∧ f 5 = B (false) ∧ f 6 = PT g1 0 ∧ St H0 NoB (fun b => S b ∧ b < H0.size) [blkE g1 (.cells #[I (2), I (-4)] 24), rdE vl (l : List Auto), rdE vt (t : List Int)] H) ?_ ?_
    · refine wpF_region ?_
      refine wpL_q (U := NoB) rfl (q_build (v := Value.agg #[I (2), I (-4)]) rfl (par2 (v0 := I (2)) (v1 := I (-4)) rfl rfl) (fun w => by kernel_rfl)) ?_
      refine wpL_q (U := NoB) rfl (q_assign (v := (Value.slice none 0 0)) rfl rfl) ?_
      refine wpL_q (U := NoB) rfl (q_assign (v := B (false)) rfl rfl) ?_
      refine wpL_o rfl ?_
      refine e_storeBlkA (cs' := #[I (2), I (-4)]) rfl a8_6 rfl Try.sizeOf24 rfl rfl (List.forall_mem_cons.2 ⟨rfl, List.forall_mem_cons.2 ⟨rfl, List.forall_mem_nil _⟩⟩) hS4 (fun H10 hS11 hxx => ?_)
      replace hS11 : St H0 NoB (fun b => S b ∧ b < H0.size) [blkE g1 (.cells #[I (2), I (-4)] 24), rdE vl (l : List Auto), rdE vt (t : List Int)] H10 := hS11
      exact ⟨rfl, rfl, a8_6, hS11⟩
    rintro f12 H12 ⟨a12_4, a12_5, a12_6, hS12⟩
    clear a8_0 a8_1 a8_21 a8_6
    refine wpF_ret ?_
    refine ⟨_, resT a12_4 (resT a12_5 (resC a12_6 (loadV_blkA Try.isAgg24 Try.sizeOf24 rfl (hS12.blk 0 rfl)) (resN))), hS12.frame, ?_⟩
    show ∃ rx_, (Value.tuple #[(Value.slice none 0 0), B (false), Value.agg #[I (2), I (-4)]]) = Value.tuple #[rx_, B (cutOk l t), Value.agg #[I (cutFault l t).1, I (cutFault l t).2]] ∧ Rd (fun b => S b ∧ b < H0.size) H12 rx_ (cutList l t)
    have hF := cutFault_many (t := t) h1
    have hb := cut_bad (l := l) (t := t) (by rw [hF]; simp)
    exact ⟨_, by rw [hb.1, hF], by rw [hb.2]; exact rdNil⟩
  refine wpF_skip ?_
  refine wpF_seq ?_
  refine wpF_seq ?_
  refine wpF_cut (fun f H => f 0 = vl ∧ f 1 = vt ∧ f 6 = PT g1 0 ∧ f 23 = vl ∧ f 24 = I ((l.length : Int)) ∧ f 25 = I (0) ∧ H4 = H) ?_ ?_
  · refine wpF_region ?_
    refine wpL_q (U := NoB) rfl (q_move (v := vl) rfl a8_0) ?_
    refine wpL_q (U := NoB) rfl (q_lenRd rfl Try.underlying48 rfl (hS4.rdl 1 rfl)) ?_
    refine wpL_q (U := NoB) rfl (q_move (v := I (0)) rfl rfl) ?_
    exact ⟨a8_0, a8_1, a8_6, rfl, rfl, rfl, rfl⟩
  rintro f13 _ ⟨a13_0, a13_1, a13_6, a13_23, a13_24, a13_25, rfl⟩
  clear a8_0 a8_1 a8_21 a8_6
  refine wpF_block ?_
  refine wpF_loop (fun mz f H => ∃ (k : Nat), mz = l.length - k ∧ (k ≤ l.length) ∧ (∀ j, j < k → partFault l j = none) ∧ f 0 = vl ∧ f 1 = vt ∧ f 6 = PT g1 0 ∧ f 23 = vl ∧ f 24 = I ((l.length : Int)) ∧ f 25 = I ((k : Int)) ∧ St H0 NoB (fun b => S b ∧ b < H0.size) [blkE g1 (.cells #[I (0), I (0)] 24), rdE vl (l : List Auto), rdE vt (t : List Int)] H) (l.length - 0) ?_ ?_
  · exact ⟨0, rfl, Nat.zero_le _, (fun j hj => absurd hj (Nat.not_lt_zero j)), a13_0, a13_1, a13_6, a13_23, a13_24, (Eq.trans a13_25 (congrArg I (by omega))), hS4⟩
  intro m14 f14 H14 hI14
  obtain ⟨k, hm14, hk, hp, a14_0, a14_1, a14_6, a14_23, a14_24, a14_25, hS14⟩ := hI14
  clear a13_0 a13_1 a13_23 a13_24 a13_25 a13_6
  refine wpF_seq ?_
  refine wpF_cut (fun f H => f 0 = vl ∧ f 1 = vt ∧ f 6 = PT g1 0 ∧ f 23 = vl ∧ f 24 = I ((l.length : Int)) ∧ f 25 = I ((k : Int)) ∧ f 26 = B (decide ((k : Int) < (l.length : Int))) ∧ H14 = H) ?_ ?_
  · refine wpF_region ?_
    refine wpL_q (U := NoB) rfl (q_lss rfl a14_25 a14_24) ?_
    exact ⟨a14_0, a14_1, a14_6, a14_23, a14_24, a14_25, rfl, rfl⟩
  rintro f15 _ ⟨a15_0, a15_1, a15_6, a15_23, a15_24, a15_25, a15_26, rfl⟩
  clear a14_0 a14_1 a14_23 a14_24 a14_25 a14_6
  refine wpF_seq ?_
  refine wpF_condP a15_26 (fun hlt => ?t81) (fun hlt => ?e81)
  case e81 =>
    have hpp : ∀ j, j < l.length → partFault l j = none := fun j hj => hp j (by omega)
    have hlpos : 0 < l.length := by omega
    refine wpF_exit ?_
    refine atX_here ?_
    refine wpF_seq ?_
    refine wpF_seq ?_
    refine wpF_cut (fun f H => ∃ (g52 : Nat), (In64 (nth l 0).Signs) ∧ f 0 = vl ∧ f 1 = vt ∧ f 6 = PT g1 0 ∧ f 10 = PT g52 0 ∧ St H0 NoB (fun b => S b ∧ b < H0.size) [blkE g52 (.cells #[I ((textFault ((nth l 0).Signs) t).1), I ((textFault ((nth l 0).Signs) t).2)] 24), blkE g1 (.cells #[I (0), I (0)] 24), rdE vl (l : List Auto), rdE vt (t : List Int)] H) ?_ ?_
    · refine wpF_region ?_
      refine wpL_q (U := NoB) rfl (q_move (v := vl) rfl a15_0) ?_
      refine wpL_q (U := NoB) rfl (q_indexRd (k := 0) rfl Try.underlying48 el_Auto_36 rfl rfl (hS14.rdl 1 rfl) (by omega) (by omega)) ?_
      refine wpL_q (U := NoB) rfl (q_fieldE (k := 0) rfl Try.underlying36 rfl Try.sizeOf3 rfl rfl (hS14.rdl 1 rfl) (by omega)) ?_
      obtain ⟨_, hcu48, hFu48⟩ := (Rd.list.1 (hS14.rdS 1 rfl)).cellF 0 (by omega)
      obtain ⟨u48n1, u48n2, rfl, hu480, hu481, hu482⟩ := hcu48
      refine wpL_q (U := NoB) rfl (q_loadF rfl rfl (hFu48 0 _ Try.prog 3 _ rfl Try.isAgg3 (fun _ h => False.elim h))) ?_
      refine wpL_q (U := NoB) rfl (q_move (v := vt) rfl a15_1) ?_
      refine wpL_o rfl ?_
      refine e_call rfl Try.call22 (arr2 (v0 := I ((nth l 0).Signs)) (v1 := vt) rfl rfl) (Text vt ((nth l 0).Signs) t (hS14.rdN 2 rfl)) ?_
      rintro _ H49 ⟨hxx, rfl⟩
      have hS50 : St H0 NoB (fun b => S b ∧ b < H0.size) [blkE g1 (.cells #[I (0), I (0)] 24), rdE vl (l : List Auto), rdE vt (t : List Int)] H49 := hS14.ext hxx
      refine wpL_o rfl ?_
      refine e_alloc rfl Try.zeroValue24 hS50 (fun g52 H53 hS54 hxx => ?_)
      replace hS54 : St H0 NoB (fun b => S b ∧ b < H0.size) [blkE g52 (.cells #[I (0), I (0)] 24), blkE g1 (.cells #[I (0), I (0)] 24), rdE vl (l : List Auto), rdE vt (t : List Int)] H53 := hS54
      refine wpL_o rfl ?_
      refine e_storeBlkA (cs' := #[I ((textFault ((nth l 0).Signs) t).1), I ((textFault ((nth l 0).Signs) t).2)]) rfl rfl rfl Try.sizeOf24 rfl rfl (List.forall_mem_cons.2 ⟨rfl, List.forall_mem_cons.2 ⟨rfl, List.forall_mem_nil _⟩⟩) hS54 (fun H55 hS56 hxx => ?_)
      replace hS56 : St H0 NoB (fun b => S b ∧ b < H0.size) [blkE g52 (.cells #[I ((textFault ((nth l 0).Signs) t).1), I ((textFault ((nth l 0).Signs) t).2)] 24), blkE g1 (.cells #[I (0), I (0)] 24), rdE vl (l : List Auto), rdE vt (t : List Int)] H55 := hS56
      exact ⟨g52, hu480, a15_0, a15_1, a15_6, rfl, hS56⟩
    rintro f57 H57 ⟨g52, hu480, a57_0, a57_1, a57_6, a57_10, hS57⟩
    clear a15_0 a15_1 a15_23 a15_24 a15_25 a15_26 a15_6
    refine wpF_seq ?_
    refine wpF_cut (fun f H => f 0 = vl ∧ f 1 = vt ∧ f 6 = PT g1 0 ∧ f 10 = PT g52 0 ∧ f 57 = B (decide (((textFault ((nth l 0).Signs) t).1) ≠ 0)) ∧ H57 = H) ?_ ?_
    · refine wpF_region ?_
      refine wpL_q (U := NoB) rfl (q_fieldAddr rfl Try.underlying24 rfl Try.sizeOf3 a57_10) ?_
      refine wpL_q (U := NoB) rfl (q_loadBlk rfl rfl Try.isAgg3 (hS57.blk 0 rfl) rfl (fun h => h)) ?_
      refine wpL_q (U := NoB) rfl (q_neq rfl rfl rfl) ?_
      exact ⟨a57_0, a57_1, a57_6, a57_10, rfl, rfl⟩
    rintro f58 _ ⟨a58_0, a58_1, a58_6, a58_10, a58_57, rfl⟩
    clear a57_0 a57_1 a57_10 a57_6
    refine wpF_condP a58_57 (fun h4 => ?t80) (fun h4 => ?e80)
    case t80 =>
      refine wpF_seq ?_
      refine wpF_cut (fun f H => f 4 = (Value.slice none 0 0) ∧ f 5 = B (false) ∧ f 6 = PT g1 0 ∧ St H0 NoB (fun b => S b ∧ b < H0.size) [blkE g1 (.cells #[I ((textFault ((nth l 0).Signs) t).1), I ((textFault ((nth l 0).Signs) t).2)] 24), blkE g52 (.cells #[I ((textFault ((nth l 0).Signs) t).1), I ((textFault ((nth l 0).Signs) t).2)] 24), rdE vl (l : List Auto), rdE vt (t : List Int)] H) ?_ ?_
      · refine wpF_drawn [none, none, none, some 0] [[], [], [], []] (fun l b => match l with | 0 => True | _ => False) (by kernel_rfl) (by kernel_rfl) ?_
        refine wpR_q 0 (by kernel_rfl) rfl (quietAt rfl rfl (q_loadBlkA rfl a58_10 Try.isAgg24 Try.sizeOf24 rfl (hS57.blk 0 rfl) (labU_not [] rfl (List.forall_mem_nil _)))) ?_
        refine wpR_q 1 (by kernel_rfl) rfl (quietAt rfl rfl (q_assign (v := (Value.slice none 0 0)) rfl rfl)) ?_
        refine wpR_q 2 (by kernel_rfl) rfl (quietAt rfl rfl (q_assign (v := B (false)) rfl rfl)) ?_
        refine wpR_n [3] (by kernel_rfl) ?_
        refine List.forall_mem_cons.2 ⟨?_, List.forall_mem_nil _⟩
        refine exE rfl rfl ?_
        refine e_storeBlkA (cs' := #[I ((textFault ((nth l 0).Signs) t).1), I ((textFault ((nth l 0).Signs) t).2)]) rfl a58_6 rfl Try.sizeOf24 rfl rfl (List.forall_mem_cons.2 ⟨rfl, List.forall_mem_cons.2 ⟨rfl, List.forall_mem_nil _⟩⟩) (hS57.front 1 rfl) (fun H60o3 hS60o3 hxx => ?_)
        replace hS60o3 : St H0 NoB (fun b => S b ∧ b < H0.size) [blkE g1 (.cells #[I ((textFault ((nth l 0).Signs) t).1), I ((textFault ((nth l 0).Signs) t).2)] 24), blkE g52 (.cells #[I ((textFault ((nth l 0).Signs) t).1), I ((textFault ((nth l 0).Signs) t).2)] 24), rdE vl (l : List Auto), rdE vt (t : List Int)] H60o3 := hS60o3
        refine ⟨Ext.mono hxx (labS_of 0 rfl (fun _ _ => trivial)), ?_⟩
        refine wpR_end (by kernel_rfl) ?_
        exact ⟨rfl, rfl, a58_6, hS60o3⟩
      rintro f61 H61 ⟨a61_4, a61_5, a61_6, hS61⟩
      clear a58_0 a58_1 a58_10 a58_57 a58_6
      refine wpF_ret ?_
      refine ⟨_, resT a61_4 (resT a61_5 (resC a61_6 (loadV_blkA Try.isAgg24 Try.sizeOf24 rfl (hS61.blk 0 rfl)) (resN))), hS61.frame, ?_⟩
      show ∃ rx_, (Value.tuple #[(Value.slice none 0 0), B (false), Value.agg #[I ((textFault ((nth l 0).Signs) t).1), I ((textFault ((nth l 0).Signs) t).2)]]) = Value.tuple #[rx_, B (cutOk l t), Value.agg #[I (cutFault l t).1, I (cutFault l t).2]] ∧ Rd (fun b => S b ∧ b < H0.size) H61 rx_ (cutList l t)
      have hF := cutFault_text (t := t) h1 hpp
      have hb := cut_bad (l := l) (t := t) (by rw [hF]; exact h4)
      exact ⟨_, by rw [hb.1, hF], by rw [hb.2]; exact rdNil⟩
    have htx := textFault_code (Decidable.of_not_not h4)
    refine wpF_skip ?_
    refine wpF_seq ?_
    refine wpF_cut (fun f H => ∃ (r62 : Nat), ∃ (g65 : Nat), f 6 = PT g1 0 ∧ f 11 = PT g65 0 ∧ St H0 NoB (fun b => S b ∧ b < H0.size) [blkE g65 (.cells #[vl, vt, (Value.map (some r62))] 78), mapE r62 ([] : List ((Int × Int) × Bool)), blkE g52 (.cells #[I ((textFault ((nth l 0).Signs) t).1), I ((textFault ((nth l 0).Signs) t).2)] 24), blkE g1 (.cells #[I (0), I (0)] 24), rdE vl (l : List Auto), rdE vt (t : List Int)] H) ?_ ?_
    · refine wpF_region ?_
      refine wpL_q (U := NoB) rfl (q_move (v := vl) rfl a58_0) ?_
      refine wpL_q (U := NoB) rfl (q_move (v := vt) rfl a58_1) ?_
      refine wpL_o rfl ?_
      refine e_makeMap (κ := Int × Int) (β := Bool) rfl hS57 (fun r62 H63 hS64 hxx => ?_)
      replace hS64 : St H0 NoB (fun b => S b ∧ b < H0.size) [mapE r62 ([] : List ((Int × Int) × Bool)), blkE g52 (.cells #[I ((textFault ((nth l 0).Signs) t).1), I ((textFault ((nth l 0).Signs) t).2)] 24), blkE g1 (.cells #[I (0), I (0)] 24), rdE vl (l : List Auto), rdE vt (t : List Int)] H63 := hS64
      refine wpL_q (U := NoB) rfl (q_build (v := Value.agg #[vl, vt, (Value.map (some r62))]) rfl (par3 (v0 := vl) (v1 := vt) (v2 := (Value.map (some r62))) rfl rfl rfl) ((hS64.rdl 3 rfl).slc (fun zz0 => ∀ w, (Instr.build 78 #[(0, zz0), (1, vt), (2, (Value.map (some r62)))]).run Try.prog w = .ok (Value.agg #[zz0, vt, (Value.map (some r62))]) w) (fun a0 n0 c0 => ((hS64.rdl 4 rfl).slc (fun zz1 => ∀ w, (Instr.build 78 #[(0, (.slice a0 n0 c0)), (1, zz1), (2, (Value.map (some r62)))]).run Try.prog w = .ok (Value.agg #[(.slice a0 n0 c0), zz1, (Value.map (some r62))]) w) (fun a1 n1 c1 => (fun w => by kernel_rfl)))))) ?_
      refine wpL_o rfl ?_
      refine e_box (v := Value.agg #[vl, vt, (Value.map (some r62))]) rfl rfl hS64 (fun g65 H66 hS67 hxx => ?_)
      replace hS67 : St H0 NoB (fun b => S b ∧ b < H0.size) [blkE g65 (.cells #[vl, vt, (Value.map (some r62))] 78), mapE r62 ([] : List ((Int × Int) × Bool)), blkE g52 (.cells #[I ((textFault ((nth l 0).Signs) t).1), I ((textFault ((nth l 0).Signs) t).2)] 24), blkE g1 (.cells #[I (0), I (0)] 24), rdE vl (l : List Auto), rdE vt (t : List Int)] H66 := hS67
      refine wpL_q (U := NoB) rfl (q_assign (v := PT g65 0) rfl rfl) ?_
      exact ⟨r62, g65, a58_6, rfl, hS67⟩
    rintro f68 H68 ⟨r62, g65, a68_6, a68_11, hS68⟩
    clear a58_0 a58_1 a58_10 a58_57 a58_6
    refine wpF_seq ?_
    refine wpF_cut (fun f H => ∃ (m70 : List ((Int × Int) × Bool)), ∃ (r71 : Value), ∃ (y72 : List Int), (∀ s, cutG (l.drop (0 : Int).toNat) (t.drop (0 : Int).toNat) = some s → y72 = s) ∧ (cutG (l.drop (0 : Int).toNat) (t.drop (0 : Int).toNat) = none → y72 = []) ∧ (NoInv l t (mget m70)) ∧ f 6 = PT g1 0 ∧ f 12 = r71 ∧ f 13 = B ((cutG (l.drop (0 : Int).toNat) (t.drop (0 : Int).toNat)).isSome) ∧ St H0 NoB (fun b => S b ∧ b < H0.size) [rdE r71 (y72 : List Int), mapE r62 (m70 : List ((Int × Int) × Bool)), blkE g65 (.cells #[vl, vt, (Value.map (some r62))] 78), blkE g52 (.cells #[I ((textFault ((nth l 0).Signs) t).1), I ((textFault ((nth l 0).Signs) t).2)] 24), blkE g1 (.cells #[I (0), I (0)] 24), rdE vl (l : List Auto), rdE vt (t : List Int)] H) ?_ ?_
    · refine wpF_region ?_
      refine wpL_q (U := NoB) rfl (q_move (v := PT g65 0) rfl a68_11) ?_
      have hS69 : St H0 NoB (fun b => S b ∧ b < H0.size) [mapE r62 ([] : List ((Int × Int) × Bool)), blkE g65 (.cells #[vl, vt, (Value.map (some r62))] 78), blkE g52 (.cells #[I ((textFault ((nth l 0).Signs) t).1), I ((textFault ((nth l 0).Signs) t).2)] 24), blkE g1 (.cells #[I (0), I (0)] 24), rdE vl (l : List Auto), rdE vt (t : List Int)] H68 := (St.drop (show St H0 NoB (fun b => S b ∧ b < H0.size) [mapE r62 ([] : List ((Int × Int) × Bool)), blkE g65 (.cells #[vl, vt, (Value.map (some r62))] 78), blkE g52 (.cells #[I ((textFault ((nth l 0).Signs) t).1), I ((textFault ((nth l 0).Signs) t).2)] 24), blkE g1 (.cells #[I (0), I (0)] 24), rdE vl (l : List Auto), rdE vt (t : List Int)] H68 from ((((((hS68.front 5 rfl).front 5 rfl).front 5 rfl).front 5 rfl).front 4 rfl).front 5 rfl)) (List.Sublist.cons_cons _ (List.Sublist.cons_cons _ (List.Sublist.cons_cons _ (List.Sublist.cons_cons _ (List.Sublist.cons_cons _ (List.Sublist.cons_cons _ (List.Sublist.slnil))))))))
      have hrg : r62 ≠ g65 := fun e => hS69.dis 0 1 (by decide) rfl rfl _ rfl e
      refine wpL_o rfl ?_
      refine e_call rfl Try.call55 (arr3 (v0 := PT g65 0) (v1 := I (0)) (v2 := I (0)) rfl rfl rfl) (cut_F _ g65 r62 vl vt l t (0 : Int) (0 : Int) ([]) ((nth l 0).Signs) _ (fun e he => hS69.ok e (List.mem_append_left [blkE g52 (.cells #[I ((textFault ((nth l 0).Signs) t).1), I ((textFault ((nth l 0).Signs) t).2)] 24), blkE g1 (.cells #[I (0), I (0)] 24), rdE vl (l : List Auto), rdE vt (t : List Int)] he)) (fun b hb => SL.lt hS69 hb) (fun b ⟨e, he, hb⟩ => .inr ⟨e, List.mem_append_left [blkE g52 (.cells #[I ((textFault ((nth l 0).Signs) t).1), I ((textFault ((nth l 0).Signs) t).2)] 24), blkE g1 (.cells #[I (0), I (0)] 24), rdE vl (l : List Auto), rdE vt (t : List Int)] he, hb⟩) hrg (hS69.rdS 4 rfl) (hS69.rdS 5 rfl) (fun j hj => (partFault_none (hpp j hj)).1) (fun j hj => (partFault_none (hpp j hj)).2) htx.2.2 htx.2.1 (by omega) ⟨by omega, by omega⟩ ⟨by omega, by omega⟩ NoInv.nil rfl) ?_
      rintro _ H73 ⟨hxx, r71, y72, m70, rfl, hym70, hzm70, hnim70, hok⟩
      have hS74 : St H0 NoB (fun b => S b ∧ b < H0.size) [rdE r71 (y72 : List Int), mapE r62 (m70 : List ((Int × Int) × Bool)), blkE g65 (.cells #[vl, vt, (Value.map (some r62))] 78), blkE g52 (.cells #[I ((textFault ((nth l 0).Signs) t).1), I ((textFault ((nth l 0).Signs) t).2)] 24), blkE g1 (.cells #[I (0), I (0)] 24), rdE vl (l : List Auto), rdE vt (t : List Int)] H73 := St.back (A := [mapE r62 ([] : List ((Int × Int) × Bool)), blkE g65 (.cells #[vl, vt, (Value.map (some r62))] 78)]) (A' := [rdE r71 (y72 : List Int), mapE r62 (m70 : List ((Int × Int) × Bool)), blkE g65 (.cells #[vl, vt, (Value.map (some r62))] 78)]) (L := [blkE g52 (.cells #[I ((textFault ((nth l 0).Signs) t).1), I ((textFault ((nth l 0).Signs) t).2)] 24), blkE g1 (.cells #[I (0), I (0)] 24), rdE vl (l : List Auto), rdE vt (t : List Int)]) hS69 hxx hok (by intro b hb; left; simpa [own_cons, own_nil, mapE, blkE, rdE] using hb) ((List.pairwise_cons.2 ⟨fun _ _ _ h => h.elim, pw2 (fun b h1 h2 => hrg (h1.symm.trans h2))⟩))
      refine wpL_q (U := NoB) rfl (q_move (v := Value.tuple #[r71, B ((cutG (l.drop (0 : Int).toNat) (t.drop (0 : Int).toNat)).isSome)]) rfl rfl) ?_
      refine wpL_q (U := NoB) rfl (q_extract (vs := #[r71, B ((cutG (l.drop (0 : Int).toNat) (t.drop (0 : Int).toNat)).isSome)]) (v := r71) rfl rfl rfl) ?_
      refine wpL_q (U := NoB) rfl (q_extract (vs := #[r71, B ((cutG (l.drop (0 : Int).toNat) (t.drop (0 : Int).toNat)).isSome)]) (v := B ((cutG (l.drop (0 : Int).toNat) (t.drop (0 : Int).toNat)).isSome)) rfl rfl rfl) ?_
      refine wpL_q (U := NoB) rfl (q_assign (v := r71) rfl rfl) ?_
      refine wpL_q (U := NoB) rfl (q_assign (v := B ((cutG (l.drop (0 : Int).toNat) (t.drop (0 : Int).toNat)).isSome)) rfl rfl) ?_
      exact ⟨m70, r71, y72, hym70, hzm70, hnim70, a68_6, rfl, rfl, hS74⟩
    rintro f76 H76 ⟨m70, r71, y72, hym70, hzm70, hnim70, a76_6, a76_12, a76_13, hS76⟩
    clear a68_11 a68_6
    refine wpF_seq ?_
    refine wpF_cut (fun f H => f 4 = r71 ∧ f 5 = B ((cutG (l.drop (0 : Int).toNat) (t.drop (0 : Int).toNat)).isSome) ∧ f 6 = PT g1 0 ∧ St H0 NoB (fun b => S b ∧ b < H0.size) [blkE g1 (.cells #[I (0), I (0)] 24), rdE r71 (y72 : List Int), mapE r62 (m70 : List ((Int × Int) × Bool)), blkE g65 (.cells #[vl, vt, (Value.map (some r62))] 78), blkE g52 (.cells #[I ((textFault ((nth l 0).Signs) t).1), I ((textFault ((nth l 0).Signs) t).2)] 24), rdE vl (l : List Auto), rdE vt (t : List Int)] H) ?_ ?_
    · refine wpF_region ?_
      refine wpL_q (U := NoB) rfl (q_move (v := r71) rfl a76_12) ?_
      refine wpL_q (U := NoB) rfl (q_move (v := B ((cutG (l.drop (0 : Int).toNat) (t.drop (0 : Int).toNat)).isSome)) rfl a76_13) ?_
      refine wpL_q (U := NoB) rfl (q_build (v := Value.agg #[I (0), I (0)]) rfl par0 (fun w => by kernel_rfl)) ?_
      refine wpL_q (U := NoB) rfl (q_assign (v := r71) rfl rfl) ?_
      refine wpL_q (U := NoB) rfl (q_assign (v := B ((cutG (l.drop (0 : Int).toNat) (t.drop (0 : Int).toNat)).isSome)) rfl rfl) ?_
      refine wpL_o rfl ?_
      refine e_storeBlkA (cs' := #[I (0), I (0)]) rfl a76_6 rfl Try.sizeOf24 rfl rfl (List.forall_mem_cons.2 ⟨rfl, List.forall_mem_cons.2 ⟨rfl, List.forall_mem_nil _⟩⟩) (hS76.front 4 rfl) (fun H77 hS78 hxx => ?_)
      replace hS78 : St H0 NoB (fun b => S b ∧ b < H0.size) [blkE g1 (.cells #[I (0), I (0)] 24), rdE r71 (y72 : List Int), mapE r62 (m70 : List ((Int × Int) × Bool)), blkE g65 (.cells #[vl, vt, (Value.map (some r62))] 78), blkE g52 (.cells #[I ((textFault ((nth l 0).Signs) t).1), I ((textFault ((nth l 0).Signs) t).2)] 24), rdE vl (l : List Auto), rdE vt (t : List Int)] H77 := hS78
      exact ⟨rfl, rfl, a76_6, hS78⟩
    rintro f79 H79 ⟨a79_4, a79_5, a79_6, hS79⟩
    clear a76_12 a76_13 a76_6
    refine wpF_ret ?_
    refine ⟨_, resT a79_4 (resT a79_5 (resC a79_6 (loadV_blkA Try.isAgg24 Try.sizeOf24 rfl (hS79.blk 0 rfl)) (resN))), hS79.frame, ?_⟩
    show ∃ rx_, (Value.tuple #[r71, B ((cutG (l.drop (0 : Int).toNat) (t.drop (0 : Int).toNat)).isSome), Value.agg #[I (0), I (0)]]) = Value.tuple #[rx_, B (cutOk l t), Value.agg #[I (cutFault l t).1, I (cutFault l t).2]] ∧ Rd (fun b => S b ∧ b < H0.size) H79 rx_ (cutList l t)
    have hF : (cutFault l t).1 = 0 := by rw [cutFault_text h1 hpp]; exact Decidable.of_not_not h4
    have hF2 : cutFault l t = (0, 0) := by rw [cutFault_text h1 hpp]; exact (textFault_code (Decidable.of_not_not h4)).1
    have hL := cutList_of hF hym70 hzm70
    exact ⟨_, by rw [(cut_good hF).1, hF2]; rfl, by rw [← hL]; exact (hS79.result (hS79.rdS 1 rfl))⟩
  refine wpF_skip ?_
  refine wpF_seq ?_
  refine wpF_block ?_
  refine wpF_seq ?_
  refine wpF_cut (fun f H => ∃ (u17n1 : Value), ∃ (u17n2 : Value), ∃ (g20 : Nat), (In64 (nth l k).Signs) ∧ f 0 = vl ∧ f 1 = vt ∧ f 6 = PT g1 0 ∧ f 7 = I ((k : Int)) ∧ f 8 = PT g20 0 ∧ f 23 = vl ∧ f 24 = I ((l.length : Int)) ∧ f 25 = I ((k : Int)) ∧ St H0 NoB (fun b => S b ∧ b < H0.size) [blkE g20 (.cells #[I ((nth l k).Signs), u17n1, u17n2] 36), rdE u17n2 ((nth l k).Takes : List Bool), rdE u17n1 ((nth l k).Next : List (List Int)), blkE g1 (.cells #[I (0), I (0)] 24), rdE vl (l : List Auto), rdE vt (t : List Int)] H) ?_ ?_
  · refine wpF_region ?_
    refine wpL_q (U := NoB) rfl (q_move (v := I ((k : Int))) rfl a15_25) ?_
    refine wpL_q (U := NoB) rfl (q_indexRd (k := k) rfl Try.underlying48 el_Auto_36 a15_23 a15_25 (hS14.rdl 1 rfl) (by omega) (by omega)) ?_
    obtain ⟨u17, huu17, hlu17⟩ := (Rd.list.1 (hS14.rdS 1 rfl)).elem k (by omega)
    obtain ⟨u17n1, u17n2, rfl, hu170, hu171, hu172⟩ := Rd.auto.1 huu17
    have hS18 : St H0 NoB (fun b => S b ∧ b < H0.size) [rdE u17n1 ((nth l k).Next : List (List Int)), blkE g1 (.cells #[I (0), I (0)] 24), rdE vl (l : List Auto), rdE vt (t : List Int)] H14 := hS14.rd hu171
    have hS19 : St H0 NoB (fun b => S b ∧ b < H0.size) [rdE u17n2 ((nth l k).Takes : List Bool), rdE u17n1 ((nth l k).Next : List (List Int)), blkE g1 (.cells #[I (0), I (0)] 24), rdE vl (l : List Auto), rdE vt (t : List Int)] H14 := hS18.rd (hu172.sub fun _ hb => SL_rd hb)
    refine wpL_q (U := NoB) rfl (q_loadE rfl rfl (hlu17 Try.prog 36 _ el_Auto_36 (fun _ h => False.elim h))) ?_
    refine wpL_o rfl ?_
    refine e_alloc rfl Try.zeroValue36 hS19 (fun g20 H21 hS22 hxx => ?_)
    replace hS22 : St H0 NoB (fun b => S b ∧ b < H0.size) [blkE g20 (.cells #[I (0), (Value.slice none 0 0), (Value.slice none 0 0)] 36), rdE u17n2 ((nth l k).Takes : List Bool), rdE u17n1 ((nth l k).Next : List (List Int)), blkE g1 (.cells #[I (0), I (0)] 24), rdE vl (l : List Auto), rdE vt (t : List Int)] H21 := hS22
    refine wpL_q (U := NoB) rfl (q_assign (v := I ((k : Int))) rfl rfl) ?_
    refine wpL_o rfl ?_
    refine e_storeBlkA (cs' := #[I ((nth l k).Signs), u17n1, u17n2]) rfl rfl rfl Try.sizeOf36 rfl rfl (List.forall_mem_cons.2 ⟨rfl, List.forall_mem_cons.2 ⟨(oneCell_rdL (hS22.rdl 2 rfl)), List.forall_mem_cons.2 ⟨(oneCell_rdL (hS22.rdl 1 rfl)), List.forall_mem_nil _⟩⟩⟩) hS22 (fun H23 hS24 hxx => ?_)
    replace hS24 : St H0 NoB (fun b => S b ∧ b < H0.size) [blkE g20 (.cells #[I ((nth l k).Signs), u17n1, u17n2] 36), rdE u17n2 ((nth l k).Takes : List Bool), rdE u17n1 ((nth l k).Next : List (List Int)), blkE g1 (.cells #[I (0), I (0)] 24), rdE vl (l : List Auto), rdE vt (t : List Int)] H23 := hS24
    exact ⟨u17n1, u17n2, g20, hu170, a15_0, a15_1, a15_6, rfl, rfl, a15_23, a15_24, a15_25, hS24⟩
  rintro f25 H25 ⟨u17n1, u17n2, g20, hu170, a25_0, a25_1, a25_6, a25_7, a25_8, a25_23, a25_24, a25_25, hS25⟩
  clear a15_0 a15_1 a15_23 a15_24 a15_25 a15_26 a15_6
  refine wpF_seq ?_
  refine wpF_seq ?_
  refine wpF_cut (fun f H => ∃ (g29 : Nat), f 0 = vl ∧ f 1 = vt ∧ f 6 = PT g1 0 ∧ f 7 = I ((k : Int)) ∧ f 8 = PT g20 0 ∧ f 9 = PT g29 0 ∧ f 23 = vl ∧ f 24 = I ((l.length : Int)) ∧ f 25 = I ((k : Int)) ∧ St H0 NoB (fun b => S b ∧ b < H0.size) [blkE g29 (.cells #[I ((autoFault (nth l k)).1), I ((autoFault (nth l k)).2)] 24), blkE g20 (.cells #[I ((nth l k).Signs), u17n1, u17n2] 36), rdE u17n2 ((nth l k).Takes : List Bool), rdE u17n1 ((nth l k).Next : List (List Int)), blkE g1 (.cells #[I (0), I (0)] 24), rdE vl (l : List Auto), rdE vt (t : List Int)] H) ?_ ?_
  · refine wpF_region ?_
    refine wpL_q (U := NoB) rfl (q_loadBlkA rfl a25_8 Try.isAgg36 Try.sizeOf36 rfl (hS25.blk 0 rfl) (fun h => h)) ?_
    refine wpL_o rfl ?_
    refine e_call rfl Try.call21 (arr1 (v0 := Value.agg #[I ((nth l k).Signs), u17n1, u17n2]) rfl) (Check u17n1 u17n2 (nth l k) (hS25.rdN 2 rfl) (hS25.rdN 1 rfl) (by assumption)) ?_
    rintro _ H26 ⟨hxx, rfl⟩
    have hS27 : St H0 NoB (fun b => S b ∧ b < H0.size) [blkE g20 (.cells #[I ((nth l k).Signs), u17n1, u17n2] 36), rdE u17n2 ((nth l k).Takes : List Bool), rdE u17n1 ((nth l k).Next : List (List Int)), blkE g1 (.cells #[I (0), I (0)] 24), rdE vl (l : List Auto), rdE vt (t : List Int)] H26 := hS25.ext hxx
    refine wpL_o rfl ?_
    refine e_alloc rfl Try.zeroValue24 hS27 (fun g29 H30 hS31 hxx => ?_)
    replace hS31 : St H0 NoB (fun b => S b ∧ b < H0.size) [blkE g29 (.cells #[I (0), I (0)] 24), blkE g20 (.cells #[I ((nth l k).Signs), u17n1, u17n2] 36), rdE u17n2 ((nth l k).Takes : List Bool), rdE u17n1 ((nth l k).Next : List (List Int)), blkE g1 (.cells #[I (0), I (0)] 24), rdE vl (l : List Auto), rdE vt (t : List Int)] H30 := hS31
    refine wpL_o rfl ?_
    refine e_storeBlkA (cs' := #[I ((autoFault (nth l k)).1), I ((autoFault (nth l k)).2)]) rfl rfl rfl Try.sizeOf24 rfl rfl (List.forall_mem_cons.2 ⟨rfl, List.forall_mem_cons.2 ⟨rfl, List.forall_mem_nil _⟩⟩) hS31 (fun H32 hS33 hxx => ?_)
    replace hS33 : St H0 NoB (fun b => S b ∧ b < H0.size) [blkE g29 (.cells #[I ((autoFault (nth l k)).1), I ((autoFault (nth l k)).2)] 24), blkE g20 (.cells #[I ((nth l k).Signs), u17n1, u17n2] 36), rdE u17n2 ((nth l k).Takes : List Bool), rdE u17n1 ((nth l k).Next : List (List Int)), blkE g1 (.cells #[I (0), I (0)] 24), rdE vl (l : List Auto), rdE vt (t : List Int)] H32 := hS33
    exact ⟨g29, a25_0, a25_1, a25_6, a25_7, a25_8, rfl, a25_23, a25_24, a25_25, hS33⟩
  rintro f34 H34 ⟨g29, a34_0, a34_1, a34_6, a34_7, a34_8, a34_9, a34_23, a34_24, a34_25, hS34⟩
  clear a25_0 a25_1 a25_23 a25_24 a25_25 a25_6 a25_7 a25_8
  refine wpF_seq ?_
  refine wpF_cut (fun f H => f 0 = vl ∧ f 1 = vt ∧ f 6 = PT g1 0 ∧ f 7 = I ((k : Int)) ∧ f 8 = PT g20 0 ∧ f 9 = PT g29 0 ∧ f 23 = vl ∧ f 24 = I ((l.length : Int)) ∧ f 25 = I ((k : Int)) ∧ f 34 = B (decide (((autoFault (nth l k)).1) ≠ 0)) ∧ H34 = H) ?_ ?_
  · refine wpF_region ?_
    refine wpL_q (U := NoB) rfl (q_fieldAddr rfl Try.underlying24 rfl Try.sizeOf3 a34_9) ?_
    refine wpL_q (U := NoB) rfl (q_loadBlk rfl rfl Try.isAgg3 (hS34.blk 0 rfl) rfl (fun h => h)) ?_
    refine wpL_q (U := NoB) rfl (q_neq rfl rfl rfl) ?_
    exact ⟨a34_0, a34_1, a34_6, a34_7, a34_8, a34_9, a34_23, a34_24, a34_25, rfl, rfl⟩
  rintro f35 _ ⟨a35_0, a35_1, a35_6, a35_7, a35_8, a35_9, a35_23, a35_24, a35_25, a35_34, rfl⟩
  clear a34_0 a34_1 a34_23 a34_24 a34_25 a34_6 a34_7 a34_8 a34_9
  refine wpF_condP a35_34 (fun h2 => ?t47) (fun h2 => ?e47)
  case t47 =>
    refine wpF_seq ?_
    refine wpF_cut (fun f H => f 4 = (Value.slice none 0 0) ∧ f 5 = B (false) ∧ f 6 = PT g1 0 ∧ St H0 NoB (fun b => S b ∧ b < H0.size) [blkE g1 (.cells #[I ((autoFault (nth l k)).1), I ((k : Int))] 24), blkE g29 (.cells #[I ((autoFault (nth l k)).1), I ((autoFault (nth l k)).2)] 24), blkE g20 (.cells #[I ((nth l k).Signs), u17n1, u17n2] 36), rdE u17n2 ((nth l k).Takes : List Bool), rdE u17n1 ((nth l k).Next : List (List Int)), rdE vl (l : List Auto), rdE vt (t : List Int)] H) ?_ ?_
    · refine wpF_drawn [none, none, none, none, none, none, some 0] [[], [], [], [], [], [], []] (fun l b => match l with | 0 => True | _ => False) (by kernel_rfl) (by kernel_rfl) ?_
      refine wpR_q 0 (by kernel_rfl) rfl (quietAt rfl rfl (q_fieldAddr rfl Try.underlying24 rfl Try.sizeOf3 a35_9)) ?_
      refine wpR_q 1 (by kernel_rfl) rfl (quietAt rfl rfl (q_loadBlk rfl rfl Try.isAgg3 (hS34.blk 0 rfl) rfl (labU_not [] rfl (List.forall_mem_nil _)))) ?_
      refine wpR_q 2 (by kernel_rfl) rfl (quietAt rfl rfl (q_move (v := I ((k : Int))) rfl a35_7)) ?_
      refine wpR_q 3 (by kernel_rfl) rfl (quietAt rfl rfl (q_build (v := Value.agg #[I ((autoFault (nth l k)).1), I ((k : Int))]) rfl (par2 (v0 := I ((autoFault (nth l k)).1)) (v1 := I ((k : Int))) rfl rfl) (fun w => by kernel_rfl))) ?_
      refine wpR_q 4 (by kernel_rfl) rfl (quietAt rfl rfl (q_assign (v := (Value.slice none 0 0)) rfl rfl)) ?_
      refine wpR_q 5 (by kernel_rfl) rfl (quietAt rfl rfl (q_assign (v := B (false)) rfl rfl)) ?_
      refine wpR_n [6] (by kernel_rfl) ?_
      refine List.forall_mem_cons.2 ⟨?_, List.forall_mem_nil _⟩
      refine exE rfl rfl ?_
      refine e_storeBlkA (cs' := #[I ((autoFault (nth l k)).1), I ((k : Int))]) rfl a35_6 rfl Try.sizeOf24 rfl rfl (List.forall_mem_cons.2 ⟨rfl, List.forall_mem_cons.2 ⟨rfl, List.forall_mem_nil _⟩⟩) (hS34.front 4 rfl) (fun H37o6 hS37o6 hxx => ?_)
      replace hS37o6 : St H0 NoB (fun b => S b ∧ b < H0.size) [blkE g1 (.cells #[I ((autoFault (nth l k)).1), I ((k : Int))] 24), blkE g29 (.cells #[I ((autoFault (nth l k)).1), I ((autoFault (nth l k)).2)] 24), blkE g20 (.cells #[I ((nth l k).Signs), u17n1, u17n2] 36), rdE u17n2 ((nth l k).Takes : List Bool), rdE u17n1 ((nth l k).Next : List (List Int)), rdE vl (l : List Auto), rdE vt (t : List Int)] H37o6 := hS37o6
      refine ⟨Ext.mono hxx (labS_of 0 rfl (fun _ _ => trivial)), ?_⟩
      refine wpR_end (by kernel_rfl) ?_
      exact ⟨rfl, rfl, a35_6, hS37o6⟩
    rintro f38 H38 ⟨a38_4, a38_5, a38_6, hS38⟩
    clear a35_0 a35_1 a35_23 a35_24 a35_25 a35_34 a35_6 a35_7 a35_8 a35_9
    refine wpF_ret ?_
    refine ⟨_, resT a38_4 (resT a38_5 (resC a38_6 (loadV_blkA Try.isAgg24 Try.sizeOf24 rfl (hS38.blk 0 rfl)) (resN))), hS38.frame, ?_⟩
    show ∃ rx_, (Value.tuple #[(Value.slice none 0 0), B (false), Value.agg #[I ((autoFault (nth l k)).1), I ((k : Int))]]) = Value.tuple #[rx_, B (cutOk l t), Value.agg #[I (cutFault l t).1, I (cutFault l t).2]] ∧ Rd (fun b => S b ∧ b < H0.size) H38 rx_ (cutList l t)
    have hF := cutFault_part (t := t) h1 (by omega) hp (partFault_check h2)
    have hb := cut_bad (l := l) (t := t) (by rw [hF]; exact h2)
    exact ⟨_, by rw [hb.1, hF], by rw [hb.2]; exact rdNil⟩
  refine wpF_skip ?_
  refine wpF_seq ?_
  refine wpF_cut (fun f H => (In64 (nth l 0).Signs) ∧ f 0 = vl ∧ f 1 = vt ∧ f 6 = PT g1 0 ∧ f 7 = I ((k : Int)) ∧ f 23 = vl ∧ f 24 = I ((l.length : Int)) ∧ f 25 = I ((k : Int)) ∧ f 45 = B (decide (((nth l k).Signs) ≠ ((nth l 0).Signs))) ∧ H34 = H) ?_ ?_
  · refine wpF_drawn [] [] (fun _ _ => False) (by kernel_rfl) (by kernel_rfl) ?_
    refine wpR_q 0 (by kernel_rfl) rfl (quietAt rfl rfl (q_fieldAddr rfl Try.underlying36 rfl Try.sizeOf3 a35_8)) ?_
    refine wpR_q 1 (by kernel_rfl) rfl (quietAt rfl rfl (q_loadBlk rfl rfl Try.isAgg3 (hS34.blk 1 rfl) rfl (labU_not [] rfl (List.forall_mem_nil _)))) ?_
    refine wpR_q 2 (by kernel_rfl) rfl (quietAt rfl rfl (q_move (v := vl) rfl a35_0)) ?_
    refine wpR_q 3 (by kernel_rfl) rfl (quietAt rfl rfl (q_indexRd (k := 0) rfl Try.underlying48 el_Auto_36 rfl rfl (hS34.rdl 5 rfl) (by omega) (by omega))) ?_
    refine wpR_q 4 (by kernel_rfl) rfl (quietAt rfl rfl (q_fieldE (k := 0) rfl Try.underlying36 rfl Try.sizeOf3 rfl rfl (hS34.rdl 5 rfl) (by omega))) ?_
    obtain ⟨_, hcu39o5, hFu39o5⟩ := (Rd.list.1 (hS34.rdS 5 rfl)).cellF 0 (by omega)
    obtain ⟨u39o5n1, u39o5n2, rfl, hu39o50, hu39o51, hu39o52⟩ := hcu39o5
    refine wpR_q 5 (by kernel_rfl) rfl (quietAt rfl rfl (q_loadF rfl rfl (hFu39o5 0 _ Try.prog 3 _ rfl Try.isAgg3 (labU_sub [] rfl (List.forall_mem_nil _))))) ?_
    refine wpR_q 6 (by kernel_rfl) rfl (quietAt rfl rfl (q_neq rfl rfl rfl)) ?_
    refine wpR_end (by kernel_rfl) ?_
    exact ⟨hu39o50, a35_0, a35_1, a35_6, a35_7, a35_23, a35_24, a35_25, rfl, rfl⟩
  rintro f40 _ ⟨hu39o50, a40_0, a40_1, a40_6, a40_7, a40_23, a40_24, a40_25, a40_45, rfl⟩
  clear a35_0 a35_1 a35_23 a35_24 a35_25 a35_34 a35_6 a35_7 a35_8 a35_9
  refine wpF_condP a40_45 (fun h3 => ?t46) (fun h3 => ?e46)
  case e46 =>
    refine wpF_skip ?_
    refine wpF_cut (fun f H => f 0 = vl ∧ f 1 = vt ∧ f 6 = PT g1 0 ∧ f 23 = vl ∧ f 24 = I ((l.length : Int)) ∧ f 25 = I ((k : Int) + 1) ∧ H34 = H) ?_ ?_
    · refine wpF_region ?_
      refine wpL_q (U := NoB) rfl (q_add rfl a40_25 rfl (by constructor <;> omega)) ?_
      refine wpL_q (U := NoB) rfl (q_move (v := I ((k : Int) + 1)) rfl rfl) ?_
      exact ⟨a40_0, a40_1, a40_6, a40_23, a40_24, rfl, rfl⟩
    rintro f45 _ ⟨a45_0, a45_1, a45_6, a45_23, a45_24, a45_25, rfl⟩
    clear a40_0 a40_1 a40_23 a40_24 a40_25 a40_45 a40_6 a40_7
    refine ⟨_, ?_, k + 1, rfl, (by omega), (all_succ hp (partFault_no h2 h3)), a45_0, a45_1, a45_6, a45_23, a45_24, (Eq.trans a45_25 (congrArg I (by omega))), (hS34.drop (List.Sublist.cons _ (List.Sublist.cons _ (List.Sublist.cons _ (List.Sublist.cons _ (List.Sublist.cons_cons _ (List.Sublist.cons_cons _ (List.Sublist.cons_cons _ (List.Sublist.slnil)))))))))⟩
    omega
  refine wpF_seq ?_
  refine wpF_cut (fun f H => f 4 = (Value.slice none 0 0) ∧ f 5 = B (false) ∧ f 6 = PT g1 0 ∧ St H0 NoB (fun b => S b ∧ b < H0.size) [blkE g1 (.cells #[I (11), I ((k : Int))] 24), blkE g29 (.cells #[I ((autoFault (nth l k)).1), I ((autoFault (nth l k)).2)] 24), blkE g20 (.cells #[I ((nth l k).Signs), u17n1, u17n2] 36), rdE u17n2 ((nth l k).Takes : List Bool), rdE u17n1 ((nth l k).Next : List (List Int)), rdE vl (l : List Auto), rdE vt (t : List Int)] H) ?_ ?_
  · refine wpF_region ?_
    refine wpL_q (U := NoB) rfl (q_move (v := I ((k : Int))) rfl a40_7) ?_
    refine wpL_q (U := NoB) rfl (q_build (v := Value.agg #[I (11), I ((k : Int))]) rfl (par2 (v0 := I (11)) (v1 := I ((k : Int))) rfl rfl) (fun w => by kernel_rfl)) ?_
    refine wpL_q (U := NoB) rfl (q_assign (v := (Value.slice none 0 0)) rfl rfl) ?_
    refine wpL_q (U := NoB) rfl (q_assign (v := B (false)) rfl rfl) ?_
    refine wpL_o rfl ?_
    refine e_storeBlkA (cs' := #[I (11), I ((k : Int))]) rfl a40_6 rfl Try.sizeOf24 rfl rfl (List.forall_mem_cons.2 ⟨rfl, List.forall_mem_cons.2 ⟨rfl, List.forall_mem_nil _⟩⟩) (hS34.front 4 rfl) (fun H42 hS43 hxx => ?_)
    replace hS43 : St H0 NoB (fun b => S b ∧ b < H0.size) [blkE g1 (.cells #[I (11), I ((k : Int))] 24), blkE g29 (.cells #[I ((autoFault (nth l k)).1), I ((autoFault (nth l k)).2)] 24), blkE g20 (.cells #[I ((nth l k).Signs), u17n1, u17n2] 36), rdE u17n2 ((nth l k).Takes : List Bool), rdE u17n1 ((nth l k).Next : List (List Int)), rdE vl (l : List Auto), rdE vt (t : List Int)] H42 := hS43
    exact ⟨rfl, rfl, a40_6, hS43⟩
  rintro f44 H44 ⟨a44_4, a44_5, a44_6, hS44⟩
  clear a40_0 a40_1 a40_23 a40_24 a40_25 a40_45 a40_6 a40_7
  refine wpF_ret ?_
  refine ⟨_, resT a44_4 (resT a44_5 (resC a44_6 (loadV_blkA Try.isAgg24 Try.sizeOf24 rfl (hS44.blk 0 rfl)) (resN))), hS44.frame, ?_⟩
  show ∃ rx_, (Value.tuple #[(Value.slice none 0 0), B (false), Value.agg #[I (11), I ((k : Int))]]) = Value.tuple #[rx_, B (cutOk l t), Value.agg #[I (cutFault l t).1, I (cutFault l t).2]] ∧ Rd (fun b => S b ∧ b < H0.size) H44 rx_ (cutList l t)
  have hF := cutFault_part (t := t) h1 (by omega) hp (partFault_signs h2 h3)
  have hb := cut_bad (l := l) (t := t) (by rw [hF]; simp)
  exact ⟨_, by rw [hb.1, hF], by rw [hb.2]; exact rdNil⟩

set_option maxRecDepth 100000 in
theorem Cut_R : ∀ (nn : Nat) {H0 : Heap} {S : Nat → Prop} (vl vt : Value) (l : List Auto) (t : List Int) (sg : Int) (_rl : Rd S H0 vl l) (_rt : Rd S H0 vt t) (_hwf : ∀ j, j < l.length → WF (nth l j)) (_hsgs : ∀ j, j < l.length → (nth l j).Signs = sg) (_hv : ∀ c ∈ t, 0 ≤ c ∧ c < sg) (_htl : t.length ≤ 30) (_hll : l.length ≤ 6) (_hlpos : 0 < l.length) (_hn : l.length = nn), CallsH Try.prog 31 #[vl, vt] H0 (fun rv_ H' => Ext NoB H0 H' ∧ ∃ rx_ y_, rv_ = Value.tuple #[rx_, B (cutG l t).isSome] ∧ Rd (fun b => S b ∧ b < H0.size) H' rx_ y_ ∧ ∀ s, cutG l t = some s → y_ = s) := by
  intro nn
  induction nn using Nat.strongRecOn with
  | _ nn ih =>
  intro H0 S vl vt l t sg rl rt hwf hsgs hv htl hll hlpos hnn
  have hw0 := hwf 0 hlpos
  have hs0 := hsgs 0 hlpos
  have hn0 := hw0.many
  have hS0 : St H0 NoB (fun b => S b ∧ b < H0.size) [rdE vl (l : List Auto), rdE vt (t : List Int)] H0 := St.arg (St.arg (St.start (fun _ h => h.2)) (Bl0.nil) rt (fun _ h => h.1)) (Bl0.cons (Bl0.nil)) rl (fun _ h => h.1)
  refine callsH_of_wpF (args := [vl, vt]) (rs := [.tmp 4, .tmp 5]) Try.func31 rfl Try.ntmps31 Try.results31 (by kernel_rfl) (Nat.le_of_ble_eq_true rfl) ?_
  have a0_0 : argF [vl, vt] 0 = vl := rfl
  have a0_1 : argF [vl, vt] 1 = vt := rfl
  generalize argF [vl, vt] = f0 at *
  refine wpF_seq ?_
  refine wpF_cut (fun f H => f 0 = vl ∧ f 1 = vt ∧ H0 = H) ?_ ?_
  · refine wpF_region ?_
    refine wpL_q (U := NoB) rfl (q_assign (v := (Value.slice none 0 0)) rfl rfl) ?_
    refine wpL_q (U := NoB) rfl (q_assign (v := B (false)) rfl rfl) ?_
    exact ⟨a0_0, a0_1, rfl⟩
  rintro f1 _ ⟨a1_0, a1_1, rfl⟩
  clear a0_0 a0_1
  refine wpF_seq ?_
  refine wpF_seq ?_
  refine wpF_cut (fun f H => f 0 = vl ∧ f 1 = vt ∧ f 11 = B (decide ((l.length : Int) = 1)) ∧ H0 = H) ?_ ?_
  · refine wpF_region ?_
    refine wpL_q (U := NoB) rfl (q_move (v := vl) rfl a1_0) ?_
    refine wpL_q (U := NoB) rfl (q_lenRd rfl Try.underlying48 rfl (hS0.rdl 0 rfl)) ?_
    refine wpL_q (U := NoB) rfl (q_eql rfl rfl rfl) ?_
    exact ⟨a1_0, a1_1, rfl, rfl⟩
  rintro f2 _ ⟨a2_0, a2_1, a2_11, rfl⟩
  clear a1_0 a1_1
  refine wpF_condP a2_11 (fun hone => ?t41) (fun hone => ?e41)
  case t41 =>
    refine wpF_seq ?_
    refine wpF_cut (fun f H => ∃ (v4 : Value), (In64 (nth l 0).Signs) ∧ f 4 = v4 ∧ f 5 = B (takesA (nth l 0) 0 t) ∧ St H0 NoB (fun b => S b ∧ b < H0.size) [rowE 3 v4 ([(t.length : Int)] : List Int), rdE vl (l : List Auto), rdE vt (t : List Int)] H) ?_ ?_
    · refine wpF_region ?_
      refine wpL_q (U := NoB) rfl (q_move (v := vt) rfl a2_1) ?_
      refine wpL_q (U := NoB) rfl (q_lenRd rfl Try.underlying22 rfl (hS0.rdl 1 rfl)) ?_
      refine wpL_o rfl ?_
      refine e_buildSlice (vs := [I ((t.length : Int))]) (xs := ([(t.length : Int)] : List Int)) rfl Try.underlying22 Try.zeroValue3 rfl Try.sizeOf3 (par1 (v0 := I ((t.length : Int))) rfl) rfl hS0 (RdVs.cons (Rd.int.2 ⟨rfl, by constructor <;> omega⟩) (RdVs.nil)) (by decide) (by decide) (fun v4 H5 hS6 hxx hvv4 => ?_)
      replace hS6 : St H0 NoB (fun b => S b ∧ b < H0.size) [rowE 3 v4 ([(t.length : Int)] : List Int), rdE vl (l : List Auto), rdE vt (t : List Int)] H5 := hS6
      refine wpL_q (U := NoB) rfl (q_move (v := vl) rfl a2_0) ?_
      refine wpL_q (U := NoB) rfl (q_indexRd (k := 0) rfl Try.underlying48 el_Auto_36 rfl rfl (hS6.rdl 1 rfl) (by omega) (by omega)) ?_
      obtain ⟨u7, huu7, hlu7⟩ := (Rd.list.1 (hS6.rdS 1 rfl)).elem 0 (by omega)
      obtain ⟨u7n1, u7n2, rfl, hu70, hu71, hu72⟩ := Rd.auto.1 huu7
      have hS8 : St H0 NoB (fun b => S b ∧ b < H0.size) [rdE u7n1 ((nth l 0).Next : List (List Int)), rowE 3 v4 ([(t.length : Int)] : List Int), rdE vl (l : List Auto), rdE vt (t : List Int)] H5 := hS6.rd hu71
      have hS9 : St H0 NoB (fun b => S b ∧ b < H0.size) [rdE u7n2 ((nth l 0).Takes : List Bool), rdE u7n1 ((nth l 0).Next : List (List Int)), rowE 3 v4 ([(t.length : Int)] : List Int), rdE vl (l : List Auto), rdE vt (t : List Int)] H5 := hS8.rd (hu72.sub fun _ hb => SL_rd hb)
      refine wpL_q (U := NoB) rfl (q_loadE rfl rfl (hlu7 Try.prog 36 _ el_Auto_36 (fun _ h => False.elim h))) ?_
      refine wpL_q (U := NoB) rfl (q_move (v := vt) rfl a2_1) ?_
      refine wpL_o rfl ?_
      refine e_call rfl Try.call26 (arr3 (v0 := Value.agg #[I ((nth l 0).Signs), u7n1, u7n2]) (v1 := I (0)) (v2 := vt) rfl rfl rfl) (Takes_R _ u7n1 u7n2 vt (nth l 0) 0 t (hS9.rdN 1 rfl) (hS9.rdN 0 rfl) (by assumption) (hS9.rdN 4 rfl) hw0 (by omega) (fun c hc => by rw [hs0]; exact hv c hc) rfl) ?_
      rintro _ H10 ⟨hxx, rfl⟩
      have hS11 : St H0 NoB (fun b => S b ∧ b < H0.size) [rdE u7n2 ((nth l 0).Takes : List Bool), rdE u7n1 ((nth l 0).Next : List (List Int)), rowE 3 v4 ([(t.length : Int)] : List Int), rdE vl (l : List Auto), rdE vt (t : List Int)] H10 := hS9.ext hxx
      refine wpL_q (U := NoB) rfl (q_assign (v := v4) rfl rfl) ?_
      refine wpL_q (U := NoB) rfl (q_assign (v := B (takesA (nth l 0) 0 t)) rfl rfl) ?_
      exact ⟨v4, hu70, rfl, rfl, (hS11.drop (List.Sublist.cons _ (List.Sublist.cons _ (List.Sublist.cons_cons _ (List.Sublist.cons_cons _ (List.Sublist.cons_cons _ (List.Sublist.slnil)))))))⟩
    rintro f13 H13 ⟨v4, hu70, a13_4, a13_5, hS13⟩
    clear a2_0 a2_1 a2_11
    refine wpF_ret ?_
    refine ⟨_, resT a13_4 (resT a13_5 resN), hS13.frame, ?_⟩
    show ∃ rx_ y_, (Value.tuple #[v4, B (takesA (nth l 0) 0 t)]) = Value.tuple #[rx_, B (cutG l t).isSome] ∧ Rd (fun b => S b ∧ b < H0.size) H13 rx_ y_ ∧ ∀ s, cutG l t = some s → y_ = s
    have hS14 : St H0 NoB (fun b => S b ∧ b < H0.size) [rdE v4 ([(t.length : Int)] : List Int), rdE vl (l : List Auto), rdE vt (t : List Int)] H13 := St.fin hS13
    have hF := cutG_single (t := t) (by omega : l.length = 1)
    exact ⟨_, [(t.length : Int)], by rw [hF]; cases takesA (nth l 0) 0 t <;> rfl, (hS14.result (hS14.rdS 0 rfl)), by rw [hF]; intro s hs; split at hs <;> cases hs; rfl⟩
  refine wpF_skip ?_
  refine wpF_seq ?_
  refine wpF_seq ?_
  refine wpF_cut (fun f H => f 0 = vl ∧ f 1 = vt ∧ f 6 = I (0) ∧ H0 = H) ?_ ?_
  · refine wpF_region ?_
    refine wpL_q (U := NoB) rfl (q_assign (v := I (0)) rfl rfl) ?_
    exact ⟨a2_0, a2_1, rfl, rfl⟩
  rintro f15 _ ⟨a15_0, a15_1, a15_6, rfl⟩
  clear a2_0 a2_1 a2_11
  refine wpF_block ?_
  refine wpF_loop (fun mz f H => ∃ (n : Nat), mz = t.length + 1 - n ∧ (n ≤ t.length + 1) ∧ (∀ j, j < n → cutStep (cutG (l.drop 1)) (nth l 0) t j = none) ∧ f 0 = vl ∧ f 1 = vt ∧ f 6 = I ((n : Int)) ∧ St H0 NoB (fun b => S b ∧ b < H0.size) [rdE vl (l : List Auto), rdE vt (t : List Int)] H) (t.length + 1 - 0) ?_ ?_
  · exact ⟨0, rfl, (Nat.zero_le _), (fun j hj => absurd hj (Nat.not_lt_zero j)), a15_0, a15_1, (Eq.trans a15_6 (congrArg I (by omega))), hS0⟩
  intro m16 f16 H16 hI16
  obtain ⟨n, hm16, hn, hloop, a16_0, a16_1, a16_6, hS16⟩ := hI16
  clear a15_0 a15_1 a15_6
  refine wpF_seq ?_
  refine wpF_seq ?_
  refine wpF_cut (fun f H => f 0 = vl ∧ f 1 = vt ∧ f 6 = I ((n : Int)) ∧ f 23 = B (decide ((n : Int) ≤ (t.length : Int))) ∧ H16 = H) ?_ ?_
  · refine wpF_region ?_
    refine wpL_q (U := NoB) rfl (q_move (v := I ((n : Int))) rfl a16_6) ?_
    refine wpL_q (U := NoB) rfl (q_move (v := vt) rfl a16_1) ?_
    refine wpL_q (U := NoB) rfl (q_lenRd rfl Try.underlying22 rfl (hS16.rdl 1 rfl)) ?_
    refine wpL_q (U := NoB) rfl (q_leq rfl rfl rfl) ?_
    exact ⟨a16_0, a16_1, a16_6, rfl, rfl⟩
  rintro f17 _ ⟨a17_0, a17_1, a17_6, a17_23, rfl⟩
  clear a16_0 a16_1 a16_6
  refine wpF_condP a17_23 (fun hlt => ?t40) (fun hlt => ?e40)
  case e40 =>
    refine wpF_exit ?_
    refine atX_here ?_
    refine wpF_seq ?_
    refine wpF_cut (fun f H => f 4 = (Value.slice none 0 0) ∧ f 5 = B (false) ∧ H16 = H) ?_ ?_
    · refine wpF_region ?_
      refine wpL_q (U := NoB) rfl (q_assign (v := (Value.slice none 0 0)) rfl rfl) ?_
      refine wpL_q (U := NoB) rfl (q_assign (v := B (false)) rfl rfl) ?_
      exact ⟨rfl, rfl, rfl⟩
    rintro f39 _ ⟨a39_4, a39_5, rfl⟩
    clear a17_0 a17_1 a17_23 a17_6
    refine wpF_ret ?_
    refine ⟨_, resT a39_4 (resT a39_5 resN), hS16.frame, ?_⟩
    show ∃ rx_ y_, (Value.tuple #[(Value.slice none 0 0), B (false)]) = Value.tuple #[rx_, B (cutG l t).isSome] ∧ Rd (fun b => S b ∧ b < H0.size) H16 rx_ y_ ∧ ∀ s, cutG l t = some s → y_ = s
    have hF : cutG l t = none := by rw [cutG_head hlpos]; exact fst1_none fun j _ hj => hloop j (by omega)
    exact ⟨_, [], by rw [hF]; rfl, rdNil, none_all hF⟩
  refine wpF_skip ?_
  refine wpF_seq ?_
  refine wpF_block ?_
  refine wpF_seq ?_
  refine wpF_seq ?_
  refine wpF_cut (fun f H => (In64 (nth l 0).Signs) ∧ f 0 = vl ∧ f 1 = vt ∧ f 6 = I ((n : Int)) ∧ f 33 = B (!(takesA (nth l 0) 0 (t.take n))) ∧ St H0 NoB (fun b => S b ∧ b < H0.size) [rdE vl (l : List Auto), rdE vt (t : List Int)] H) ?_ ?_
  · refine wpF_drawn [] [] (fun _ _ => False) (by kernel_rfl) (by kernel_rfl) ?_
    refine wpR_q 0 (by kernel_rfl) rfl (quietAt rfl rfl (q_move (v := vl) rfl a17_0)) ?_
    refine wpR_q 1 (by kernel_rfl) rfl (quietAt rfl rfl (q_indexRd (k := 0) rfl Try.underlying48 el_Auto_36 rfl rfl (hS16.rdl 0 rfl) (by omega) (by omega))) ?_
    obtain ⟨u19o2, huu19o2, hlu19o2⟩ := (Rd.list.1 (hS16.rdS 0 rfl)).elem 0 (by omega)
    obtain ⟨u19o2n1, u19o2n2, rfl, hu19o20, hu19o21, hu19o22⟩ := Rd.auto.1 huu19o2
    have hS19o2 : St H0 NoB (fun b => S b ∧ b < H0.size) [rdE u19o2n1 ((nth l 0).Next : List (List Int)), rdE vl (l : List Auto), rdE vt (t : List Int)] H16 := hS16.rd hu19o21
    have hS19o2x2 : St H0 NoB (fun b => S b ∧ b < H0.size) [rdE u19o2n2 ((nth l 0).Takes : List Bool), rdE u19o2n1 ((nth l 0).Next : List (List Int)), rdE vl (l : List Auto), rdE vt (t : List Int)] H16 := hS19o2.rd (hu19o22.sub fun _ hb => SL_rd hb)
    refine wpR_q 2 (by kernel_rfl) rfl (quietAt rfl rfl (q_loadE rfl rfl (hlu19o2 Try.prog 36 _ el_Auto_36 (labU_sub [] rfl (List.forall_mem_nil _))))) ?_
    refine wpR_q 3 (by kernel_rfl) rfl (quietAt rfl rfl (q_move (v := vt) rfl a17_1)) ?_
    refine wpR_q 4 (by kernel_rfl) rfl (quietAt rfl rfl (q_move (v := I ((n : Int))) rfl a17_6)) ?_
    have hS19o5 : St H0 NoB (fun b => S b ∧ b < H0.size) [rdE (sliceV 1 vt 0 n) (t.take n : List Int), rdE u19o2n2 ((nth l 0).Takes : List Bool), rdE u19o2n1 ((nth l 0).Next : List (List Int)), rdE vl (l : List Auto), rdE vt (t : List Int)] H16 := hS19o2x2.rd (Rd.list.2 (sliceV_hi (m := n) (Rd.list.1 (hS19o2x2.rdS 3 rfl)) (by omega)))
    refine wpR_q 5 (by kernel_rfl) rfl (quietAt rfl rfl (q_sliceRd (k := 0) (m := n) rfl Try.underlying22 el_Int_3 rfl (hS19o2x2.rdl 3 rfl) lo0 (lo1 rfl (by omega)) (by omega) (by omega))) ?_
    refine wpR_n [6] (by kernel_rfl) ?_
    refine List.forall_mem_cons.2 ⟨?_, List.forall_mem_nil _⟩
    refine exE rfl rfl ?_
    refine e_call rfl Try.call26 (arr3 (v0 := Value.agg #[I ((nth l 0).Signs), u19o2n1, u19o2n2]) (v1 := I (0)) (v2 := (sliceV 1 vt 0 n)) rfl rfl rfl) (Takes_R _ u19o2n1 u19o2n2 ((sliceV 1 vt 0 n)) (nth l 0) 0 (t.take n) (hS19o5.rdN 2 rfl) (hS19o5.rdN 1 rfl) (by assumption) (hS19o5.rdN 0 rfl) hw0 (by omega) (fun c hc => by rw [hs0]; exact hv c (List.mem_of_mem_take hc)) rfl) ?_
    rintro _ H19o6 ⟨hxx, rfl⟩
    have hS19o6 : St H0 NoB (fun b => S b ∧ b < H0.size) [rdE (sliceV 1 vt 0 n) (t.take n : List Int), rdE u19o2n2 ((nth l 0).Takes : List Bool), rdE u19o2n1 ((nth l 0).Next : List (List Int)), rdE vl (l : List Auto), rdE vt (t : List Int)] H19o6 := hS19o5.ext hxx
    refine ⟨Ext.mono hxx (fun _ h => h.elim), ?_⟩
    refine wpR_q 7 (by kernel_rfl) rfl (quietAt rfl rfl (q_not rfl rfl)) ?_
    refine wpR_end (by kernel_rfl) ?_
    exact ⟨hu19o20, a17_0, a17_1, a17_6, rfl, (hS19o6.drop (List.Sublist.cons _ (List.Sublist.cons _ (List.Sublist.cons _ (List.Sublist.cons_cons _ (List.Sublist.cons_cons _ (List.Sublist.slnil)))))))⟩
  rintro f20 H20 ⟨hu19o20, a20_0, a20_1, a20_6, a20_33, hS20⟩
  clear a17_0 a17_1 a17_23 a17_6
  refine wpF_cond a20_33 (fun hacc => ?t38) (fun hacc => ?e38)
  case t38 =>
    have hstep : cutStep (cutG (l.drop 1)) (nth l 0) t n = none := by rw [cutStep, if_neg (fun h => by rw [h] at hacc; cases hacc)]
    refine wpF_exit ?_
    refine atX_here ?_
    refine wpF_cut (fun f H => f 0 = vl ∧ f 1 = vt ∧ f 6 = I ((n : Int) + 1) ∧ H20 = H) ?_ ?_
    · refine wpF_region ?_
      refine wpL_q (U := NoB) rfl (q_move (v := I ((n : Int))) rfl a20_6) ?_
      refine wpL_q (U := NoB) rfl (q_add rfl rfl rfl (by constructor <;> omega)) ?_
      refine wpL_q (U := NoB) rfl (q_assign (v := I ((n : Int) + 1)) rfl rfl) ?_
      exact ⟨a20_0, a20_1, rfl, rfl⟩
    rintro f22 _ ⟨a22_0, a22_1, a22_6, rfl⟩
    clear a20_0 a20_1 a20_33 a20_6
    refine ⟨_, ?_, n + 1, rfl, (by omega), (all_succ hloop hstep), a22_0, a22_1, (Eq.trans a22_6 (congrArg I (by omega))), hS20⟩
    omega
  have hacc2 : takesA (nth l 0) 0 (t.take n) = true := by simpa using hacc
  refine wpF_skip ?_
  refine wpF_seq ?_
  refine wpF_cut (fun f H => ∃ (r23o5 : Value), ∃ (y23o5 : List Int), (∀ s, cutG (l.drop 1) (t.drop n) = some s → y23o5 = s) ∧ f 0 = vl ∧ f 1 = vt ∧ f 6 = I ((n : Int)) ∧ f 7 = r23o5 ∧ f 8 = B ((cutG (l.drop 1) (t.drop n)).isSome) ∧ St H0 NoB (fun b => S b ∧ b < H0.size) [rdE r23o5 (y23o5 : List Int), rdE vl (l : List Auto), rdE vt (t : List Int)] H) ?_ ?_
  · refine wpF_drawn [] [] (fun _ _ => False) (by kernel_rfl) (by kernel_rfl) ?_
    refine wpR_q 0 (by kernel_rfl) rfl (quietAt rfl rfl (q_move (v := vl) rfl a20_0)) ?_
    have hS23o1 : St H0 NoB (fun b => S b ∧ b < H0.size) [rdE (sliceV 3 vl 1 l.length) (l.drop 1 : List Auto), rdE vl (l : List Auto), rdE vt (t : List Int)] H20 := hS20.rd (Rd.list.2 (sliceV_lo (k := 1) (Rd.list.1 (hS20.rdS 0 rfl)) (by omega)))
    refine wpR_q 1 (by kernel_rfl) rfl (quietAt rfl rfl (q_sliceRd (k := 1) (m := l.length) rfl Try.underlying48 el_Auto_36 rfl (hS20.rdl 0 rfl) (lo1 rfl (by omega)) hi0 (by omega) (by omega))) ?_
    refine wpR_q 2 (by kernel_rfl) rfl (quietAt rfl rfl (q_move (v := vt) rfl a20_1)) ?_
    refine wpR_q 3 (by kernel_rfl) rfl (quietAt rfl rfl (q_move (v := I ((n : Int))) rfl a20_6)) ?_
    have hS23o4 : St H0 NoB (fun b => S b ∧ b < H0.size) [rdE (sliceV 1 vt n t.length) (t.drop n : List Int), rdE (sliceV 3 vl 1 l.length) (l.drop 1 : List Auto), rdE vl (l : List Auto), rdE vt (t : List Int)] H20 := hS23o1.rd (Rd.list.2 (sliceV_lo (k := n) (Rd.list.1 (hS23o1.rdS 2 rfl)) (by omega)))
    refine wpR_q 4 (by kernel_rfl) rfl (quietAt rfl rfl (q_sliceRd (k := n) (m := t.length) rfl Try.underlying22 el_Int_3 rfl (hS23o1.rdl 2 rfl) (lo1 rfl (by omega)) hi0 (by omega) (by omega))) ?_
    refine wpR_n [5] (by kernel_rfl) ?_
    refine List.forall_mem_cons.2 ⟨?_, List.forall_mem_nil _⟩
    refine exE rfl rfl ?_
    refine e_call rfl Try.call31 (arr2 (v0 := (sliceV 3 vl 1 l.length)) (v1 := (sliceV 1 vt n t.length)) rfl rfl) (ih _ (by simp only [List.length_drop]; omega) ((sliceV 3 vl 1 l.length)) ((sliceV 1 vt n t.length)) (l.drop 1) (t.drop n) sg (hS23o4.rdS 1 rfl) (hS23o4.rdS 0 rfl) (fun j hj => by rw [nth_drop]; exact hwf _ (by rw [List.length_drop] at hj; omega)) (fun j hj => by rw [nth_drop]; exact hsgs _ (by rw [List.length_drop] at hj; omega)) (fun c hc => hv c (List.mem_of_mem_drop hc)) (by rw [List.length_drop]; omega) (by rw [List.length_drop]; omega) (by rw [List.length_drop]; omega) rfl) ?_
    rintro _ H23o5 ⟨hxx, r23o5, y23o5, rfl, hrr23o5, hyr23o5⟩
    have hS23o5 : St H0 NoB (fun b => S b ∧ b < H0.size) [rdE r23o5 (y23o5 : List Int), rdE (sliceV 1 vt n t.length) (t.drop n : List Int), rdE (sliceV 3 vl 1 l.length) (l.drop 1 : List Auto), rdE vl (l : List Auto), rdE vt (t : List Int)] H23o5 := (hS23o4.res hxx hrr23o5)
    refine ⟨Ext.mono hxx (fun _ h => h.elim), ?_⟩
    refine wpR_q 6 (by kernel_rfl) rfl (quietAt rfl rfl (q_move (v := Value.tuple #[r23o5, B ((cutG (l.drop 1) (t.drop n)).isSome)]) rfl rfl)) ?_
    refine wpR_q 7 (by kernel_rfl) rfl (quietAt rfl rfl (q_extract (vs := #[r23o5, B ((cutG (l.drop 1) (t.drop n)).isSome)]) (v := r23o5) rfl rfl rfl)) ?_
    refine wpR_q 8 (by kernel_rfl) rfl (quietAt rfl rfl (q_extract (vs := #[r23o5, B ((cutG (l.drop 1) (t.drop n)).isSome)]) (v := B ((cutG (l.drop 1) (t.drop n)).isSome)) rfl rfl rfl)) ?_
    refine wpR_q 9 (by kernel_rfl) rfl (quietAt rfl rfl (q_assign (v := r23o5) rfl rfl)) ?_
    refine wpR_q 10 (by kernel_rfl) rfl (quietAt rfl rfl (q_assign (v := B ((cutG (l.drop 1) (t.drop n)).isSome)) rfl rfl)) ?_
    refine wpR_end (by kernel_rfl) ?_
    exact ⟨r23o5, y23o5, hyr23o5, a20_0, a20_1, a20_6, rfl, rfl, (hS23o5.drop (List.Sublist.cons_cons _ (List.Sublist.cons _ (List.Sublist.cons _ (List.Sublist.cons_cons _ (List.Sublist.cons_cons _ (List.Sublist.slnil)))))))⟩
  rintro f24 H24 ⟨r23o5, y23o5, hyr23o5, a24_0, a24_1, a24_6, a24_7, a24_8, hS24⟩
  clear a20_0 a20_1 a20_33 a20_6
  refine wpF_seq ?_
  refine wpF_cut (fun f H => f 0 = vl ∧ f 1 = vt ∧ f 6 = I ((n : Int)) ∧ f 7 = r23o5 ∧ f 43 = B ((cutG (l.drop 1) (t.drop n)).isSome) ∧ H24 = H) ?_ ?_
  · refine wpF_region ?_
    refine wpL_q (U := NoB) rfl (q_move (v := B ((cutG (l.drop 1) (t.drop n)).isSome)) rfl a24_8) ?_
    exact ⟨a24_0, a24_1, a24_6, a24_7, rfl, rfl⟩
  rintro f25 _ ⟨a25_0, a25_1, a25_6, a25_7, a25_43, rfl⟩
  clear a24_0 a24_1 a24_6 a24_7 a24_8
  refine wpF_cond a25_43 (fun hfound => ?t37) (fun hfound => ?e37)
  case e37 =>
    have hstep : cutStep (cutG (l.drop 1)) (nth l 0) t n = none := by rw [cutStep, if_pos hacc2, opt_cases (o := cutG (l.drop 1) (t.drop n)) (by simpa using hfound)]; rfl
    refine wpF_skip ?_
    refine wpF_cut (fun f H => f 0 = vl ∧ f 1 = vt ∧ f 6 = I ((n : Int) + 1) ∧ H24 = H) ?_ ?_
    · refine wpF_region ?_
      refine wpL_q (U := NoB) rfl (q_move (v := I ((n : Int))) rfl a25_6) ?_
      refine wpL_q (U := NoB) rfl (q_add rfl rfl rfl (by constructor <;> omega)) ?_
      refine wpL_q (U := NoB) rfl (q_assign (v := I ((n : Int) + 1)) rfl rfl) ?_
      exact ⟨a25_0, a25_1, rfl, rfl⟩
    rintro f36 _ ⟨a36_0, a36_1, a36_6, rfl⟩
    clear a25_0 a25_1 a25_43 a25_6 a25_7
    refine ⟨_, ?_, n + 1, rfl, (by omega), (all_succ hloop hstep), a36_0, a36_1, (Eq.trans a36_6 (congrArg I (by omega))), (hS24.drop (List.Sublist.cons _ (List.Sublist.cons_cons _ (List.Sublist.cons_cons _ (List.Sublist.slnil)))))⟩
    omega
  obtain ⟨s, hs⟩ := Option.isSome_iff_exists.1 hfound
  have hyy := hyr23o5 s hs
  have hyl := cutG_len hs
  rw [← hyy, List.length_drop] at hyl
  refine wpF_seq ?_
  refine wpF_cut (fun f H => ∃ (v31 : Value), f 4 = v31 ∧ f 5 = B (true) ∧ St H0 NoB (fun b => S b ∧ b < H0.size) [rowE 3 v31 (([(n : Int)]) ++ y23o5 : List Int), rdE vl (l : List Auto), rdE vt (t : List Int)] H) ?_ ?_
  · refine wpF_region ?_
    refine wpL_q (U := NoB) rfl (q_move (v := I ((n : Int))) rfl a25_6) ?_
    refine wpL_o rfl ?_
    refine e_buildSlice (vs := [I ((n : Int))]) (xs := ([(n : Int)] : List Int)) rfl Try.underlying22 Try.zeroValue3 rfl Try.sizeOf3 (par1 (v0 := I ((n : Int))) rfl) rfl hS24 (RdVs.cons (Rd.int.2 ⟨rfl, by constructor <;> omega⟩) (RdVs.nil)) (by decide) (by decide) (fun v27 H28 hS29 hxx hvv27 => ?_)
    replace hS29 : St H0 NoB (fun b => S b ∧ b < H0.size) [rowE 3 v27 ([(n : Int)] : List Int), rdE r23o5 (y23o5 : List Int), rdE vl (l : List Auto), rdE vt (t : List Int)] H28 := hS29
    refine wpL_q (U := NoB) rfl (q_move (v := r23o5) rfl a25_7) ?_
    have hS30 : St H0 NoB (fun b => S b ∧ b < H0.size) [rowE 3 v27 ([(n : Int)] : List Int), rdE r23o5 (y23o5 : List Int), rdE vl (l : List Auto), rdE vt (t : List Int)] H28 := hS29
    refine wpL_o rfl ?_
    refine e_append rfl Try.underlying22 em_Int_3 rfl rfl hS30 (hS30.rdS 1 rfl) (fun _ h => h) (by have hb : GoT.bytes Int = 8 := rfl; simp [hb]; omega) (by decide) (fun v31 H32 hS33 hxx => ?_)
    replace hS33 : St H0 NoB (fun b => S b ∧ b < H0.size) [rowE 3 v31 (([(n : Int)]) ++ y23o5 : List Int), rdE r23o5 (y23o5 : List Int), rdE vl (l : List Auto), rdE vt (t : List Int)] H32 := hS33
    refine wpL_q (U := NoB) rfl (q_assign (v := v31) rfl rfl) ?_
    refine wpL_q (U := NoB) rfl (q_assign (v := B (true)) rfl rfl) ?_
    exact ⟨v31, rfl, rfl, (hS33.drop (List.Sublist.cons_cons _ (List.Sublist.cons _ (List.Sublist.cons_cons _ (List.Sublist.cons_cons _ (List.Sublist.slnil))))))⟩
  rintro f34 H34 ⟨v31, a34_4, a34_5, hS34⟩
  clear a25_0 a25_1 a25_43 a25_6 a25_7
  refine wpF_ret ?_
  refine ⟨_, resT a34_4 (resT a34_5 resN), hS34.frame, ?_⟩
  show ∃ rx_ y_, (Value.tuple #[v31, B (true)]) = Value.tuple #[rx_, B (cutG l t).isSome] ∧ Rd (fun b => S b ∧ b < H0.size) H34 rx_ y_ ∧ ∀ s, cutG l t = some s → y_ = s
  have hS35 : St H0 NoB (fun b => S b ∧ b < H0.size) [rdE v31 (([(n : Int)]) ++ y23o5 : List Int), rdE vl (l : List Auto), rdE vt (t : List Int)] H34 := St.fin hS34
  have hF : cutG l t = some ((n : Int) :: s) := by rw [cutG_head hlpos]; exact fst1_some (k := n) (by rw [cutStep, if_pos hacc2, hs]; rfl) (Nat.zero_le _) (by omega) fun j _ hj => hloop j hj
  exact ⟨_, ([(n : Int)]) ++ y23o5, by rw [hF]; rfl, (hS35.result (hS35.rdS 0 rfl)), fun s2 hs2 => by rw [hF] at hs2; cases hs2; rw [hyy]; rfl⟩

end Go.Um
