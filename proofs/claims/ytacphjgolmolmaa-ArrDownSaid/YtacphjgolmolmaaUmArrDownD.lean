import Derived.Test.YtacphjgolmolmaaUmArrDownC
namespace Go.Um
theorem valF_iff {a : Ask} {w : Wld} (hm : (meanF a w).1 = 0) : (valF a w).1 = 0 ↔ ∀ j, j < a.Nodes.length → nodeOk a w j = true := by
  constructor
  · intro h j hj
    rw [valF, if_neg (not_not_intro hm)] at h
    have := fst1_zero (g := valBad a w) (fun j x hx => by
      unfold valBad at hx
      split at hx
      · cases hx; exact (by decide : (10 : Int) ≠ 0)
      · cases hx) h j (Nat.zero_le _) (by omega)
    unfold valBad at this
    split at this
    · cases this
    · rename_i hn
      unfold nodeOk
      cases hb : (valAt a w (valTo a w j) j).2
      · exact absurd hb hn
      · rfl
  · intro h
    rw [valF_ok (not_not_intro hm) h]
theorem agree_holds {a : Ask} {w v : Wld} (hz : (doF a).1 = 0) (hw : (meanF a w).1 = 0) (hv : (meanF (doA a) v).1 = 0) (hag : Agree a w v) : ((valF a w).1 = 0 ↔ (valF (doA a) v).1 = 0) ∧ holdsB a w = holdsB (doA a) v := by
  have h := meanOk hw
  have hd := doA_ok hz
  have hD : (doA a).Decls = a.Decls.map declA := by rw [hd]
  have hN : (doA a).Nodes = (turned a).Nodes := by rw [hd]
  obtain ⟨m1, _, m3⟩ := turn_mean h hD hag hN a.Nodes.length (Nat.le_refl _)
  have hi : (valF a w).1 = 0 ↔ (valF (doA a) v).1 = 0 := by
    rw [valF_iff hw, valF_iff hv, hN]
    exact m3.symm
  refine ⟨hi, ?_⟩
  by_cases hf : (valF a w).1 = 0
  · have hf2 := hi.1 hf
    rw [holdsB, if_neg (not_not_intro hf), holdsB, if_neg (not_not_intro hf2)]
    congr 1
    rw [show (doA a).Hold = a.Hold.map fun k => nth (turned a).To k.toNat by rw [hd], List.any_map, Bool.eq_iff_iff, List.any_eq_true, List.any_eq_true]
    obtain ⟨_, _, t⟩ := none_ok hz
    have key : ∀ x ∈ a.Hold, nth (valTo (doA a) v (doA a).Nodes.length) (nth (turned a).To x.toNat).toNat = nth (valTo a w a.Nodes.length) x.toNat := fun x hx => by
      obtain ⟨j, hj, rfl⟩ := nth_of_mem hx
      have hh := h.ask.hold j hj
      have h5 : nth (sorts a) (nth a.Hold j).toNat ≠ 5 := by unfold sorts; rw [hh.2]; decide
      have ht := (t _ (show (nth a.Hold j).toNat < a.Nodes.length by omega) h5).1
      rw [valTo_pre (show (nth a.Hold j).toNat < a.Nodes.length by omega), valTo_pre (by rw [hN]; omega)]
      exact m1 _ (by omega) h5
    constructor
    · rintro ⟨x, hx, hy⟩
      refine ⟨x, hx, ?_⟩
      show decide ((nth (valTo (doA a) v (doA a).Nodes.length) (nth (turned a).To x.toNat).toNat).VNum = 0) = true
      rw [key x hx]; exact hy
    · rintro ⟨x, hx, hy⟩
      refine ⟨x, hx, ?_⟩
      have hy' : decide ((nth (valTo (doA a) v (doA a).Nodes.length) (nth (turned a).To x.toNat).toNat).VNum = 0) = true := hy
      rw [key x hx] at hy'; exact hy'
  · have hf2 : ¬ (valF (doA a) v).1 = 0 := fun e => hf (hi.2 e)
    rw [holdsB, if_pos hf, holdsB, if_pos hf2]
theorem num_is {n : Int} (h : thingS n) : isV 4 (numV n) = true := by
  have hb : ¬ frBad (numV n).fr := by
    unfold thingS at h
    intro e
    rcases e with ((( e | e) | e) | e) | e
    · exact absurd e (by decide : ¬ (1 : Int) < 1)
    · exact absurd e (by decide : ¬ (1073741824 : Int) < 1)
    · exact absurd (show n < -1073741824 from e) (by omega)
    · exact absurd (show 1073741824 < n from e) (by omega)
    · refine e ?_
      show ((Nat.gcd n.natAbs 1 : Nat) : Int) = _
      rw [Nat.gcd_one_right]
  have hn : ¬ numBad 4 (numV n) := by
    intro e
    rcases e with ((e | e) | e) | e
    · exact absurd e (by decide : ¬ (0 : Int) < ((0 : Nat) : Int))
    · exact e rfl
    · exact chk_ne.1 e |> hb
    · exact e.2 rfl
  unfold isV
  rw [if_neg (by decide), if_neg hn, if_neg (by decide), if_pos rfl]
  exact decide_eq_true h
section
variable {a : Ask} {w : Wld} {i : Nat}
theorem downF_zero (h : ¬ (downF a w).1 ≠ 0) : (meanF a w).1 = 0 ∧ ∀ j, j < a.Decls.length → ¬ downMuch a w j := by
  have h' := Decidable.of_not_not h
  by_cases hm : (meanF a w).1 ≠ 0
  · rw [downF_mean hm] at h'; exact absurd h' hm
  · refine ⟨Decidable.of_not_not hm, fun j hj hb => ?_⟩
    rw [downF, if_neg hm] at h'
    have := fst1_zero (g := downBad a w) (fun j x hx => by
      unfold downBad at hx
      split at hx
      · cases hx; exact (by decide : (10 : Int) ≠ 0)
      · cases hx) h' j (Nat.zero_le _) (by omega)
    unfold downBad at this
    rw [if_pos hb] at this
    cases this
theorem downTo_at {n : Nat} (hi : i < n) : nth (downTo a w n) i = downM (nth a.Decls i) (nth w.Means i) := by
  simp [downTo, nth, List.getD_eq_getElem?_getD, hi]
theorem cells_rise {v : Val} (h : ArrOk v) {j : Nat} : ∀ d, j + 1 + d < v.Cells.length → (nth v.Cells j).At < (nth v.Cells (j + 1 + d)).At := by
  intro d
  induction d with
  | zero => intro hd; exact h.rise j hd
  | succ d ih =>
    intro hd
    have h1 := ih (by omega)
    have h2 := h.rise (j + 1 + d) (by omega)
    rw [show j + 1 + (d + 1) = j + 1 + d + 1 by omega]
    omega
theorem toldV_flat {d : Decl} {m : Meaning} (h : CodeOk d m) (hd : d.Args.length = 0) : toldV m [] = downV m := by
  by_cases h0 : 0 < (m.Rows.length : Int)
  · have hl := h.args 0 (by omega)
    rw [downV_yes h0, toldV, fst1_some (g := toldAt m []) (k := 0) (y := (nth m.Rows 0).to) (if_pos fun i hi => absurd hi (by omega)) (Nat.zero_le _) (by omega) fun j _ hj => absurd hj (Nat.not_lt_zero j)]; rfl
  · rw [downV_no h0]
    exact toldV_no fun j hj => absurd hj (by omega)
theorem told_cells {l : List Cell} {r : Int} {x : Val} : toldV ⟨l.map cellE, r, 1, [], 0⟩ [x] = numV (gotV ⟨0, 0, l, r⟩ x.VNum) := by
  have e : ∀ k n, k + n ≤ l.length → fst1 (toldAt ⟨l.map cellE, r, 1, [], 0⟩ [x]) k n = (fst1 (gotAt ⟨0, 0, l, r⟩ x.VNum) k n).map numV := by
    intro k n
    induction n generalizing k with
    | zero => intro _; rfl
    | succ n ih =>
      intro hk
      rw [fst1, fst1]
      have hn : nth (l.map cellE) k = cellE (nth l k) := nth_map (by omega)
      have hat : toldAt ⟨l.map cellE, r, 1, [], 0⟩ [x] k = (gotAt ⟨0, 0, l, r⟩ x.VNum k).map numV := by
        unfold toldAt gotAt
        show (if sameArgs (nth (l.map cellE) k) [x] then some (nth (l.map cellE) k).to else none) = (if (nth l k).At = x.VNum then some (nth l k).It else none).map numV
        rw [hn]
        by_cases hc : (nth l k).At = x.VNum
        · rw [if_pos hc, if_pos]
          · rfl
          · intro i hi
            have : i = 0 := Nat.lt_one_iff.1 hi
            subst this
            exact hc.symm
        · rw [if_neg hc, if_neg]
          · rfl
          · intro hs
            exact hc (hs 0 (by decide : 0 < 1)).symm
      rw [hat]
      cases gotAt ⟨0, 0, l, r⟩ x.VNum k with
      | none => exact ih (k + 1) (by omega)
      | some y => rfl
  unfold toldV gotV
  show (fst1 _ 0 (l.map cellE).length).getD _ = numV ((fst1 _ 0 l.length).getD r)
  rw [List.length_map, e 0 l.length (by omega)]
  cases fst1 (gotAt ⟨0, 0, l, r⟩ x.VNum) 0 l.length <;> rfl
variable (h : MeanOk a w)
include h
theorem down_arr (hi : i < a.Decls.length) (h5 : (nth a.Decls i).Srt = 5) : ArrOk (downV (nth w.Means i)) := by
  have hc := h.code i hi
  have := told_is hc []
  rw [toldV_flat hc ((h.ask.decls i hi).arr h5), h5] at this
  exact isV_arr this
theorem down_code (hi : i < a.Decls.length) (hm : ¬ downMuch a w i) : CodeOk (declA (nth a.Decls i)) (downM (nth a.Decls i) (nth w.Means i)) := by
  by_cases h5 : (nth a.Decls i).Srt = 5
  · have ha := down_arr h hi h5
    rw [declA_yes h5, downM_arr (not_not_intro h5)]
    have hm' : ¬ ((nth a.Decls i).Srt = 5 ∧ 1000 < ((downV (nth w.Means i)).Cells.length : Int)) := hm
    clear hm
    generalize downV (nth w.Means i) = v at *
    have hn : ∀ k, k < v.Cells.length → nth (v.Cells.map cellE) k = cellE (nth v.Cells k) := fun k hk => nth_map hk
    have hl : (v.Cells.map cellE).length = v.Cells.length := List.length_map _
    refine ⟨?_, fun k hk => ?_, fun k hk x hx => ?_, fun k j hj hk e => ?_, ?_, fun k hk => ?_⟩
    · show (v.Cells.map cellE).length ≤ 1000
      rw [hl]
      exact Decidable.of_not_not fun hn => hm' ⟨h5, by omega⟩
    · show (nth (v.Cells.map cellE) k).Args.length = 1
      rw [hn k (by rw [← hl]; exact hk)]; rfl
    · have hk' : k < v.Cells.length := by rw [← hl]; exact hk
      have hx' : x ∈ (nth (v.Cells.map cellE) k).Args := hx
      rw [hn k hk'] at hx'
      rw [List.mem_singleton.1 hx']
      exact (ha.cell k hk').1
    · have hk' : k < v.Cells.length := by rw [← hl]; exact hk
      have e' : (nth (v.Cells.map cellE) j).Args = (nth (v.Cells.map cellE) k).Args := e
      rw [hn k hk', hn j (by omega)] at e'
      have e2 : (nth v.Cells j).At = (nth v.Cells k).At := by injection e'
      have := cells_rise ha (j := j) (k - (j + 1)) (by omega)
      rw [show j + 1 + (k - (j + 1)) = k by omega] at this
      omega
    · exact num_is ha.rest
    · have hk' : k < v.Cells.length := by rw [← hl]; exact hk
      show isV 4 (nth (v.Cells.map cellE) k).to = true
      rw [hn k hk']
      exact num_is (ha.cell k hk').2.1
  · rw [declA_no h5, downM_flat h5]; exact h.code i hi
end
theorem down_fact {a : Ask} {w : Wld} (hz : (doF a).1 = 0) (hd : ¬ (downF a w).1 ≠ 0) : (meanF (doA a) (downW a w)).1 = 0 ∧ ((valF a w).1 = 0 ↔ (valF (doA a) (downW a w)).1 = 0) ∧ holdsB a w = holdsB (doA a) (downW a w) := by
  obtain ⟨hw, hno⟩ := downF_zero hd
  have h := meanOk hw
  have hW : downW a w = ⟨downTo a w a.Decls.length⟩ := downW_ok (downF_ok (not_not_intro hw) hno)
  have hD : (doA a).Decls = a.Decls.map declA := by rw [doA_ok hz]
  have hv : (meanF (doA a) (downW a w)).1 = 0 := by
    rw [hW, meanF_good (by rw [(none_ok hz).1]) (by rw [hD, List.length_map]; exact downTo_len) fun i hi => ?_]
    rw [hD, List.length_map] at hi
    rw [hD, nth_map hi]
    show CodeOk _ (nth (downTo a w a.Decls.length) i)
    rw [downTo_at hi]
    exact down_code h hi (hno i hi)
  refine ⟨hv, agree_holds hz hw hv fun i hi => ⟨fun h5 K => ?_, fun h5 x _ => ?_⟩⟩
  · rw [hW]
    show _ = toldV (nth (downTo a w a.Decls.length) i) K
    rw [downTo_at hi, downM_flat h5]
  · rw [hW]
    show toldV (nth (downTo a w a.Decls.length) i) [x] = _
    rw [downTo_at hi, downM_arr (not_not_intro h5), toldV_flat (h.code i hi) ((h.ask.decls i hi).arr h5), told_cells]
    rfl
theorem downW_len {a : Ask} {w : Wld} (h : (downF a w).1 ≠ 0) : ((downW a w).Means.length : Int) = 0 := by rw [downW_bad h]; rfl
end Go.Um
