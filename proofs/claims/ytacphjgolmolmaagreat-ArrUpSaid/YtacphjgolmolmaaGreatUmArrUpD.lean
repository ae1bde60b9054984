import Derived.Sort.AssemblyPlain
import Derived.Shelf.GgSortFunc.InsertionK
import Derived.Test.YtacphjgolmolmaaGreatUmArrUpC
namespace Go.Um
theorem valF_iff {a : Ask} {w : Wld} (hm : (meanF a w).1 = 0) : (valF a w).1 = 0 ↔ ∀ j, j < a.Nodes.length → nodeOk a w j = true := by
  constructor
  · intro h j hj
    rw [valF, if_neg (not_not_intro hm)] at h
    have := fst1_zero (g := valBad a w) (fun j x hx => by
      unfold valBad at hx
      split at hx
      · cases hx; exact (by decide : (10 : Int) ≠ 0)
      · cases hx) h j (Nat.zero_le _) (by omega)
    unfold valBad at this
    split at this
    · cases this
    · rename_i hn
      unfold nodeOk
      cases hb : (valAt a w (valTo a w j) j).2
      · exact absurd hb hn
      · rfl
  · intro h
    rw [valF_ok (not_not_intro hm) h]
theorem agree_holds {a : Ask} {w v : Wld} (hz : (doF a).1 = 0) (hw : (meanF a w).1 = 0) (hv : (meanF (doA a) v).1 = 0) (hag : Agree a w v) : ((valF a w).1 = 0 ↔ (valF (doA a) v).1 = 0) ∧ holdsB a w = holdsB (doA a) v := by
  have h := meanOk hw
  have hd := doA_ok hz
  have hD : (doA a).Decls = a.Decls.map declA := by rw [hd]
  have hN : (doA a).Nodes = (turned a).Nodes := by rw [hd]
  obtain ⟨m1, _, m3⟩ := turn_mean h hD hag hN a.Nodes.length (Nat.le_refl _)
  have hi : (valF a w).1 = 0 ↔ (valF (doA a) v).1 = 0 := by
    rw [valF_iff hw, valF_iff hv, hN]
    exact m3.symm
  refine ⟨hi, ?_⟩
  by_cases hf : (valF a w).1 = 0
  · have hf2 := hi.1 hf
    rw [holdsB, if_neg (not_not_intro hf), holdsB, if_neg (not_not_intro hf2)]
    congr 1
    rw [show (doA a).Hold = a.Hold.map fun k => nth (turned a).To k.toNat by rw [hd], List.any_map, Bool.eq_iff_iff, List.any_eq_true, List.any_eq_true]
    obtain ⟨_, _, t⟩ := none_ok hz
    have key : ∀ x ∈ a.Hold, nth (valTo (doA a) v (doA a).Nodes.length) (nth (turned a).To x.toNat).toNat = nth (valTo a w a.Nodes.length) x.toNat := fun x hx => by
      obtain ⟨j, hj, rfl⟩ := nth_of_mem hx
      have hh := h.ask.hold j hj
      have h5 : nth (sorts a) (nth a.Hold j).toNat ≠ 5 := by unfold sorts; rw [hh.2]; decide
      have ht := (t _ (show (nth a.Hold j).toNat < a.Nodes.length by omega) h5).1
      rw [valTo_pre (show (nth a.Hold j).toNat < a.Nodes.length by omega), valTo_pre (by rw [hN]; omega)]
      exact m1 _ (by omega) h5
    constructor
    · rintro ⟨x, hx, hy⟩
      refine ⟨x, hx, ?_⟩
      show decide ((nth (valTo (doA a) v (doA a).Nodes.length) (nth (turned a).To x.toNat).toNat).VNum = 0) = true
      rw [key x hx]; exact hy
    · rintro ⟨x, hx, hy⟩
      refine ⟨x, hx, ?_⟩
      have hy' : decide ((nth (valTo (doA a) v (doA a).Nodes.length) (nth (turned a).To x.toNat).toNat).VNum = 0) = true := hy
      rw [key x hx] at hy'; exact hy'
  · have hf2 : ¬ (valF (doA a) v).1 = 0 := fun e => hf (hi.2 e)
    rw [holdsB, if_pos hf, holdsB, if_pos hf2]
theorem num_is {n : Int} (h : thingS n) : isV 4 (numV n) = true := by
  have hb : ¬ frBad (numV n).fr := by
    unfold thingS at h
    intro e
    rcases e with ((( e | e) | e) | e) | e
    · exact absurd e (by decide : ¬ (1 : Int) < 1)
    · exact absurd e (by decide : ¬ (1073741824 : Int) < 1)
    · exact absurd (show n < -1073741824 from e) (by omega)
    · exact absurd (show 1073741824 < n from e) (by omega)
    · refine e ?_
      show ((Nat.gcd n.natAbs 1 : Nat) : Int) = _
      rw [Nat.gcd_one_right]
  have hn : ¬ numBad 4 (numV n) := by
    intro e
    rcases e with ((e | e) | e) | e
    · exact absurd e (by decide : ¬ (0 : Int) < ((0 : Nat) : Int))
    · exact e rfl
    · exact chk_ne.1 e |> hb
    · exact e.2 rfl
  unfold isV
  rw [if_neg (by decide), if_neg hn, if_neg (by decide), if_pos rfl]
  exact decide_eq_true h
theorem is_num {v : Val} (h : isV 4 v = true) : thingS v.VNum := by
  unfold isV at h
  rw [if_neg (by decide)] at h
  split at h
  · cases h
  · rw [if_neg (by decide), if_pos rfl] at h
    exact of_decide_eq_true h
section
variable {a : Ask} {w : Wld} {i : Nat}
theorem downF_zero (h : ¬ (downF a w).1 ≠ 0) : (meanF a w).1 = 0 ∧ ∀ j, j < a.Decls.length → ¬ downMuch a w j := by
  have h' := Decidable.of_not_not h
  by_cases hm : (meanF a w).1 ≠ 0
  · rw [downF_mean hm] at h'; exact absurd h' hm
  · refine ⟨Decidable.of_not_not hm, fun j hj hb => ?_⟩
    rw [downF, if_neg hm] at h'
    have := fst1_zero (g := downBad a w) (fun j x hx => by
      unfold downBad at hx
      split at hx
      · cases hx; exact (by decide : (10 : Int) ≠ 0)
      · cases hx) h' j (Nat.zero_le _) (by omega)
    unfold downBad at this
    rw [if_pos hb] at this
    cases this
theorem downTo_at {n : Nat} (hi : i < n) : nth (downTo a w n) i = downM (nth a.Decls i) (nth w.Means i) := by
  simp [downTo, nth, List.getD_eq_getElem?_getD, hi]
theorem cells_rise {v : Val} (h : ArrOk v) {j : Nat} : ∀ d, j + 1 + d < v.Cells.length → (nth v.Cells j).At < (nth v.Cells (j + 1 + d)).At := by
  intro d
  induction d with
  | zero => intro hd; exact h.rise j hd
  | succ d ih =>
    intro hd
    have h1 := ih (by omega)
    have h2 := h.rise (j + 1 + d) (by omega)
    rw [show j + 1 + (d + 1) = j + 1 + d + 1 by omega]
    omega
theorem toldV_flat {d : Decl} {m : Meaning} (h : CodeOk d m) (hd : d.Args.length = 0) : toldV m [] = downV m := by
  by_cases h0 : 0 < (m.Rows.length : Int)
  · have hl := h.args 0 (by omega)
    rw [downV_yes h0, toldV, fst1_some (g := toldAt m []) (k := 0) (y := (nth m.Rows 0).to) (if_pos fun i hi => absurd hi (by omega)) (Nat.zero_le _) (by omega) fun j _ hj => absurd hj (Nat.not_lt_zero j)]; rfl
  · rw [downV_no h0]
    exact toldV_no fun j hj => absurd hj (by omega)
theorem told_cells {l : List Cell} {r : Int} {x : Val} : toldV ⟨l.map cellE, r, 1, [], 0⟩ [x] = numV (gotV ⟨0, 0, l, r⟩ x.VNum) := by
  have e : ∀ k n, k + n ≤ l.length → fst1 (toldAt ⟨l.map cellE, r, 1, [], 0⟩ [x]) k n = (fst1 (gotAt ⟨0, 0, l, r⟩ x.VNum) k n).map numV := by
    intro k n
    induction n generalizing k with
    | zero => intro _; rfl
    | succ n ih =>
      intro hk
      rw [fst1, fst1]
      have hn : nth (l.map cellE) k = cellE (nth l k) := nth_map (by omega)
      have hat : toldAt ⟨l.map cellE, r, 1, [], 0⟩ [x] k = (gotAt ⟨0, 0, l, r⟩ x.VNum k).map numV := by
        unfold toldAt gotAt
        show (if sameArgs (nth (l.map cellE) k) [x] then some (nth (l.map cellE) k).to else none) = (if (nth l k).At = x.VNum then some (nth l k).It else none).map numV
        rw [hn]
        by_cases hc : (nth l k).At = x.VNum
        · rw [if_pos hc, if_pos]
          · rfl
          · intro i hi
            have : i = 0 := Nat.lt_one_iff.1 hi
            subst this
            exact hc.symm
        · rw [if_neg hc, if_neg]
          · rfl
          · intro hs
            exact hc (hs 0 (by decide : 0 < 1)).symm
      rw [hat]
      cases gotAt ⟨0, 0, l, r⟩ x.VNum k with
      | none => exact ih (k + 1) (by omega)
      | some y => rfl
  unfold toldV gotV
  show (fst1 _ 0 (l.map cellE).length).getD _ = numV ((fst1 _ 0 l.length).getD r)
  rw [List.length_map, e 0 l.length (by omega)]
  cases fst1 (gotAt ⟨0, 0, l, r⟩ x.VNum) 0 l.length <;> rfl
variable (h : MeanOk a w)
include h
theorem down_arr (hi : i < a.Decls.length) (h5 : (nth a.Decls i).Srt = 5) : ArrOk (downV (nth w.Means i)) := by
  have hc := h.code i hi
  have := told_is hc []
  rw [toldV_flat hc ((h.ask.decls i hi).arr h5), h5] at this
  exact isV_arr this
theorem down_code (hi : i < a.Decls.length) (hm : ¬ downMuch a w i) : CodeOk (declA (nth a.Decls i)) (downM (nth a.Decls i) (nth w.Means i)) := by
  by_cases h5 : (nth a.Decls i).Srt = 5
  · have ha := down_arr h hi h5
    rw [declA_yes h5, downM_arr (not_not_intro h5)]
    have hm' : ¬ ((nth a.Decls i).Srt = 5 ∧ 1000 < ((downV (nth w.Means i)).Cells.length : Int)) := hm
    clear hm
    generalize downV (nth w.Means i) = v at *
    have hn : ∀ k, k < v.Cells.length → nth (v.Cells.map cellE) k = cellE (nth v.Cells k) := fun k hk => nth_map hk
    have hl : (v.Cells.map cellE).length = v.Cells.length := List.length_map _
    refine ⟨?_, fun k hk => ?_, fun k hk x hx => ?_, fun k j hj hk e => ?_, ?_, fun k hk => ?_⟩
    · show (v.Cells.map cellE).length ≤ 1000
      rw [hl]
      exact Decidable.of_not_not fun hn => hm' ⟨h5, by omega⟩
    · show (nth (v.Cells.map cellE) k).Args.length = 1
      rw [hn k (by rw [← hl]; exact hk)]; rfl
    · have hk' : k < v.Cells.length := by rw [← hl]; exact hk
      have hx' : x ∈ (nth (v.Cells.map cellE) k).Args := hx
      rw [hn k hk'] at hx'
      rw [List.mem_singleton.1 hx']
      exact (ha.cell k hk').1
    · have hk' : k < v.Cells.length := by rw [← hl]; exact hk
      have e' : (nth (v.Cells.map cellE) j).Args = (nth (v.Cells.map cellE) k).Args := e
      rw [hn k hk', hn j (by omega)] at e'
      have e2 : (nth v.Cells j).At = (nth v.Cells k).At := by injection e'
      have := cells_rise ha (j := j) (k - (j + 1)) (by omega)
      rw [show j + 1 + (k - (j + 1)) = k by omega] at this
      omega
    · exact num_is ha.rest
    · have hk' : k < v.Cells.length := by rw [← hl]; exact hk
      show isV 4 (nth (v.Cells.map cellE) k).to = true
      rw [hn k hk']
      exact num_is (ha.cell k hk').2.1
  · rw [declA_no h5, downM_flat h5]; exact h.code i hi
end
theorem down_fact {a : Ask} {w : Wld} (hz : (doF a).1 = 0) (hd : ¬ (downF a w).1 ≠ 0) : (meanF (doA a) (downW a w)).1 = 0 ∧ ((valF a w).1 = 0 ↔ (valF (doA a) (downW a w)).1 = 0) ∧ holdsB a w = holdsB (doA a) (downW a w) := by
  obtain ⟨hw, hno⟩ := downF_zero hd
  have h := meanOk hw
  have hW : downW a w = ⟨downTo a w a.Decls.length⟩ := downW_ok (downF_ok (not_not_intro hw) hno)
  have hD : (doA a).Decls = a.Decls.map declA := by rw [doA_ok hz]
  have hv : (meanF (doA a) (downW a w)).1 = 0 := by
    rw [hW, meanF_good (by rw [(none_ok hz).1]) (by rw [hD, List.length_map]; exact downTo_len) fun i hi => ?_]
    rw [hD, List.length_map] at hi
    rw [hD, nth_map hi]
    show CodeOk _ (nth (downTo a w a.Decls.length) i)
    rw [downTo_at hi]
    exact down_code h hi (hno i hi)
  refine ⟨hv, agree_holds hz hw hv fun i hi => ⟨fun h5 K => ?_, fun h5 x _ => ?_⟩⟩
  · rw [hW]
    show _ = toldV (nth (downTo a w a.Decls.length) i) K
    rw [downTo_at hi, downM_flat h5]
  · rw [hW]
    show toldV (nth (downTo a w a.Decls.length) i) [x] = _
    rw [downTo_at hi, downM_arr (not_not_intro h5), toldV_flat (h.code i hi) ((h.ask.decls i hi).arr h5), told_cells]
    rfl
end Go.Um
namespace Go.Um
def cmpI (x y : Int) : Int := if x < y then -1 else if y < x then 1 else 0
theorem cmpI_neg {x y : Int} : cmpI x y < 0 ↔ x < y := by
  unfold cmpI
  split
  · exact ⟨fun _ => by assumption, fun _ => by decide⟩
  split
  · constructor <;> intro <;> omega
  · constructor <;> intro <;> omega
def upKeep (m : Meaning) (e : Entry) : Bool := !decide (e.ENum = m.MNum ∧ e.EDen = m.MDen)
def upCell (e : Entry) : Cell := ⟨nth e.Args 0, e.ENum⟩
def upRaw (m : Meaning) (l : List Entry) : List Cell := (l.filter (upKeep m)).map upCell
def cellLe (x y : Cell) : Bool := decide (x.At ≤ y.At)
def upCs (m : Meaning) : List Cell := (upRaw m m.Rows).mergeSort cellLe
def upM (d : Decl) (m : Meaning) : Meaning := if d.Srt ≠ 5 then m else ⟨[], 0, 0, upCs m, m.MNum⟩
def upF (a : Ask) (v : Wld) : Int × Int := if (doF a).1 ≠ 0 then doF a else if (meanF (doA a) v).1 ≠ 0 then meanF (doA a) v else (0, 0)
def upTo (a : Ask) (v : Wld) (k : Nat) : List Meaning := (List.range k).map fun i => upM (nth a.Decls i) (nth v.Means i)
def upW (a : Ask) (v : Wld) : Wld := if (upF a v).1 ≠ 0 then ⟨[]⟩ else ⟨upTo a v a.Decls.length⟩
section
variable {a : Ask} {v : Wld} {k i : Nat} {m : Meaning} {d : Decl}
theorem fst1_ex {β : Type} {g : Nat → Option β} {x : β} : ∀ {n i : Nat}, fst1 g i n = some x → ∃ j, g j = some x := by
  intro n
  induction n with
  | zero => intro i h; cases h
  | succ n ih =>
    intro i h
    rw [fst1] at h
    cases hg : g i with
    | none => rw [hg] at h; exact ih h
    | some y => rw [hg] at h; exact ⟨i, by rw [hg]; exact h⟩
theorem upF_do (h : (doF a).1 ≠ 0) : upF a v = doF a := if_pos h
theorem upF_mean (h : ¬ (doF a).1 ≠ 0) (h2 : (meanF (doA a) v).1 ≠ 0) : upF a v = meanF (doA a) v := by rw [upF, if_neg h, if_pos h2]
theorem upF_ok (h : ¬ (doF a).1 ≠ 0) (h2 : ¬ (meanF (doA a) v).1 ≠ 0) : upF a v = (0, 0) := by rw [upF, if_neg h, if_neg h2]
theorem upW_bad (h : (upF a v).1 ≠ 0) : upW a v = ⟨[]⟩ := if_pos h
theorem upW_ok (h : upF a v = (0, 0)) : upW a v = ⟨upTo a v a.Decls.length⟩ := by rw [upW, h]; rfl
theorem upTo_len : (upTo a v k).length = k := by simp [upTo]
theorem upTo_next : upTo a v (k + 1) = upTo a v k ++ [upM (nth a.Decls k) (nth v.Means k)] := by rw [upTo, List.range_succ, List.map_append]; rfl
theorem upTo_at {n : Nat} (hi : i < n) : nth (upTo a v n) i = upM (nth a.Decls i) (nth v.Means i) := by
  simp [upTo, nth, List.getD_eq_getElem?_getD, hi]
theorem upM_flat (h : d.Srt ≠ 5) : upM d m = m := if_pos h
theorem upM_arr (h : ¬ d.Srt ≠ 5) : upM d m = ⟨[], 0, 0, upCs m, m.MNum⟩ := if_neg h
theorem upTo_flat (h : (nth a.Decls k).Srt ≠ 5) : upTo a v k ++ [nth v.Means k] = upTo a v (k + 1) := by rw [upTo_next, upM_flat h]
theorem upTo_arr (h : ¬ (nth a.Decls k).Srt ≠ 5) : upTo a v k ++ [Meaning.mk [] 0 0 (upCs (nth v.Means k)) (nth v.Means k).MNum] = upTo a v (k + 1) := by rw [upTo_next, upM_arr h]
theorem upF_zero (h : ¬ (upF a v).1 ≠ 0) : (doF a).1 = 0 ∧ (meanF (doA a) v).1 = 0 := by
  by_cases h1 : (doF a).1 ≠ 0
  · rw [upF_do h1] at h; exact absurd h1 h
  · by_cases h2 : (meanF (doA a) v).1 ≠ 0
    · rw [upF_mean h1 h2] at h; exact absurd h2 h
    · exact ⟨Decidable.of_not_not h1, Decidable.of_not_not h2⟩
theorem upRaw_no {j : Nat} (hj : j < m.Rows.length) (h : ¬ upKeep m (nth m.Rows j) = true) : upRaw m (m.Rows.take (j + 1)) = upRaw m (m.Rows.take j) := by
  rw [take_succ_nth hj, upRaw, List.filter_append, List.map_append, List.filter_cons, if_neg h, upRaw]; simp
theorem upRaw_yes {j : Nat} (hj : j < m.Rows.length) (h : upKeep m (nth m.Rows j) = true) : upRaw m (m.Rows.take (j + 1)) = upRaw m (m.Rows.take j) ++ [upCell (nth m.Rows j)] := by
  rw [take_succ_nth hj, upRaw, List.filter_append, List.map_append, List.filter_cons, if_pos h, upRaw]; rfl
theorem upKeep_yes {e : Entry} (h : ¬ (e.ENum = m.MNum ∧ e.EDen = m.MDen)) : upKeep m e = true := by rw [upKeep, decide_eq_false h]; rfl
theorem upKeep_no {e : Entry} (h : e.ENum = m.MNum ∧ e.EDen = m.MDen) : ¬ upKeep m e = true := by rw [upKeep, decide_eq_true h]; exact Bool.false_ne_true
theorem upRaw_len {l : List Entry} : (upRaw m l).length ≤ l.length := by rw [upRaw, List.length_map]; exact List.length_filter_le ..
theorem upCs_mem {c : Cell} : c ∈ upCs m ↔ ∃ e ∈ m.Rows, upKeep m e = true ∧ c = upCell e := by
  rw [upCs, List.mem_mergeSort, upRaw, List.mem_map]
  constructor
  · rintro ⟨e, he, rfl⟩
    exact ⟨e, (List.mem_filter.1 he).1, (List.mem_filter.1 he).2, rfl⟩
  · rintro ⟨e, h1, h2, rfl⟩
    exact ⟨e, List.mem_filter.2 ⟨h1, h2⟩, rfl⟩
structure OneOk (m : Meaning) : Prop where
  few : m.Rows.length ≤ 1000
  one : ∀ e ∈ m.Rows, e.Args = [nth e.Args 0]
  things : ∀ e ∈ m.Rows, thingS (nth e.Args 0)
  uniq : m.Rows.Pairwise fun x y => nth x.Args 0 ≠ nth y.Args 0
  rest : m.rest = numV m.MNum ∧ thingS m.MNum
  rows : ∀ e ∈ m.Rows, e.to = numV e.ENum ∧ thingS e.ENum
theorem one_ok (h : CodeOk ⟨d.Name, [4], 4⟩ m) : OneOk m := by
  have h1 : ∀ e ∈ m.Rows, e.Args = [nth e.Args 0] := fun e he => by
    obtain ⟨j, hj, rfl⟩ := nth_of_mem he
    exact len1 (h.args j hj)
  refine ⟨h.few, h1, fun e he => ?_, ?_, ⟨thg_is h.rest, is_num h.rest⟩, fun e he => ?_⟩
  · obtain ⟨j, hj, rfl⟩ := nth_of_mem he
    exact h.things j hj _ (nth_mem (by have := h.args j hj; show 0 < _; rw [this]; exact Nat.one_pos))
  · rw [List.pairwise_iff_getElem]
    intro i j hi hj hij e
    have e1 : nth m.Rows i = m.Rows[i] := by simp [nth, hi]
    have e2 : nth m.Rows j = m.Rows[j] := by simp [nth, hj]
    refine h.once j i hij hj ?_
    rw [e1, e2, h1 _ (List.getElem_mem hi), h1 _ (List.getElem_mem hj), e]
  · obtain ⟨j, hj, rfl⟩ := nth_of_mem he
    exact ⟨thg_is (h.rows j hj), is_num (h.rows j hj)⟩
variable (h : OneOk m)
include h
theorem up_pair : (upCs m).Pairwise fun x y => x.At < y.At := by
  have p1 : (upRaw m m.Rows).Pairwise fun x y => x.At ≠ y.At := by
    rw [upRaw, List.pairwise_map]
    exact h.uniq.filter _
  have p2 : (upCs m).Pairwise fun x y => x.At ≠ y.At := ((List.mergeSort_perm (upRaw m m.Rows) cellLe).pairwise_iff (fun h e => h e.symm)).2 p1
  have p3 : (upCs m).Pairwise fun x y => cellLe x y = true := List.pairwise_mergeSort (fun x y z h1 h2 => by
    have h1 := of_decide_eq_true h1
    have h2 := of_decide_eq_true h2
    exact decide_eq_true (by omega)) (fun x y => by
    by_cases hxy : x.At ≤ y.At
    · simp [cellLe, hxy]
    · simp [cellLe]; omega) _
  refine (p2.and p3).imp fun h => ?_
  have := of_decide_eq_true h.2
  have := h.1
  omega
theorem up_arr : ArrOk ⟨0, 0, upCs m, m.MNum⟩ := by
  refine ⟨⟨rfl, rfl⟩, h.rest.2, fun i hi => ?_, fun i hi => ?_⟩
  · obtain ⟨e, he, hk, hc⟩ := upCs_mem.1 (nth_mem hi)
    have hr := h.rows e he
    refine ⟨?_, ?_, ?_⟩
    · show thingS (nth (upCs m) i).At
      rw [hc]; exact h.things e he
    · show thingS (nth (upCs m) i).It
      rw [hc]; exact hr.2
    · show (nth (upCs m) i).It ≠ m.MNum
      rw [hc]
      intro hn
      have hd : e.EDen = m.MDen := by
        have a1 : e.to.VDen = 1 := by rw [hr.1]; rfl
        have a2 : m.rest.VDen = 1 := by rw [h.rest.1]; rfl
        exact (show e.EDen = 1 from a1).trans (show m.MDen = 1 from a2).symm
      have : decide (e.ENum = m.MNum ∧ e.EDen = m.MDen) = true := decide_eq_true ⟨hn, hd⟩
      rw [upKeep, this] at hk
      cases hk
  · have hp := List.pairwise_iff_getElem.1 (up_pair h) i (i + 1) (by have : i + 1 < (upCs m).length := hi; omega) hi (by omega)
    have e1 : nth (upCs m) i = (upCs m)[i]'(by have : i + 1 < (upCs m).length := hi; omega) := by simp [nth, show i < (upCs m).length from by have : i + 1 < (upCs m).length := hi; omega]
    have e2 : nth (upCs m) (i + 1) = (upCs m)[i + 1]'hi := by simp [nth, show i + 1 < (upCs m).length from hi]
    show (nth (upCs m) i).At < (nth (upCs m) (i + 1)).At
    rw [e1, e2]; exact hp
theorem row_uniq {e e' : Entry} (he : e ∈ m.Rows) (he' : e' ∈ m.Rows) (hx : nth e.Args 0 = nth e'.Args 0) : e = e' := by
  obtain ⟨i, hi, rfl⟩ := nth_of_mem he
  obtain ⟨j, hj, rfl⟩ := nth_of_mem he'
  have e1 : nth m.Rows i = m.Rows[i] := by simp [nth, hi]
  have e2 : nth m.Rows j = m.Rows[j] := by simp [nth, hj]
  have hp := List.pairwise_iff_getElem.1 h.uniq
  rcases Nat.lt_trichotomy i j with hl | hl | hl
  · exact absurd (by rw [← e1, ← e2]; exact hx) (hp i j hi hj hl)
  · rw [hl]
  · exact absurd (by rw [← e1, ← e2]; exact hx.symm) (hp j i hj hi hl)
theorem same_one {e : Entry} {x : Val} (he : e ∈ m.Rows) : sameArgs e [x] ↔ nth e.Args 0 = x.VNum := by
  have hl : e.Args.length = 1 := by rw [h.one e he]; rfl
  constructor
  · intro hs; exact (hs 0 (by omega)).symm
  · intro hx i hi
    rw [show i = 0 by omega]; exact hx.symm
theorem up_told {x : Val} : toldV m [x] = numV (gotV ⟨0, 0, upCs m, m.MNum⟩ x.VNum) := by
  rw [gotV_find]
  show _ = numV (((upCs m).find? fun c => decide (c.At = x.VNum)).map (·.It) |>.getD m.MNum)
  have none_ : (∀ c ∈ upCs m, ¬ c.At = x.VNum) → ((upCs m).find? fun c => decide (c.At = x.VNum)) = none := fun hn => List.find?_eq_none.2 fun c hc hd => hn c hc (of_decide_eq_true hd)
  by_cases hx : ∃ e ∈ m.Rows, nth e.Args 0 = x.VNum
  · obtain ⟨e, he, hex⟩ := hx
    obtain ⟨i, hi, rfl⟩ := nth_of_mem he
    have ht : toldV m [x] = (nth m.Rows i).to := by
      rw [toldV, fst1_some (g := toldAt m [x]) (k := i) (y := (nth m.Rows i).to) (if_pos ((same_one h he).2 hex)) (Nat.zero_le _) (by omega) fun j _ hj => if_neg fun hs => ?_]; · rfl
      have hjm := nth_mem (show j < m.Rows.length by omega)
      have := (same_one h hjm).1 hs
      have e1 : nth m.Rows j = m.Rows[j]'(by omega) := by simp [nth, show j < m.Rows.length by omega]
      have e2 : nth m.Rows i = m.Rows[i] := by simp [nth, hi]
      exact List.pairwise_iff_getElem.1 h.uniq j i (by omega) hi hj (by rw [← e1, ← e2, this, hex])
    rw [ht, (h.rows _ he).1]
    by_cases hk : upKeep m (nth m.Rows i) = true
    · cases hf : (upCs m).find? fun c => decide (c.At = x.VNum) with
      | none => exact absurd (decide_eq_true (show (upCell (nth m.Rows i)).At = x.VNum from hex)) (List.find?_eq_none.1 hf _ (upCs_mem.2 ⟨_, he, hk, rfl⟩))
      | some c =>
        obtain ⟨e', he', _, hc⟩ := upCs_mem.1 (List.mem_of_find?_eq_some hf)
        have hat : c.At = x.VNum := of_decide_eq_true (List.find?_some (p := fun c : Cell => decide (c.At = x.VNum)) hf)
        have : nth m.Rows i = e' := row_uniq h he he' (hex.trans (by rw [← hat, hc]; rfl))
        rw [hc, ← this]; rfl
    · have hd : (nth m.Rows i).ENum = m.MNum := by
        unfold upKeep at hk
        by_cases he2 : (nth m.Rows i).ENum = m.MNum ∧ (nth m.Rows i).EDen = m.MDen
        · exact he2.1
        · rw [decide_eq_false he2] at hk; exact absurd rfl hk
      rw [none_ fun c hc hat => by
        obtain ⟨e', he', hk', rfl⟩ := upCs_mem.1 hc
        have := row_uniq h he he' (hex.trans hat.symm)
        rw [← this] at hk'
        exact hk hk']
      rw [show (nth m.Rows i).ENum = m.MNum from hd]; rfl
  · rw [none_ fun c hc hat => by
      obtain ⟨e, he, _, rfl⟩ := upCs_mem.1 hc
      exact hx ⟨e, he, hat⟩]
    rw [toldV_no fun j hj => if_neg fun hs => hx ⟨_, nth_mem hj, (same_one h (nth_mem hj)).1 hs⟩]
    exact h.rest.1
omit h
theorem up_one (hz : (doF a).1 = 0) (hv : (meanF (doA a) v).1 = 0) : v.Means.length = a.Decls.length ∧ a.Decls.length ≤ 30 ∧ ∀ i, i < a.Decls.length → (nth a.Decls i).Srt = 5 → OneOk (nth v.Means i) := by
  have hm := meanOk hv
  have hA := askOk (doF_zero hz).1
  have hD : (doA a).Decls = a.Decls.map declA := by rw [doA_ok hz]
  refine ⟨by rw [hm.len, hD, List.length_map], hA.few, fun i hi h5 => ?_⟩
  have := hm.code i (by rw [hD, List.length_map]; exact hi)
  rw [hD, nth_map hi, declA_yes h5] at this
  exact one_ok this
theorem up_fact (hu : ¬ (upF a v).1 ≠ 0) : (meanF a (upW a v)).1 = 0 ∧ ((valF a (upW a v)).1 = 0 ↔ (valF (doA a) v).1 = 0) ∧ holdsB a (upW a v) = holdsB (doA a) v := by
  obtain ⟨hz, hv⟩ := upF_zero hu
  have hm := meanOk hv
  have hA := askOk (doF_zero hz).1
  have hD : (doA a).Decls = a.Decls.map declA := by rw [doA_ok hz]
  have hW : upW a v = ⟨upTo a v a.Decls.length⟩ := upW_ok (upF_ok (not_not_intro hz) (not_not_intro hv))
  have hc : ∀ i, i < a.Decls.length → CodeOk (declA (nth a.Decls i)) (nth v.Means i) := fun i hi => by
    have := hm.code i (by rw [hD, List.length_map]; exact hi)
    rwa [hD, nth_map hi] at this
  have h1 : ∀ i, i < a.Decls.length → (nth a.Decls i).Srt = 5 → OneOk (nth v.Means i) := fun i hi h5 => by
    have := hc i hi
    rw [declA_yes h5] at this
    exact one_ok this
  have hw : (meanF a (upW a v)).1 = 0 := by
    rw [hW, meanF_good (w := ⟨upTo a v a.Decls.length⟩) (doF_zero hz).1 upTo_len fun i hi => ?_]
    show CodeOk _ (nth (upTo a v a.Decls.length) i)
    rw [upTo_at hi]
    by_cases h5 : (nth a.Decls i).Srt = 5
    · rw [upM_arr (not_not_intro h5)]
      refine ⟨Nat.zero_le _, fun k hk => absurd hk (Nat.not_lt_zero k), fun k hk => absurd hk (Nat.not_lt_zero k), fun k j _ hk => absurd hk (Nat.not_lt_zero k), ?_, fun k hk => absurd hk (Nat.not_lt_zero k)⟩
      rw [h5]
      show (if (5 : Int) = 5 then arrB _ else _) = true
      rw [if_pos rfl]
      exact arr_good (up_arr (h1 i hi h5))
    · rw [upM_flat h5]
      have := hc i hi
      rwa [declA_no h5] at this
  refine ⟨hw, agree_holds hz hw hv fun i hi => ⟨fun h5 K => ?_, fun h5 x _ => ?_⟩⟩
  · rw [hW]
    show toldV (nth (upTo a v a.Decls.length) i) K = _
    rw [upTo_at hi, upM_flat h5]
  · rw [hW]
    show _ = numV (gotV (toldV (nth (upTo a v a.Decls.length) i) []) x.VNum)
    rw [upTo_at hi, upM_arr (not_not_intro h5), up_told (h1 i hi h5)]
    rfl
theorem down_much (hw : (meanF a v).1 = 0) (hd : (downF a v).1 ≠ 0) : (downF a v).1 = 10 := by
  unfold downF at hd ⊢
  rw [if_neg (not_not_intro hw)] at hd ⊢
  cases hf : fst1 (downBad a v) 0 a.Decls.length with
  | none => rw [hf] at hd; exact absurd rfl hd
  | some x =>
    obtain ⟨j, hj⟩ := fst1_ex hf
    unfold downBad at hj
    split at hj
    · cases hj; rfl
    · cases hj
theorem up_down (hu : ¬ (upF a v).1 ≠ 0) (hd : ¬ (downF a (upW a v)).1 ≠ 0) : ((valF (doA a) (downW a (upW a v))).1 = 0 ↔ (valF (doA a) v).1 = 0) ∧ holdsB (doA a) (downW a (upW a v)) = holdsB (doA a) v := by
  obtain ⟨_, h2, h3⟩ := up_fact hu
  obtain ⟨_, d2, d3⟩ := down_fact (upF_zero hu).1 hd
  exact ⟨d2.symm.trans h2, d3.symm.trans h3⟩
theorem upW_len (h : (upF a v).1 ≠ 0) : ((upW a v).Means.length : Int) = 0 := by rw [upW_bad h]; rfl
end
end Go.Um
namespace Go.Um
open GoT (sz ag rdc)
open Go.RowKit
section
variable {α : Type} [GoT α] {P : Program} {o : Oper} {f : Fr} {next : FP} {H0 H : Heap} {M S0 : Nat → Prop} {L : List Ent}
end
end Go.Um
namespace Go.Um
def ltA (x y : Cell) : Bool := decide (x.At < y.At)
theorem ltA_cmp {x y : Cell} : ltA x y = decide (cmpI x.At y.At < 0) := by
  unfold ltA
  rw [Bool.eq_iff_iff, decide_eq_true_iff, decide_eq_true_iff]
  exact cmpI_neg.symm
theorem swoA : Go.Sort.SWO ltA where
  irrefl x := by simp [ltA]
  trans x y z h1 h2 := by simp [ltA] at *; omega
  ntrans x y z h1 h2 := by simp [ltA] at *; omega
theorem arr_nth {l : List Cell} {i : Nat} (hi : i < l.length) : l.toArray[i]! = nth l i := by
  simp [nth, hi]
theorem sort_unique {m : Meaning} (h : OneOk m) {l : List Cell} (hp : l.Perm (upRaw m m.Rows)) (hs : ∀ i j, i < j → j < l.length → ltA (nth l j) (nth l i) = false) : l = upCs m := by
  have hp2 : l.Perm (upCs m) := hp.trans (List.mergeSort_perm _ _).symm
  have q1 : (upCs m).Pairwise fun x y => x.At < y.At := up_pair h
  have n1 : l.Pairwise fun x y => x.At ≠ y.At := (hp2.pairwise_iff (fun h e => h e.symm)).2 (q1.imp fun h => by omega)
  have s1 : l.Pairwise fun x y => x.At ≤ y.At := by
    rw [List.pairwise_iff_getElem]
    intro i j hi hj hij
    have := hs i j hij hj
    have e1 : nth l i = l[i] := by simp [nth, hi]
    have e2 : nth l j = l[j] := by simp [nth, hj]
    rw [e1, e2] at this
    have := of_decide_eq_false this
    omega
  have p1 : l.Pairwise fun x y => x.At < y.At := (s1.and n1).imp fun h => by have := h.1; have := h.2; omega
  exact hp2.eq_of_pairwise (fun a b _ _ h1 h2 => by omega) p1 q1
end Go.Um
namespace Go.Um
open GoT (sz ag rdc)
open Go.RowKit
open Go.Sort (HoldsK putRowK flatK PermIn SortedIn grow)
def encC (c : Cell) : List Value := [I c.At, I c.It]
theorem encC_len (c : Cell) : (encC c).length = 2 := rfl
theorem encC_one (c : Cell) : ∀ v ∈ encC c, v.oneCell' = true := by
  intro v hv
  simp only [encC, List.mem_cons, List.not_mem_nil, or_false] at hv
  rcases hv with rfl | rfl <;> rfl
def cellsOf : List Cell → List Value
  | [] => []
  | c :: l => I c.At :: I c.It :: cellsOf l
theorem cellsOf_len : ∀ l : List Cell, (cellsOf l).length = l.length * 2
  | [] => rfl
  | c :: l => by simp only [cellsOf, List.length_cons, cellsOf_len l]; omega
theorem cellsOf_at : ∀ (l : List Cell) (t : Nat), t < l.length * 2 → (cellsOf l)[t]? = some ((encC (nth l (t / 2)))[t % 2]!)
  | [], t, h => by simp at h
  | c :: l, 0, _ => rfl
  | c :: l, 1, _ => rfl
  | c :: l, t + 2, h => by
    have h2 : t < l.length * 2 := by simp only [List.length_cons] at h; omega
    have := cellsOf_at l t h2
    rw [show (t + 2) / 2 = t / 2 + 1 by omega, show (t + 2) % 2 = t % 2 by omega]
    exact this
theorem flat_cells (l : List Cell) : flatK encC 2 l.toArray = (cellsOf l).toArray := by
  apply Array.ext_getElem?
  intro t
  by_cases h : t < l.length * 2
  · have h1 := Go.Sort.get_flatK encC 2 l.toArray t (by simpa using h)
    have h2 : t < (flatK encC 2 l.toArray).size := by rw [Go.Sort.size_flatK]; simpa using h
    rw [getElem!_pos _ t h2] at h1
    rw [Array.getElem?_eq_getElem h2, h1, List.getElem?_toArray, cellsOf_at l t h]
    have h3 : t / 2 < l.length := by omega
    rw [arr_nth h3]
  · rw [Array.getElem?_eq_none (by rw [Go.Sort.size_flatK]; simp; omega), Array.getElem?_eq_none (by simp [cellsOf_len]; omega)]
theorem rd_cellsOf {S : Nat → Prop} {H : Heap} : ∀ {l : List Cell} {cl : List Value}, RdCs S H cl l → cl = cellsOf l ∧ ∀ c ∈ l, In64 c.At ∧ In64 c.It
  | [], cl, h => ⟨h, fun c hc => by cases hc⟩
  | c :: l, cl, ⟨c1, c2, e, ⟨e1, i1, i2⟩, h2⟩ => by
    obtain ⟨e2, h3⟩ := rd_cellsOf h2
    refine ⟨by rw [e, e1, e2]; rfl, fun c' hc' => ?_⟩
    rcases List.mem_cons.1 hc' with rfl | hc'
    · exact ⟨i1, i2⟩
    · exact h3 c' hc'
theorem cellsOf_rd {S : Nat → Prop} {H : Heap} : ∀ {l : List Cell}, (∀ c ∈ l, In64 c.At ∧ In64 c.It) → RdCs S H (cellsOf l) l
  | [], _ => rfl
  | c :: l, h => ⟨[I c.At, I c.It], cellsOf l, rfl, ⟨rfl, (h c (List.mem_cons_self ..)).1, (h c (List.mem_cons_self ..)).2⟩, cellsOf_rd fun c' hc' => h c' (List.mem_cons_of_mem _ hc')⟩
theorem holds_row {w : World} {g : Nat} {t : TypeId} {cur : Array Value} {l : List Cell} (hg : w.heap[g]? = some (.cells cur t (0, 0))) (ht : cur.toList.take (l.length * 2) = cellsOf l) : HoldsK encC 2 w g 0 l.toArray := by
  unfold HoldsK
  rw [flat_cells]
  intro j hj
  have hj' : j < (cellsOf l).length := by simpa using hj
  refine ⟨?_, ?_⟩
  · unfold World.cell?
    rw [hg]
    show cur[0 + j]? = some ((cellsOf l).toArray[j]!)
    rw [getElem!_pos _ j hj, List.getElem_toArray, ← List.getElem?_eq_getElem hj', Nat.zero_add, ← ht, List.getElem?_take, if_pos (by rw [cellsOf_len] at hj'; exact hj'), Array.getElem?_toList]
  · unfold World.frozen?
    rw [hg]
    simp
theorem put_row {w : World} {g : Nat} {t : TypeId} {cur : Array Value} {l' : List Cell} {n : Nat} {os : Array Obj} (hg : w.heap[g]? = some (.cells cur t (0, 0))) (hn : l'.length * 2 ≤ cur.size) :
    ∃ new, (Go.Proofs.sortWorldK encC 2 w g 0 n l'.toArray os).heap[g]? = some (.cells new t (0, 0)) ∧ new.size = cur.size ∧ new.toList.take (l'.length * 2) = cellsOf l' := by
  have hlt : g < w.heap.size := (Array.getElem?_eq_some_iff.1 hg).1
  refine ⟨Go.Sort.putCells id 0 (cellsOf l').toArray cur, ?_, by simp [Go.Sort.putCells], ?_⟩
  · unfold Go.Proofs.sortWorldK putRowK Go.Sort.putRow Go.Sort.mapBlock grow
    rw [flat_cells]
    show ((w.heap.modify g _) ++ os)[g]? = _
    rw [Array.getElem?_append_left (by simpa using hlt), Array.getElem?_modify, if_pos rfl, hg]
    rfl
  · apply List.ext_getElem?
    intro j
    rw [List.getElem?_take]
    by_cases hj : j < l'.length * 2
    · rw [if_pos hj, Array.getElem?_toList]
      have hj2 : j < (cellsOf l').length := by rw [cellsOf_len]; exact hj
      unfold Go.Sort.putCells
      rw [Array.getElem?_mapIdx, Array.getElem?_eq_getElem (show j < cur.size by omega), Option.map_some, if_pos ⟨Nat.zero_le _, by simpa using hj2⟩]
      simp only [Nat.sub_zero, id]
      rw [getElem!_pos _ j (by simpa using hj2), List.getElem_toArray, ← List.getElem?_eq_getElem hj2]
    · rw [if_neg hj, List.getElem?_eq_none (by rw [cellsOf_len]; omega)]
theorem perm_in {l : List Cell} {d : Array Cell} (h : PermIn 0 l.length l.toArray d) : d.toList.Perm l ∧ d.size = l.length := by
  obtain ⟨h1, _, h2⟩ := h
  have hn : d.size = l.length := by simpa using h1
  have e1 : d.extract 0 l.length = d := by rw [← hn]; simp
  have e2 : l.toArray.extract 0 l.length = l.toArray := by rw [show l.length = l.toArray.size from rfl]; simp
  rw [e1, e2] at h2
  exact ⟨by simpa using h2, hn⟩
section
variable {P : Program} {H0 H : Heap} {M S0 : Nat → Prop} {L : List Ent}
theorem sort_row {F g0 : Nat} {cf : Cell → Cell → Int} {t : TypeId} {v : Value} {l : List Cell}
    (hsome : ∀ (blk cap : Nat) (d : Array Cell) (w : World), HoldsK encC 2 w blk 0 d → blk < w.heap.size → d.size < 4611686018427387904 → Calls P F #[.slice (some ⟨blk, 0, none⟩) d.size cap, .func (.func g0) #[] #[]] w fun e w' =>
      e = .returned (.tuple #[]) ∧ ∃ d' n os, PermIn 0 d.size d d' ∧ SortedIn (fun x y => decide (cf x y < 0)) 0 d.size d' ∧ w' = Go.Proofs.sortWorldK encC 2 w blk 0 n d' os)
    (hnone : ∀ w : World, Calls P F #[.slice none 0 0, .func (.func g0) #[] #[]] w fun e w' => e = .returned (.tuple #[]) ∧ w' = w)
    (hcf : ∀ x y : Cell, decide (cf x y < 0) = ltA x y) (h : St H0 M S0 (rowE t v l :: L) H) :
    CallsH P F #[v, .func (.func g0) #[] #[]] H fun rv H' => Ext (rowB v) H H' ∧ rv = .tuple #[] ∧ ∃ l' : List Cell, (l'.Perm l ∧ ∀ i j, i < j → j < l'.length → ltA (nth l' j) (nth l' i) = false) ∧ St H0 M S0 (rowE t v l' :: L) H' := by
  intro w hw
  subst hw
  obtain ⟨hby, cl, hcl, ⟨rfl, hn, rfl⟩ | ⟨g, c, cur, rfl, hg, hc, hm, hz, ht⟩⟩ := h.head
  · have hl : l = [] := List.eq_nil_of_length_eq_zero hn
    subst hl
    refine (hnone w).mono ?_
    rintro e w' ⟨rfl, rfl⟩
    exact ⟨_, rfl, Amb.refl _, Ext.refl _ _, rfl, [], ⟨List.Perm.refl _, fun i j _ hj => absurd hj (Nat.not_lt_zero j)⟩, h⟩
  obtain ⟨rfl, hin⟩ := rd_cellsOf hcl
  have hlt : g < w.heap.size := (Array.getElem?_eq_some_iff.1 hg).1
  have hb : GoT.bytes Cell = 16 := rfl
  have hs2 : sz Cell = 2 := rfl
  rw [hs2] at hz ht
  have hH : HoldsK encC 2 w g 0 l.toArray := holds_row hg ht
  have hsz : l.toArray.size < 4611686018427387904 := by
    rw [hb] at hby
    show l.length < _
    omega
  refine (hsome g c l.toArray w hH hlt hsz).mono ?_
  rintro e w' ⟨rfl, d', n, os, hp, hs, rfl⟩
  obtain ⟨hperm, hsize⟩ := perm_in hp
  have hd : d' = d'.toList.toArray := by simp
  generalize hl' : d'.toList = l' at hperm hd
  subst hd
  have hlen : l'.length = l.length := hperm.length_eq
  obtain ⟨new, hnew, hnz, hnt⟩ := put_row (n := n) (os := os) hg (show l'.length * 2 ≤ cur.size by omega)
  have hgr : w.heap.size ≤ (Go.Proofs.sortWorldK encC 2 w g 0 n l'.toArray os).heap.size := by
    unfold Go.Proofs.sortWorldK putRowK
    simp
  have hsame : ∀ b, b < w.heap.size → b ≠ g → (Go.Proofs.sortWorldK encC 2 w g 0 n l'.toArray os).heap[b]? = w.heap[b]? := by
    intro b hb hne
    unfold Go.Proofs.sortWorldK putRowK Go.Sort.putRow Go.Sort.mapBlock grow
    show ((w.heap.modify g _) ++ os)[b]? = _
    rw [Array.getElem?_append_left (by simpa using hb), Array.getElem?_modify, if_neg (Ne.symm hne)]
  have hrow : ∀ b, rowB (.slice (some ⟨g, 0, none⟩) l.length c) b ↔ b = g := by intro b; simp [rowB, Value.ownBlock, eq_comm]
  have hin' : ∀ x ∈ l', In64 x.At ∧ In64 x.It := fun x hx => hin x (hperm.mem_iff.1 hx)
  refine ⟨_, rfl, ⟨rfl, rfl, rfl⟩, ⟨hgr, fun b hb hne => hsame b hb fun e => hne ((hrow b).2 e)⟩, rfl, l', ⟨hperm, fun i j hij hj => ?_⟩, ?_⟩
  · have := hs i j (Nat.zero_le _) hij (by show j < l.length; omega)
    rw [arr_nth hj, arr_nth (show i < l'.length by omega)] at this
    exact (hcf _ _).symm.trans this
  · refine h.upd0 hgr (fun b hb hne => hsame b hb fun e => hne ((hrow b).2 e)) (fun b hb => .inl hb) ?_
    refine ⟨by rw [hlen]; exact hby, _, cellsOf_rd hin', .inr ⟨g, c, new, by rw [hlen], hnew, by omega, hm, by rw [hs2, hnz, hz], by rw [hs2]; exact hnt⟩⟩
end
end Go.Um
