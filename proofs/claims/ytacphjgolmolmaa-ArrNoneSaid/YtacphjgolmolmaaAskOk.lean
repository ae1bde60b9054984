/- A question in which nothing is wrong. No program is in sight. -/
import Derived.Test.YtacphjgolmolmaaAskFact
import Derived.Test.YtacphjgolmolmaaRopeMath
namespace Go.Um
theorem fst1_zero {g : Nat → Option (Int × Int)} (hg : ∀ j x, g j = some x → x.1 ≠ 0) : ∀ {n i : Nat}, ((fst1 g i n).getD (0, 0)).1 = 0 → ∀ j, i ≤ j → j < i + n → g j = none := by
  intro n
  induction n with
  | zero => intro i _ j h1 h2; omega
  | succ n ih =>
    intro i h j h1 h2
    cases hi : g i with
    | some y =>
      simp only [fst1, hi, Option.getD_some] at h
      exact absurd h (hg i y hi)
    | none =>
      simp only [fst1, hi] at h
      by_cases hj : i = j
      · rw [← hj]; exact hi
      · exact ih h j (by omega) (by omega)
theorem declBad_ne {l : List Decl} : ∀ j x, declBad l j = some x → x.1 ≠ 0 := by
  intro j x h
  unfold declBad at h
  split at h
  · cases h; assumption
  · cases h
theorem declsF_zero {l : List Decl} (h : (declsF l).1 = 0) : l.length ≤ 30 ∧ ∀ i, i < l.length → codeD l i = 0 := by
  unfold declsF at h
  split at h
  · cases h
  · refine ⟨by omega, fun i hi => ?_⟩
    have := fst1_zero declBad_ne h i (Nat.zero_le _) (by omega)
    unfold declBad at this
    split at this
    · cases this
    · rename_i hn; exact Decidable.of_not_not hn
structure DeclOk (l : List Decl) (i : Nat) : Prop where
  name : isName (nth l i).Name
  once : (l.take i).any (sameName (nth l i).Name) = false
  few : (nth l i).Args.length ≤ 8
  srt : isSortS (nth l i).Srt
  args : argsBad (nth l i) = false
  arr : (nth l i).Srt = 5 → (nth l i).Args.length = 0
theorem codeD_zero {l : List Decl} {i : Nat} (h : codeD l i = 0) : DeclOk l i := by
  unfold codeD at h
  split at h
  · cases h
  rename_i h1
  split at h
  · cases h
  rename_i h2
  split at h
  · cases h
  rename_i h3
  split at h
  · cases h
  rename_i h4
  split at h
  · cases h
  rename_i h5
  split at h
  · cases h
  rename_i h6
  exact ⟨Decidable.of_not_not h1, Bool.eq_false_iff.2 h2, by omega, Decidable.of_not_not h4, Bool.eq_false_iff.2 h5, fun e => by omega⟩
theorem codeD_ok {l : List Decl} {i : Nat} (h : DeclOk l i) : codeD l i = 0 := by
  unfold codeD
  rw [if_neg (not_not_intro h.name), if_neg (by rw [h.once]; decide), if_neg (by have := h.few; omega), if_neg (not_not_intro h.srt), if_neg (by rw [h.args]; decide), if_neg (fun e => by have := h.arr e.1; omega)]
/-- What is so of a node that is in its form. -/
structure NodeOk (a : Ask) (i : Nat) (S : List Int) : Prop where
  op : 1 ≤ (nth a.Nodes i).Op ∧ (nth a.Nodes i).Op ≤ 25
  found : (nth a.Nodes i).Op = 9 → 0 ≤ findD a.Decls (nth a.Nodes i).Name
  size : 0 ≤ wantN a (nth a.Nodes i) → ((nth a.Nodes i).Kids.length : Int) = wantN a (nth a.Nodes i)
  few : (nth a.Nodes i).Kids.length ≤ 8
  kids : ∀ k ∈ (nth a.Nodes i).Kids, 0 ≤ k ∧ k < i
  formed : formedN (nth a.Nodes i)
  nums : numsB (nth a.Nodes i) = true
  sort : sortN (nth a.Nodes i) (kidS S (nth a.Nodes i).Kids) (declOf a (nth a.Nodes i)) ≠ 0
theorem nodeF_zero {a : Ask} {i : Nat} {S : List Int} (h : (nodeF a i S).2 = 0) : NodeOk a i S ∧ (nodeF a i S).1 = sortN (nth a.Nodes i) (kidS S (nth a.Nodes i).Kids) (declOf a (nth a.Nodes i)) := by
  unfold nodeF at h ⊢
  split at h
  · cases h
  rename_i h1
  rw [if_neg h1]
  split at h
  · cases h
  rename_i h2
  rw [if_neg h2]
  split at h
  · cases h
  rename_i h3
  rw [if_neg h3]
  split at h
  · cases h
  rename_i h4
  rw [if_neg h4]
  split at h
  · cases h
  rename_i h5
  rw [if_neg h5]
  split at h
  · cases h
  rename_i h6
  rw [if_neg h6]
  split at h
  · cases h
  rename_i h7
  rw [if_neg h7]
  refine ⟨⟨by omega, fun e => ?_, fun e => ?_, ?_, fun k hk => ?_, Decidable.of_not_not h5, Decidable.of_not_not h6, h7⟩, rfl⟩
  · exact Decidable.of_not_not fun hn => h2 ⟨e, by omega⟩
  · exact Decidable.of_not_not fun hn => h3 (.inl ⟨e, hn⟩)
  · have : ¬ 8 < ((nth a.Nodes i).Kids.length : Int) := fun hn => h3 (.inr hn)
    omega
  · have : ¬ kidBad i k := fun hb => h4 ⟨k, hk, hb⟩
    unfold kidBad at this
    omega
theorem nodeF_good {a : Ask} {i : Nat} {S : List Int} (h : NodeOk a i S) : nodeF a i S = (sortN (nth a.Nodes i) (kidS S (nth a.Nodes i).Kids) (declOf a (nth a.Nodes i)), 0) := by
  have ho := h.op
  refine nodeF_ok (fun e => by omega) (fun e => ?_) (fun e => ?_) (fun e => ?_) h.formed (by simp [h.nums]) h.sort
  · have := h.found e.1; omega
  · rcases e with e | e
    · exact e.2 (h.size e.1)
    · have := h.few; omega
  · obtain ⟨k, hk, hb⟩ := e
    have := h.kids k hk
    unfold kidBad at hb
    omega
theorem nth_default {α : Type} [Inhabited α] {l : List α} {k : Nat} (h : l.length ≤ k) : nth l k = default := by simp [nth, List.getD_eq_getElem?_getD, List.getElem?_eq_none h]
theorem nth_app1 {α : Type} [Inhabited α] {l m : List α} {k : Nat} (h : k < l.length) : nth (l ++ m) k = nth l k := by simp [nth, List.getD_eq_getElem?_getD, List.getElem?_append_left h]
theorem nth_app2 {α : Type} [Inhabited α] {l m : List α} {k : Nat} : nth (l ++ m) (l.length + k) = nth m k := by simp [nth, List.getD_eq_getElem?_getD, List.getElem?_append_right]
theorem nth_last {α : Type} [Inhabited α] {l : List α} {x : α} : nth (l ++ [x]) l.length = x := by
  have := nth_app2 (l := l) (m := [x]) (k := 0); exact this
theorem sortsTo_pre {a : Ask} {k j : Nat} (hj : j < k) : nth (sortsTo a k) j = (nodeF a j (sortsTo a j)).1 := by
  induction k with
  | zero => omega
  | succ k ih =>
    rw [sortsTo]
    by_cases h : j < k
    · rw [nth_app1 (by rw [sortsTo_len]; exact h)]; exact ih h
    · have : j = k := by omega
      subst this
      have h2 := nth_last (l := sortsTo a j) (x := (nodeF a j (sortsTo a j)).1)
      rwa [sortsTo_len] at h2
theorem sortsTo_same {a : Ask} {k m j : Nat} (hj : j < k) (hm : j < m) : nth (sortsTo a k) j = nth (sortsTo a m) j := by rw [sortsTo_pre hj, sortsTo_pre hm]
/-- A sort, or 0. -/
def sortR (s : Int) : Prop := 0 ≤ s ∧ s ≤ 18
theorem wholeS_rng {p : Prop} [Decidable p] : 2 ≤ wholeS p ∧ wholeS p ≤ 3 := by unfold wholeS; split <;> omega
theorem wholeS_r {p : Prop} [Decidable p] : sortR (wholeS p) := by have := wholeS_rng (p := p); unfold sortR; omega
theorem ite_r {p : Prop} [Decidable p] {x y : Int} (hx : p → sortR x) (hy : ¬ p → sortR y) : sortR (if p then x else y) := by
  by_cases h : p
  · rw [if_pos h]; exact hx h
  · rw [if_neg h]; exact hy h
theorem outS_rng {n : Node} {K : List Int} {d : Decl} (hK : ∀ j, sortR (nth K j)) (hd : sortR d.Srt) (hn : n.Op = 15 → n.D ≤ 8 ∧ 0 ≤ n.D) : sortR (outS n K d) := by
  have h4 : sortR 4 := ⟨by decide, by decide⟩
  have h5 : sortR 5 := ⟨by decide, by decide⟩
  have h6 : sortR 1 := ⟨by decide, by decide⟩
  have h7 : n.Op = 15 → sortR (10 + n.D) := fun e => by have := hn e; unfold sortR; omega
  unfold outS
  refine ite_r (fun _ => hK 1) fun _ => ite_r (fun _ => hd) fun _ => ite_r (fun _ => wholeS_r) fun _ => ite_r (fun _ => wholeS_r) fun _ => ite_r (fun _ => wholeS_r) fun _ => ite_r h7 fun _ =>
    ite_r (fun _ => hK 0) fun _ => ite_r (fun _ => hK 0) fun _ => ite_r (fun _ => hK 0) fun _ => ite_r (fun _ => hK 0) fun _ => ite_r (fun _ => hK 0) fun _ => ite_r (fun _ => hK 0) fun _ => ite_r (fun _ => hK 0) fun _ => ite_r (fun _ => h4) fun _ => ite_r (fun _ => h5) fun _ => h6
theorem nth_kidS {S l : List Int} {j : Nat} (hj : j < l.length) : nth (kidS S l) j = nth S (nth l j).toNat := by
  simp [kidS, nth, hj]
theorem kidS_rng {S l : List Int} (hS : ∀ j, sortR (nth S j)) : ∀ j, sortR (nth (kidS S l) j) := by
  intro j
  by_cases hj : j < l.length
  · rw [nth_kidS hj]; exact hS _
  · rw [nth_default (by rw [kidS_len]; omega)]; exact ⟨by decide, by decide⟩
theorem declOf_rng {a : Ask} (hd : (declsF a.Decls).1 = 0) {n : Node} : sortR (declOf a n).Srt := by
  unfold declOf
  split
  · by_cases h : (findD a.Decls n.Name).toNat < a.Decls.length
    · have := (codeD_zero ((declsF_zero hd).2 _ h)).srt
      unfold isSortS wordS at this
      unfold sortR
      omega
    · rw [nth_default (by omega)]; exact ⟨by decide, by decide⟩
  · exact ⟨by decide, by decide⟩
theorem nodeF_rng {a : Ask} {i : Nat} {S : List Int} (hd : (declsF a.Decls).1 = 0) (hS : ∀ j, sortR (nth S j)) : sortR (nodeF a i S).1 := by
  have z : sortR 0 := ⟨by decide, by decide⟩
  unfold nodeF
  split
  · exact z
  split
  · exact z
  split
  · exact z
  split
  · exact z
  split
  · exact z
  split
  · exact z
  rename_i h6
  split
  · exact z
  · show sortR (sortN _ _ _)
    unfold sortN
    split
    · exact outS_rng (kidS_rng hS) (declOf_rng hd) (sort_D (by simpa using h6))
    · exact z
theorem sortsTo_rng {a : Ask} (hd : (declsF a.Decls).1 = 0) : ∀ k j, sortR (nth (sortsTo a k) j) := by
  intro k
  induction k with
  | zero => intro j; rw [nth_default (by simp [sortsTo])]; exact ⟨by decide, by decide⟩
  | succ k ih =>
    intro j
    by_cases hj : j < k + 1
    · rw [sortsTo_pre hj]
      by_cases h : j = k
      · subst h; exact nodeF_rng hd ih
      · have h2 := ih j
        rw [sortsTo_pre (by omega)] at h2
        exact h2
    · rw [nth_default (by rw [sortsTo_len]; omega)]; exact ⟨by decide, by decide⟩
/-- Nothing is wrong. -/
structure AskOk (a : Ask) : Prop where
  dz : (declsF a.Decls).1 = 0
  few : a.Decls.length ≤ 30
  decls : ∀ i, i < a.Decls.length → DeclOk a.Decls i
  many : a.Nodes.length ≤ 200
  nodes : ∀ i, i < a.Nodes.length → NodeOk a i (sortsTo a i)
  sorts : ∀ i k, i < k → k ≤ a.Nodes.length → nth (sortsTo a k) i = sortN (nth a.Nodes i) (kidS (sortsTo a i) (nth a.Nodes i).Kids) (declOf a (nth a.Nodes i))
  holds : a.Hold.length ≤ 200
  hold : ∀ k, k < a.Hold.length → (0 ≤ nth a.Hold k ∧ nth a.Hold k < a.Nodes.length) ∧ nth (sortsTo a a.Nodes.length) (nth a.Hold k).toNat = 1
theorem nodeBad_ne {a : Ask} : ∀ j x, nodeBad a j = some x → x.1 ≠ 0 := by
  intro j x h
  unfold nodeBad at h
  split at h
  · cases h; assumption
  · cases h
theorem holdBad_ne {a : Ask} : ∀ j x, holdBad a j = some x → x.1 ≠ 0 := by
  intro j x h
  unfold holdBad at h
  split at h
  · cases h; exact (by decide : (3 : Int) ≠ 0)
  · split at h
    · cases h; exact (by decide : (8 : Int) ≠ 0)
    · cases h
theorem askOk {a : Ask} (h : (sortsF a).1 = 0) : AskOk a := by
  unfold sortsF at h
  split at h
  · rename_i h1; exact absurd h h1
  rename_i h1
  have hd := Decidable.of_not_not h1
  split at h
  · cases h
  rename_i h2
  have hn : ∀ j, j < a.Nodes.length → nodeBad a j = none := by
    intro j hj
    refine fst1_zero nodeBad_ne (i := 0) (n := a.Nodes.length) ?_ j (Nat.zero_le _) (by omega)
    revert h
    cases fst1 (nodeBad a) 0 a.Nodes.length with
    | some x => exact fun h => h
    | none => exact fun _ => rfl
  rw [fst1_none fun j _ hj => hn j (by omega)] at h
  have hno : ∀ i, i < a.Nodes.length → (nodeF a i (sortsTo a i)).2 = 0 := by
    intro i hi
    have := hn i hi
    unfold nodeBad at this
    split at this
    · cases this
    · rename_i h'; exact Decidable.of_not_not h'
  simp only at h
  split at h
  · cases h
  rename_i h3
  refine ⟨hd, (declsF_zero hd).1, fun i hi => codeD_zero ((declsF_zero hd).2 i hi), by omega, fun i hi => (nodeF_zero (hno i hi)).1, fun i k hi hk => ?_, by omega, fun k hk => ?_⟩
  · rw [sortsTo_pre hi, (nodeF_zero (hno i (by omega))).2]
  · have := fst1_zero holdBad_ne h k (Nat.zero_le _) (by omega)
    unfold holdBad at this
    split at this
    · cases this
    rename_i h4
    split at this
    · cases this
    rename_i h5
    exact ⟨by omega, Decidable.of_not_not h5⟩
/-- The other way. -/
theorem sortsF_good {a : Ask} (hd : a.Decls.length ≤ 30) (h1 : ∀ i, i < a.Decls.length → DeclOk a.Decls i) (h2 : a.Nodes.length ≤ 200) (h3 : ∀ i, i < a.Nodes.length → NodeOk a i (sortsTo a i))
    (h4 : a.Hold.length ≤ 200) (h5 : ∀ k, k < a.Hold.length → (0 ≤ nth a.Hold k ∧ nth a.Hold k < a.Nodes.length) ∧ nth (sortsTo a a.Nodes.length) (nth a.Hold k).toNat = 1) : sortsF a = (0, 0) := by
  have hz : declsF a.Decls = (0, 0) := declsF_no (by omega) fun j hj => codeD_ok (h1 j hj)
  refine sortsF_ok (by rw [hz]; decide) (by omega) (fun j hj => ?_) (by omega) fun j hj => ?_
  · rw [nodeF_good (h3 j hj)]
  · have := h5 j hj
    exact holdBad_no (by omega) (not_not_intro this.2)
end Go.Um
