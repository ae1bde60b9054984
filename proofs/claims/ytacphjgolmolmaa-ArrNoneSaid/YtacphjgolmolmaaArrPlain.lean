/- Arrays taken out of a question. No program is in sight. -/
import Derived.Test.YtacphjgolmolmaaAskOk
namespace Go.Um
def withKids (n : Node) (K : List Int) : Node := ⟨n.Op, K, n.N, n.D, n.Name⟩
def nameNd (nm : Str) (x : Int) : Node := ⟨9, [x], 0, 0, nm⟩
def sameNd (x y : Int) : Node := ⟨8, [x, y], 0, 0, noText⟩
def pickNd (x y z : Int) : Node := ⟨7, [x, y, z], 0, 0, noText⟩
def kidN (n : Node) (j : Nat) : Nat := (nth n.Kids j).toNat
/-- The nodes that tell what an array (the node k) has at x. -/
def getL (a : Ask) (to : List Int) (x : Int) (N : List Node) (k : Nat) : List Node :=
  if (nth a.Nodes k).Op = 9 then N ++ [nameNd (nth a.Nodes k).Name x]
  else if h : kidN (nth a.Nodes k) 0 < k then
    getL a to x N (kidN (nth a.Nodes k) 0) ++ [sameNd (nth to (kidN (nth a.Nodes k) 1)) x] ++
      [pickNd ((getL a to x N (kidN (nth a.Nodes k) 0)).length : Int) (nth to (kidN (nth a.Nodes k) 2)) ((getL a to x N (kidN (nth a.Nodes k) 0)).length - 1)]
  else N
termination_by k
section
variable {a : Ask} {to : List Int} {x : Int} {N : List Node} {k : Nat}
theorem getL_name (h : (nth a.Nodes k).Op = 9) : getL a to x N k = N ++ [nameNd (nth a.Nodes k).Name x] := by rw [getL, if_pos h]
theorem getL_put (h : ¬ (nth a.Nodes k).Op = 9) (hk : kidN (nth a.Nodes k) 0 < k) : getL a to x N k = getL a to x N (kidN (nth a.Nodes k) 0) ++ [sameNd (nth to (kidN (nth a.Nodes k) 1)) x] ++
      [pickNd ((getL a to x N (kidN (nth a.Nodes k) 0)).length : Int) (nth to (kidN (nth a.Nodes k) 2)) ((getL a to x N (kidN (nth a.Nodes k) 0)).length - 1)] := by
  rw [getL, if_neg h, dif_pos hk]
theorem getL_len : ∀ k, N.length ≤ (getL a to x N k).length ∧ (getL a to x N k).length ≤ N.length + 2 * k + 1 := by
  intro k
  induction k using Nat.strongRecOn with
  | _ k ih =>
    by_cases h : (nth a.Nodes k).Op = 9
    · rw [getL_name h, List.length_append, List.length_singleton]; omega
    · by_cases hk : kidN (nth a.Nodes k) 0 < k
      · have := ih _ hk
        rw [getL_put h hk, List.length_append, List.length_append, List.length_singleton, List.length_singleton]; omega
      · rw [getL, if_neg h, dif_neg hk]; omega
end
/-- A node of an array: a name, or what was put. -/
inductive Chain (a : Ask) (m : Nat) : Nat → Prop
  | name {k : Nat} (hk : k < a.Nodes.length) (h : (nth a.Nodes k).Op = 9) : Chain a m k
  | put {k : Nat} (hk : k < a.Nodes.length) (h : ¬ (nth a.Nodes k).Op = 9) (hl : 3 ≤ (nth a.Nodes k).Kids.length) (hp : ∀ j, j < 3 → 0 ≤ nth (nth a.Nodes k).Kids j)
      (h0 : kidN (nth a.Nodes k) 0 < k) (h1 : kidN (nth a.Nodes k) 1 < m) (h2 : kidN (nth a.Nodes k) 2 < m) (hc : Chain a m (kidN (nth a.Nodes k) 0)) : Chain a m k
theorem Chain.lt {a : Ask} {m k : Nat} (h : Chain a m k) : k < a.Nodes.length := by cases h <;> assumption
theorem Chain.inv {a : Ask} {m k : Nat} (h : Chain a m k) (h9 : ¬ (nth a.Nodes k).Op = 9) : 3 ≤ (nth a.Nodes k).Kids.length ∧ (∀ j, j < 3 → 0 ≤ nth (nth a.Nodes k).Kids j) ∧ kidN (nth a.Nodes k) 0 < k ∧ kidN (nth a.Nodes k) 1 < m ∧ kidN (nth a.Nodes k) 2 < m ∧ Chain a m (kidN (nth a.Nodes k) 0) := by
  cases h with
  | name _ h => exact absurd h h9
  | put _ _ hl hp h0 h1 h2 hc => exact ⟨hl, hp, h0, h1, h2, hc⟩
/-! ### The sorts of kids -/
theorem op25 {o : Int} (h : 1 ≤ o ∧ o ≤ 25) : o = 1 ∨ o = 2 ∨ o = 3 ∨ o = 4 ∨ o = 5 ∨ o = 6 ∨ o = 7 ∨ o = 8 ∨ o = 9 ∨ o = 10 ∨ o = 11 ∨ o = 12 ∨ o = 13 ∨ o = 14 ∨ o = 15 ∨ o = 16 ∨ o = 17 ∨ o = 18 ∨ o = 19 ∨ o = 20 ∨ o = 21 ∨ o = 22 ∨ o = 23 ∨ o = 24 ∨ o = 25 := by omega
theorem sortN_ok {n : Node} {K : List Int} {d : Decl} (h : sortN n K d ≠ 0) : okS n K d = true ∧ sortN n K d = outS n K d := by
  unfold sortN at h ⊢
  split at h
  · rename_i h1; exact ⟨h1, if_pos h1⟩
  · exact absurd rfl h
section
variable {n : Node} {K : List Int} {d : Decl}
theorem get_sort (ho : n.Op = 24) (h : okS n K d = true) : K = [5, 4] := by
  simp only [okS, ho] at h
  exact of_decide_eq_true h
theorem put_sort (ho : n.Op = 25) (h : okS n K d = true) : K = [5, 4, 4] := by
  simp only [okS, ho] at h
  exact of_decide_eq_true h
theorem all_no5 {g : Int → Bool} (hg : g 5 = false) (h : K.all g = true) : ∀ s ∈ K, s ≠ 5 := by
  intro s hs e
  subst e
  rw [List.all_eq_true] at h
  rw [h _ hs] at hg; cases hg
theorem len1 {K : List Int} (h : K.length = 1) : K = [nth K 0] := by
  match K, h with
  | [x], _ => rfl
theorem len2 {K : List Int} (h : K.length = 2) : K = [nth K 0, nth K 1] := by
  match K, h with
  | [x, y], _ => rfl
theorem len3 {K : List Int} (h : K.length = 3) : K = [nth K 0, nth K 1, nth K 2] := by
  match K, h with
  | [x, y, z], _ => rfl
theorem one_no5 (h : K.length = 1) (h0 : nth K 0 ≠ 5) : ∀ s ∈ K, s ≠ 5 := by
  rw [len1 h]; intro s hs; rw [List.mem_singleton.1 hs]; exact h0
theorem two_no5 (h : K.length = 2) (h0 : nth K 0 ≠ 5) (h1 : nth K 1 ≠ 5) : ∀ s ∈ K, s ≠ 5 := by
  rw [len2 h]; intro s hs
  rcases List.mem_cons.1 hs with e | hs
  · rw [e]; exact h0
  · rw [List.mem_singleton.1 hs]; exact h1
theorem same_no5 (h : sameK K) (h0 : nth K 0 ≠ 5) : ∀ s ∈ K, s ≠ 5 := two_no5 (by have := h.1; omega) h0 (by rw [← h.2]; exact h0)
theorem word5 {s : Int} (h : wordS s) : s ≠ 5 := by unfold wordS at h; omega
/-- No kid of a node that is neither got nor put is an array; nor is the node, but for a name. -/
theorem flat_sort (ho : 1 ≤ n.Op ∧ n.Op ≤ 25) (h24 : n.Op ≠ 24) (h25 : n.Op ≠ 25) (hl : n.Op ≠ 9 → 0 ≤ kidsN n.Op → (K.length : Int) = kidsN n.Op) (hd : n.Op = 9 → ∀ s ∈ d.Args, s = 4) (hD : n.Op = 15 → 0 ≤ n.D)
    (h : okS n K d = true) : (∀ s ∈ K, s ≠ 5) ∧ (n.Op ≠ 9 → outS n K d ≠ 5) := by
  have zero : (K.length : Int) = 0 → ∀ s ∈ K, s ≠ 5 := fun e s hs => by
    have : K = [] := List.eq_nil_of_length_eq_zero (by omega)
    rw [this] at hs; cases hs
  have w5 : ∀ p : Prop, ∀ [Decidable p], wholeS p ≠ 5 := fun p _ => by have := wholeS_rng (p := p); omega
  rcases op25 ho with e | e | e | e | e | e | e | e | e | e | e | e | e | e | e | e | e | e | e | e | e | e | e | e | e
  · rw [e] at hl; exact ⟨zero (hl (by decide) (by decide)), fun _ => by rw [outS, e]; exact (by decide : (1 : Int) ≠ 5)⟩
  · rw [e] at hl; exact ⟨zero (hl (by decide) (by decide)), fun _ => by rw [outS, e]; exact (by decide : (1 : Int) ≠ 5)⟩
  · simp only [okS, e] at h; exact ⟨all_no5 (g := oneB) rfl h, fun _ => by rw [outS, e]; exact (by decide : (1 : Int) ≠ 5)⟩
  · simp only [okS, e] at h; exact ⟨all_no5 (g := oneB) rfl h, fun _ => by rw [outS, e]; exact (by decide : (1 : Int) ≠ 5)⟩
  · simp only [okS, e] at h; exact ⟨all_no5 (g := oneB) rfl h, fun _ => by rw [outS, e]; exact (by decide : (1 : Int) ≠ 5)⟩
  · simp only [okS, e] at h; exact ⟨all_no5 (g := oneB) rfl h, fun _ => by rw [outS, e]; exact (by decide : (1 : Int) ≠ 5)⟩
  · simp only [okS, e] at h
    have h2 : (nth K 0 = 1 ∧ nth K 1 = nth K 2) ∧ nth K 1 ≠ 5 := of_decide_eq_true h
    rw [e] at hl
    have h3 : K.length = 3 := by have : (K.length : Int) = 3 := hl (by decide) (by decide); omega
    refine ⟨?_, fun _ => by rw [outS, e]; exact h2.2⟩
    rw [len3 h3]
    intro s hs
    rcases List.mem_cons.1 hs with e | hs
    · omega
    rcases List.mem_cons.1 hs with e | hs
    · omega
    · rw [List.mem_singleton.1 hs]; omega
  · simp only [okS, e] at h
    have h2 : K.all numB' = true ∨ (sameK K ∧ (nth K 0 = 4 ∨ wordS (nth K 0))) := of_decide_eq_true h
    refine ⟨?_, fun _ => by rw [outS, e]; exact (by decide : (1 : Int) ≠ 5)⟩
    rcases h2 with h2 | ⟨h2, h3⟩
    · exact all_no5 (g := numB') rfl h2
    · exact same_no5 h2 (by rcases h3 with h3 | h3; · omega
                            · exact word5 h3)
  · simp only [okS, e] at h
    have h2 : K = d.Args := of_decide_eq_true h
    refine ⟨fun s hs => ?_, fun h9 => absurd e h9⟩
    rw [h2] at hs
    rw [hd e s hs]; decide
  · rw [e] at hl; exact ⟨zero (hl (by decide) (by decide)), fun _ => by rw [outS, e]; exact w5 _⟩
  · simp only [okS, e] at h; exact ⟨all_no5 (g := numB') rfl h, fun _ => by rw [outS, e]; exact w5 _⟩
  · simp only [okS, e] at h
    have h2 : numS (nth K 0) := of_decide_eq_true h
    rw [e] at hl
    have h3 : K.length = 1 := by have : (K.length : Int) = 1 := hl (by decide) (by decide); omega
    exact ⟨one_no5 h3 (by unfold numS at h2; omega), fun _ => by rw [outS, e]; exact w5 _⟩
  · simp only [okS, e] at h; exact ⟨all_no5 (g := numB') rfl h, fun _ => by rw [outS, e]; exact (by decide : (1 : Int) ≠ 5)⟩
  · simp only [okS, e] at h; exact ⟨all_no5 (g := numB') rfl h, fun _ => by rw [outS, e]; exact (by decide : (1 : Int) ≠ 5)⟩
  · rw [e] at hl
    exact ⟨zero (hl (by decide) (by decide)), fun _ => by have hh := hD e; rw [outS, e]; show 10 + n.D ≠ 5; omega⟩
  · simp only [okS, e] at h
    have h2 : wordS (nth K 0) := of_decide_eq_true h
    rw [e] at hl
    have h3 : K.length = 1 := by have : (K.length : Int) = 1 := hl (by decide) (by decide); omega
    exact ⟨one_no5 h3 (word5 h2), fun _ => by rw [outS, e]; exact word5 h2⟩
  · simp only [okS, e] at h
    have h2 : sameK K ∧ wordS (nth K 0) := of_decide_eq_true h
    exact ⟨same_no5 h2.1 (word5 h2.2), fun _ => by rw [outS, e]; exact word5 h2.2⟩
  · simp only [okS, e] at h
    have h2 : sameK K ∧ wordS (nth K 0) := of_decide_eq_true h
    exact ⟨same_no5 h2.1 (word5 h2.2), fun _ => by rw [outS, e]; exact word5 h2.2⟩
  · simp only [okS, e] at h
    have h2 : sameK K ∧ wordS (nth K 0) := of_decide_eq_true h
    exact ⟨same_no5 h2.1 (word5 h2.2), fun _ => by rw [outS, e]; exact word5 h2.2⟩
  · simp only [okS, e] at h
    have h2 : sameK K ∧ wordS (nth K 0) := of_decide_eq_true h
    exact ⟨same_no5 h2.1 (word5 h2.2), fun _ => by rw [outS, e]; exact word5 h2.2⟩
  · simp only [okS, e] at h
    have h2 : sameK K ∧ wordS (nth K 0) := of_decide_eq_true h
    exact ⟨same_no5 h2.1 (word5 h2.2), fun _ => by rw [outS, e]; exact word5 h2.2⟩
  · simp only [okS, e] at h
    have h2 : sameK K ∧ wordS (nth K 0) := of_decide_eq_true h
    exact ⟨same_no5 h2.1 (word5 h2.2), fun _ => by rw [outS, e]; exact (by decide : (1 : Int) ≠ 5)⟩
  · simp only [okS, e] at h
    have h2 : wordS (nth K 0) := of_decide_eq_true h
    rw [e] at hl
    have h3 : K.length = 1 := by have : (K.length : Int) = 1 := hl (by decide) (by decide); omega
    exact ⟨one_no5 h3 (word5 h2), fun _ => by rw [outS, e]; exact word5 h2⟩
  · exact absurd e h24
  · exact absurd e h25
end
end Go.Um
