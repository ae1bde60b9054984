/- Small facts on lists and numbers. No program is in sight. -/
import Derived.Test.YtacphjgolmolmaaUmData
namespace Go.Um
open GoT (sz ag rdc)
section
variable {α : Type}
theorem nth_eq [Inhabited α] {l : List α} {k : Nat} (h : k < l.length) : nth l k = l[k] := by simp [nth, h]
theorem take_succ_nth [Inhabited α] {l : List α} {k : Nat} (h : k < l.length) : l.take (k + 1) = l.take k ++ [nth l k] := by
  rw [List.take_succ_eq_append_getElem h, nth_eq h]
theorem drop_nth [Inhabited α] {l : List α} {k : Nat} (h : k < l.length) : l.drop k = nth l k :: l.drop (k + 1) := by
  rw [List.drop_eq_getElem_cons h, nth_eq h]
theorem take_same [Inhabited α] {a b : List α} {k : Nat} (h : a.take k = b.take k) (ha : k < a.length) (hb : k < b.length) (hn : nth a k = nth b k) : a.take (k + 1) = b.take (k + 1) := by
  rw [take_succ_nth ha, take_succ_nth hb, h, hn]
theorem take_all {a b : List α} {k : Nat} (h : a.take k = b.take k) (ha : a.length ≤ k) (hb : b.length ≤ k) : a = b := by
  rwa [List.take_of_length_le ha, List.take_of_length_le hb] at h
theorem nth_zero [Inhabited α] {l : List α} (h : 0 < l.length) : l = nth l 0 :: l.drop 1 := by
  have := drop_nth h
  simpa using this
theorem nth_mem [Inhabited α] {l : List α} {k : Nat} (h : k < l.length) : nth l k ∈ l := by rw [nth_eq h]; exact List.getElem_mem h
end

/-- The first of i, i + 1, .. (n of them) at which g is told. -/
def fst1 {β : Type} (g : Nat → Option β) (i : Nat) : Nat → Option β
  | 0 => none
  | n + 1 => match g i with
    | some y => some y
    | none => fst1 g (i + 1) n
theorem fst1_none {β : Type} {g : Nat → Option β} : ∀ {n i : Nat}, (∀ j, i ≤ j → j < i + n → g j = none) → fst1 g i n = none := by
  intro n
  induction n with
  | zero => intro i _; rfl
  | succ n ih => intro i h; simp only [fst1, h i (Nat.le_refl _) (by omega)]; exact ih fun j h1 h2 => h j (by omega) (by omega)
theorem fst1_some {β : Type} {g : Nat → Option β} {k : Nat} {y : β} (hk : g k = some y) : ∀ {n i : Nat}, i ≤ k → k < i + n → (∀ j, i ≤ j → j < k → g j = none) → fst1 g i n = some y := by
  intro n
  induction n with
  | zero => intro i h1 h2 _; omega
  | succ n ih =>
    intro i h1 h2 h
    by_cases hik : i = k
    · subst hik; simp only [fst1, hk]
    · simp only [fst1, h i (Nat.le_refl _) (by omega)]
      exact ih (by omega) (by omega) fun j h3 h4 => h j (by omega) h4

/-- Where the first number of a list is that is not from lo to hi. -/
def badAt (lo hi : Int) (l : List Int) : Option Nat := fst1 (fun k => if lo ≤ nth l k ∧ nth l k ≤ hi then none else some k) 0 l.length
theorem badAt_none {lo hi : Int} {l : List Int} (h : ∀ j, j < l.length → lo ≤ nth l j ∧ nth l j ≤ hi) : badAt lo hi l = none :=
  fst1_none fun j _ hj => by rw [if_pos (h j (by omega))]
theorem badAt_some {lo hi : Int} {l : List Int} {k : Nat} (hk : k < l.length) (h : ∀ j, j < k → lo ≤ nth l j ∧ nth l j ≤ hi) (hb : ¬ (lo ≤ nth l k ∧ nth l k ≤ hi)) : badAt lo hi l = some k :=
  fst1_some (by rw [if_neg hb]) (Nat.zero_le _) (by omega) fun j _ hj => by rw [if_pos (h j hj)]
end Go.Um
