/- Turning a list round, place by place. No program is in sight. -/
import Derived.Test.YtpdcejallbbncaaUmPlain
namespace Go.Um
theorem nth_rangeR {β : Type} [Inhabited β] {g : Nat → β} {n f : Nat} (h : f < n) : nth ((List.range n).map g) f = g f := by simp [nth, h]
theorem nth_extR {β : Type} [Inhabited β] {l m : List β} (hl : l.length = m.length) (h : ∀ k, k < l.length → nth l k = nth m k) : l = m := by
  refine List.ext_getElem hl fun k h1 h2 => ?_
  have := h k h1
  rwa [nth_eq h1, nth_eq h2] at this
/-! ### Turning a list round -/
def revTo {α : Type} [Inhabited α] (xs : List α) (i : Nat) : List α := (List.range xs.length).map fun k => if k < i ∨ xs.length ≤ k + i then nth xs (xs.length - 1 - k) else nth xs k
section
variable {α : Type} [Inhabited α] {xs : List α} {i k : Nat}
theorem revTo_len : (revTo xs i).length = xs.length := by simp [revTo]
theorem revTo_nth (hk : k < xs.length) : nth (revTo xs i) k = if k < i ∨ xs.length ≤ k + i then nth xs (xs.length - 1 - k) else nth xs k := nth_rangeR hk
theorem revTo_zero : revTo xs 0 = xs := nth_extR revTo_len fun k hk => by rw [revTo_len] at hk; rw [revTo_nth hk, if_neg (by omega)]
theorem nth_setR {l : List α} {v : α} {j k : Nat} (hk : k < l.length) : nth (l.set j v) k = if j = k then v else nth l k := by
  rw [nth_eq (by simpa using hk), List.getElem_set, nth_eq hk]
theorem revTo_step (hi : 2 * i + 1 < xs.length) : ((revTo xs i).set i (nth (revTo xs i) (xs.length - 1 - i))).set (xs.length - 1 - i) (nth (revTo xs i) i) = revTo xs (i + 1) := by
  refine nth_extR (by simp [revTo]) fun k hk => ?_
  rw [List.length_set, List.length_set, revTo_len] at hk
  rw [nth_setR (by rw [List.length_set, revTo_len]; exact hk), nth_setR (by rw [revTo_len]; exact hk), revTo_nth hk, revTo_nth (k := i) (by omega), revTo_nth (k := xs.length - 1 - i) (by omega), revTo_nth (i := i + 1) hk, if_neg (show ¬ (i < i ∨ xs.length ≤ i + i) by omega), if_neg (show ¬ (xs.length - 1 - i < i ∨ xs.length ≤ xs.length - 1 - i + i) by omega)]
  by_cases h1 : xs.length - 1 - i = k
  · rw [if_pos h1, if_pos (by omega), ← h1]; congr 1; omega
  · rw [if_neg h1]
    by_cases h2 : i = k
    · rw [if_pos h2, if_pos (by omega), h2]
    · rw [if_neg h2]
      by_cases h3 : k < i ∨ xs.length ≤ k + i
      · rw [if_pos h3, if_pos (by omega)]
      · rw [if_neg h3, if_neg (by omega)]
theorem revTo_end (hi : xs.length ≤ 2 * i + 1) : revTo xs i = xs.reverse := nth_extR (by simp [revTo]) fun k hk => by
  rw [revTo_len] at hk
  rw [revTo_nth hk, nth_eq (l := xs.reverse) (by simpa using hk), List.getElem_reverse]
  by_cases h : k < i ∨ xs.length ≤ k + i
  · rw [if_pos h, nth_eq (by omega)]
  · rw [if_neg h, ← nth_eq (l := xs) (by omega)]; congr 1; omega
end

end Go.Um
