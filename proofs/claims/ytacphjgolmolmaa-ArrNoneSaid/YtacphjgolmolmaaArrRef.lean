/- The statement's own turning (arrays have no number there), and the program's. No program is in sight. -/
import Derived.Test.YtacphjgolmolmaaArrFact
namespace Go.Um
def refStep (a : Ask) (t : Turned) (k : Nat) : Turned :=
  if nth (sorts a) k = 5 then ⟨t.Nodes, t.To ++ [-1]⟩
  else if (nth a.Nodes k).Op = 24 then
    ⟨getL a t.To (nth t.To (kidN (nth a.Nodes k) 1)) t.Nodes (kidN (nth a.Nodes k) 0), t.To ++ [((getL a t.To (nth t.To (kidN (nth a.Nodes k) 1)) t.Nodes (kidN (nth a.Nodes k) 0)).length : Int) - 1]⟩
  else ⟨t.Nodes ++ [withKids (nth a.Nodes k) (kidS t.To (nth a.Nodes k).Kids)], t.To ++ [((t.Nodes ++ [withKids (nth a.Nodes k) (kidS t.To (nth a.Nodes k).Kids)]).length : Int) - 1]⟩
def refTo (a : Ask) : Nat → Turned
  | 0 => ⟨[], []⟩
  | k + 1 => refStep a (refTo a k) k
section
variable {a : Ask} {k m : Nat} {t : Turned}
theorem ref_arr (h : nth (sorts a) k = 5) : (refTo a (k + 1)).Nodes = (refTo a k).Nodes ∧ (refTo a (k + 1)).To = (refTo a k).To ++ [-1] := by rw [refTo, refStep, if_pos h]; exact ⟨rfl, rfl⟩
theorem ref_get (h : ¬ nth (sorts a) k = 5) (h2 : (nth a.Nodes k).Op = 24) : (refTo a (k + 1)).Nodes = getL a (refTo a k).To (nth (refTo a k).To (kidN (nth a.Nodes k) 1)) (refTo a k).Nodes (kidN (nth a.Nodes k) 0) ∧
    (refTo a (k + 1)).To = (refTo a k).To ++ [((getL a (refTo a k).To (nth (refTo a k).To (kidN (nth a.Nodes k) 1)) (refTo a k).Nodes (kidN (nth a.Nodes k) 0)).length : Int) - 1] := by rw [refTo, refStep, if_neg h, if_pos h2]; exact ⟨rfl, rfl⟩
theorem ref_flat (h : ¬ nth (sorts a) k = 5) (h2 : ¬ (nth a.Nodes k).Op = 24) : (refTo a (k + 1)).Nodes = (refTo a k).Nodes ++ [withKids (nth a.Nodes k) (kidS (refTo a k).To (nth a.Nodes k).Kids)] ∧
    (refTo a (k + 1)).To = (refTo a k).To ++ [(((refTo a k).Nodes ++ [withKids (nth a.Nodes k) (kidS (refTo a k).To (nth a.Nodes k).Kids)]).length : Int) - 1] := by rw [refTo, refStep, if_neg h, if_neg h2]; exact ⟨rfl, rfl⟩
theorem ref_last (h : ¬ nth (sorts a) k = 5) : (refTo a (k + 1)).To = (refTo a k).To ++ [((refTo a (k + 1)).Nodes.length : Int) - 1] := by
  by_cases h2 : (nth a.Nodes k).Op = 24
  · rw [(ref_get h h2).2, (ref_get h h2).1]
  · rw [(ref_flat h h2).2, (ref_flat h h2).1]
theorem refTo_to : ∀ k, (refTo a k).To.length = k
  | 0 => rfl
  | k + 1 => by
    rw [refTo, refStep]
    have ih := refTo_to k
    split
    · simp [ih]
    split <;> simp [ih]
/-- as the walk prints it -/
theorem getL_ref {to : List Int} {x : Int} {N : List Node} {k : Nat} (h9 : ¬ (nth a.Nodes k).Op = 9) (hk : kidN (nth a.Nodes k) 0 < k) {R : List Node} (hR : R = getL a to x N (kidN (nth a.Nodes k) 0)) :
    R ++ [withKids (Node.mk 8 [] 0 0 (ByteArray.mk #[])) [nth to (kidN (nth a.Nodes k) 1), x]] ++ [withKids (Node.mk 7 [] 0 0 (ByteArray.mk #[])) [(R.length : Int) - 1 + 1, nth to (kidN (nth a.Nodes k) 2), (R.length : Int) - 1]] = getL a to x N k := by
  subst hR
  rw [getL_put h9 hk, show ((getL a to x N (kidN (nth a.Nodes k) 0)).length : Int) - 1 + 1 = (getL a to x N (kidN (nth a.Nodes k) 0)).length from by omega]
  rfl
variable (h : AskOk a)
include h
theorem put_kids (hk : k < a.Nodes.length) (h25 : (nth a.Nodes k).Op = 25) : (nth a.Nodes k).Kids.length = 3 ∧ nth (sorts a) (kidN (nth a.Nodes k) 0) = 5 ∧ nth (sorts a) (kidN (nth a.Nodes k) 1) = 4 ∧ nth (sorts a) (kidN (nth a.Nodes k) 2) = 4 := by
  have hK := put_sort h25 (sort_at h hk).1
  have hl : (nth a.Nodes k).Kids.length = 3 := by
    have := congrArg List.length hK
    rw [kidS_len] at this; exact this
  have h0 := nth_kidS (S := sorts a) (l := (nth a.Nodes k).Kids) (j := 0) (by omega)
  have h1 := nth_kidS (S := sorts a) (l := (nth a.Nodes k).Kids) (j := 1) (by omega)
  have h2 := nth_kidS (S := sorts a) (l := (nth a.Nodes k).Kids) (j := 2) (by omega)
  rw [hK] at h0 h1 h2
  exact ⟨hl, h0.symm, h1.symm, h2.symm⟩
theorem getL_congr {to to' : List Int} {x : Int} {N : List Node} (he : ∀ j, j < m → nth (sorts a) j ≠ 5 → nth to j = nth to' j) : ∀ k, k < a.Nodes.length → nth (sorts a) k = 5 → k ≤ m → getL a to x N k = getL a to' x N k := by
  intro k
  induction k using Nat.strongRecOn with
  | _ k ih =>
    intro hk hs hm
    rcases arr_at h hk hs with h9 | ⟨h25, _⟩
    · rw [getL_name h9, getL_name h9]
    · obtain ⟨hl, h5, h41, h42⟩ := put_kids h hk h25
      have k0 := kid_lt h hk (j := 0) (by omega)
      have k1 := kid_lt h hk (j := 1) (by omega)
      have k2 := kid_lt h hk (j := 2) (by omega)
      have h9 : ¬ (nth a.Nodes k).Op = 9 := by omega
      rw [getL_put h9 k0.2, getL_put h9 k0.2, ih _ k0.2 (by omega) h5 (by omega), he _ (by omega) (by omega), he _ (by omega) (by omega)]
theorem ref_same : ∀ k, k ≤ a.Nodes.length → (refTo a k).Nodes = (turnTo a k).Nodes ∧ ∀ j, j < k → nth (sorts a) j ≠ 5 → nth (refTo a k).To j = nth (turnTo a k).To j := by
  intro k
  induction k with
  | zero => intro _; exact ⟨rfl, fun j hj => absurd hj (Nat.not_lt_zero j)⟩
  | succ k ih =>
    intro hk
    obtain ⟨h1, h2⟩ := ih (by omega)
    have t1 := refTo_to (a := a) k
    have t2 := turnTo_to (a := a) k
    have last : ∀ {x y : Int}, (nth (sorts a) k ≠ 5 → x = y) → ∀ j, j < k + 1 → nth (sorts a) j ≠ 5 → nth ((refTo a k).To ++ [x]) j = nth ((turnTo a k).To ++ [y]) j := by
      intro x y hxy j hj hs
      by_cases hjk : j = k
      · subst hjk
        have e1 := nth_last (l := (refTo a j).To) (x := x)
        have e2 := nth_last (l := (turnTo a j).To) (x := y)
        rw [t1] at e1; rw [t2] at e2
        rw [e1, e2]; exact hxy hs
      · rw [nth_app1 (by omega), nth_app1 (by omega)]; exact h2 j (by omega) hs
    by_cases h5 : nth (sorts a) k = 5
    · rw [(ref_arr h5).1, (ref_arr h5).2, (turn_arr h5).1, (turn_arr h5).2]
      exact ⟨h1, last fun hs => absurd h5 hs⟩
    · by_cases h24 : (nth a.Nodes k).Op = 24
      · obtain ⟨hl, g0, g1⟩ := got_kids h (by omega) h24
        have k0 := kid_lt h (k := k) (by omega) (j := 0) (by omega)
        have k1 := kid_lt h (k := k) (by omega) (j := 1) (by omega)
        rw [(ref_get h5 h24).1, (ref_get h5 h24).2, (turn_get h5 h24).1, (turn_get h5 h24).2, h2 _ k1.2 (by omega), h1, getL_congr h h2 _ (by omega) g0 (by omega)]
        exact ⟨rfl, last fun _ => rfl⟩
      · have hkk : kidS (refTo a k).To (nth a.Nodes k).Kids = kidS (turnTo a k).To (nth a.Nodes k).Kids := by
          unfold kidS
          refine List.map_congr_left fun x hx => ?_
          have := (h.nodes k (by omega)).kids x hx
          exact h2 _ (by omega) (flat_kids h (by omega) h5 h24 x hx)
        rw [(ref_flat h5 h24).1, (ref_flat h5 h24).2, (turn_flat h5 h24).1, (turn_flat h5 h24).2, hkk, h1]
        exact ⟨rfl, last fun _ => by rw [List.length_append, List.length_singleton]; omega⟩
omit h in
theorem nth_map {α β : Type} [Inhabited α] [Inhabited β] {f : α → β} {l : List α} (hk : k < l.length) : nth (l.map f) k = f (nth l k) := by simp [nth, hk]
/-- What is the same at the end. -/
theorem says_end (hz : (doF a).1 = 0) : (doA a).Nodes = (refTo a a.Nodes.length).Nodes ∧ (doA a).Decls = a.Decls.map declA ∧ (doA a).Hold.length = a.Hold.length ∧
    ∀ u, u < a.Hold.length → nth (doA a).Hold u = nth (refTo a a.Nodes.length).To (nth a.Hold u).toNat := by
  obtain ⟨r1, r2⟩ := ref_same h a.Nodes.length (Nat.le_refl _)
  rw [doA_ok hz]
  refine ⟨r1.symm, rfl, by simp, fun u hu => ?_⟩
  have hh := h.hold u hu
  show nth (a.Hold.map _) u = _
  rw [nth_map hu, r2 _ (by omega) (by unfold sorts; rw [hh.2]; decide)]; rfl
end
end Go.Um
