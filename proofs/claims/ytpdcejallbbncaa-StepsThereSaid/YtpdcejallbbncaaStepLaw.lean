/- What the law of plans as clauses asks. No program is in sight. -/
import Derived.Test.YtpdcejallbbncaaStepPlain
namespace Go.Um
section
variable {q : Quest} {n t c e : Int} {holds : List Bool} {k u : Nat}
def W2 (q : Quest) (n c e : Int) : Prop := ((questFault q).1 ≠ 0 → (c, e) = questFault q) ∧ ((questFault q).1 = 0 → (n < 0 ∨ 20 < n → c = 3 ∧ e = -2) ∧ (¬ (n < 0 ∨ 20 < n) → c = 0 ∧ e = 0))
theorem W2.yes (h : (questFault q).1 = 0 ∧ ¬ (0 ≤ n ∧ n ≤ 20)) : W2 q n 3 (-2) := ⟨fun h2 => absurd h.1 h2, fun _ => ⟨fun _ => ⟨rfl, rfl⟩, fun h2 => absurd (show 0 ≤ n ∧ n ≤ 20 by omega) h.2⟩⟩
theorem W2.no (h : ¬ ((questFault q).1 = 0 ∧ ¬ (0 ≤ n ∧ n ≤ 20))) : W2 q n (questFault q).1 (questFault q).2 := ⟨fun _ => rfl, fun h1 => ⟨fun h2 => absurd ⟨h1, fun h3 => by omega⟩ h, fun _ => by rw [(QW.of h1).code]; exact ⟨rfl, rfl⟩⟩⟩
theorem W2.ok (h : W2 q n c e) (hc : c = 0) : QW q ∧ ((questFault q).1 = 0) ∧ (0 ≤ n ∧ n ≤ 20) ∧ e = 0 := by
  by_cases h0 : (questFault q).1 = 0
  · by_cases h1 : n < 0 ∨ 20 < n
    · have := ((h.2 h0).1 h1).1; omega
    · exact ⟨QW.of h0, h0, by omega, ((h.2 h0).2 h1).2⟩
  · have h1 := h.1 h0
    exact absurd (by rw [← h1]; exact hc) h0
theorem W2.bad (h : W2 q n c e) (hc : ¬ c = 0) : c = (chkF q n).1 ∧ e = (chkF q n).2 := by
  by_cases h0 : (questFault q).1 = 0
  · by_cases h1 : n < 0 ∨ 20 < n
    · have := (h.2 h0).1 h1
      rw [chkF_2 (not_not_intro h0) h1]; exact this
    · exact absurd ((h.2 h0).2 h1).1 hc
  · have h1 := h.1 h0
    rw [chkF_1 h0]
    exact ⟨congrArg Prod.fst h1, congrArg Prod.snd h1⟩
theorem chk_much (h0 : (questFault q).1 = 0) (hn : 0 ≤ n ∧ n ≤ 20) (h : 120 < varsN q n) : (10 : Int) = (chkF q n).1 ∧ (0 : Int) = (chkF q n).2 := by rw [chkF_3 (not_not_intro h0) (by omega) h]; exact ⟨rfl, rfl⟩
theorem chk_fine (h0 : (questFault q).1 = 0) (hn : 0 ≤ n ∧ n ≤ 20) (h : ¬ 120 < varsN q n) : (0 : Int) = (chkF q n).1 ∧ (0 : Int) = (chkF q n).2 := by rw [chkF_4 (not_not_intro h0) (by omega) h]; exact ⟨rfl, rfl⟩
theorem bkTo_none : ∀ k, (∀ j, j < k → ¬ nth holds (actV q n (j : Nat) t - 1).toNat = true) → bkTo q n holds t k = -1
  | 0, _ => rfl
  | k + 1, h => by rw [bkTo_no (fun h2 => h k (by omega) h2.2)]; exact bkTo_none k fun j hj => h j (by omega)
theorem bkTo_keep (h : 0 ≤ bkTo q n holds t k) : ∀ d, bkTo q n holds t (k + d) = bkTo q n holds t k
  | 0 => rfl
  | d + 1 => by
    have ih := bkTo_keep h d
    rw [show k + (d + 1) = k + d + 1 by omega, bkTo_no (by rw [ih]; omega), ih]
theorem bkAt_is (hno : ∀ j, j < k → ¬ nth holds (actV q n (j : Nat) t - 1).toNat = true) (hk : k < q.Acts.length) (hy : nth holds (actV q n (k : Nat) t - 1).toNat = true) : bkAt q n holds t = (k : Int) := by
  have h1 : bkTo q n holds t (k + 1) = (k : Int) := bkTo_yes ⟨by rw [bkTo_none k hno]; decide, hy⟩
  have h2 := bkTo_keep (q := q) (n := n) (holds := holds) (t := t) (k := k + 1) (by omega) (q.Acts.length - (k + 1))
  rw [show k + 1 + (q.Acts.length - (k + 1)) = q.Acts.length by omega, h1] at h2
  exact h2
theorem bkAt_none (hno : ∀ j, j < q.Acts.length → ¬ nth holds (actV q n (j : Nat) t - 1).toNat = true) : bkAt q n holds t < 0 := by
  rw [bkAt, bkTo_none _ hno]; decide
theorem acts_mul (hu : (u : Int) < n) : (u : Int) * (q.Acts.length : Int) + (q.Acts.length : Int) ≤ n * (q.Acts.length : Int) := by
  have h2 : ((u : Int) + 1) * (q.Acts.length : Int) ≤ n * (q.Acts.length : Int) := Int.mul_le_mul_of_nonneg_right (by omega) (by omega)
  rwa [Int.add_mul, Int.one_mul] at h2
end
end Go.Um
