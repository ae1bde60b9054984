/- Quotients and remainders by a positive number. -/
import Derived.Test.YtacphjgolmolmaaUmOps
namespace Go.Um
theorem not_tr {b : Bool} : (!b) = true ↔ ¬ b = true := by cases b <;> decide
section
variable {P : Program} {o : Oper} {U : Nat → Prop} {f : Fr} {H : Heap}
theorem tdiv_in {a n : Int} (ha : In64 a) (hn : 1 ≤ n) : In64 (a.tdiv n) := by
  obtain ⟨h1, h2⟩ := ha
  rcases Int.le_total 0 a with h0 | h0
  · have h3 := Int.tdiv_nonneg h0 (show (0 : Int) ≤ n by omega)
    have h4 : a.tdiv n ≤ a := by
      rw [Int.tdiv_eq_ediv_of_nonneg h0]; exact Int.ediv_le_self n h0
    constructor <;> omega
  · have e : a.tdiv n = -((-a).tdiv n) := by rw [Int.neg_tdiv]; omega
    have h3 := Int.tdiv_nonneg (show (0 : Int) ≤ -a by omega) (show (0 : Int) ≤ n by omega)
    have h4 : (-a).tdiv n ≤ -a := by
      rw [Int.tdiv_eq_ediv_of_nonneg (by omega)]; exact Int.ediv_le_self n (by omega)
    rw [e]
    constructor <;> omega
theorem tmod_rng {a n : Int} (hn : 1 ≤ n) : -n < a.tmod n ∧ a.tmod n < n := by
  have h1 := Int.tmod_lt_of_pos a (show 0 < n by omega)
  refine ⟨?_, h1⟩
  rcases Int.le_total 0 a with h0 | h0
  · have := Int.tmod_nonneg n h0; omega
  · have h3 := Int.tmod_lt_of_pos (-a) (show 0 < n by omega)
    rw [Int.neg_tmod] at h3; omega
theorem q_quo {t u : TypeId} {x y : Operand} {a b : Int} (ho : o.op = .binOp .quo t x y u) (hx : ev f x = I a) (hy : ev f y = I b) (ha : In64 a) (hb : 1 ≤ b) : Quiet P o U f H (I (a.tdiv b)) := by
  have hne : b ≠ 0 := by omega
  intro w _; simp [execOp, ho, hx, hy, eqGuard, binOp, Op.intArith, Op.intDiv, hne, wrap_in (tdiv_in ha hb)]
theorem q_rem {t u : TypeId} {x y : Operand} {a b : Int} (ho : o.op = .binOp .rem t x y u) (hx : ev f x = I a) (hy : ev f y = I b) (hb : 1 ≤ b ∧ b ≤ 9223372036854775807) : Quiet P o U f H (I (a.tmod b)) := by
  have hne : b ≠ 0 := by omega
  have hin : In64 (a.tmod b) := by have := tmod_rng (a := a) hb.1; constructor <;> omega
  intro w _; simp [execOp, ho, hx, hy, eqGuard, binOp, Op.intArith, Op.intDiv, hne, wrap_in hin]
end
end Go.Um
