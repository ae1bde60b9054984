/- Is a number in a list? -/
import Derived.Test.YtacphjgolmolmaaUmPlain
namespace Go.Um
def hasB (l : List Int) (f : Int) : Bool := decide (f ∈ l)
theorem any_has {l : List Int} {n : Int} : (l.any fun x => decide (x = n)) = true ↔ hasB l n = true := by
  rw [List.any_eq_true, hasB, decide_eq_true_iff]
  constructor
  · rintro ⟨x, hx, h⟩; rw [← of_decide_eq_true h]; exact hx
  · intro h; exact ⟨n, h, decide_eq_true rfl⟩
end Go.Um
