/- What a callee is handed to write. -/
import Derived.Test.YtacphjgolmolmaaStepOwn
import Derived.Test.YtacphjgolmolmaaUmTrunc
namespace Go.Um
structure Given (S : Nat → Prop) (A : List Ent) (H : Heap) : Prop where
  ok : ∀ e ∈ A, e.ok S H
  pw : A.Pairwise fun e e' => ∀ b, e.blocks b → ¬ e'.blocks b
  lt : ∀ b, S b → b < H.size
  ins : ∀ b, own A b → S b
section
variable {H0 H : Heap} {M S0 S : Nat → Prop} {A L : List Ent}
theorem St.give (h : St H0 M S0 (A ++ L) H) : Given (SL S0 (A ++ L)) A H := ⟨h.okA, h.pwA, fun _ hb => SL.lt h hb, h.inA⟩
theorem Given.st (h : Given S A H) : St H (own A) (fun b => S b ∧ ¬ own A b) A H := St.handed h.ok h.pw h.lt h.ins
theorem Given.sub (h : Given S A H) {b : Nat} (hb : SL (fun b => S b ∧ ¬ own A b) A b) : S b := handed_sub h.ins hb
theorem St.rdG {α : Type} [GoT α] {v : Value} {x : α} (h : St H0 M S0 L H) (hr : Rd S H v x) (hs : ∀ b, SL S0 L b → S b) : St H0 M S0 (rdE v x :: L) H := h.rd (hr.sub hs)
end
end Go.Um
