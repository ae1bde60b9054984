/- The field of a struct value; a state whose first entry is told by other words. -/
import Derived.Test.YtacphjgolmolmaaUmOwn
namespace Go.Um
open Go
theorem St.eq1 {H0 H : Heap} {M S0 : Nat → Prop} {L : List Ent} {e e' : Ent} (h : St H0 M S0 (e :: L) H) (he : e = e') : St H0 M S0 (e' :: L) H := by rw [← he]; exact h
theorem q_field {P : Program} {o : Oper} {U : Nat → Prop} {f : Fr} {H : Heap} {t : TypeId} {x : Operand} {i : Nat} {cs : Array Value} {v : Value} {fs : Array Field} {fd : Field} (ho : o.op = .field t x i) (ht : P.underlying t = some (.struct fs)) (hf : fs[i]? = some fd)
    (ha : ∀ w, (isAgg fd.type).run P w = .ok false w) (hx : ev f x = .agg cs) (hv : cs[fd.offset]? = some v) : Quiet P o U f H v := by
  intro w _
  simp [execOp, ho, hx, Instr.field, run_underlying ht, hf, part, ha, asAgg, hv]
end Go.Um
