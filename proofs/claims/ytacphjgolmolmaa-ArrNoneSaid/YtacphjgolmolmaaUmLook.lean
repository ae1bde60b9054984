import Derived.Test.YtacphjgolmolmaaUmOwn
import Derived.WalkSpells
namespace Go.Um
open GoT (sz ag rdc)
open KeyT (kv)
open Go.RowKit
section
variable {κ β : Type} [DecidableEq κ] [KeyT κ] [GoT β] {S S' : Nat → Prop} {H H' H0 : Heap} {P : Program} {o : Oper} {f : Fr} {U : Nat → Prop}

theorem lookD {t kt e : TypeId} {r : Nat} {m : List (κ × β)} {z : Value} {d : β} (ht : P.underlying t = some (.map kt e)) (hl : KeyLaw P kt κ) (hz : ∀ w, (zeroValue e).run P w = .ok z w)
    (hd : ∀ S H, Rd S H z d) (k : κ) (h : (mapE r m).ok S H) :
    ∃ u, (∀ U : Nat → Prop, ¬ U r → ∀ w : World, Ext U H w.heap → (Instr.lookup t (.map (some r)) (kv k) true).run P w = .ok (.tuple #[u, .bool (mget m k).isSome]) w ∧
      (Instr.lookup t (.map (some r)) (kv k) false).run P w = .ok u w) ∧ Rd S H u ((mget m k).getD d) := by
  obtain ⟨es, c, hr, hm, hn⟩ := h
  have hlt := (Array.getElem?_eq_some_iff.1 hr).1
  have key : ∀ (ok : Bool) (U : Nat → Prop), ¬ U r → ∀ w : World, Ext U H w.heap → (Instr.lookup t (.map (some r)) (kv k) ok).run P w = .ok (match midx m k with
      | some j => match es.toList[j]? with
        | some en => if ok then .tuple #[en.val, .bool true] else en.val
        | none => if ok then .tuple #[z, .bool false] else z
      | none => if ok then .tuple #[z, .bool false] else z) w := by
    intro ok U hU w hw
    have hr' : w.heap[r]? = some (.map es c) := by rw [hw.same r hlt hU]; exact hr
    have hf := hl.find k es.toList (m.map (·.1)) w hm.keys
    rw [midx_map] at hf
    have hg : (getObj r).run P w = .ok (.map es c) w := by simp [getObj, Sem.run, hr']
    simp only [Instr.lookup, Sem.run_bind, run_underlying ht, Result.andThen_ok, hg, Sem.run_pure, hl.check, hf]
    cases hmi : midx m k with
    | none => simp [hz]
    | some j =>
      simp only [Option.bind_some]
      cases he : es.toList[j]? with
      | none => simp [hz]
      | some en => simp
  rcases hm.find k with ⟨h1, h2⟩ | ⟨j, en, y, h1, h2, h3, h4⟩
  · refine ⟨z, fun U hU w hw => ⟨?_, ?_⟩, ?_⟩
    · rw [key true U hU w hw, h2, h1]; rfl
    · rw [key false U hU w hw, h2]; rfl
    · rw [h1]; exact hd S H
  · refine ⟨en.val, fun U hU w hw => ⟨?_, ?_⟩, ?_⟩
    · rw [key true U hU w hw, h1]; simp only [h2, h3]; rfl
    · rw [key false U hU w hw, h1]; simp only [h2]; rfl
    · rw [h3]; exact h4

theorem q_lookup1 {t : TypeId} {x i : Operand} {k : κ} {mv u v : Value} (ho : o.op = .lookup t x i true) (hx : ev f x = mv) (hi : ev f i = kv k)
    (hl : ∀ w : World, Ext U H w.heap → (Instr.lookup t mv (kv k) true).run P w = .ok u w ∧ (Instr.lookup t mv (kv k) false).run P w = .ok v w) : Quiet P o U f H u := by
  intro w hw; simp [execOp, ho, hx, hi, (hl w hw).1]
theorem q_lookup0 {t : TypeId} {x i : Operand} {k : κ} {mv u v : Value} (ho : o.op = .lookup t x i false) (hx : ev f x = mv) (hi : ev f i = kv k)
    (hl : ∀ w : World, Ext U H w.heap → (Instr.lookup t mv (kv k) true).run P w = .ok u w ∧ (Instr.lookup t mv (kv k) false).run P w = .ok v w) : Quiet P o U f H v := by
  intro w hw; simp [execOp, ho, hx, hi, (hl w hw).2]
end

theorem rdNil {α : Type} [GoT α] {S : Nat → Prop} {H : Heap} : Rd S H (.slice none 0 0) ([] : List α) :=
  Rd.list.2 ⟨none, 0, 0, [], rfl, rfl, Nat.le_refl _, by simp [maxLen], by simp, rfl, fun h => (h rfl).elim⟩

/-- Is a slice value nil? -/
def isNil : Value → Bool
  | .slice none _ _ => true
  | _ => false
theorem isNil_len {α : Type} [GoT α] {S : Nat → Prop} {H : Heap} {v : Value} {l : List α} (h : RdL S H v l) (hn : isNil v = true) : l = [] := by
  obtain ⟨a, n, c, cl, rfl, hn', _, _, _, _, hp⟩ := h
  cases a with
  | none =>
    cases l with
    | nil => rfl
    | cons x l => obtain ⟨b, off, h, _⟩ := hp (by simp); cases h
  | some a => cases hn

section
variable {α : Type} [GoT α] {S : Nat → Prop} {H : Heap} {P : Program} {o : Oper} {f : Fr} {U : Nat → Prop}
theorem q_nilS {t e u : TypeId} {x : Operand} {v : Value} {l : List α} (ho : o.op = .binOp .eql t x (.const (.slice none 0 0)) u) (ht : P.underlying t = some (.slice e)) (hx : ev f x = v) (hR : RdL S H v l) :
    Quiet P o U f H (B (isNil v)) := by
  obtain ⟨a, n, c, cl, rfl, _⟩ := hR
  intro w _
  have h := fun w a => Lib.run_eql_slice_nil (P := P) w t e a n c 0 0 ht
  have hev : ev f (.const (.slice none 0 0)) = .slice none 0 0 := rfl
  simp only [execOp, ho, hx, hev]
  cases a <;> simp [eqGuard, isNil, h]
theorem q_nilSn {t e u : TypeId} {x : Operand} {v : Value} {l : List α} (ho : o.op = .binOp .neq t x (.const (.slice none 0 0)) u) (ht : P.underlying t = some (.slice e)) (hx : ev f x = v) (hR : RdL S H v l) :
    Quiet P o U f H (B (!isNil v)) := by
  obtain ⟨a, n, c, cl, rfl, _⟩ := hR
  intro w _
  have h := fun w a => Go.run_neq_slice_nil_any (P := P) w t e a n c 0 0 ht
  have hev : ev f (.const (.slice none 0 0)) = .slice none 0 0 := rfl
  simp only [execOp, ho, hx, hev]
  cases a <;> simp [eqGuard, isNil, h]
end
end Go.Um
