/- Function values, and blocks of others that are read through a pointer. -/
import Derived.Test.YtacphjgolmolmaaUmLook
import Derived.Test.YtacphjgolmolmaaUmPlain
import Derived.Test.YtacphjgolmolmaaUmOwn
namespace Go.Um
open GoT (sz ag rdc)

/-- A block of others that is only read. -/
def fixE (g : Nat) (o : Obj) : Ent where
  blocks _ := False
  ok S H := ¬ S g ∧ H[g]? = some o
  lt _ h := h.elim
  ext h _ hs ht := by
    have hl := (Array.getElem?_eq_some_iff.1 h.2).1
    exact ⟨fun h' => h.1 (ht g hl h'), by rw [hs g hl (.inr h.1)]; exact h.2⟩

section
variable {H0 H : Heap} {M S0 : Nat → Prop} {L : List Ent} {P : Program}
theorem St.argFix {g : Nat} {ob : Obj} (h : St H0 M S0 L H) (hn : Bl0 L) (hb : H[g]? = some ob) (hs : ¬ S0 g) : St H0 M S0 (fixE g ob :: L) H where
  size := h.size
  old := h.old
  ok e he := by
    have hsl : ∀ b, SL S0 (fixE g ob :: L) b → SL S0 L b := by
      rintro b (hb | ⟨e, he, hb⟩)
      · exact .inl hb
      · rcases List.mem_cons.1 he with rfl | he
        · exact hb.elim
        · exact .inr ⟨e, he, hb⟩
    rcases List.mem_cons.1 he with rfl | he
    · refine ⟨fun h' => ?_, hb⟩
      rcases hsl g h' with h1 | ⟨e, he, h1⟩
      · exact hs h1
      · exact hn e he g h1
    · exact e.ext (h.ok e he) (Nat.le_refl _) (fun _ _ _ => rfl) fun b _ hb => hsl b hb
  ge e he b hb := by
    rcases List.mem_cons.1 he with rfl | he
    · exact hb.elim
    · exact h.ge e he b hb
  dj := List.pairwise_cons.2 ⟨fun _ _ _ hb => hb.elim, h.dj⟩
  s0 := h.s0
theorem Bl0.consF {g : Nat} {ob : Obj} (h : Bl0 L) : Bl0 (fixE g ob :: L) := by
  intro e he b hb
  rcases List.mem_cons.1 he with rfl | h'
  · exact hb
  · exact h e h' b hb
theorem St.fixd {g : Nat} {ob : Obj} (h : St H0 M S0 L H) (k : Nat) (hk : L[k]? = some (fixE g ob)) : H[g]? = some ob := (h.get k hk).2
theorem St.fixn {g : Nat} {ob : Obj} (h : St H0 M S0 L H) (k : Nat) (hk : L[k]? = some (fixE g ob)) : ¬ SL S0 L g := (h.get k hk).1

theorem St.res2 {α β : Type} [GoT α] [GoT β] {v u : Value} {x : α} {y : β} {H' : Heap} (h : St H0 M S0 L H) (hx : Ext NoB H H') (hr1 : Rd (fun b => SL S0 L b ∧ b < H.size) H' v x) (hr2 : Rd (fun b => SL S0 L b ∧ b < H.size) H' u y) :
    St H0 M S0 (rdE v x :: rdE u y :: L) H' :=
  ((h.ext hx).rd (hr2.sub fun b hb => ⟨hb, SL.lt h hb⟩)).rd (hr1.sub fun b hb => ⟨SL_rd hb, SL.lt h (SL_rd hb)⟩)
/-- A function value that, called with these arguments, does as said. -/
def FnH (P : Program) (fv : Value) (args : Array Value) (H : Heap) (R : Value → Heap → Prop) : Prop :=
  ∃ k ca, fv = .func (.func k) #[] ca ∧ (∀ args w, (callFunc k args).run P w = .ok (.enter k args) w) ∧ CallsH P k (args ++ ca) H R

theorem e_callF {o : Oper} {f : Fr} {next : FP} {fv : Value} {fo : Operand} {xs : Array Operand} {ts : Array TypeId} {args : Array Value} {R : Value → Heap → Prop}
    (ho : o.op = .call { callee := .value fo, args := xs, argTypes := ts }) (hf : ev f fo = fv) (hx : xs.map (ev f) = args) (hC : FnH P fv args H R)
    (h : ∀ v H', R v H' → next (updO f o.dst v) H') : OpE P o next f H := by
  obtain ⟨k, ca, rfl, hc, hC⟩ := hC
  exact e_callV ho hf hc hx hC h

theorem Ext.blk {g : Nat} {ob : Obj} {H H' : Heap} (hx : Ext NoB H H') (hb : H[g]? = some ob) : H'[g]? = some ob := by
  rw [hx.same g (Array.getElem?_eq_some_iff.1 hb).1 (fun h => h)]; exact hb
theorem Rd.extN {α : Type} [GoT α] {v : Value} {x : α} {H H' : Heap} (h : Rd NoB H v x) (hx : Ext NoB H H') : Rd NoB H' v x := h.ext hx (fun _ _ h => h)
end

/-- Where the first of a list is of which g holds; or -1. -/
def idxOf {α : Type} [Inhabited α] (g : α → Bool) (l : List α) : Int := (fst1 (fun k => if g (nth l k) then some (k : Int) else none) 0 l.length).getD (-1)
section
variable {α : Type} [Inhabited α] {g : α → Bool} {l : List α} {k : Nat}
theorem idxOf_at (hk : k < l.length) (h : ∀ j, j < k → g (nth l j) = false) (hg : g (nth l k) = true) : idxOf g l = k := by
  rw [idxOf, fst1_some (k := k) (y := (k : Int)) (by simp [hg]) (Nat.zero_le _) (by omega) fun j _ hj => by simp [h j hj]]; rfl
theorem idxOf_no (h : ∀ j, j < l.length → g (nth l j) = false) : idxOf g l = -1 := by
  rw [idxOf, fst1_none fun j _ hj => by simp [h j (by omega)]]; rfl
theorem nth_of_mem {x : α} (h : x ∈ l) : ∃ j, j < l.length ∧ nth l j = x := by
  obtain ⟨j, hj, rfl⟩ := List.mem_iff_getElem.1 h
  exact ⟨j, hj, nth_eq hj⟩
/-- Either all fail, or there is a first. -/
theorem first_or (g : α → Bool) (l : List α) : (∀ j, j < l.length → g (nth l j) = false) ∨ ∃ k, k < l.length ∧ (∀ j, j < k → g (nth l j) = false) ∧ g (nth l k) = true := by
  suffices h : ∀ n, n ≤ l.length → (∀ j, j < n → g (nth l j) = false) ∨ ∃ k, k < n ∧ (∀ j, j < k → g (nth l j) = false) ∧ g (nth l k) = true by
    exact h _ (Nat.le_refl _)
  intro n
  induction n with
  | zero => intro _; exact .inl fun j hj => absurd hj (Nat.not_lt_zero j)
  | succ n ih =>
    intro hn
    rcases ih (by omega) with h | ⟨k, h1, h2, h3⟩
    · cases hg : g (nth l n)
      · exact .inl fun j hj => by
          by_cases h0 : j = n
          · rw [h0]; exact hg
          · exact h j (by omega)
      · exact .inr ⟨n, by omega, h, hg⟩
    · exact .inr ⟨k, by omega, h2, h3⟩
theorem idxOf_any : (0 ≤ idxOf g l) ↔ l.any g = true := by
  rcases first_or g l with h | ⟨k, hk, h, hg⟩
  · rw [idxOf_no h]
    constructor
    · intro h; omega
    · intro h'
      obtain ⟨x, hx, hg⟩ := List.any_eq_true.1 h'
      obtain ⟨j, hj, rfl⟩ := nth_of_mem hx
      rw [h j hj] at hg; cases hg
  · rw [idxOf_at hk h hg]
    exact ⟨fun _ => List.any_eq_true.2 ⟨_, nth_mem hk, hg⟩, fun _ => by omega⟩
theorem idxOf_lt : idxOf g l < l.length := by
  rcases first_or g l with h | ⟨k, hk, h, hg⟩
  · rw [idxOf_no h]; omega
  · rw [idxOf_at hk h hg]; omega
end
end Go.Um
