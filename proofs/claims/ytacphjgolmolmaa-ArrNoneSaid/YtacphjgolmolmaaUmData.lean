/- How data lie in the heap. -/
import Derived.Test.YtacphjgolmolmaaUmOps
namespace Go.Um
open Go.RowKit

def nth {α : Type} [Inhabited α] (l : List α) (k : Nat) : α := l.getD k default

theorem nth_get {α : Type} [Inhabited α] {l : List α} {k : Nat} (h : k < l.length) : l[k]? = some (nth l k) := by
  simp [nth, List.getD_eq_getElem?_getD, List.getElem?_eq_getElem h]

/-- The cells of a block from a place on. -/
def CellsAt (H : Heap) (b off : Nat) (cs : List Value) : Prop := ∀ j, j < cs.length → hcell H b (off + j) = cs[j]?

theorem CellsAt.ext {S : Nat → Prop} {H H' : Heap} {b off : Nat} {cs : List Value} (h : CellsAt H b off cs) (hx : Ext S H H') (hs : ¬ S b) : CellsAt H' b off cs := by
  intro j hj
  have := h j hj
  rw [List.getElem?_eq_getElem hj] at this ⊢
  exact hx.hcell this hs

/-- Data that lie in cells. S: blocks that none of them lies in. -/
class GoT (α : Type) extends Inhabited α where
  sz : Nat
  bytes : Nat
  ag : Bool
  rdc : (Nat → Prop) → Heap → List Value → α → Prop
  pos : 0 < sz
  one : ag = false → sz = 1
  len : ∀ {S H cs x}, rdc S H cs x → cs.length = sz
  cell : ∀ {S H cs x}, rdc S H cs x → ∀ v ∈ cs, v.oneCell' = true
  ext : ∀ {S S' : Nat → Prop} {H H' cs x}, rdc S H cs x → Ext S H H' → (∀ b, b < H.size → S' b → S b) → rdc S' H' cs x

open GoT (sz ag rdc)

variable {α β : Type}

/-- Cells that read as a list. -/
def RdCs [GoT α] (S : Nat → Prop) (H : Heap) : List Value → List α → Prop
  | cl, [] => cl = []
  | cl, x :: xs => ∃ c1 c2, cl = c1 ++ c2 ∧ rdc S H c1 x ∧ RdCs S H c2 xs

section
variable [GoT α] {S S' : Nat → Prop} {H H' : Heap}

theorem RdCs.len {xs : List α} : ∀ {cl : List Value}, RdCs S H cl xs → cl.length = xs.length * sz α := by
  induction xs with
  | nil => intro cl h; cases h; simp
  | cons x xs ih =>
    rintro cl ⟨c1, c2, rfl, h1, h2⟩
    simp [ih h2, GoT.len h1, Nat.add_mul, Nat.add_comm]
theorem RdCs.cell {xs : List α} : ∀ {cl : List Value}, RdCs S H cl xs → ∀ v ∈ cl, v.oneCell' = true := by
  induction xs with
  | nil => intro cl h; cases h; simp
  | cons x xs ih =>
    rintro cl ⟨c1, c2, rfl, h1, h2⟩ v hv
    rcases List.mem_append.1 hv with h | h
    · exact GoT.cell h1 v h
    · exact ih h2 v h
theorem RdCs.ext {xs : List α} (hx : Ext S H H') (hs : ∀ b, b < H.size → S' b → S b) : ∀ {cl : List Value}, RdCs S H cl xs → RdCs S' H' cl xs := by
  induction xs with
  | nil => intro cl h; exact h
  | cons x xs ih => rintro cl ⟨c1, c2, rfl, h1, h2⟩; exact ⟨c1, c2, rfl, GoT.ext h1 hx hs, ih h2⟩
theorem RdCs.app {xs ys : List α} {cl dl : List Value} (h : RdCs S H cl xs) (k : RdCs S H dl ys) : RdCs S H (cl ++ dl) (xs ++ ys) := by
  induction xs generalizing cl with
  | nil => cases h; simpa using k
  | cons x xs ih =>
    obtain ⟨c1, c2, rfl, h1, h2⟩ := h
    exact ⟨c1, c2 ++ dl, by simp, h1, ih h2⟩
theorem RdCs.nth {xs : List α} {k : Nat} (hk : k < xs.length) {cl : List Value} (h : RdCs S H cl xs) :
    ∃ cs, rdc S H cs (nth xs k) ∧ ∀ j, j < cs.length → cl[k * sz α + j]? = cs[j]? := by
  induction xs generalizing cl k with
  | nil => simp at hk
  | cons x xs ih =>
    obtain ⟨c1, c2, rfl, h1, h2⟩ := h
    have hl := GoT.len h1
    cases k with
    | zero => refine ⟨c1, by simpa [Um.nth] using h1, fun j hj => ?_⟩; simp [List.getElem?_append_left hj]
    | succ k =>
      obtain ⟨cs, hr, hc⟩ := ih (by simpa using hk) h2
      refine ⟨cs, by simpa [Um.nth] using hr, fun j hj => ?_⟩
      rw [← hc j hj, List.getElem?_append_right (by rw [hl, Nat.succ_mul]; omega)]
      congr 1
      rw [hl, Nat.succ_mul]; omega
theorem RdCs.take {xs : List α} (k : Nat) {cl : List Value} (h : RdCs S H cl xs) : RdCs S H (cl.take (k * sz α)) (xs.take k) := by
  induction xs generalizing cl k with
  | nil => cases h; simp [RdCs]
  | cons x xs ih =>
    obtain ⟨c1, c2, rfl, h1, h2⟩ := h
    have hl := GoT.len h1
    cases k with
    | zero => simp [RdCs]
    | succ k =>
      refine ⟨c1, c2.take (k * sz α), ?_, h1, ih k h2⟩
      rw [List.take_append]
      rw [List.take_of_length_le (by rw [hl, Nat.succ_mul]; omega)]
      congr 2
      rw [hl, Nat.succ_mul]; omega
theorem RdCs.drop {xs : List α} (k : Nat) {cl : List Value} (h : RdCs S H cl xs) : RdCs S H (cl.drop (k * sz α)) (xs.drop k) := by
  induction xs generalizing cl k with
  | nil => cases h; simp [RdCs]
  | cons x xs ih =>
    obtain ⟨c1, c2, rfl, h1, h2⟩ := h
    have hl := GoT.len h1
    cases k with
    | zero => exact ⟨c1, c2, by simp, h1, h2⟩
    | succ k =>
      have := ih k h2
      rw [List.drop_append, List.drop_of_length_le (by rw [hl, Nat.succ_mul]; omega)]
      simp only [List.nil_append, List.drop_succ_cons]
      rw [show (k + 1) * sz α - c1.length = k * sz α from by rw [hl, Nat.succ_mul]; omega]
      exact this
theorem RdCs.one {x : α} {cs : List Value} (h : rdc S H cs x) : RdCs S H cs [x] := ⟨cs, [], by simp, h, rfl⟩
end

/-- A slice that reads as a list. -/
def RdL [GoT α] (S : Nat → Prop) (H : Heap) (v : Value) (l : List α) : Prop :=
  ∃ a n c cl, v = .slice a n c ∧ n = l.length ∧ n ≤ c ∧ c ≤ maxLen ∧ l.length * GoT.bytes α ≤ 140737488355328 ∧ RdCs S H cl l ∧
    (l ≠ [] → ∃ b off, a = some ⟨b, off, none⟩ ∧ ¬ S b ∧ CellsAt H b off cl)

theorem RdL.ext [GoT α] {S S' : Nat → Prop} {H H' : Heap} {v : Value} {l : List α} (h : RdL S H v l) (hx : Ext S H H') (hs : ∀ b, b < H.size → S' b → S b) : RdL S' H' v l := by
  obtain ⟨a, n, c, cl, rfl, hn, hc, hm, hb, hcl, hp⟩ := h
  refine ⟨a, n, c, cl, rfl, hn, hc, hm, hb, hcl.ext hx hs, fun hne => ?_⟩
  obtain ⟨b, off, ha, hsb, hcells⟩ := hp hne
  refine ⟨b, off, ha, fun h' => hsb (hs b ?_ h'), hcells.ext hx hsb⟩
  have hlen := hcl.len
  have : 0 < cl.length := by rw [hlen]; exact Nat.mul_pos (List.length_pos_iff.2 hne) (GoT.pos)
  have h0 := hcells 0 this
  rw [List.getElem?_eq_getElem this] at h0
  exact hcell_lt h0

instance instInt : GoT Int where
  sz := 1
  bytes := 8
  ag := false
  rdc _ _ cs x := cs = [I x] ∧ In64 x
  pos := by decide
  one _ := rfl
  len h := by rw [h.1]; rfl
  cell h := by rw [h.1]; simp [Value.oneCell']
  ext h _ _ := h

instance instBool : GoT Bool where
  sz := 1
  bytes := 1
  ag := false
  rdc _ _ cs x := cs = [B x]
  pos := by decide
  one _ := rfl
  len h := by rw [h]; rfl
  cell h := by rw [h]; simp [Value.oneCell']
  ext h _ _ := h

instance instList [GoT α] : GoT (List α) where
  sz := 1
  bytes := 24
  ag := false
  rdc S H cs x := ∃ v, cs = [v] ∧ RdL S H v x
  pos := by decide
  one _ := rfl
  len h := by obtain ⟨v, rfl, _⟩ := h; rfl
  cell h := by obtain ⟨v, rfl, a, n, c, cl, rfl, _⟩ := h; simp [Value.oneCell']
  ext h hx hs := by obtain ⟨v, rfl, h⟩ := h; exact ⟨v, rfl, h.ext hx hs⟩

/-- The value that cells make. -/
def valOf (ag : Bool) (cs : List Value) : Value := if ag then .agg cs.toArray else cs.headD undef

/-- A value that reads as x. -/
def Rd [GoT α] (S : Nat → Prop) (H : Heap) (v : Value) (x : α) : Prop := ∃ cs, rdc S H cs x ∧ v = valOf (ag α) cs

theorem Rd.ext [GoT α] {S S' : Nat → Prop} {H H' : Heap} {v : Value} {x : α} (h : Rd S H v x) (hx : Ext S H H') (hs : ∀ b, b < H.size → S' b → S b) : Rd S' H' v x := by
  obtain ⟨cs, h, rfl⟩ := h
  exact ⟨cs, GoT.ext h hx hs, rfl⟩
theorem Rd.list [GoT α] {S : Nat → Prop} {H : Heap} {v : Value} {l : List α} : Rd S H v l ↔ RdL S H v l := by
  constructor
  · rintro ⟨cs, ⟨v, rfl, h⟩, rfl⟩; exact h
  · intro h; exact ⟨[v], ⟨v, rfl, h⟩, rfl⟩
theorem Rd.int {S : Nat → Prop} {H : Heap} {v : Value} {x : Int} : Rd S H v x ↔ v = I x ∧ In64 x := by
  constructor
  · rintro ⟨cs, ⟨rfl, h⟩, rfl⟩; exact ⟨rfl, h⟩
  · rintro ⟨rfl, h⟩; exact ⟨[I x], ⟨rfl, h⟩, rfl⟩
theorem Rd.bool {S : Nat → Prop} {H : Heap} {v : Value} {x : Bool} : Rd S H v x ↔ v = B x := by
  constructor
  · rintro ⟨cs, rfl, rfl⟩; rfl
  · rintro rfl; exact ⟨[B x], rfl, rfl⟩

/-! ### Entries of a state -/

structure Ent where
  blocks : Nat → Prop
  ok : (Nat → Prop) → Heap → Prop
  lt : ∀ {S H b}, ok S H → blocks b → b < H.size
  ext : ∀ {S S' : Nat → Prop} {H H' : Heap}, ok S H → H.size ≤ H'.size → (∀ b, b < H.size → (blocks b ∨ ¬ S b) → H'[b]? = H[b]?) →
    (∀ b, b < H.size → S' b → S b) → ok S' H'

/-- A value that is only read. -/
def rdE [GoT α] (v : Value) (x : α) : Ent where
  blocks _ := False
  ok S H := Rd S H v x
  lt _ h := h.elim
  ext h hz hs ht := h.ext ⟨hz, fun b hb hn => hs b hb (.inr hn)⟩ ht

/-- A block of the call's own, with all that is in it. -/
def blkE (g : Nat) (o : Obj) : Ent where
  blocks b := b = g
  ok _ H := H[g]? = some o
  lt h hb := by subst hb; exact (Array.getElem?_eq_some_iff.1 h).1
  ext h _ hs _ := by rw [hs g (Array.getElem?_eq_some_iff.1 h).1 (.inl rfl)]; exact h

/-- n elements of a row that begins at the head of a block; or there is none. -/
def rowC (size : Nat) (t : TypeId) (v : Value) (n : Nat) (cl : List Value) (H : Heap) : Prop :=
  (v = .slice none 0 0 ∧ n = 0 ∧ cl = []) ∨
  ∃ g c cur, v = .slice (some ⟨g, 0, none⟩) n c ∧ H[g]? = some (.cells cur t (0, 0)) ∧ n ≤ c ∧ c ≤ maxLen ∧ cur.size = c * size ∧ cur.toList.take (n * size) = cl

/-- A slice of the call's own. -/
def rowOk [GoT α] (t : TypeId) (v : Value) (l : List α) (S : Nat → Prop) (H : Heap) : Prop :=
  l.length * GoT.bytes α ≤ 140737488355328 ∧ ∃ cl, RdCs S H cl l ∧ rowC (sz α) t v l.length cl H

def rowB (v : Value) (b : Nat) : Prop := v.ownBlock = some b

theorem rowC.lt {size : Nat} {t : TypeId} {v : Value} {n : Nat} {cl : List Value} {H : Heap} (h : rowC size t v n cl H) {b : Nat} (hb : rowB v b) : b < H.size := by
  rcases h with ⟨rfl, _⟩ | ⟨g, c, cur, rfl, hg, _⟩
  · simp [rowB, Value.ownBlock] at hb
  · simp only [rowB, Value.ownBlock, Option.some.injEq] at hb; subst hb; exact (Array.getElem?_eq_some_iff.1 hg).1

theorem rowC.ext {size : Nat} {t : TypeId} {v : Value} {n : Nat} {cl : List Value} {H H' : Heap} (h : rowC size t v n cl H) (hs : ∀ b, b < H.size → rowB v b → H'[b]? = H[b]?) : rowC size t v n cl H' := by
  rcases h with h | ⟨g, c, cur, rfl, hg, hh⟩
  · exact .inl h
  · refine .inr ⟨g, c, cur, rfl, ?_, hh⟩
    rw [hs g (Array.getElem?_eq_some_iff.1 hg).1 (by simp [rowB, Value.ownBlock])]
    exact hg

def rowE [GoT α] (t : TypeId) (v : Value) (l : List α) : Ent where
  blocks := rowB v
  ok S H := rowOk t v l S H
  lt h hb := by obtain ⟨_, cl, _, h⟩ := h; exact h.lt hb
  ext h hz hs ht := by
    obtain ⟨hb, cl, hcl, hh⟩ := h
    exact ⟨hb, cl, hcl.ext ⟨hz, fun b hb hn => hs b hb (.inr hn)⟩ ht, hh.ext fun b hb hr => hs b hb (.inl hr)⟩

end Go.Um
