/- Frames as functions, and weakest preconditions over a heap alone. -/
import Derived.Orders
import Derived.Tactics
namespace Go.Um

abbrev Heap := Array Obj
abbrev Fr := Nat → Value
abbrev FP := Fr → Heap → Prop

def upd (f : Fr) (d : Nat) (v : Value) : Fr := fun t => if t = d then v else f t
def updO (f : Fr) (d : Option Nat) (v : Value) : Fr :=
  match d with
  | some d => upd f d v
  | none => f
def ev (f : Fr) : Operand → Value
  | .tmp t => f t
  | .const v => v
  | .global g => .pointer (some ⟨g, 0, none⟩)
  | .func k => .func (.func k) #[] #[]

theorem upd_same (f : Fr) (d : Nat) (v : Value) : upd f d v d = v := by simp [upd]
theorem upd_ne (f : Fr) {d t : Nat} (v : Value) (h : t ≠ d) : upd f d v t = f t := by simp [upd, h]
theorem upd_comm (f : Fr) {d e : Nat} (u v : Value) (h : d ≠ e) : upd (upd f d u) e v = upd (upd f e v) d u := by
  funext t
  simp only [upd]
  split
  · split
    · rename_i h1 h2; exact absurd (h2.symm.trans h1) h
    · rfl
  · rfl

/-- What the call leaves alone of the world beside the heap. -/
structure Amb (w w' : World) : Prop where
  os : w'.os = w.os
  tape : w'.tape = w.tape
  output : w'.output = w.output
theorem Amb.refl (w : World) : Amb w w := ⟨rfl, rfl, rfl⟩
theorem Amb.trans {a b c : World} (h : Amb a b) (k : Amb b c) : Amb a c :=
  ⟨k.os.trans h.os, k.tape.trans h.tape, k.output.trans h.output⟩

structure IsFr (N : Nat) (a : Act) (f : Fr) : Prop where
  dz : a.defers = []
  sz : a.tmps.size = N
  tm : ∀ t, a.tmps.getD t undef = f t

theorem IsFr.eval {N : Nat} {a : Act} {f : Fr} (h : IsFr N a f) (x : Operand) : a.eval x = ev f x := by
  cases x with
  | tmp t => exact h.tm t
  | _ => rfl
theorem IsFr.evalF {N : Nat} {a : Act} {f : Fr} (h : IsFr N a f) : a.eval = ev f := funext h.eval

theorem IsFr.put {N : Nat} {a : Act} {f : Fr} (h : IsFr N a f) (d : Option Nat) (v : Value) (hd : ∀ e, d = some e → e < N) :
    IsFr N (a.put d v) (updO f d v) := by
  cases d with
  | none => exact h
  | some e =>
    have he := hd e rfl
    refine ⟨h.dz, by simp [Act.put, h.sz], fun t => ?_⟩
    have hs := h.sz
    by_cases ht : t = e
    · subst ht
      simp [Act.put, updO, upd, Array.getD, hs, he]
    · have h2 := h.tm t
      simp only [Act.put, updO, upd, ht, if_false]
      rw [← h2]
      simp only [Array.getD_eq_getD_getElem?]
      rw [Array.getElem?_setIfInBounds_ne (fun e' => ht e'.symm)]

/-- Does every operation write below N? -/
def opsOk (N : Nat) (l : List Oper) : Bool := l.all fun o => match o.dst with | some d => decide (d < N) | none => true
def codeOk (N : Nat) : Code → Bool
  | .region _ ops _ => opsOk N ops.toList
  | .seq a b => codeOk N a && codeOk N b
  | .cond _ a b => codeOk N a && codeOk N b
  | .block _ b => codeOk N b
  | .loop b => codeOk N b
  | _ => true

def liftQ (N : Nat) (w : World) (n : FP) (x : Nat → FP) (r : FP) : Exit → Act → World → Prop
  | .normal, a', w' => Amb w w' ∧ ∃ f', IsFr N a' f' ∧ n f' w'.heap
  | .exit id, a', w' => Amb w w' ∧ ∃ f', IsFr N a' f' ∧ x id f' w'.heap
  | .ret, a', w' => Amb w w' ∧ ∃ f', IsFr N a' f' ∧ r f' w'.heap
  | _, _, _ => False

/-- The code, begun at the frame f and the heap H, ends well: n at its end, x at an exit, r at a return. -/
def wpF (P : Program) (N : Nat) (c : Code) (n : FP) (x : Nat → FP) (r : FP) (f : Fr) (H : Heap) : Prop :=
  codeOk N c = true → ∀ (a : Act) (w : World), IsFr N a f → w.heap = H → c.wp P (liftQ N w n x r) a w

section
variable {P : Program} {N : Nat} {n : FP} {x : Nat → FP} {r : FP} {f : Fr} {H : Heap}

theorem liftQ_trans {w w1 : World} (h : Amb w w1) {e : Exit} {a : Act} {w2 : World} (hq : liftQ N w1 n x r e a w2) : liftQ N w n x r e a w2 := by
  cases e <;> first
    | exact hq
    | exact ⟨h.trans hq.1, hq.2⟩

theorem wpF_mono {c : Code} {n' : FP} {x' : Nat → FP} {r' : FP} (h : wpF P N c n x r f H) (hn : ∀ f H, n f H → n' f H)
    (hx : ∀ i f H, x i f H → x' i f H) (hr : ∀ f H, r f H → r' f H) : wpF P N c n' x' r' f H :=
  fun hc a w ha hw => wp_mono (h hc a w ha hw) fun e a w q => by
    cases e <;> first
      | exact q.elim
      | exact ⟨q.1, q.2.imp fun _ h => ⟨h.1, hn _ _ h.2⟩⟩
      | exact ⟨q.1, q.2.imp fun _ h => ⟨h.1, hx _ _ _ h.2⟩⟩
      | exact ⟨q.1, q.2.imp fun _ h => ⟨h.1, hr _ _ h.2⟩⟩

theorem wpF_cut {c : Code} (J : FP) (h : wpF P N c J x r f H) (hJ : ∀ f H, J f H → n f H) : wpF P N c n x r f H :=
  wpF_mono h hJ (fun _ _ _ h => h) (fun _ _ h => h)

theorem wpF_skip (h : n f H) : wpF P N .skip n x r f H := fun _ _ w ha hw => wp_skip ⟨.refl w, f, ha, hw ▸ h⟩
theorem wpF_exit {id : Nat} (h : x id f H) : wpF P N (.exit id) n x r f H := fun _ _ w ha hw => wp_exit ⟨.refl w, f, ha, hw ▸ h⟩
theorem wpF_ret (h : r f H) : wpF P N .ret n x r f H := fun _ _ w ha hw => wp_ret ⟨.refl w, f, ha, hw ▸ h⟩

theorem wpF_seq {c d : Code} (h : wpF P N c (fun f H => wpF P N d n x r f H) x r f H) : wpF P N (.seq c d) n x r f H := by
  intro hok a w ha hw
  simp only [codeOk, Bool.and_eq_true] at hok
  refine wp_seq (wp_mono (h hok.1 a w ha hw) fun e a1 w1 q => ?_)
  cases e with
  | normal =>
    obtain ⟨hamb, f1, hf1, hq⟩ := q
    exact wp_mono (hq hok.2 a1 w1 hf1 rfl) fun e a w q => liftQ_trans hamb q
  | exit _ => exact q
  | goto _ => exact q
  | ret => exact q
  | panic _ => exact q
  | outgrown => exact q

theorem wpF_cond {s : Operand} {c d : Code} {t : Bool} (hs : ev f s = .bool t) (ht : t = true → wpF P N c n x r f H)
    (hf : t = false → wpF P N d n x r f H) : wpF P N (.cond s c d) n x r f H := by
  intro hok a w ha hw
  simp only [codeOk, Bool.and_eq_true] at hok
  exact wp_cond_split (t := t) (by rw [ha.eval]; exact hs) (fun h => ht h hok.1 a w ha hw) (fun h => hf h hok.2 a w ha hw)

theorem wpF_condP {s : Operand} {c d : Code} {p : Prop} [Decidable p] (hs : ev f s = .bool (decide p)) (ht : p → wpF P N c n x r f H)
    (hf : ¬ p → wpF P N d n x r f H) : wpF P N (.cond s c d) n x r f H :=
  wpF_cond hs (fun h => ht (of_decide_eq_true h)) (fun h => hf (of_decide_eq_false h))
theorem wpF_condT {s : Operand} {c d : Code} (hs : ev f s = .bool true) (ht : wpF P N c n x r f H) : wpF P N (.cond s c d) n x r f H :=
  wpF_cond hs (fun _ => ht) (fun h => by cases h)
theorem wpF_condF {s : Operand} {c d : Code} (hs : ev f s = .bool false) (hf : wpF P N d n x r f H) : wpF P N (.cond s c d) n x r f H :=
  wpF_cond hs (fun h => by cases h) (fun _ => hf)

/-- The exits of a block: its own number goes on behind it. -/
def atX (id : Nat) (n : FP) (x : Nat → FP) : Nat → FP := fun i => if i = id then n else x i
theorem atX_here {id : Nat} (h : n f H) : atX id n x id f H := by simp only [atX, if_true]; exact h
theorem atX_else {id i : Nat} (hi : i ≠ id) (h : x i f H) : atX id n x i f H := by simp only [atX, hi, if_false]; exact h

theorem wpF_block {id : Nat} {c : Code} (h : wpF P N c n (atX id n x) r f H) : wpF P N (.block id c) n x r f H := by
  intro hok a w ha hw
  refine wp_block (wp_mono (h hok a w ha hw) fun e a1 w1 q => ?_)
  cases e with
  | exit i =>
    simp only [Exit.inBlock]
    by_cases hi : i = id
    · simp only [liftQ, atX, hi, if_true] at q ⊢
      exact q
    · simp only [hi, if_false]
      simp only [liftQ, atX, hi, if_false] at q
      exact q
  | normal => exact q
  | goto _ => exact q
  | ret => exact q
  | panic _ => exact q
  | outgrown => exact q

theorem wpF_loop {c : Code} (I : Nat → FP) (m : Nat) (h0 : I m f H)
    (round : ∀ m f H, I m f H → wpF P N c (fun f' H' => ∃ m', m' < m ∧ I m' f' H') x r f H) : wpF P N (.loop c) n x r f H := by
  intro hok a w ha hw b k cs
  have hok' : codeOk N c = true := hok
  have key : ∀ m (a : Act) (w1 : World) (f : Fr), Amb w w1 → IsFr N a f → I m f w1.heap →
      ∃ e a' w', liftQ N w n x r e a' w' ∧ Arrives P (lone (b.at a (.code c :: .inLoop c :: k)) cs w1) b k cs e a' w' := by
    intro m
    induction m using Nat.strongRecOn with
    | _ m ih =>
      intro a w1 f hamb ha hI
      obtain ⟨e, a₁, w₁, hq, harr⟩ := round m f _ hI hok' a w1 ha rfl b (.inLoop c :: k) cs
      cases e with
      | normal =>
        obtain ⟨hamb1, f1, hf1, m', hlt, hI1⟩ := hq
        obtain ⟨e₂, a₂, w₂, hq₂, harr₂⟩ := ih m' hlt a₁ w₁ f1 (hamb.trans hamb1) hf1 hI1
        exact ⟨e₂, a₂, w₂, hq₂, .of_steps (Steps.trans harr (.one step_inLoop)) harr₂⟩
      | exit id => exact ⟨.exit id, a₁, w₁, ⟨hamb.trans hq.1, hq.2⟩, .pass (x := .inLoop c) rfl (fun _ _ => .inl (by simp)) harr⟩
      | ret => exact ⟨.ret, a₁, w₁, ⟨hamb.trans hq.1, hq.2⟩, .pass (x := .inLoop c) rfl (fun _ _ => .inl (by simp)) harr⟩
      | goto l => exact hq.elim
      | panic ch => exact hq.elim
      | outgrown => exact hq.elim
  obtain ⟨e, a', w', hq, harr⟩ := key m a w f (.refl w) ha (hw ▸ h0)
  exact ⟨e, a', w', hq, .of_steps (.one step_loop) harr⟩

end
end Go.Um
