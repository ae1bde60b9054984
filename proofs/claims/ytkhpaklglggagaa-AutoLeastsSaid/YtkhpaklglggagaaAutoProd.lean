/- Automata of pairs. No program is in sight. -/
import Derived.Test.YtkhpaklglggagaaSearch
namespace Go.Um

def rowM {α : Type} (M : α → Option Int) (nx : α → Int → α) (x : α) (c : Nat) : List Int := (List.range c).map fun (c : Nat) => (M (nx x c)).getD 0
theorem rowM_next {α : Type} {nx : α → Int → α} {M : α → Option Int} {x : α} {c : Nat} : rowM M nx x (c + 1) = rowM M nx x c ++ [(M (nx x c)).getD 0] := by simp [rowM, List.range_succ]
theorem rowM_len {α : Type} {nx : α → Int → α} {M : α → Option Int} {x : α} {c : Nat} : (rowM M nx x c).length = c := by simp [rowM]
section
variable {α : Type} [DecidableEq α] [Inhabited α]
/-- The states that a search ends with. -/
noncomputable def endL (nx : α → Int → α) (sg : Nat) (s : α) : List α := open Classical in if h : ∃ i, Ended nx sg s i then bfs nx sg s h.choose else []
variable {nx : α → Int → α} {sg : Nat} {s : α}
theorem Ended.endL {i : Nat} (h : Ended nx sg s i) : Go.Um.endL nx sg s = bfs nx sg s i := by
  have hex : ∃ i, Ended nx sg s i := ⟨i, h⟩
  rw [Go.Um.endL, dif_pos hex, hex.choose_spec.one h]
/-- The number of a state. -/
def numOf (L : List α) (y : α) : Int := idxOf (fun z => decide (z = y)) L
theorem numOf_nth {L : List α} (hn : L.Nodup) {k : Nat} (hk : k < L.length) : numOf L (nth L k) = k :=
  idxOf_at hk (fun j hj => decide_eq_false fun e => by
    rw [nth_eq (by omega), nth_eq hk] at e
    have := (List.getElem_inj hn).1 e
    omega) (decide_eq_true rfl)
theorem Nums.num {L : List α} {M : α → Option Int} (h : Nums L M) (hn : L.Nodup) {y : α} (hy : y ∈ L) : (M y).getD 0 = numOf L y := by
  obtain ⟨k, hk, rfl⟩ := nth_of_mem hy
  rw [h.at_ k hk, numOf_nth hn hk]; rfl
theorem numOf_mem {L : List α} {y : α} (hy : y ∈ L) : ∃ k : Nat, numOf L y = k ∧ k < L.length ∧ nth L k = y := by
  rcases first_or (fun z => decide (z = y)) L with h | ⟨k, hk, h1, h2⟩
  · obtain ⟨j, hj, e⟩ := nth_of_mem hy
    have := h j hj
    simp [e] at this
  · exact ⟨k, idxOf_at hk h1 h2, hk, of_decide_eq_true h2⟩
/-- The automaton of the states that a search ends with. -/
def builtA (nx : α → Int → α) (sg : Nat) (L : List α) (tk : α → Bool) : Auto := ⟨(sg : Int), L.map (fun x => (List.range sg).map fun (c : Nat) => numOf L (nx x c)), L.map tk⟩
theorem rowM_eq {L : List α} {M : α → Option Int} (h : Nums L M) (hn : L.Nodup) {x : α} (hc : ∀ c : Nat, c < sg → nx x c ∈ L) : rowM M nx x sg = (List.range sg).map fun (c : Nat) => numOf L (nx x c) := by
  unfold rowM
  apply List.map_congr_left
  intro c hm
  rw [h.num hn (hc c (List.mem_range.1 hm))]
end

/-! ### Pairs of states -/
def stepP (a b : Auto) (p : Int × Int) (c : Int) : Int × Int := (stepA a p.1 c, stepA b p.2 c)
def Pr (a b : Auto) (p : Int × Int) : Prop := (0 ≤ p.1 ∧ p.1 < (a.Next.length : Int)) ∧ 0 ≤ p.2 ∧ p.2 < (b.Next.length : Int)
def allPairs (n m : Nat) : List (Int × Int) := (List.range n).flatMap fun (i : Nat) => (List.range m).map fun (j : Nat) => ((i : Int), (j : Int))
theorem allPairs_len {n m : Nat} : (allPairs n m).length = n * m := by
  unfold allPairs
  have : ∀ l : List Nat, (l.flatMap fun (i : Nat) => (List.range m).map fun (j : Nat) => ((i : Int), (j : Int))).length = l.length * m := by
    intro l
    induction l with
    | nil => simp
    | cons x l ih => rw [List.flatMap_cons, List.length_append, ih, List.length_cons, Nat.add_mul]; simp; omega
  rw [this]; simp
theorem nodup_le_p {α : Type} [DecidableEq α] : ∀ {L S : List α}, L.Nodup → (∀ x ∈ L, x ∈ S) → L.length ≤ S.length
  | [], _, _, _ => Nat.zero_le _
  | a :: L, S, h, hs => by
    have ha := hs a (List.mem_cons_self ..)
    have h2 := List.nodup_cons.1 h
    have ih := nodup_le_p (L := L) (S := S.erase a) h2.2 fun x hx => (List.mem_erase_of_ne (fun e : x = a => h2.1 (by rw [← e]; exact hx))).2 (hs x (List.mem_cons_of_mem _ hx))
    rw [List.length_erase_of_mem ha] at ih
    have : 0 < S.length := List.length_pos_of_mem ha
    rw [List.length_cons]; omega
section
variable {a b : Auto}
theorem Pr.start (ha : WF a) (hb : WF b) : Pr a b (0, 0) := ⟨⟨Int.le_refl _, by have := ha.many; show (0 : Int) < _; omega⟩, Int.le_refl _, by have := hb.many; show (0 : Int) < _; omega⟩
theorem Pr.step (ha : WF a) (hb : WF b) (hs : a.Signs = b.Signs) {p : Int × Int} {c : Int} (h : Pr a b p) (hc : 0 ≤ c ∧ c < a.Signs) : Pr a b (stepP a b p c) := ⟨ha.step h.1 hc, hb.step h.2 (hs ▸ hc)⟩
theorem Pr.in64 (ha : WF a) (hb : WF b) {p : Int × Int} (h : Pr a b p) : In64 p.1 ∧ In64 p.2 := by
  have h1 := ha.many; have h2 := hb.many
  obtain ⟨⟨h3, h4⟩, h5, h6⟩ := h
  constructor <;> constructor <;> omega
theorem Pr.few (ha : WF a) (hb : WF b) (L : List (Int × Int)) (hn : L.Nodup) (h : ∀ p ∈ L, Pr a b p) : L.length ≤ 2000 := by
  have h1 := nodup_le_p (S := allPairs a.Next.length b.Next.length) hn fun p hp => by
    obtain ⟨⟨h3, h4⟩, h5, h6⟩ := h p hp
    refine List.mem_flatMap.2 ⟨p.1.toNat, List.mem_range.2 (by omega), List.mem_map.2 ⟨p.2.toNat, List.mem_range.2 (by omega), ?_⟩⟩
    exact Prod.ext (by show ((p.1.toNat : Nat) : Int) = p.1; omega) (by show ((p.2.toNat : Nat) : Int) = p.2; omega)
  rw [allPairs_len] at h1
  have h2 : a.Next.length * b.Next.length ≤ 40 * 40 := Nat.mul_le_mul ha.many.2 hb.many.2
  omega
/-- The automaton of pairs. -/
noncomputable def prodA (a b : Auto) (op : Bool → Bool → Bool) : Auto := builtA (stepP a b) a.Signs.toNat (endL (stepP a b) a.Signs.toNat (0, 0)) fun p => op (nth a.Takes p.1.toNat) (nth b.Takes p.2.toNat)
noncomputable def bothR (a b : Auto) (op : Bool → Bool → Bool) : Auto × (Int × Int) := open Classical in
  if (pairFault a b).1 ≠ 0 then (⟨0, [], []⟩, pairFault a b) else if 40 < ((prodA a b op).Next.length : Int) then (⟨0, [], []⟩, (10, 0)) else (prodA a b op, (0, 0))
theorem pairFault_zero (h : (pairFault a b).1 = 0) : pairFault a b = (0, 0) ∧ WF a ∧ WF b ∧ a.Signs = b.Signs := by
  unfold pairFault at h ⊢
  split at h
  · rename_i h1; exact absurd h h1
  · split at h
    · rename_i h1 h2; exact absurd h h2
    · split at h
      · cases h
      · rename_i h1 h2 h3
        rw [if_neg h1, if_neg h2, if_neg h3]
        exact ⟨rfl, WF.of (Decidable.of_not_not h1), WF.of (Decidable.of_not_not h2), Decidable.of_not_not h3⟩
theorem pairFault_of (ha : WF a) (hb : WF b) (hs : a.Signs = b.Signs) : pairFault a b = (0, 0) :=
  pairFault_no (not_not_intro (by rw [ha.fault])) (not_not_intro (by rw [hb.fault])) (not_not_intro hs)
end
theorem FnH.cells {P : Program} {v : Value} {args : Array Value} {H : Heap} {R : Value → Heap → Prop} (h : FnH P v args H R) : v.cells = #[v] := by
  obtain ⟨_, _, rfl, _⟩ := h; rfl
theorem FnH.one {P : Program} {v : Value} {args : Array Value} {H : Heap} {R : Value → Heap → Prop} (h : FnH P v args H R) : v.oneCell' = true := by
  obtain ⟨_, _, rfl, _⟩ := h; rfl
/-- Do two automata differ somewhere that a word leads to? -/
noncomputable def sameB (a b : Auto) : Bool := !(endL (stepP a b) a.Signs.toNat (0, 0)).any fun p => decide (nth a.Takes p.1.toNat ≠ nth b.Takes p.2.toNat)
noncomputable def sameR (a b : Auto) : Bool := open Classical in if (pairFault a b).1 ≠ 0 then false else sameB a b
noncomputable def andR (a b : Auto) : Auto × (Int × Int) := bothR a b fun x y => x && y
noncomputable def orR (a b : Auto) : Auto × (Int × Int) := bothR a b fun x y => x || y
end Go.Um
