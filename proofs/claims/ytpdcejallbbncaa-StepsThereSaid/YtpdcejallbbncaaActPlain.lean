/- Problems of planning: what is wrong with one, and what a plan does. No program is in sight. -/
import Derived.Test.YtpdcejallbbncaaActData
import Derived.Test.YtpdcejallbbncaaUmHas
import Derived.Test.YtpdcejallbbncaaUmPlain
import Derived.Test.YtpdcejallbbncaaRopeMath
import Derived.Test.YtpdcejallbbncaaUmBits
namespace Go.Um

def Rising (l : List Int) (n : Int) : Prop := ∀ k, k < l.length → (0 ≤ nth l k ∧ nth l k < n) ∧ (k = 0 ∨ nth l (k - 1) < nth l k)
instance {l : List Int} {n : Int} : Decidable (Rising l n) := by unfold Rising; infer_instance
def shareB (a b : List Int) : Bool := a.any fun f => hasB b f
def actForm (n : Int) (a : Act) : Prop := ((Rising a.Need n ∧ Rising a.Bar n) ∧ Rising a.Add n) ∧ Rising a.Drop n
instance {a : Act} {n : Int} : Decidable (actForm n a) := by unfold actForm; infer_instance
def actTwice (a : Act) : Prop := shareB a.Add a.Drop = true ∨ shareB a.Need a.Bar = true
instance {a : Act} : Decidable (actTwice a) := by unfold actTwice; infer_instance
def actBad (q : Quest) (k : Nat) : Option (Int × Int) := if ¬ actForm q.Facts (nth q.Acts k) then some (5, (k : Int)) else if actTwice (nth q.Acts k) then some (7, (k : Int)) else none
def questFault (q : Quest) : Int × Int :=
  if q.Facts < 1 ∨ 16 < q.Facts then (3, -1) else if 12 < (q.Acts.length : Int) then (2, -1) else if ¬ Rising q.First q.Facts ∨ ¬ Rising q.Goal q.Facts then (5, -1) else (fst1 (actBad q) 0 q.Acts.length).getD (0, 0)

section
variable {q : Quest} {l a b : List Int} {n : Int} {k : Nat}
theorem Rising.mem (h : Rising l n) {x : Int} (hx : x ∈ l) : 0 ≤ x ∧ x < n := by
  obtain ⟨j, hj, rfl⟩ := List.mem_iff_getElem.1 hx
  rw [← nth_eq hj]; exact (h j hj).1
theorem questFault_facts (h : q.Facts < 1 ∨ 16 < q.Facts) : questFault q = (3, -1) := if_pos h
theorem questFault_many (h : ¬ (q.Facts < 1 ∨ 16 < q.Facts)) (h2 : 12 < (q.Acts.length : Int)) : questFault q = (2, -1) := by rw [questFault, if_neg h, if_pos h2]
theorem questFault_form (h : ¬ (q.Facts < 1 ∨ 16 < q.Facts)) (h2 : ¬ 12 < (q.Acts.length : Int)) (h3 : ¬ Rising q.First q.Facts ∨ ¬ Rising q.Goal q.Facts) : questFault q = (5, -1) := by rw [questFault, if_neg h, if_neg h2, if_pos h3]
theorem questFault_at (h : ¬ (q.Facts < 1 ∨ 16 < q.Facts)) (h2 : ¬ 12 < (q.Acts.length : Int)) (h3 : ¬ (¬ Rising q.First q.Facts ∨ ¬ Rising q.Goal q.Facts)) (hk : k < q.Acts.length) (hp : ∀ j, j < k → actBad q j = none) {x : Int × Int} (hb : actBad q k = some x) : questFault q = x := by
  rw [questFault, if_neg h, if_neg h2, if_neg h3, fst1_some (k := k) hb (Nat.zero_le _) (by omega) fun j _ hj => hp j hj]; rfl
theorem questFault_no (h : ¬ (q.Facts < 1 ∨ 16 < q.Facts)) (h2 : ¬ 12 < (q.Acts.length : Int)) (h3 : ¬ (¬ Rising q.First q.Facts ∨ ¬ Rising q.Goal q.Facts)) (hp : ∀ j, j < q.Acts.length → actBad q j = none) : questFault q = (0, 0) := by
  rw [questFault, if_neg h, if_neg h2, if_neg h3, fst1_none fun j _ hj => hp j (by omega)]; rfl
theorem actBad_form (h : ¬ actForm q.Facts (nth q.Acts k)) : actBad q k = some (5, (k : Int)) := if_pos h
theorem actBad_twice (h : actForm q.Facts (nth q.Acts k)) (h2 : actTwice (nth q.Acts k)) : actBad q k = some (7, (k : Int)) := by rw [actBad, if_neg (not_not_intro h), if_pos h2]
theorem actBad_no (h : actForm q.Facts (nth q.Acts k)) (h2 : ¬ actTwice (nth q.Acts k)) : actBad q k = none := by rw [actBad, if_neg (not_not_intro h), if_neg h2]
/-- A problem that nothing is wrong with. -/
structure QW (q : Quest) : Prop where
  facts : 1 ≤ q.Facts ∧ q.Facts ≤ 16
  many : q.Acts.length ≤ 12
  first : Rising q.First q.Facts
  goal : Rising q.Goal q.Facts
  form : ∀ k, k < q.Acts.length → actForm q.Facts (nth q.Acts k)
  twice : ∀ k, k < q.Acts.length → ¬ actTwice (nth q.Acts k)
theorem fst1_none_at {β : Type} {g : Nat → Option β} {n i : Nat} (h : fst1 g i n = none) : ∀ j, i ≤ j → j < i + n → g j = none := by
  induction n generalizing i with
  | zero => intro j h1 h2; omega
  | succ n ih =>
    intro j h1 h2
    simp only [fst1] at h
    split at h
    · cases h
    · rename_i h0
      by_cases hj : j = i
      · rw [hj]; exact h0
      · exact ih h j (by omega) (by omega)
theorem fst1_mem {β : Type} {g : Nat → Option β} {x : β} {n i : Nat} (h : fst1 g i n = some x) : ∃ j, g j = some x := by
  induction n generalizing i with
  | zero => simp [fst1] at h
  | succ n ih =>
    simp only [fst1] at h
    split at h
    · rename_i y h0; exact ⟨i, by rw [h0, h]⟩
    · exact ih h
theorem actBad_code {x : Int × Int} (h : actBad q k = some x) : x.1 ≠ 0 := by
  unfold actBad at h
  split at h
  · cases h; exact (by decide : (5 : Int) ≠ 0)
  · split at h
    · cases h; exact (by decide : (7 : Int) ≠ 0)
    · cases h
theorem QW.of (h : (questFault q).1 = 0) : QW q := by
  unfold questFault at h
  split at h
  · cases h
  · split at h
    · cases h
    · split at h
      · cases h
      · rename_i h1 h2 h3
        have h4 : fst1 (actBad q) 0 q.Acts.length = none := by
          cases hf : fst1 (actBad q) 0 q.Acts.length with
          | none => rfl
          | some x =>
            rw [hf] at h
            obtain ⟨j, hj⟩ := fst1_mem hf
            exact absurd h (actBad_code hj)
        have h5 := fst1_none_at h4
        have h6 := not_or.1 h3
        refine ⟨by omega, by omega, Decidable.of_not_not h6.1, Decidable.of_not_not h6.2, fun k hk => ?_, fun k hk => ?_⟩
        · have := h5 k (Nat.zero_le _) (by omega)
          unfold actBad at this
          split at this
          · cases this
          · rename_i h7; exact Decidable.of_not_not h7
        · have := h5 k (Nat.zero_le _) (by omega)
          unfold actBad at this
          split at this
          · cases this
          · split at this
            · cases this
            · rename_i h8; exact h8
theorem QW.code (h : QW q) : questFault q = (0, 0) :=
  questFault_no (by have := h.facts; omega) (by have := h.many; omega) (fun h3 => h3.elim (fun h => h ‹QW q›.first) fun h => h ‹QW q›.goal) fun j hj => actBad_no (h.form j hj) (h.twice j hj)
end

theorem or4_no {A B C D : Prop} [Decidable A] [Decidable B] [Decidable C] [Decidable D] (h : ((¬ A ∨ ¬ B) ∨ ¬ C) ∨ ¬ D) : ¬ (((A ∧ B) ∧ C) ∧ D) := by
  rintro ⟨⟨⟨h1, h2⟩, h3⟩, h4⟩
  rcases h with ((h | h) | h) | h
  · exact h h1
  · exact h h2
  · exact h h3
  · exact h h4
theorem or4_ok {A B C D : Prop} [Decidable A] [Decidable B] [Decidable C] [Decidable D] (h : ¬ (((¬ A ∨ ¬ B) ∨ ¬ C) ∨ ¬ D)) : ((A ∧ B) ∧ C) ∧ D := by
  refine ⟨⟨⟨?_, ?_⟩, ?_⟩, ?_⟩
  · exact Decidable.of_not_not fun h1 => h (.inl (.inl (.inl h1)))
  · exact Decidable.of_not_not fun h1 => h (.inl (.inl (.inr h1)))
  · exact Decidable.of_not_not fun h1 => h (.inl (.inr h1))
  · exact Decidable.of_not_not fun h1 => h (.inr h1)
def twAt (a : Act) (f : Nat) : Prop := (hasB a.Add f = true ∧ hasB a.Drop f = true) ∨ (hasB a.Need f = true ∧ hasB a.Bar f = true)
theorem shareB_at {a b : List Int} {f : Int} (h : hasB a f = true) (h2 : hasB b f = true) : shareB a b = true := List.any_eq_true.2 ⟨f, of_decide_eq_true h, h2⟩
theorem shareB_is {a b : List Int} (h : shareB a b = true) : ∃ f, hasB a f = true ∧ hasB b f = true := by
  obtain ⟨f, h1, h2⟩ := List.any_eq_true.1 h
  exact ⟨f, decide_eq_true h1, h2⟩
theorem actTwice_at {a : Act} {f : Nat} (h : twAt a f) : actTwice a := h.imp (fun h => shareB_at h.1 h.2) (fun h => shareB_at h.1 h.2)
theorem actTwice_no {a : Act} {n : Int} (ha : actForm n a) {m : Nat} (hm : n ≤ m) (h : ∀ f, f < m → ¬ twAt a f) : ¬ actTwice a := by
  have key : ∀ {x y : List Int}, Rising x n → shareB x y = true → ∃ f : Nat, f < m ∧ hasB x f = true ∧ hasB y f = true := fun {x y} hx hs => by
    obtain ⟨f, h1, h2⟩ := shareB_is hs
    have h3 := hx.mem (of_decide_eq_true h1)
    have e : ((f.toNat : Nat) : Int) = f := by omega
    exact ⟨f.toNat, by omega, by rw [e]; exact h1, by rw [e]; exact h2⟩
  rintro (hs | hs)
  · obtain ⟨f, hf, h1, h2⟩ := key ha.1.2 hs
    exact h f hf (.inl ⟨h1, h2⟩)
  · obtain ⟨f, hf, h1, h2⟩ := key ha.1.1.1 hs
    exact h f hf (.inr ⟨h1, h2⟩)

/-! ### Facts that hold -/
theorem nth_app_left' {α : Type} [Inhabited α] {l m : List α} {k : Nat} (h : k < l.length) : nth (l ++ m) k = nth l k := by simp [nth, List.getElem?_append_left h]
def firstL (q : Quest) : List Bool := (List.range q.Facts.toNat).map fun f => hasB q.First (f : Nat)
def canBad (a : Act) (now : List Bool) (f : Nat) : Prop := (hasB a.Need f = true ∧ (!nth now f) = true) ∨ (hasB a.Bar f = true ∧ nth now f = true)
instance {a : Act} {now : List Bool} {f : Nat} : Decidable (canBad a now f) := by unfold canBad; infer_instance
def canA (a : Act) (now : List Bool) : Bool := decide (∀ f, f < now.length → ¬ canBad a now f)
def afterA (a : Act) (now : List Bool) : List Bool := (List.range now.length).map fun f => decide (hasB a.Add (f : Nat) = true ∨ (nth now f = true ∧ (!hasB a.Drop (f : Nat)) = true))
def goalA (q : Quest) (now : List Bool) : Bool := decide (∀ i, i < q.Goal.length → nth now (nth q.Goal i).toNat = true)
theorem nth_range {β : Type} [Inhabited β] {g : Nat → β} {n f : Nat} (h : f < n) : nth ((List.range n).map g) f = g f := by simp [nth, h]
theorem nth_off {β : Type} [Inhabited β] {l : List β} {f : Nat} (h : ¬ f < l.length) : nth l f = default := by
  simp [nth, List.getElem?_eq_none (Nat.le_of_not_lt h)]
theorem nth_ext {β : Type} [Inhabited β] {l m : List β} (hl : l.length = m.length) (h : ∀ k, k < l.length → nth l k = nth m k) : l = m := by
  apply List.ext_getElem hl
  intro k h1 h2
  have := h k h1
  rwa [nth_eq h1, nth_eq h2] at this

def bitsN (l : List Int) : Nat := l.foldl (fun s f => s ||| 2 ^ f.toNat) 0
section
variable {l : List Int} {k n s : Nat} {a : Act} {now : List Bool} {q : Quest}
theorem bitsN_take (h : k < l.length) : bitsN (l.take (k + 1)) = bitsN (l.take k) ||| 2 ^ (nth l k).toNat := by
  rw [take_succ_nth h, bitsN, List.foldl_append]; rfl
theorem bitsN_app {x : Int} : bitsN (l ++ [x]) = bitsN l ||| 2 ^ x.toNat := by rw [bitsN, List.foldl_append]; rfl
theorem bitsN_bit : ∀ {l : List Int}, (∀ x ∈ l, 0 ≤ x) → ∀ f : Nat, (bitsN l).testBit f = hasB l f := by
  intro l
  suffices h : ∀ (m : List Int), (∀ x ∈ m.reverse, 0 ≤ x) → ∀ f : Nat, (bitsN m.reverse).testBit f = hasB m.reverse f by
    have := h l.reverse; rwa [List.reverse_reverse] at this
  intro m
  induction m with
  | nil => intro _ f; simp [bitsN, hasB]
  | cons x m ih =>
    intro h f
    rw [List.reverse_cons, bitsN_app, Nat.testBit_or, ih (fun y hy => h y (by rw [List.reverse_cons]; exact List.mem_append_left _ hy)) f, Nat.testBit_two_pow]
    have hx := h x (by simp)
    rw [Bool.eq_iff_iff]
    simp only [hasB, Bool.or_eq_true, decide_eq_true_eq, List.mem_append, List.mem_singleton]
    constructor
    · rintro (h1 | h1)
      · exact .inl h1
      · exact .inr (by omega)
    · rintro (h1 | h1)
      · exact .inl h1
      · exact .inr (by omega)
theorem bitsN_lt (h : ∀ x ∈ l, x < 16) : bitsN l < 65536 := by
  suffices hs : ∀ (m : List Int) (s : Nat), s < 65536 → (∀ x ∈ m, x < 16) → m.foldl (fun s f => s ||| 2 ^ f.toNat) s < 65536 from hs l 0 (by decide) h
  intro m
  induction m with
  | nil => intro s hs _; exact hs
  | cons x m ih =>
    intro s hs h
    refine ih _ ?_ fun y hy => h y (List.mem_cons_of_mem _ hy)
    have hx := h x (List.mem_cons_self ..)
    exact Nat.or_lt_two_pow (n := 16) hs (Nat.pow_lt_pow_right (a := 2) (m := x.toNat) (n := 16) (by decide) (by omega))
/-- A set of facts as a number, and as a list. -/
structure Rep (n s : Nat) (now : List Bool) : Prop where
  len : now.length = n
  bit : ∀ f, s.testBit f = nth now f
def actTo (a : Act) (s : Nat) : Nat := andNotN s (bitsN a.Drop) ||| bitsN a.Add
def actOk (a : Act) (s : Nat) : Prop := s &&& bitsN a.Need = bitsN a.Need ∧ s &&& bitsN a.Bar = 0
instance {a : Act} {s : Nat} : Decidable (actOk a s) := by unfold actOk; infer_instance
theorem sub_bits {s m : Nat} : s &&& m = m ↔ ∀ f, m.testBit f = true → s.testBit f = true := by
  constructor
  · intro h f hf
    rw [← h, Nat.testBit_and] at hf
    exact (Bool.and_eq_true_iff.1 hf).1
  · intro h
    apply Nat.eq_of_testBit_eq
    intro i
    rw [Nat.testBit_and]
    cases hm : m.testBit i with
    | false => simp
    | true => simp [h i hm]
theorem zero_bits {s m : Nat} : s &&& m = 0 ↔ ∀ f, m.testBit f = true → s.testBit f = false := by
  constructor
  · intro h f hf
    have h2 : (s &&& m).testBit f = false := by rw [h]; simp
    rw [Nat.testBit_and, hf] at h2
    simpa using h2
  · intro h
    apply Nat.eq_of_testBit_eq
    intro i
    rw [Nat.testBit_and]
    cases hm : m.testBit i with
    | false => simp
    | true => simp [h i hm]
theorem hasB_lt {l : List Int} {N : Int} (h : Rising l N) {f : Nat} (hf : hasB l f = true) : (f : Int) < N := (h.mem (of_decide_eq_true hf)).2
theorem Rep.first (hq : QW q) : Rep q.Facts.toNat (bitsN q.First) (firstL q) where
  len := by simp [firstL]
  bit f := by
    rw [bitsN_bit (fun x hx => (hq.first.mem hx).1)]
    by_cases hf : f < q.Facts.toNat
    · rw [firstL, nth_range hf]
    · rw [nth_off (by simpa [firstL] using hf)]
      exact Bool.eq_false_iff.2 fun h => by have := hasB_lt hq.first h; omega
theorem Rep.can {N : Int} (h : Rep N.toNat s now) (ha : actForm N a) : actOk a s ↔ canA a now = true := by
  have hN := fun x hx => (ha.1.1.1.mem (x := x) hx).1
  have hB := fun x hx => (ha.1.1.2.mem (x := x) hx).1
  unfold actOk canA
  rw [sub_bits, zero_bits, decide_eq_true_iff]
  constructor
  · rintro ⟨h1, h2⟩ f hf (⟨h3, h4⟩ | ⟨h3, h4⟩)
    · have := h1 f (by rw [bitsN_bit hN]; exact h3)
      rw [h.bit] at this; rw [this] at h4; cases h4
    · have := h2 f (by rw [bitsN_bit hB]; exact h3)
      rw [h.bit, h4] at this; cases this
  · intro h1
    have hl := h.len
    refine ⟨fun f hf => ?_, fun f hf => ?_⟩
    · rw [bitsN_bit hN] at hf
      have hlt := hasB_lt ha.1.1.1 hf
      have := h1 f (by omega)
      rw [h.bit]
      cases hn : nth now f with
      | true => rfl
      | false => exact absurd (.inl ⟨hf, by rw [hn]; rfl⟩) this
    · rw [bitsN_bit hB] at hf
      have hlt := hasB_lt ha.1.1.2 hf
      have := h1 f (by omega)
      rw [h.bit]
      exact Bool.eq_false_iff.2 fun hn => this (.inr ⟨hf, hn⟩)
theorem Rep.after {N : Int} (h : Rep N.toNat s now) (ha : actForm N a) : Rep N.toNat (actTo a s) (afterA a now) where
  len := by simp [afterA, h.len]
  bit f := by
    rw [actTo, Nat.testBit_or, andNotN_bit, bitsN_bit (fun x hx => (ha.2.mem hx).1), bitsN_bit (fun x hx => (ha.1.2.mem hx).1), h.bit]
    have hl := h.len
    by_cases hf : f < now.length
    · rw [afterA, nth_range hf, Bool.eq_iff_iff, decide_eq_true_iff]
      simp only [Bool.or_eq_true, Bool.and_eq_true]
      exact Or.comm
    · rw [nth_off (l := afterA a now) (by simpa [afterA] using hf), nth_off hf]
      have : hasB a.Add f = false := Bool.eq_false_iff.2 fun h => by have := hasB_lt ha.1.2 h; omega
      rw [this]; rfl
theorem Rep.out (h : Rep n s now) : (List.range n).map s.testBit = now := by
  refine nth_ext (by simp [h.len]) fun k hk => ?_
  rw [nth_range (by simpa using hk), h.bit]
theorem Rep.goal {N : Int} (h : Rep N.toNat s now) (hg : Rising q.Goal N) : (s &&& bitsN q.Goal = bitsN q.Goal) ↔ goalA q now = true := by
  rw [sub_bits, goalA, decide_eq_true_iff]
  constructor
  · intro h1 i hi
    have h2 := hg i hi
    have := h1 (nth q.Goal i).toNat (by rw [bitsN_bit (fun x hx => (hg.mem hx).1), hasB, decide_eq_true_iff, show (((nth q.Goal i).toNat : Nat) : Int) = nth q.Goal i by omega]; exact nth_mem hi)
    rwa [h.bit] at this
  · intro h1 f hf
    rw [bitsN_bit (fun x hx => (hg.mem hx).1), hasB, decide_eq_true_iff] at hf
    obtain ⟨j, hj, he⟩ := List.mem_iff_getElem.1 hf
    have := h1 j hj
    rw [nth_eq hj, he] at this
    rw [h.bit]; simpa using this
theorem Rep.lt {N : Int} (h : Rep N.toNat s now) (hN : N ≤ 16) : s < 65536 := by
  apply Nat.lt_pow_two_of_testBit (n := 16)
  intro i hi
  rw [h.bit, nth_off]
  · rfl
  · have := h.len; omega
end

theorem act_mem {l : List Int} {N : Int} (h : Rising l N) (hN : N ≤ 16) {x : Int} (hx : x ∈ l) : 0 ≤ x ∧ x < 16 := by
  have := h.mem hx; omega
theorem act_no {a : Act} {s : Nat} (h : ((s &&& bitsN a.Need : Nat) : Int) ≠ ((bitsN a.Need : Nat) : Int) ∨ ((s &&& bitsN a.Bar : Nat) : Int) ≠ 0) : ¬ actOk a s := by
  rintro ⟨h1, h2⟩
  rw [h1, h2] at h
  exact h.elim (fun h => h rfl) (fun h => h rfl)
theorem act_yes {a : Act} {s : Nat} (h : ¬ (((s &&& bitsN a.Need : Nat) : Int) ≠ ((bitsN a.Need : Nat) : Int) ∨ ((s &&& bitsN a.Bar : Nat) : Int) ≠ 0)) : actOk a s := by
  have h1 := not_or.1 h
  exact ⟨Int.ofNat.inj (Decidable.of_not_not h1.1), Int.ofNat.inj (Decidable.of_not_not h1.2)⟩

/-! ### Plans -/
def walkR (q : Quest) : Nat → List Int → List Bool → (Int × Int) × List Bool
  | _, [], now => ((0, 0), now)
  | i, p :: ps, now => if ¬ (0 ≤ p ∧ p < (q.Acts.length : Int)) then ((3, (i : Int)), []) else if canA (nth q.Acts p.toNat) now = true then walkR q (i + 1) ps (afterA (nth q.Acts p.toNat) now) else ((11, (i : Int)), [])
def walkFault (q : Quest) (plan : List Int) : Int × Int :=
  if (questFault q).1 ≠ 0 then questFault q else if 20 < (plan.length : Int) then (2, -2) else (walkR q 0 plan (firstL q)).1
def walkNow (q : Quest) (plan : List Int) : List Bool := if (walkFault q plan).1 ≠ 0 then [] else (walkR q 0 plan (firstL q)).2
def walkOk (q : Quest) (plan : List Int) : Bool := if (walkFault q plan).1 ≠ 0 then false else goalA q (walkNow q plan)
section
variable {q : Quest} {plan : List Int} {now : List Bool} {i k : Nat}
theorem walkR_end (h : ¬ k < plan.length) : walkR q i (plan.drop k) now = ((0, 0), now) := by
  rw [List.drop_eq_nil_of_le (by omega)]; rfl
theorem walkR_range (h : k < plan.length) (hp : ¬ (0 ≤ nth plan k ∧ nth plan k < (q.Acts.length : Int))) : walkR q i (plan.drop k) now = ((3, (i : Int)), []) := by
  rw [drop_nth h, walkR, if_pos hp]
theorem walkR_state (h : k < plan.length) (hp : 0 ≤ nth plan k ∧ nth plan k < (q.Acts.length : Int)) (hc : ¬ canA (nth q.Acts (nth plan k).toNat) now = true) : walkR q i (plan.drop k) now = ((11, (i : Int)), []) := by
  rw [drop_nth h, walkR, if_neg (not_not_intro hp), if_neg hc]
theorem walkR_step (h : k < plan.length) (hp : 0 ≤ nth plan k ∧ nth plan k < (q.Acts.length : Int)) (hc : canA (nth q.Acts (nth plan k).toNat) now = true) :
    walkR q i (plan.drop k) now = walkR q (i + 1) (plan.drop (k + 1)) (afterA (nth q.Acts (nth plan k).toNat) now) := by
  rw [drop_nth h, walkR, if_neg (not_not_intro hp), if_pos hc]
theorem walk_quest (h : (questFault q).1 ≠ 0) : walkFault q plan = questFault q := if_pos h
theorem walk_many (h : ¬ (questFault q).1 ≠ 0) (h2 : 20 < (plan.length : Int)) : walkFault q plan = (2, -2) := by rw [walkFault, if_neg h, if_pos h2]
theorem walk_run (h : ¬ (questFault q).1 ≠ 0) (h2 : ¬ 20 < (plan.length : Int)) {x : (Int × Int) × List Bool} (hx : walkR q 0 plan (firstL q) = x) : walkFault q plan = x.1 := by rw [walkFault, if_neg h, if_neg h2, hx]
theorem walk_bad (h : (walkFault q plan).1 ≠ 0) : walkNow q plan = [] ∧ walkOk q plan = false := ⟨if_pos h, if_pos h⟩
theorem walk_good (h : ¬ (questFault q).1 ≠ 0) (h2 : ¬ 20 < (plan.length : Int)) (hx : walkR q 0 plan (firstL q) = ((0, 0), now)) : walkFault q plan = (0, 0) ∧ walkNow q plan = now ∧ walkOk q plan = goalA q now := by
  have h1 : walkFault q plan = (0, 0) := walk_run h h2 hx
  have h3 : walkNow q plan = now := by rw [walkNow, h1, if_neg (by decide), hx]
  exact ⟨h1, h3, by rw [walkOk, h1, if_neg (by decide), h3]⟩
/-- What a law's own way knows at step k. -/
def WalkA (q : Quest) (plan : List Int) (k : Nat) (c a : Int) (now : List Bool) : Prop :=
  (c ≠ 0 ∧ walkFault q plan = (c, a)) ∨ (c = 0 ∧ a = 0 ∧ (questFault q).1 = 0 ∧ (plan.length : Int) ≤ 20 ∧ walkR q 0 plan (firstL q) = walkR q k (plan.drop k) now ∧ now.length = q.Facts.toNat)
/-- Ahead of the first step. -/
def WA0 (q : Quest) (plan : List Int) (c a : Int) : Prop := (c ≠ 0 ∧ walkFault q plan = (c, a)) ∨ (c = 0 ∧ a = 0 ∧ (questFault q).1 = 0 ∧ (plan.length : Int) ≤ 20)
theorem wA_head (h : ¬ ((questFault q).1 = 0 ∧ 20 < (plan.length : Int))) : WA0 q plan (questFault q).1 (questFault q).2 := by
  by_cases h0 : (questFault q).1 = 0
  · exact .inr ⟨h0, by rw [(QW.of h0).code], h0, by omega⟩
  · exact .inl ⟨h0, walk_quest h0⟩
theorem WA0.facts {c a : Int} (h : WA0 q plan c a) (hc : c = 0) : 0 ≤ q.Facts ∧ q.Facts ≤ 16 := by
  rcases h with h | h
  · exact absurd hc h.1
  · have := (QW.of h.2.2.1).facts; omega
theorem WA0.start {c a : Int} (h : WA0 q plan c a) {m : List Bool} (hm : c = 0 → m = firstL q) : WalkA q plan 0 c a m := by
  rcases h with h | h
  · exact .inl h
  · exact .inr ⟨h.1, h.2.1, h.2.2.1, h.2.2.2, by rw [hm h.1]; rfl, by rw [hm h.1]; simp [firstL]⟩
theorem WalkA.ok {c a : Int} (h : WalkA q plan k c a now) (hc : c = 0) : a = 0 ∧ (questFault q).1 = 0 ∧ (plan.length : Int) ≤ 20 ∧ walkR q 0 plan (firstL q) = walkR q k (plan.drop k) now ∧ now.length = q.Facts.toNat := by
  rcases h with h | h
  · exact absurd hc h.1
  · exact h.2
theorem WalkA.bad {c a : Int} (h : WalkA q plan k c a now) (hc : c = 0) {x : Int × Int} (hx : walkR q k (plan.drop k) now = (x, [])) (h0 : x.1 ≠ 0) {m : List Bool} {j : Nat} : WalkA q plan j x.1 x.2 m := by
  obtain ⟨h1, h2, h3, h4, h5⟩ := h.ok hc
  exact .inl ⟨h0, walk_run (fun hh => hh h2) (by omega) (h4.trans hx)⟩
theorem WalkA.step {c a : Int} (h : WalkA q plan k c a now) (hc : c = 0) {m : List Bool} (hx : walkR q k (plan.drop k) now = walkR q (k + 1) (plan.drop (k + 1)) m) (hm : m.length = now.length) : WalkA q plan (k + 1) c a m := by
  obtain ⟨h1, h2, h3, h4, h5⟩ := h.ok hc
  exact .inr ⟨hc, h1, h2, h3, h4.trans hx, hm.trans h5⟩
theorem WalkA.done {c a : Int} (h : WalkA q plan k c a now) (hk : k ≤ plan.length) (hn : ¬ ((k : Int) < plan.length ∧ c = 0)) :
    walkFault q plan = (c, a) ∧ (c = 0 → walkNow q plan = now ∧ walkOk q plan = goalA q now ∧ QW q ∧ now.length = q.Facts.toNat) := by
  rcases h with h | h
  · exact ⟨h.2, fun hc => absurd hc h.1⟩
  · obtain ⟨rfl, rfl, h2, h3, h4, h5⟩ := h
    have hg := walk_good (q := q) (plan := plan) (now := now) (fun hh => hh h2) (by omega) (h4.trans (walkR_end (by omega)))
    exact ⟨hg.1, fun _ => ⟨hg.2.1, hg.2.2, QW.of h2, h5⟩⟩
theorem afterA_len {a : Act} : (afterA a now).length = now.length := by simp [afterA]
theorem firstL_len : (firstL q).length = q.Facts.toNat := by simp [firstL]
theorem walkR_len : ∀ {ps : List Int} {i : Nat} {now : List Bool}, (walkR q i ps now).1.1 = 0 → (walkR q i ps now).2.length = now.length
  | [], _, _, _ => rfl
  | p :: ps, i, now, h => by
    unfold walkR at h ⊢
    split at h
    · cases h
    · split at h
      · rename_i h1 h2
        rw [if_neg h1, if_pos h2, walkR_len h, afterA_len]
      · cases h
end
/-! ### A plan is its parts -/
def idxTo (mid : List Bool) (m : Nat) : List Int := ((List.range m).filter fun u => nth mid u).map fun (u : Nat) => (u : Int)
section
variable {q : Quest} {mid : List Bool} {m : Nat}
theorem idxTo_yes (h : nth mid m = true) : idxTo mid (m + 1) = idxTo mid m ++ [(m : Int)] := by
  simp [idxTo, List.range_succ, List.filter_append, h]
theorem idxTo_no (h : nth mid m = false) : idxTo mid (m + 1) = idxTo mid m := by
  simp [idxTo, List.range_succ, List.filter_append, h]
theorem idxTo_has {u : Nat} : hasB (idxTo mid m) u = (decide (u < m) && nth mid u) := by
  rw [Bool.eq_iff_iff, hasB, decide_eq_true_iff]
  simp only [idxTo, List.mem_map, List.mem_filter, List.mem_range, Bool.and_eq_true, decide_eq_true_eq]
  constructor
  · rintro ⟨v, ⟨h1, h2⟩, h3⟩
    have : v = u := by omega
    subst this; exact ⟨h1, h2⟩
  · rintro ⟨h1, h2⟩; exact ⟨u, ⟨h1, h2⟩, rfl⟩
theorem idxTo_len : (idxTo mid m).length ≤ m := by
  simp only [idxTo, List.length_map]
  exact Nat.le_trans (List.length_filter_le _ _) (by simp)
theorem Rising.push {l : List Int} {n : Int} (h : Rising l n) (h0 : 0 ≤ n) : Rising (l ++ [n]) (n + 1) := by
  intro k hk
  by_cases hl : k < l.length
  · have h1 := h k hl
    rw [nth_app_left' hl]
    refine ⟨by omega, h1.2.imp id fun h2 => ?_⟩
    rw [nth_app_left' (by omega)]; exact h2
  · have he : k = l.length := by simp at hk; omega
    have hn : nth (l ++ [n]) k = n := by rw [he]; simp [nth]
    rw [hn]
    refine ⟨by omega, ?_⟩
    by_cases h0 : k = 0
    · exact .inl h0
    · right
      rw [nth_app_left' (by omega)]
      have := (h (k - 1) (by omega)).1; omega
theorem Rising.mono {l : List Int} {n n' : Int} (h : Rising l n) (hn : n ≤ n') : Rising l n' := fun k hk => by
  have := h k hk; exact ⟨by omega, this.2⟩
theorem idxTo_rising : ∀ m : Nat, Rising (idxTo mid m) m
  | 0 => fun k hk => by simp [idxTo] at hk
  | m + 1 => by
    cases h : nth mid m with
    | true => rw [idxTo_yes h]; exact (idxTo_rising m).push (by omega)
    | false => rw [idxTo_no h]; exact (idxTo_rising m).mono (by omega)
theorem walkR_acts {q' : Quest} (h : q'.Acts = q.Acts) : ∀ (ps : List Int) (i : Nat) (now : List Bool), walkR q' i ps now = walkR q i ps now
  | [], _, _ => rfl
  | p :: ps, i, now => by
    unfold walkR
    rw [h, walkR_acts h ps]
theorem walkR_split : ∀ (ps : List Int) (n i : Nat) (now : List Bool), (walkR q i ps now).1.1 = 0 → ∃ mid, walkR q i (ps.take n) now = ((0, 0), mid) ∧ ∀ j, walkR q j (ps.drop n) mid = ((0, 0), (walkR q i ps now).2)
  | [], n, i, now, _ => ⟨now, by simp [walkR], fun j => by simp [walkR]⟩
  | p :: ps, 0, i, now, h => by
    refine ⟨now, by simp [walkR], fun j => ?_⟩
    rw [List.drop_zero]
    have key : ∀ (ps : List Int) (i j : Nat) (now : List Bool), (walkR q i ps now).1.1 = 0 → walkR q j ps now = ((0, 0), (walkR q i ps now).2) := by
      intro ps
      induction ps with
      | nil => intro i j now _; rfl
      | cons p ps ih =>
        intro i j now h
        unfold walkR at h ⊢
        split at h
        · cases h
        · rename_i h1
          rw [if_neg h1, if_neg h1]
          split at h
          · rename_i h2
            rw [if_pos h2, if_pos h2]; exact ih _ _ _ h
          · cases h
    exact key _ _ _ _ h
  | p :: ps, n + 1, i, now, h => by
    rw [List.take_succ_cons, List.drop_succ_cons]
    by_cases h1 : 0 ≤ p ∧ p < (q.Acts.length : Int)
    · by_cases h2 : canA (nth q.Acts p.toNat) now = true
      · have e : ∀ l, walkR q i (p :: l) now = walkR q (i + 1) l (afterA (nth q.Acts p.toNat) now) := fun l => by rw [walkR, if_neg (not_not_intro h1), if_pos h2]
        rw [e] at h
        obtain ⟨mid, e1, e2⟩ := walkR_split ps n (i + 1) _ h
        exact ⟨mid, by rw [e]; exact e1, fun j => by rw [e]; exact e2 j⟩
      · rw [walkR, if_neg (not_not_intro h1), if_neg h2] at h; cases h
    · rw [walkR, if_pos h1] at h; cases h
theorem walkFault_zero {plan : List Int} (h : (walkFault q plan).1 = 0) : QW q ∧ (questFault q).1 = 0 ∧ (plan.length : Int) ≤ 20 ∧ (walkR q 0 plan (firstL q)).1.1 = 0 ∧ walkNow q plan = (walkR q 0 plan (firstL q)).2 ∧ walkOk q plan = goalA q (walkR q 0 plan (firstL q)).2 := by
  have hh := h
  unfold walkFault at h
  split at h
  · rename_i h1; exact absurd h h1
  · split at h
    · cases h
    · rename_i h1 h2
      have hn : walkNow q plan = (walkR q 0 plan (firstL q)).2 := by rw [walkNow, if_neg (not_not_intro hh)]
      exact ⟨QW.of (Decidable.of_not_not h1), Decidable.of_not_not h1, by omega, h, hn, by rw [walkOk, if_neg (not_not_intro hh), hn]⟩
theorem parts_first {plan : List Int} {n : Nat} (h : (walkFault q plan).1 = 0) : (walkFault q (plan.take n)).1 = 0 ∧ (walkNow q (plan.take n)).length = q.Facts.toNat := by
  obtain ⟨hQ, h1, h2, h3, h4, h5⟩ := walkFault_zero h
  obtain ⟨mid, e1, e2⟩ := walkR_split plan n 0 _ h3
  have hl := List.length_take_le n plan
  have hg := walk_good (q := q) (plan := plan.take n) (now := mid) (fun hh => hh h1) (by have : (plan.take n).length ≤ plan.length := by simp [List.length_take]; omega
                                                                                         omega) e1
  refine ⟨by rw [hg.1], ?_⟩
  have := walkR_len (q := q) (i := 0) (ps := plan.take n) (now := firstL q) (by rw [e1])
  rw [e1] at this
  rw [hg.2.1, this, firstL_len]
theorem parts_rest {plan : List Int} {n : Nat} (h : (walkFault q plan).1 = 0) :
    (walkFault ⟨q.Facts, idxTo (walkNow q (plan.take n)) q.Facts.toNat, q.Goal, q.Acts⟩ (plan.drop n)).1 = 0 ∧ walkNow ⟨q.Facts, idxTo (walkNow q (plan.take n)) q.Facts.toNat, q.Goal, q.Acts⟩ (plan.drop n) = walkNow q plan ∧
      walkOk ⟨q.Facts, idxTo (walkNow q (plan.take n)) q.Facts.toNat, q.Goal, q.Acts⟩ (plan.drop n) = walkOk q plan := by
  have hp := parts_first (n := n) h
  obtain ⟨hQ, h1, h2, h3, h4, h5⟩ := walkFault_zero h
  obtain ⟨mid, e1, e2⟩ := walkR_split plan n 0 _ h3
  have hm : walkNow q (plan.take n) = mid := by
    obtain ⟨_, _, _, _, g4, _⟩ := walkFault_zero hp.1
    rw [g4, e1]
  have hml := hp.2
  rw [hm] at hml
  rw [hm]
  have hQf := hQ.facts
  generalize hq' : (Quest.mk q.Facts (idxTo mid q.Facts.toNat) q.Goal q.Acts) = q'
  have ha : q'.Acts = q.Acts := by rw [← hq']
  have hfct : q'.Facts = q.Facts := by rw [← hq']
  have hgl : q'.Goal = q.Goal := by rw [← hq']
  have hfi : q'.First = idxTo mid q.Facts.toNat := by rw [← hq']
  have hQ' : QW q' := by
    refine ⟨by rw [hfct]; exact hQ.facts, by rw [ha]; exact hQ.many, ?_, by rw [hfct, hgl]; exact hQ.goal, by rw [ha, hfct]; exact hQ.form, by rw [ha]; exact hQ.twice⟩
    rw [hfi, hfct]
    exact (idxTo_rising q.Facts.toNat).mono (by omega)
  have hF : firstL q' = mid := by
    refine nth_ext (by rw [firstL_len, hfct, hml]) fun k hk => ?_
    rw [firstL_len] at hk
    rw [firstL, nth_range hk, hfi, idxTo_has, decide_eq_true (by rw [hfct] at hk; exact hk), Bool.true_and]
  have hw : walkR q' 0 (plan.drop n) (firstL q') = ((0, 0), (walkR q 0 plan (firstL q)).2) := by rw [hF, walkR_acts ha, e2 0]
  have hg := walk_good (q := q') (plan := plan.drop n) (fun hh => hh (by rw [hQ'.code])) (by rw [List.length_drop]; omega) hw
  refine ⟨by rw [hg.1], by rw [hg.2.1, h4], ?_⟩
  rw [hg.2.2, h5, goalA, goalA, hgl]
end
def questQ : Quest := ⟨1, [], [0], [⟨[], [], [0], []⟩]⟩
theorem questQ_1 : walkFault questQ [0] = (0, 0) ∧ walkNow questQ [0] = [true] ∧ walkOk questQ [0] = true := by decide +kernel
theorem questQ_2 : walkFault questQ [] = (0, 0) ∧ walkOk questQ [] = false := by decide +kernel
end Go.Um
