/- Patterns on texts: what the program's search and the document's search come to. No program is in sight. -/
import Derived.Test.YtacphjgolmolmaaUmPlain
namespace Go.Um
open GoT (sz ag rdc)

abbrev Subst := Int → Option (List Int)
def put (σ : Subst) (p : Int) (w : List Int) : Subst := fun q => if p = q then some w else σ q

/-- The program's search. -/
def fitF : List Int → List Int → Subst → Option Subst
  | [], t, σ => if t = [] then some σ else none
  | p :: ps, t, σ =>
    if 0 ≤ p then (if 0 < t.length ∧ nth t 0 = p then fitF ps (t.drop 1) σ else none)
    else match σ p with
      | some w => if w.length ≤ t.length ∧ w = t.take w.length then fitF ps (t.drop w.length) σ else none
      | none => fst1 (fun n => fitF ps (t.drop n) (put σ p (t.take n))) 0 (t.length + 1)

/-- The document's search. -/
def fitR : List Int → List Int → List (List Int) → List Bool → Option (List (List Int))
  | [], t, is, _ => if t = [] then some is else none
  | p :: ps, t, is, told =>
    if 0 ≤ p then (if 0 < t.length ∧ nth t 0 = p then fitR ps (t.drop 1) is told else none)
    else
      let k := (-p - 1).toNat
      if nth told k = true then (if (nth is k).length ≤ t.length ∧ t.take (nth is k).length = nth is k then fitR ps (t.drop (nth is k).length) is told else none)
      else fst1 (fun n => fitR ps (t.drop n) (is.set k (t.take n)) (told.set k true)) 0 (t.length + 1)

/-- The two know the same. -/
structure Alike (m : Nat) (σ : Subst) (is : List (List Int)) (told : List Bool) : Prop where
  li : is.length = m
  lt : told.length = m
  at_ : ∀ k, k < m → σ (-(k : Int) - 1) = if nth told k = true then some (nth is k) else none
  un : ∀ k, k < m → nth told k = false → nth is k = []

theorem nth_set_same {α : Type} [Inhabited α] {l : List α} {k : Nat} {x : α} (h : k < l.length) : nth (l.set k x) k = x := by
  simp [nth, h]
theorem nth_set_ne {α : Type} [Inhabited α] {l : List α} {k j : Nat} {x : α} (h : k ≠ j) : nth (l.set k x) j = nth l j := by
  simp [nth, List.getElem?_set_ne h]

theorem Alike.put {m : Nat} {σ : Subst} {is : List (List Int)} {told : List Bool} (h : Alike m σ is told) {p : Int} {w : List Int} (hp : p < 0) :
    Alike m (put σ p w) (is.set (-p - 1).toNat w) (told.set (-p - 1).toNat true) where
  li := by simpa using h.li
  lt := by simpa using h.lt
  at_ k hk := by
    by_cases hkp : (-p - 1).toNat = k
    · have e : p = -(k : Int) - 1 := by omega
      rw [hkp, nth_set_same (by rw [h.lt]; exact hk), nth_set_same (by rw [h.li]; exact hk)]
      simp [Um.put, e]
    · rw [nth_set_ne hkp, nth_set_ne hkp]
      have : ¬ p = -(k : Int) - 1 := by omega
      simp only [Um.put, this, if_false]
      exact h.at_ k hk
  un k hk hf := by
    by_cases hkp : (-p - 1).toNat = k
    · rw [hkp, nth_set_same (by rw [h.lt]; exact hk)] at hf; cases hf
    · rw [nth_set_ne hkp] at hf ⊢
      exact h.un k hk hf

theorem fst1_rel {β γ : Type} {g : Nat → Option β} {g' : Nat → Option γ} {R : β → γ → Prop} (h : ∀ i, (g i = none ∧ g' i = none) ∨ ∃ x y, g i = some x ∧ g' i = some y ∧ R x y) :
    ∀ (n i : Nat), (fst1 g i n = none ∧ fst1 g' i n = none) ∨ ∃ x y, fst1 g i n = some x ∧ fst1 g' i n = some y ∧ R x y := by
  intro n
  induction n with
  | zero => intro i; exact .inl ⟨rfl, rfl⟩
  | succ n ih =>
    intro i
    rcases h i with ⟨h1, h2⟩ | ⟨x, y, h1, h2, h3⟩
    · simp only [fst1, h1, h2]; exact ih (i + 1)
    · simp only [fst1, h1, h2]; exact .inr ⟨x, y, rfl, rfl, h3⟩

/-- The two searches come to the same. -/
theorem fit_same (m : Nat) : ∀ (ps t : List Int) (σ : Subst) (is : List (List Int)) (told : List Bool), Alike m σ is told → (∀ p ∈ ps, -p ≤ m) →
    (fitF ps t σ = none ∧ fitR ps t is told = none) ∨ ∃ σ' is', fitF ps t σ = some σ' ∧ fitR ps t is told = some is' ∧ ∃ told', Alike m σ' is' told' := by
  intro ps
  induction ps with
  | nil =>
    intro t σ is told h _
    simp only [fitF, fitR]
    by_cases ht : t = []
    · rw [if_pos ht, if_pos ht]; exact .inr ⟨σ, is, rfl, rfl, told, h⟩
    · rw [if_neg ht, if_neg ht]; exact .inl ⟨rfl, rfl⟩
  | cons p ps ih =>
    intro t σ is told h hm
    have hm' : ∀ q ∈ ps, -q ≤ m := fun q hq => hm q (List.mem_cons_of_mem _ hq)
    simp only [fitF, fitR]
    by_cases hp : 0 ≤ p
    · rw [if_pos hp, if_pos hp]
      by_cases hc : 0 < t.length ∧ nth t 0 = p
      · rw [if_pos hc, if_pos hc]; exact ih _ _ _ _ h hm'
      · rw [if_neg hc, if_neg hc]; exact .inl ⟨rfl, rfl⟩
    · rw [if_neg hp, if_neg hp]
      have hpm := hm p (List.mem_cons_self ..)
      have hk : (-p - 1).toNat < m := by omega
      have hat := h.at_ _ hk
      rw [show -(((-p - 1).toNat : Nat) : Int) - 1 = p from by omega] at hat
      rw [hat]
      by_cases htold : nth told (-p - 1).toNat = true
      · rw [if_pos htold, if_pos htold]
        simp only
        by_cases hc : (nth is (-p - 1).toNat).length ≤ t.length ∧ nth is (-p - 1).toNat = t.take (nth is (-p - 1).toNat).length
        · rw [if_pos hc, if_pos ⟨hc.1, hc.2.symm⟩]; exact ih _ _ _ _ h hm'
        · rw [if_neg hc, if_neg fun hh => hc ⟨hh.1, hh.2.symm⟩]; exact .inl ⟨rfl, rfl⟩
      · rw [if_neg htold, if_neg htold]
        simp only
        exact fst1_rel (R := fun σ' is' => ∃ told', Alike m σ' is' told') (fun n => by
          rcases ih (t.drop n) _ _ _ (h.put (p := p) (w := t.take n) (by omega)) hm' with h1 | ⟨σ', is', h1, h2, h3⟩
          · exact .inl h1
          · exact .inr ⟨σ', is', h1, h2, h3⟩) _ _

def mostL (l : List Int) : Int := l.foldl (fun m x => max m (-x)) 0

theorem mostL_snoc (l : List Int) (x : Int) : mostL (l ++ [x]) = max (mostL l) (-x) := by simp [mostL]
theorem mostL_nonneg (l : List Int) : 0 ≤ mostL l := by
  have : ∀ (l : List Int) (a : Int), 0 ≤ a → 0 ≤ l.foldl (fun m x => max m (-x)) a := by
    intro l
    induction l with
    | nil => intro a h; exact h
    | cons x l ih => intro a h; exact ih _ (by show 0 ≤ max a (-x); omega)
  exact this l 0 (by omega)
theorem mostL_ge (l : List Int) : ∀ p ∈ l, -p ≤ mostL l := by
  have h1 : ∀ (l : List Int) (a : Int), a ≤ l.foldl (fun m x => max m (-x)) a := by
    intro l
    induction l with
    | nil => intro a; exact Int.le_refl _
    | cons x l ih => intro a; exact Int.le_trans (by show a ≤ max a (-x); omega) (ih _)
  have h2 : ∀ (l : List Int) (a : Int), ∀ p ∈ l, -p ≤ l.foldl (fun m x => max m (-x)) a := by
    intro l
    induction l with
    | nil => intro a p hp; cases hp
    | cons x l ih =>
      intro a p hp
      rcases List.mem_cons.1 hp with rfl | hp
      · exact Int.le_trans (by show -p ≤ max a (-p); omega) (h1 l _)
      · exact ih _ p hp
  exact h2 l 0
theorem mostL_le {l : List Int} {m : Int} (hm : 0 ≤ m) (h : ∀ p ∈ l, -p ≤ m) : mostL l ≤ m := by
  have : ∀ (l : List Int) (a : Int), a ≤ m → (∀ p ∈ l, -p ≤ m) → l.foldl (fun m x => max m (-x)) a ≤ m := by
    intro l
    induction l with
    | nil => intro a h _; exact h
    | cons x l ih =>
      intro a h1 h2
      have := h2 x (List.mem_cons_self ..)
      exact ih _ (by show max a (-x) ≤ m; omega) fun p hp => h2 p (List.mem_cons_of_mem _ hp)
  exact this l 0 hm h

/-- What is wrong with a pattern and a text. -/
def fitFault (p t : List Int) : Int × Int :=
  if 8 < p.length ∨ 30 < t.length then (2, 0)
  else match badAt (-3) 11 p with
    | some i => (3, i)
    | none => match badAt 0 11 t with
      | some i => (3, (p.length : Int) + i)
      | none => (0, 0)

/-- What the unknowns are. -/
def outF (σ : Subst) (m : Nat) : List (List Int) := (List.range m).map fun (k : Nat) => (σ (-(k : Int) - 1)).getD []

theorem outF_succ (σ : Subst) (k : Nat) : outF σ (k + 1) = outF σ k ++ [(σ (-(k : Int) - 1)).getD []] := by simp [outF, List.range_succ]

theorem outF_alike {m : Nat} {σ : Subst} {is : List (List Int)} {told : List Bool} (h : Alike m σ is told) : outF σ m = is := by
  apply List.ext_getElem
  · simp [outF, h.li]
  · intro k h1 h2
    simp only [outF, List.length_map, List.length_range] at h1
    simp only [outF, List.getElem_map, List.getElem_range, h.at_ k h1]
    rw [← nth_eq (by rw [h.li]; exact h1)]
    cases ht : nth told k with
    | true => simp
    | false => rw [h.un k h1 ht]; rfl

theorem alike_start (m : Nat) : Alike m (fun _ => none) (List.replicate m []) (List.replicate m false) where
  li := by simp
  lt := by simp
  at_ k hk := by simp [nth, hk]
  un k hk _ := by simp [nth, hk]

/-- rope.Fit, where nothing is wrong. -/
def ropeFit (p t : List Int) : Option (List (List Int)) := (fitF p t fun _ => none).map fun σ => outF σ (mostL p).toNat
/-- The document's. -/
def refFit (p t : List Int) : Option (List (List Int)) := fitR p t (List.replicate (mostL p).toNat []) (List.replicate (mostL p).toNat false)

theorem ropeFit_eq (p t : List Int) : ropeFit p t = refFit p t := by
  have hm := mostL_nonneg p
  rcases fit_same (mostL p).toNat p t _ _ _ (alike_start _) (fun q hq => by have := mostL_ge p q hq; omega) with ⟨h1, h2⟩ | ⟨σ', is', h1, h2, told', h3⟩
  · rw [ropeFit, refFit, h1, h2]; rfl
  · rw [ropeFit, refFit, h1, h2, Option.map_some, outF_alike h3]

theorem fitF_nil {ps t : List Int} {σ : Subst} (h : ps.length = 0) : fitF ps t σ = if t.length = 0 then some σ else none := by
  have : ps = [] := List.eq_nil_of_length_eq_zero h
  subst this
  simp [fitF]
theorem fitF_cons {ps t : List Int} {σ : Subst} (h : 0 < ps.length) : fitF ps t σ =
    if 0 ≤ nth ps 0 then (if 0 < t.length ∧ nth t 0 = nth ps 0 then fitF (ps.drop 1) (t.drop 1) σ else none)
    else match σ (nth ps 0) with
      | some w => if w.length ≤ t.length ∧ w = t.take w.length then fitF (ps.drop 1) (t.drop w.length) σ else none
      | none => fst1 (fun n => fitF (ps.drop 1) (t.drop n) (put σ (nth ps 0) (t.take n))) 0 (t.length + 1) := by
  match ps, h with
  | p :: ps, _ => simp only [fitF]; rfl
theorem fitR_nil {ps t : List Int} {is : List (List Int)} {told : List Bool} (h : ps.length = 0) : fitR ps t is told = if t.length = 0 then some is else none := by
  have : ps = [] := List.eq_nil_of_length_eq_zero h
  subst this
  simp [fitR]
theorem fitR_cons {ps t : List Int} {is : List (List Int)} {told : List Bool} (h : 0 < ps.length) : fitR ps t is told =
    if 0 ≤ nth ps 0 then (if 0 < t.length ∧ nth t 0 = nth ps 0 then fitR (ps.drop 1) (t.drop 1) is told else none)
    else if nth told (-nth ps 0 - 1).toNat = true then
      (if (nth is (-nth ps 0 - 1).toNat).length ≤ t.length ∧ t.take (nth is (-nth ps 0 - 1).toNat).length = nth is (-nth ps 0 - 1).toNat then fitR (ps.drop 1) (t.drop (nth is (-nth ps 0 - 1).toNat).length) is told else none)
    else fst1 (fun n => fitR (ps.drop 1) (t.drop n) (is.set (-nth ps 0 - 1).toNat (t.take n)) (told.set (-nth ps 0 - 1).toNat true)) 0 (t.length + 1) := by
  match ps, h with
  | p :: ps, _ => simp only [fitR]; rfl

section
variable {ps t : List Int} {σ : Subst} {n : Nat} {y : Subst}
theorem fit_found (hlen : 0 < ps.length) (hneg : ¬ 0 ≤ nth ps 0) (hnone : σ (nth ps 0) = none) (hloop : ∀ j, j < n → fitF (ps.drop 1) (t.drop j) (put σ (nth ps 0) (t.take j)) = none)
    (hk : n < t.length + 1) (hy : fitF (ps.drop 1) (t.drop n) (put σ (nth ps 0) (t.take n)) = some y) : fitF ps t σ = some y := by
  rw [fitF_cons hlen, if_neg hneg, hnone]
  exact fst1_some hy (Nat.zero_le _) (by omega) fun j _ hj => hloop j hj
theorem fit_lost (hlen : 0 < ps.length) (hneg : ¬ 0 ≤ nth ps 0) (hnone : σ (nth ps 0) = none) (hloop : ∀ j, j < n → fitF (ps.drop 1) (t.drop j) (put σ (nth ps 0) (t.take j)) = none)
    (hk : t.length + 1 ≤ n) : fitF ps t σ = none := by
  rw [fitF_cons hlen, if_neg hneg, hnone]
  exact fst1_none fun j _ hj => hloop j (by omega)
theorem all_succ {p : Nat → Prop} (h : ∀ j, j < n → p j) (hn : p n) : ∀ j, j < n + 1 → p j := fun j hj => by
  rcases Nat.lt_succ_iff_lt_or_eq.1 hj with h1 | h1
  · exact h j h1
  · subst h1; exact hn
end

/-- All that rope.Fit answers. -/
def ropeAll (p t : List Int) : List (List Int) × Bool × Int × Int :=
  if (fitFault p t).1 = 0 then (match ropeFit p t with | some x => (x, true, 0, 0) | none => ([], false, 0, 0)) else ([], false, fitFault p t)

section
variable {p t : List Int} {k : Nat}
theorem ropeAll_many (h : 8 < (p.length : Int) ∨ 30 < (t.length : Int)) : ropeAll p t = ([], false, 2, 0) := by
  have : fitFault p t = (2, 0) := by rw [fitFault, if_pos (by omega)]
  rw [ropeAll, this]; rfl
theorem fitFault_p (h : ¬ (8 < (p.length : Int) ∨ 30 < (t.length : Int))) (hg : ∀ j, j < k → -3 ≤ nth p j ∧ nth p j ≤ 11) (hk : k < p.length) (hb : nth p k < -3 ∨ 11 < nth p k) : fitFault p t = (3, (k : Int)) := by
  rw [fitFault, if_neg (by omega), badAt_some hk hg (by omega)]
theorem fitFault_t (h : ¬ (8 < (p.length : Int) ∨ 30 < (t.length : Int))) (hp : ∀ j, j < p.length → -3 ≤ nth p j ∧ nth p j ≤ 11) (hg : ∀ j, j < k → 0 ≤ nth t j ∧ nth t j ≤ 11) (hk : k < t.length) (hb : nth t k < 0 ∨ 11 < nth t k) :
    fitFault p t = (3, (p.length : Int) + k) := by
  rw [fitFault, if_neg (by omega), badAt_none hp, badAt_some hk hg (by omega)]
theorem fitFault_no (h : ¬ (8 < (p.length : Int) ∨ 30 < (t.length : Int))) (hp : ∀ j, j < p.length → -3 ≤ nth p j ∧ nth p j ≤ 11) (hg : ∀ j, j < t.length → 0 ≤ nth t j ∧ nth t j ≤ 11) :
    fitFault p t = (0, 0) := by
  rw [fitFault, if_neg (by omega), badAt_none hp, badAt_none hg]
theorem ropeAll_bad {c a : Int} (h : fitFault p t = (c, a)) (hc : c ≠ 0) : ropeAll p t = ([], false, c, a) := by
  rw [ropeAll, h, if_neg hc]
theorem ropeAll_no (h : fitFault p t = (0, 0)) (hn : fitF p t (fun _ => none) = none) : ropeAll p t = ([], false, 0, 0) := by
  rw [ropeAll, h, if_pos rfl, ropeFit, hn]; rfl
theorem ropeAll_yes {σ : Subst} (h : fitFault p t = (0, 0)) (hn : fitF p t (fun _ => none) = some σ) : ropeAll p t = (outF σ (mostL p).toNat, true, 0, 0) := by
  rw [ropeAll, h, if_pos rfl, ropeFit, hn]; rfl
theorem mostL_3 (hp : ∀ j, j < p.length → -3 ≤ nth p j ∧ nth p j ≤ 11) : mostL p ≤ 3 := by
  refine mostL_le (by omega) fun q hq => ?_
  obtain ⟨j, hj, rfl⟩ := List.getElem_of_mem hq
  have := hp j hj
  rw [nth_eq hj] at this
  omega
theorem mostL_take (hk : k < p.length) : max (mostL (p.take k)) (-nth p k) = mostL (p.take (k + 1)) := by rw [take_succ_nth hk, mostL_snoc]
theorem mostL_all (hk : ¬ k < p.length) : mostL (p.take k) = mostL p := by rw [List.take_of_length_le (by omega)]
theorem outF_next (σ : Subst) (j : Nat) : outF σ (j + 1) = outF σ j ++ [(σ (-((j : Int) + 1))).getD []] := by
  rw [outF_succ, show -(j : Int) - 1 = -((j : Int) + 1) from by omega]
end

section
variable {p t : List Int} {is : List (List Int)} {told : List Bool} {n : Nat} {y : List (List Int)}
theorem fitR_found (hlen : 0 < p.length) (hneg : ¬ 0 ≤ nth p 0) (hun : nth told (-nth p 0 - 1).toNat = false)
    (hloop : ∀ j, j < n → fitR (p.drop 1) (t.drop j) (is.set (-nth p 0 - 1).toNat (t.take j)) (told.set (-nth p 0 - 1).toNat true) = none) (hk : n < t.length + 1)
    (hy : fitR (p.drop 1) (t.drop n) (is.set (-nth p 0 - 1).toNat (t.take n)) (told.set (-nth p 0 - 1).toNat true) = some y) : fitR p t is told = some y := by
  rw [fitR_cons hlen, if_neg hneg, if_neg (by rw [hun]; simp)]
  exact fst1_some hy (Nat.zero_le _) (by omega) fun j _ hj => hloop j hj
theorem fitR_lost (hlen : 0 < p.length) (hneg : ¬ 0 ≤ nth p 0) (hun : nth told (-nth p 0 - 1).toNat = false)
    (hloop : ∀ j, j < n → fitR (p.drop 1) (t.drop j) (is.set (-nth p 0 - 1).toNat (t.take j)) (told.set (-nth p 0 - 1).toNat true) = none) (hk : t.length + 1 ≤ n) : fitR p t is told = none := by
  rw [fitR_cons hlen, if_neg hneg, if_neg (by rw [hun]; simp)]
  exact fst1_none fun j _ hj => hloop j (by omega)
end

section
variable {p t : List Int} {k : Nat} {c a q : Int}
theorem fitFault_zero (h : (fitFault p t).1 = 0) : fitFault p t = (0, 0) := by
  unfold fitFault at *
  split at h
  · cases h
  · rename_i h1
    rw [if_neg h1]
    cases hp : badAt (-3) 11 p with
    | some i => rw [hp] at h; cases h
    | none =>
      rw [hp] at h
      cases ht : badAt 0 11 t with
      | some i => rw [ht] at h; cases h
      | none => rfl
theorem ropeAll_fault : (ropeAll p t).2.2 = fitFault p t := by
  unfold ropeAll
  split
  · rename_i h
    rw [fitFault_zero h]
    split <;> rfl
  · rfl
theorem ropeAll_ok (h : fitFault p t = (0, 0)) : (ropeAll p t).2.1 = (refFit p t).isSome := by
  rw [ropeAll, h, if_pos rfl, ropeFit_eq]
  cases refFit p t <;> rfl
theorem ropeAll_list (h : fitFault p t = (0, 0)) : (ropeAll p t).1 = (refFit p t).getD [] := by
  rw [ropeAll, h, if_pos rfl, ropeFit_eq]
  cases refFit p t <;> rfl
theorem fitFault_big (h : 8 < (p.length : Int) ∨ 30 < (t.length : Int)) : fitFault p t = (2, 0) := by rw [fitFault, if_pos (by omega)]

/-- What the law knows behind k signs of the pattern. -/
def FitA (p t : List Int) (k : Nat) (c a q : Int) : Prop :=
  (c = 0 ∧ a = 0 ∧ ¬ (8 < (p.length : Int) ∨ 30 < (t.length : Int)) ∧ (∀ j, j < k → -3 ≤ nth p j ∧ nth p j ≤ 11) ∧ q = mostL (p.take k)) ∨ (c ≠ 0 ∧ fitFault p t = (c, a))
/-- .. behind all of the pattern and k signs of the text. -/
def FitB (p t : List Int) (k : Nat) (c a q : Int) : Prop :=
  (c = 0 ∧ a = 0 ∧ ¬ (8 < (p.length : Int) ∨ 30 < (t.length : Int)) ∧ (∀ j, j < p.length → -3 ≤ nth p j ∧ nth p j ≤ 11) ∧ q = mostL p ∧ (∀ j, j < k → 0 ≤ nth t j ∧ nth t j ≤ 11)) ∨ (c ≠ 0 ∧ fitFault p t = (c, a))
theorem FitA.bad (h : FitA p t k 0 a q) (hk : k < p.length) (hb : ¬ (-3 ≤ nth p k ∧ nth p k ≤ 11)) (q' : Int) : FitA p t (k + 1) 3 k q' := by
  rcases h with ⟨_, _, h1, h2, _⟩ | ⟨h, _⟩
  · exact .inr ⟨by decide, fitFault_p h1 h2 hk (by omega)⟩
  · exact (h rfl).elim
theorem FitA.good (h : FitA p t k 0 a q) (hk : k < p.length) (hb : -3 ≤ nth p k ∧ nth p k ≤ 11) {q' : Int} (hq : q' = max q (-nth p k)) : FitA p t (k + 1) 0 a q' := by
  rcases h with ⟨_, h0, h1, h2, h3⟩ | ⟨h, _⟩
  · exact .inl ⟨rfl, h0, h1, all_succ h2 hb, by rw [hq, h3, mostL_take hk]⟩
  · exact (h rfl).elim
theorem FitA.done (h : FitA p t k c a q) (hk : k ≤ p.length) (hx : ¬ ((k : Int) < p.length ∧ c = 0)) : FitB p t 0 c a q := by
  rcases h with ⟨h0, h1, h2, h3, h4⟩ | h
  · have : k = p.length := by omega
    subst this
    exact .inl ⟨h0, h1, h2, h3, by rw [h4, List.take_length], fun j hj => absurd hj (Nat.not_lt_zero j)⟩
  · exact .inr h
theorem FitB.bad (h : FitB p t k 0 a q) (hk : k < t.length) (hb : ¬ (0 ≤ nth t k ∧ nth t k ≤ 11)) : FitB p t (k + 1) 3 ((p.length : Int) + k) q := by
  rcases h with ⟨_, _, h1, h2, _, h3⟩ | ⟨h, _⟩
  · exact .inr ⟨by decide, fitFault_t h1 h2 h3 hk (by omega)⟩
  · exact (h rfl).elim
theorem FitB.good (h : FitB p t k 0 a q) (hb : 0 ≤ nth t k ∧ nth t k ≤ 11) : FitB p t (k + 1) 0 a q := by
  rcases h with ⟨_, h0, h1, h2, h3, h4⟩ | ⟨h, _⟩
  · exact .inl ⟨rfl, h0, h1, h2, h3, all_succ h4 hb⟩
  · exact (h rfl).elim
theorem FitB.done (h : FitB p t k c a q) (hk : k ≤ t.length) (hx : ¬ ((k : Int) < t.length ∧ c = 0)) : fitFault p t = (c, a) ∧ (c = 0 → q = mostL p ∧ mostL p ≤ 3 ∧ a = 0) := by
  rcases h with ⟨h0, h1, h2, h3, h4, h5⟩ | h
  · have : k = t.length := by omega
    subst this
    exact ⟨by rw [h0, h1]; exact fitFault_no h2 h3 h5, fun _ => ⟨h4, mostL_3 h3, h1⟩⟩
  · exact ⟨h.2, fun h0 => (h.1 h0).elim⟩
end
end Go.Um
