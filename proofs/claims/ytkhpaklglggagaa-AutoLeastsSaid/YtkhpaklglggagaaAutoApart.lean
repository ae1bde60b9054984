/- Which states some word tells apart, as a table that grows. No program is in sight. -/
import Derived.Test.YtkhpaklglggagaaAutoMin
namespace Go.Um
def apRow (a : Auto) (i k : Nat) : List Bool := (List.range a.Next.length).map fun j => if j < k then decide (nth a.Takes i ≠ nth a.Takes j) else false
def apInit (a : Auto) (i : Nat) : List (List Bool) := (List.range i).map fun j => apRow a j a.Next.length
def at2 (M : List (List Bool)) (i k : Nat) : Bool := nth (nth M i) k
def falses (M : List (List Bool)) : Nat := (M.map fun r => r.countP fun b => !b).sum
structure ApOk (a : Auto) (M : List (List Bool)) : Prop where
  len : M.length = a.Next.length
  row : ∀ i, i < a.Next.length → (nth M i).length = a.Next.length
  sound : ∀ i k, i < a.Next.length → k < a.Next.length → at2 M i k = true → ¬ Eqv a (i : Int) (k : Int)
  base : ∀ i k, i < a.Next.length → k < a.Next.length → nth a.Takes i ≠ nth a.Takes k → at2 M i k = true
/-- at a place and a letter there is nothing to be done -/
def clAt (a : Auto) (M : List (List Bool)) (i k s : Nat) : Prop := at2 M i k = false → at2 M (stepA a (i : Int) (s : Int)).toNat (stepA a (k : Int) (s : Int)).toNat = false
structure ApM (a : Auto) (M : List (List Bool)) : Prop where
  len : M.length = a.Next.length
  row : ∀ i, i < a.Next.length → (nth M i).length = a.Next.length
  iff : ∀ i k, i < a.Next.length → k < a.Next.length → (at2 M i k = true ↔ ¬ Eqv a (i : Int) (k : Int))
section
variable {a : Auto} {M : List (List Bool)} {i k s : Nat}
theorem apRow_len : (apRow a i k).length = a.Next.length := by simp [apRow]
theorem apRow_zero : apRow a i 0 = List.replicate a.Next.length false := by
  refine List.ext_getElem (by simp [apRow]) fun q h1 h2 => by simp [apRow]
theorem apRow_set : (apRow a i k).set k (decide (nth a.Takes i ≠ nth a.Takes k)) = apRow a i (k + 1) := by
  refine List.ext_getElem (by simp [apRow]) fun q h1 h2 => ?_
  rw [List.getElem_set]
  simp only [apRow, List.getElem_map, List.getElem_range]
  by_cases hk : k = q
  · subst hk; simp
  · rw [if_neg hk]
    by_cases hq : q < k
    · rw [if_pos hq, if_pos (by omega)]
    · rw [if_neg hq, if_neg (by omega)]
theorem apInit_next : apInit a (i + 1) = apInit a i ++ [apRow a i a.Next.length] := by rw [apInit, List.range_succ, List.map_append]; rfl
theorem apInit_len : (apInit a i).length = i := by simp [apInit]
theorem ApOk.start (hw : WF a) : ApOk a (apInit a a.Next.length) := by
  have h1 : ∀ i, i < a.Next.length → nth (apInit a a.Next.length) i = apRow a i a.Next.length := fun i hi => by rw [apInit, nth_rng hi]
  have h2 : ∀ i k, i < a.Next.length → k < a.Next.length → at2 (apInit a a.Next.length) i k = decide (nth a.Takes i ≠ nth a.Takes k) := fun i k hi hk => by
    rw [at2, h1 i hi, apRow, nth_rng hk, if_pos hk]
  refine ⟨apInit_len, fun i hi => by rw [h1 i hi, apRow_len], fun i k hi hk h he => ?_, fun i k hi hk h => by rw [h2 i k hi hk]; exact decide_eq_true h⟩
  rw [h2 i k hi hk] at h
  have h3 : nth a.Takes ((i : Int)).toNat = nth a.Takes ((k : Int)).toNat := he [] (fun _ h => by cases h)
  rw [Int.toNat_natCast, Int.toNat_natCast] at h3
  exact of_decide_eq_true h h3
theorem at2_set {i' k' : Nat} (hi : i < M.length) (hk : k < (nth M i).length) : at2 (M.set i ((nth M i).set k true)) i' k' = if i = i' ∧ k = k' then true else at2 M i' k' := by
  unfold at2
  by_cases h1 : i = i'
  · subst h1
    rw [show nth (M.set i ((nth M i).set k true)) i = (nth M i).set k true by simp [nth, hi]]
    by_cases h2 : k = k'
    · subst h2
      rw [if_pos ⟨rfl, rfl⟩]; simp [nth] at hk ⊢; simp [hk]
    · rw [if_neg (fun h => h2 h.2)]
      simp [nth, List.getElem?_set, h2]
  · rw [if_neg (fun h => h1 h.1)]
    rw [show nth (M.set i ((nth M i).set k true)) i' = nth M i' by simp [nth, List.getElem?_set, h1]]
theorem count_set : ∀ {r : List Bool} {k : Nat}, k < r.length → nth r k = false → (r.set k true).countP (fun b => !b) + 1 = r.countP (fun b => !b)
  | b :: r, 0, _, h => by
    have h : b = false := h
    subst h; simp
  | b :: r, k + 1, hk, h => by
    have := count_set (r := r) (k := k) (by simpa using hk) h
    rw [List.set_cons_succ, List.countP_cons, List.countP_cons]; omega
  | [], _, hk, _ => by simp at hk
theorem falses_set : ∀ {M : List (List Bool)} {i : Nat} {r : List Bool}, i < M.length → r.countP (fun b => !b) + 1 = (nth M i).countP (fun b => !b) → falses (M.set i r) + 1 = falses M
  | x :: M, 0, r, _, h => by
    have h : r.countP (fun b => !b) + 1 = x.countP (fun b => !b) := h
    simp [falses]; omega
  | x :: M, i + 1, r, hi, h => by
    have := falses_set (M := M) (i := i) (r := r) (by simpa using hi) h
    simp [falses] at this ⊢; omega
  | [], _, _, hi, _ => by simp at hi
theorem ApOk.set (hw : WF a) (h : ApOk a M) (hi : i < a.Next.length) (hk : k < a.Next.length) (hs : (s : Int) < a.Signs) (h0 : at2 M i k = false) (h1 : at2 M (stepA a (i : Int) (s : Int)).toNat (stepA a (k : Int) (s : Int)).toNat = true) :
    ApOk a (M.set i ((nth M i).set k true)) ∧ falses (M.set i ((nth M i).set k true)) + 1 = falses M := by
  have hiM : i < M.length := by rw [h.len]; exact hi
  have hkr : k < (nth M i).length := by rw [h.row i hi]; exact hk
  have hset := fun i' k' => at2_set (i' := i') (k' := k') hiM hkr
  refine ⟨⟨by rw [List.length_set]; exact h.len, fun j hj => ?_, fun i' k' hi' hk' hb => ?_, fun i' k' hi' hk' hb => ?_⟩, falses_set hiM (count_set hkr h0)⟩
  · by_cases hij : i = j
    · subst hij
      rw [show nth (M.set i ((nth M i).set k true)) i = (nth M i).set k true by simp [nth, hiM], List.length_set]
      exact h.row i hi
    · rw [show nth (M.set i ((nth M i).set k true)) j = nth M j by simp [nth, List.getElem?_set, hij]]
      exact h.row j hj
  · rw [hset] at hb
    by_cases he : i = i' ∧ k = k'
    · obtain ⟨rfl, rfl⟩ := he
      intro hE
      have s1 := InA.step (a := a) (s := (i : Int)) (c := (s : Int)) hw ⟨by omega, by omega⟩ ⟨by omega, hs⟩
      have s2 := InA.step (a := a) (s := (k : Int)) (c := (s : Int)) hw ⟨by omega, by omega⟩ ⟨by omega, hs⟩
      have h3 := h.sound _ _ (by have := s1.1; have := s1.2; omega) (by have := s2.1; have := s2.2; omega) h1
      rw [show (((stepA a (i : Int) (s : Int)).toNat : Nat) : Int) = stepA a i s by have := s1.1; omega, show (((stepA a (k : Int) (s : Int)).toNat : Nat) : Int) = stepA a k s by have := s2.1; omega] at h3
      exact h3 (hE.step ⟨by omega, hs⟩)
    · rw [if_neg he] at hb
      exact h.sound i' k' hi' hk' hb
  · rw [hset]
    by_cases he : i = i' ∧ k = k'
    · rw [if_pos he]
    · rw [if_neg he]; exact h.base i' k' hi' hk' hb
theorem ApOk.done (hw : WF a) (h : ApOk a M) (hc : ∀ i, i < a.Next.length → ∀ k, k < a.Next.length → ∀ s : Nat, (s : Int) < a.Signs → clAt a M i k s) : ApM a M where
  len := h.len
  row := h.row
  iff i k hi hk := by
    refine ⟨h.sound i k hi hk, fun hne => ?_⟩
    refine Classical.byContradiction fun h0 => hne ?_
    have key : ∀ (l : List Int) (i k : Nat), i < a.Next.length → k < a.Next.length → at2 M i k = false → Valid_ a.Signs l → takesA a (i : Int) l = takesA a (k : Int) l := by
      intro l
      induction l with
      | nil =>
        intro i k hi hk h1 _
        refine Classical.byContradiction fun h2 => ?_
        have h3 := h.base i k hi hk (by
          intro e
          apply h2
          show nth a.Takes ((i : Int)).toNat = nth a.Takes ((k : Int)).toNat
          rw [Int.toNat_natCast, Int.toNat_natCast, e])
        rw [h1] at h3; cases h3
      | cons c l ih =>
        intro i k hi hk h1 hv
        have hcv := hv c (List.mem_cons_self ..)
        have s1 := InA.step (a := a) (s := (i : Int)) hw ⟨by omega, by omega⟩ hcv
        have s2 := InA.step (a := a) (s := (k : Int)) hw ⟨by omega, by omega⟩ hcv
        have h3 := hc i hi k hk c.toNat (by omega) h1
        rw [show ((c.toNat : Nat) : Int) = c by omega] at h3
        have h4 := ih _ _ (by have := s1.1; have := s1.2; omega) (by have := s2.1; have := s2.2; omega) h3 fun d hd => hv d (List.mem_cons_of_mem _ hd)
        rw [show (((stepA a (i : Int) c).toNat : Nat) : Int) = stepA a i c by have := s1.1; omega, show (((stepA a (k : Int) c).toNat : Nat) : Int) = stepA a k c by have := s2.1; omega] at h4
        rw [takes_cons, takes_cons]; exact h4
    intro l hl
    exact key l i k hi hk (by simpa using h0) hl
/-- how far a round has come, if it has changed nothing -/
structure Pass (a : Auto) (M : List (List Bool)) (b : Bool) (F i k s : Nat) : Prop where
  ok : ApOk a M
  le : falses M ≤ F
  lt : b = true → falses M < F
  rows : b = false → ∀ i', i' < i → ∀ k', k' < a.Next.length → ∀ s' : Nat, (s' : Int) < a.Signs → clAt a M i' k' s'
  row : b = false → ∀ k', k' < k → ∀ s' : Nat, (s' : Int) < a.Signs → clAt a M i k' s'
  at_ : b = false → ∀ s' : Nat, s' < s → clAt a M i k s'
variable {b : Bool} {F : Nat}
theorem Pass.start (h : ApOk a M) : Pass a M false (falses M) 0 0 0 := ⟨h, Nat.le_refl _, (fun h => by cases h), (fun _ _ h => by omega), (fun _ _ h => by omega), (fun _ _ h => by omega)⟩
theorem Pass.yes (hw : WF a) (h : Pass a M b F i k s) (hi : i < a.Next.length) (hk : k < a.Next.length) (hs : (s : Int) < a.Signs) (h0 : at2 M i k = false) (h1 : at2 M (stepA a (i : Int) (s : Int)).toNat (stepA a (k : Int) (s : Int)).toNat = true) : Pass a (M.set i ((nth M i).set k true)) true F i k (s + 1) := by
  obtain ⟨h2, h3⟩ := h.ok.set hw hi hk hs h0 h1
  have := h.le
  exact ⟨h2, by omega, fun _ => by omega, (fun h => by cases h), (fun h => by cases h), (fun h => by cases h)⟩
theorem Pass.no (h : Pass a M b F i k s) (h0 : ¬ (at2 M i k = false ∧ at2 M (stepA a (i : Int) (s : Int)).toNat (stepA a (k : Int) (s : Int)).toNat = true)) : Pass a M b F i k (s + 1) where
  ok := h.ok
  le := h.le
  lt := h.lt
  rows := h.rows
  row := h.row
  at_ hb s' hs' := by
    by_cases he : s' = s
    · subst he
      intro h1
      cases h2 : at2 M (stepA a (i : Int) (s' : Int)).toNat (stepA a (k : Int) (s' : Int)).toNat with
      | false => rfl
      | true => exact absurd ⟨h1, h2⟩ h0
    · exact h.at_ hb s' (by omega)
theorem Pass.letter (h : Pass a M b F i k s) (hs : a.Signs ≤ (s : Int)) : Pass a M b F i (k + 1) 0 where
  ok := h.ok
  le := h.le
  lt := h.lt
  rows := h.rows
  row hb k' hk' s' hs' := by
    by_cases he : k' = k
    · subst he; exact h.at_ hb s' (by omega)
    · exact h.row hb k' (by omega) s' hs'
  at_ _ _ h := by omega
theorem Pass.place (h : Pass a M b F i k 0) (hk : a.Next.length ≤ k) : Pass a M b F (i + 1) 0 0 where
  ok := h.ok
  le := h.le
  lt := h.lt
  rows hb i' hi' k' hk' s' hs' := by
    by_cases he : i' = i
    · subst he; exact h.row hb k' (by omega) s' hs'
    · exact h.rows hb i' (by omega) k' hk' s' hs'
  row _ _ h := by omega
  at_ _ _ h := by omega
def Done (a : Auto) (M : List (List Bool)) : Prop := ∀ i, i < a.Next.length → ∀ k, k < a.Next.length → ∀ s : Nat, (s : Int) < a.Signs → clAt a M i k s
theorem Pass.all (h : Pass a M b F i 0 0) (hi : a.Next.length ≤ i) (hb : b = false) : Done a M := fun i' hi' k' hk' s' hs' => h.rows hb i' (by omega) k' hk' s' hs'
end
end Go.Um
