/- Classes of states that take the same, made finer round by round. No program is in sight. -/
import Derived.Test.YtkhpaklglggagaaAutoMin
namespace Go.Um
/-! ### Numbers of classes -/
def repsTo (s : Int → Int → Bool) : Nat → List Int
  | 0 => []
  | i + 1 => if idxOf (fun j => s (i : Int) j) (repsTo s i) < 0 then repsTo s i ++ [(i : Int)] else repsTo s i
def numC (s : Int → Int → Bool) (i : Nat) : Int := if idxOf (fun j => s (i : Int) j) (repsTo s i) < 0 then ((repsTo s i).length : Int) else idxOf (fun j => s (i : Int) j) (repsTo s i)
structure EqN (s : Int → Int → Bool) (n : Nat) : Prop where
  refl : ∀ i : Int, 0 ≤ i → i < n → s i i = true
  symm : ∀ i j : Int, 0 ≤ i → i < n → 0 ≤ j → j < n → s i j = true → s j i = true
  trans : ∀ i j k : Int, 0 ≤ i → i < n → 0 ≤ j → j < n → 0 ≤ k → k < n → s i j = true → s j k = true → s i k = true
structure Reps (s : Int → Int → Bool) (i : Nat) : Prop where
  rng : ∀ r, r ∈ repsTo s i → 0 ≤ r ∧ r < (i : Int)
  apart : ∀ p q, p < q → q < (repsTo s i).length → s (nth (repsTo s i) q) (nth (repsTo s i) p) = false
  num : ∀ j, j < i → 0 ≤ numC s j ∧ numC s j < ((repsTo s i).length : Int) ∧ s (j : Int) (nth (repsTo s i) (numC s j).toNat) = true
section
variable {s : Int → Int → Bool} {n i : Nat}
theorem idxOf_cases {α : Type} [Inhabited α] (g : α → Bool) (L : List α) : (idxOf g L < 0 ∧ ∀ j, j < L.length → g (nth L j) = false) ∨ ∃ k : Nat, k < L.length ∧ idxOf g L = (k : Int) ∧ g (nth L k) = true := by
  rcases first_or g L with h | ⟨k, hk, h1, h2⟩
  · exact .inl ⟨by rw [idxOf_no h]; decide, h⟩
  · exact .inr ⟨k, hk, idxOf_at hk h1 h2, h2⟩
theorem reps_is (h : EqN s n) : ∀ i, i ≤ n → Reps s i
  | 0, _ => ⟨(fun r hr => by cases hr), (fun p q _ hq => by simp [repsTo] at hq), (fun j hj => by omega)⟩
  | i + 1, hi => by
    have ih := reps_is h i (by omega)
    rcases idxOf_cases (fun j => s (i : Int) j) (repsTo s i) with ⟨h1, h2⟩ | ⟨k, hk, h1, h2⟩
    · have e : repsTo s (i + 1) = repsTo s i ++ [(i : Int)] := by rw [repsTo, if_pos h1]
      have en : numC s i = ((repsTo s i).length : Int) := by rw [numC, if_pos h1]
      refine ⟨fun r hr => ?_, fun p q hp hq => ?_, fun j hj => ?_⟩
      · rw [e] at hr
        rcases List.mem_append.1 hr with hr | hr
        · have := ih.rng r hr; omega
        · rw [List.mem_singleton.1 hr]; omega
      · rw [e] at hq ⊢
        simp only [List.length_append, List.length_singleton] at hq
        by_cases hql : q < (repsTo s i).length
        · rw [nth_app_left hql, nth_app_left (by omega)]; exact ih.apart p q hp hql
        · have : q = (repsTo s i).length := by omega
          subst this
          rw [nth_app_last, nth_app_left (by omega)]
          exact h2 p hp
      · rw [e]
        simp only [List.length_append, List.length_singleton]
        by_cases hji : j < i
        · obtain ⟨h3, h4, h5⟩ := ih.num j hji
          refine ⟨h3, by omega, ?_⟩
          rw [nth_app_left (by omega)]; exact h5
        · have : j = i := by omega
          subst this
          rw [en]
          refine ⟨by omega, by omega, ?_⟩
          rw [Int.toNat_natCast, nth_app_last]
          exact h.refl _ (by omega) (by omega)
    · have h0 : ¬ idxOf (fun j => s (i : Int) j) (repsTo s i) < 0 := by rw [h1]; omega
      have e : repsTo s (i + 1) = repsTo s i := by rw [repsTo, if_neg h0]
      have en : numC s i = (k : Int) := by rw [numC, if_neg h0, h1]
      refine ⟨fun r hr => ?_, fun p q hp hq => ?_, fun j hj => ?_⟩
      · rw [e] at hr; have := ih.rng r hr; omega
      · rw [e] at hq ⊢; exact ih.apart p q hp hq
      · rw [e]
        by_cases hji : j < i
        · exact ih.num j hji
        · have : j = i := by omega
          subst this
          rw [en]
          exact ⟨by omega, by omega, h2⟩
theorem Reps.ne (h : Reps s i) (he : EqN s n) (hi : i ≤ n) {p q : Nat} (hp : p < (repsTo s i).length) (hq : q < (repsTo s i).length) (hs : s (nth (repsTo s i) p) (nth (repsTo s i) q) = true) : p = q := by
  have h1 := h.rng _ (nth_mem hp)
  have h2 := h.rng _ (nth_mem hq)
  rcases Nat.lt_trichotomy p q with h3 | h3 | h3
  · have h4 := h.apart p q h3 hq
    rw [he.symm _ _ (by omega) (by omega) (by omega) (by omega) hs] at h4; cases h4
  · exact h3
  · have h4 := h.apart q p h3 hp
    rw [hs] at h4; cases h4
theorem numC_iff (he : EqN s n) {i j : Nat} (hi : i < n) (hj : j < n) : numC s i = numC s j ↔ s (i : Int) (j : Int) = true := by
  have h := reps_is he n (Nat.le_refl _)
  obtain ⟨h1, h2, h3⟩ := h.num i hi
  obtain ⟨h4, h5, h6⟩ := h.num j hj
  have r1 := h.rng _ (nth_mem (l := repsTo s n) (k := (numC s i).toNat) (by omega))
  have r2 := h.rng _ (nth_mem (l := repsTo s n) (k := (numC s j).toNat) (by omega))
  constructor
  · intro e
    rw [e] at h3
    exact he.trans _ _ _ (by omega) (by omega) r2.1 r2.2 (by omega) (by omega) h3 (he.symm _ _ (by omega) (by omega) r2.1 r2.2 h6)
  · intro e
    have h7 : s (nth (repsTo s n) (numC s i).toNat) (nth (repsTo s n) (numC s j).toNat) = true :=
      he.trans _ _ _ r1.1 r1.2 (by omega) (by omega) r2.1 r2.2 (he.symm _ _ (by omega) (by omega) r1.1 r1.2 h3) (he.trans _ _ _ (by omega) (by omega) (by omega) (by omega) r2.1 r2.2 e h6)
    have := h.ne he (Nat.le_refl _) (by omega) (by omega) h7
    omega
def nxtTo (s : Int → Int → Bool) (n i : Nat) : List Int := (List.range n).map fun j => if j < i then numC s j else 0
theorem nxtTo_len : (nxtTo s n i).length = n := by simp [nxtTo]
theorem nxtTo_zero : nxtTo s n 0 = List.replicate n 0 := by
  refine List.ext_getElem (by simp [nxtTo]) fun k h1 h2 => by simp [nxtTo]
theorem nxtTo_set : (nxtTo s n i).set i (numC s i) = nxtTo s n (i + 1) := by
  refine List.ext_getElem (by simp [nxtTo]) fun k h1 h2 => ?_
  rw [List.getElem_set]
  simp only [nxtTo, List.getElem_map, List.getElem_range]
  by_cases hk : i = k
  · subst hk; simp
  · rw [if_neg hk]
    by_cases hki : k < i
    · rw [if_pos hki, if_pos (by omega)]
    · rw [if_neg hki, if_neg (by omega)]
theorem nxtTo_nth {j : Nat} (hj : j < n) : nth (nxtTo s n n) j = numC s j := by rw [nxtTo, nth_rng hj, if_pos hj]
/-! ### How many classes -/
def diff (C : List Int) : List Int := C.foldl addN []
theorem diff_app {C : List Int} {x : Int} : diff (C ++ [x]) = addN (diff C) x := by rw [diff, List.foldl_append]; rfl
theorem diff_mem : ∀ {C : List Int} {x : Int}, x ∈ diff C ↔ x ∈ C := by
  intro C
  have key : ∀ (C D : List Int) (x : Int), x ∈ C.foldl addN D ↔ x ∈ D ∨ x ∈ C := by
    intro C
    induction C with
    | nil => intro D x; simp
    | cons c C ih =>
      intro D x
      rw [List.foldl_cons, ih]
      have : x ∈ addN D c ↔ x ∈ D ∨ x = c := by
        unfold addN; split
        · rename_i hc
          exact ⟨.inl, fun h => h.elim id fun e => e ▸ hc⟩
        · simp
      rw [this, List.mem_cons, or_assoc]
  intro x
  have := key C [] x
  simpa [diff] using this
theorem diff_nodup {C : List Int} : (diff C).Nodup := by
  have key : ∀ (C D : List Int), D.Nodup → (C.foldl addN D).Nodup := by
    intro C
    induction C with
    | nil => intro D h; exact h
    | cons c C ih => intro D h; exact ih _ (addN_nodup h)
  exact key C [] (by simp)
end
/-! ### Rounds -/
def Eqm (a : Auto) (m : Nat) (s t : Int) : Prop := ∀ l : List Int, l.length ≤ m → Valid_ a.Signs l → takesA a s l = takesA a t l
structure Cm (a : Auto) (m : Nat) (C : List Int) : Prop where
  len : C.length = a.Next.length
  rng : ∀ x ∈ C, 0 ≤ x ∧ x < 64
  eqm : ∀ i j, i < a.Next.length → j < a.Next.length → (nth C i = nth C j ↔ Eqm a m (i : Int) (j : Int))
structure ClsL (a : Auto) (C : List Int) : Prop where
  len : C.length = a.Next.length
  rng : ∀ x ∈ C, 0 ≤ x ∧ x < 64
  eqv : ∀ i j, i < a.Next.length → j < a.Next.length → (nth C i = nth C j ↔ Eqv a (i : Int) (j : Int))
def initC (a : Auto) (k : Nat) : List Int := (List.range a.Next.length).map fun j => if j < k ∧ nth a.Takes j = true then 1 else 0
def sameC (a : Auto) (C : List Int) (i j : Int) : Bool := decide (nth C i.toNat = nth C j.toNat) && (decide ((nth a.Next i.toNat).length = (nth a.Next j.toNat).length) && (List.range (nth a.Next i.toNat).length).all fun k => decide (nth C (nth (nth a.Next i.toNat) k).toNat = nth C (nth (nth a.Next j.toNat) k).toNat))
section
variable {a : Auto} {C : List Int} {m k : Nat} {i j : Int}
theorem initC_len : (initC a k).length = a.Next.length := by simp [initC]
theorem initC_zero : initC a 0 = List.replicate a.Next.length 0 := by
  refine List.ext_getElem (by simp [initC]) fun k h1 h2 => by simp [initC]
theorem initC_yes (h : nth a.Takes k = true) : (initC a k).set k 1 = initC a (k + 1) := by
  refine List.ext_getElem (by simp [initC]) fun q h1 h2 => ?_
  rw [List.getElem_set]
  simp only [initC, List.getElem_map, List.getElem_range]
  by_cases hk : k = q
  · subst hk; simp [h]
  · rw [if_neg hk]
    have : (q < k ∧ nth a.Takes q = true) ↔ (q < k + 1 ∧ nth a.Takes q = true) := and_congr_left fun _ => by omega
    simp only [this]
theorem initC_no (h : ¬ nth a.Takes k = true) : initC a k = initC a (k + 1) := by
  refine List.ext_getElem (by simp [initC]) fun q h1 h2 => ?_
  simp only [initC, List.getElem_map, List.getElem_range]
  have : (q < k ∧ nth a.Takes q = true) ↔ (q < k + 1 ∧ nth a.Takes q = true) := by
    constructor
    · rintro ⟨h3, h4⟩; exact ⟨by omega, h4⟩
    · rintro ⟨h3, h4⟩
      refine ⟨?_, h4⟩
      rcases Nat.lt_or_eq_of_le (Nat.le_of_lt_succ h3) with h5 | h5
      · exact h5
      · exact absurd (h5 ▸ h4) h
  simp only [this]
theorem Cm.start (hw : WF a) (hk : a.Takes.length ≤ k) : Cm a 0 (initC a k) where
  len := initC_len
  rng x hx := by
    obtain ⟨j, _, rfl⟩ := List.mem_map.1 hx
    split <;> omega
  eqm i j hi hj := by
    have hk' := hw.takes
    rw [initC, nth_rng hi, nth_rng hj]
    have e : ∀ q : Nat, q < a.Next.length → ((if q < k ∧ nth a.Takes q = true then (1 : Int) else 0) = if nth a.Takes q = true then 1 else 0) := fun q hq => by
      by_cases h : nth a.Takes q = true
      · rw [if_pos ⟨by omega, h⟩, if_pos h]
      · rw [if_neg (fun h2 => h h2.2), if_neg h]
    rw [e i hi, e j hj]
    constructor
    · intro h l hl _
      have : l = [] := by cases l with | nil => rfl | cons _ _ => simp at hl
      subst this
      show nth a.Takes ((i : Int)).toNat = nth a.Takes ((j : Int)).toNat
      rw [Int.toNat_natCast, Int.toNat_natCast]
      cases h1 : nth a.Takes i <;> cases h2 : nth a.Takes j <;> rw [h1, h2] at h <;> simp at h <;> rfl
    · intro h
      have h1 : nth a.Takes ((i : Int)).toNat = nth a.Takes ((j : Int)).toNat := h [] (by simp) (fun _ h => by cases h)
      rw [Int.toNat_natCast, Int.toNat_natCast] at h1
      rw [h1]
theorem eqm_step (hw : WF a) {s t : Int} : Eqm a (m + 1) s t ↔ Eqm a m s t ∧ ∀ c : Nat, (c : Int) < a.Signs → Eqm a m (stepA a s c) (stepA a t c) := by
  constructor
  · intro h
    refine ⟨fun l hl => h l (by omega), fun c hc l hl hv => ?_⟩
    rw [← takes_cons, ← takes_cons]
    exact h _ (by simp; omega) fun d hd => (List.mem_cons.1 hd).elim (fun e => e ▸ ⟨by omega, hc⟩) (hv d)
  · rintro ⟨h1, h2⟩ l hl hv
    cases l with
    | nil => exact h1 [] (by simp) hv
    | cons c l =>
      have hc := hv c (List.mem_cons_self ..)
      rw [takes_cons, takes_cons, show c = ((c.toNat : Nat) : Int) by omega]
      exact h2 c.toNat (by omega) l (by simp at hl; omega) fun d hd => hv d (List.mem_cons_of_mem _ hd)
theorem sameC_iff (hw : WF a) (h : Cm a m C) (hi : InA a i) (hj : InA a j) : sameC a C i j = true ↔ Eqm a (m + 1) i j := by
  obtain ⟨hi0, hi1⟩ := hi
  obtain ⟨hj0, hj1⟩ := hj
  have hri := hw.rows i.toNat (by omega)
  have hrj := hw.rows j.toNat (by omega)
  have hsg := hw.signs
  have key : ∀ s t : Int, InA a s → InA a t → (nth C s.toNat = nth C t.toNat ↔ Eqm a m s t) := by
    rintro s t ⟨h1, h2⟩ ⟨h3, h4⟩
    have := h.eqm s.toNat t.toNat (by omega) (by omega)
    rwa [show ((s.toNat : Nat) : Int) = s by omega, show ((t.toNat : Nat) : Int) = t by omega] at this
  rw [eqm_step hw, sameC, Bool.and_eq_true, Bool.and_eq_true, decide_eq_true_iff, decide_eq_true_iff, List.all_eq_true, key i j ⟨hi0, hi1⟩ ⟨hj0, hj1⟩]
  constructor
  · rintro ⟨h1, _, h2⟩
    refine ⟨h1, fun c hc => ?_⟩
    have h3 := of_decide_eq_true (h2 c (List.mem_range.2 (by omega)))
    exact (key _ _ (InA.step hw ⟨hi0, hi1⟩ ⟨by omega, hc⟩) (InA.step hw ⟨hj0, hj1⟩ ⟨by omega, hc⟩)).1 (by rw [stepA, stepA, Int.toNat_natCast]; exact h3)
  · rintro ⟨h1, h2⟩
    refine ⟨h1, by omega, fun c hc => decide_eq_true ?_⟩
    have hc := List.mem_range.1 hc
    have h3 := (key _ _ (InA.step hw ⟨hi0, hi1⟩ ⟨by omega, by omega⟩) (InA.step hw ⟨hj0, hj1⟩ ⟨by omega, by omega⟩)).2 (h2 c (by omega))
    rw [stepA, stepA, Int.toNat_natCast] at h3
    exact h3
theorem Cm.eqn (hw : WF a) (h : Cm a m C) : EqN (sameC a C) a.Next.length where
  refl i h0 h1 := (sameC_iff hw h ⟨h0, h1⟩ ⟨h0, h1⟩).2 fun _ _ _ => rfl
  symm i j h0 h1 h2 h3 hs := (sameC_iff hw h ⟨h2, h3⟩ ⟨h0, h1⟩).2 fun l hl hv => ((sameC_iff hw h ⟨h0, h1⟩ ⟨h2, h3⟩).1 hs l hl hv).symm
  trans i j k h0 h1 h2 h3 h4 h5 hs ht := (sameC_iff hw h ⟨h0, h1⟩ ⟨h4, h5⟩).2 fun l hl hv => ((sameC_iff hw h ⟨h0, h1⟩ ⟨h2, h3⟩).1 hs l hl hv).trans ((sameC_iff hw h ⟨h2, h3⟩ ⟨h4, h5⟩).1 ht l hl hv)
theorem Cm.next (hw : WF a) (h : Cm a m C) : Cm a (m + 1) (nxtTo (sameC a C) a.Next.length a.Next.length) where
  len := nxtTo_len
  rng x hx := by
    obtain ⟨j, hj, rfl⟩ := List.mem_map.1 hx
    have hj := List.mem_range.1 hj
    rw [if_pos hj]
    have h1 := reps_is (h.eqn hw) a.Next.length (Nat.le_refl _)
    obtain ⟨h2, h3, _⟩ := h1.num j hj
    have h4 : (repsTo (sameC a C) a.Next.length).length ≤ 40 := by
      have h5 := pigeon (n := a.Next.length) (l := repsTo (sameC a C) a.Next.length) (nodup_nth fun p q hp hq e => by
        have := h1.ne (h.eqn hw) (Nat.le_refl _) (p := p) (q := q) (by omega) hq (by
          rw [e]
          have := h1.rng _ (nth_mem hq)
          exact (h.eqn hw).refl _ this.1 this.2)
        omega) h1.rng
      have := hw.many; omega
    omega
  eqm i j hi hj := by
    rw [nxtTo_nth hi, nxtTo_nth hj, numC_iff (h.eqn hw) hi hj, sameC_iff hw h ⟨by omega, by omega⟩ ⟨by omega, by omega⟩]
/-- how many classes there are -/
theorem Cm.reps (hw : WF a) (h : Cm a m C) : (diff (nxtTo (sameC a C) a.Next.length a.Next.length)).length = (repsTo (sameC a C) a.Next.length).length := by
  have h1 := reps_is (h.eqn hw) a.Next.length (Nat.le_refl _)
  apply Nat.le_antisymm
  · refine pigeon (n := (repsTo (sameC a C) a.Next.length).length) diff_nodup fun x hx => ?_
    obtain ⟨j, hj, rfl⟩ := List.mem_map.1 (diff_mem.1 hx)
    have hj := List.mem_range.1 hj
    rw [if_pos hj]
    have := h1.num j hj
    exact ⟨this.1, this.2.1⟩
  · have h2 : ((List.range (repsTo (sameC a C) a.Next.length).length).map fun (k : Nat) => (k : Int)).Nodup := List.pairwise_map.2 (List.Pairwise.imp (fun h e => h (by omega)) List.nodup_range)
    have h3 := nodup_le_p (S := diff (nxtTo (sameC a C) a.Next.length a.Next.length)) h2 fun x hx => by
      obtain ⟨p, hp, rfl⟩ := List.mem_map.1 hx
      have hp := List.mem_range.1 hp
      have hr := h1.rng _ (nth_mem hp)
      refine diff_mem.2 (List.mem_map.2 ⟨(nth (repsTo (sameC a C) a.Next.length) p).toNat, List.mem_range.2 (by omega), ?_⟩)
      rw [if_pos (by omega)]
      obtain ⟨h4, h5, h6⟩ := h1.num (nth (repsTo (sameC a C) a.Next.length) p).toNat (by omega)
      rw [show (((nth (repsTo (sameC a C) a.Next.length) p).toNat : Nat) : Int) = nth (repsTo (sameC a C) a.Next.length) p by omega] at h6
      have := h1.ne (h.eqn hw) (Nat.le_refl _) hp (by omega) h6
      omega
    simpa using h3
theorem Cm.le (hw : WF a) (h : Cm a m C) : (diff C).length ≤ (repsTo (sameC a C) a.Next.length).length ∧ ((diff C).length = (repsTo (sameC a C) a.Next.length).length → ∀ i j, i < a.Next.length → j < a.Next.length → Eqm a m (i : Int) (j : Int) → Eqm a (m + 1) (i : Int) (j : Int)) := by
  have h1 := reps_is (h.eqn hw) a.Next.length (Nat.le_refl _)
  have hsub : ∀ x, x ∈ diff C → x ∈ diff ((repsTo (sameC a C) a.Next.length).map fun r => nth C r.toNat) := by
    intro x hx
    obtain ⟨j, hj, rfl⟩ := nth_of_mem (diff_mem.1 hx)
    rw [h.len] at hj
    obtain ⟨h4, h5, h6⟩ := h1.num j hj
    have hr := h1.rng _ (nth_mem (l := repsTo (sameC a C) a.Next.length) (k := (numC (sameC a C) j).toNat) (by omega))
    refine diff_mem.2 (List.mem_map.2 ⟨_, nth_mem (l := repsTo (sameC a C) a.Next.length) (k := (numC (sameC a C) j).toNat) (by omega), ?_⟩)
    have h7 := ((sameC_iff hw h ⟨by omega, by omega⟩ ⟨hr.1, hr.2⟩).1 h6)
    have h8 := (eqm_step hw).1 h7
    have h9 := (h.eqm j (nth (repsTo (sameC a C) a.Next.length) (numC (sameC a C) j).toNat).toNat hj (by omega)).2 (by rw [show (((nth (repsTo (sameC a C) a.Next.length) (numC (sameC a C) j).toNat).toNat : Nat) : Int) = nth (repsTo (sameC a C) a.Next.length) (numC (sameC a C) j).toNat by omega]; exact h8.1)
    exact h9.symm
  have hle1 := nodup_le_p diff_nodup hsub
  have hmap : ∀ L : List Int, (diff L).length ≤ L.length := fun L => nodup_le_p diff_nodup fun x hx => diff_mem.1 hx
  have hle2 := hmap ((repsTo (sameC a C) a.Next.length).map fun r => nth C r.toNat)
  rw [List.length_map] at hle2
  refine ⟨by omega, fun he i j hi hj hm => ?_⟩
  -- the classes of the representatives differ
  have hnd : ∀ p q, p < (repsTo (sameC a C) a.Next.length).length → q < (repsTo (sameC a C) a.Next.length).length → nth C (nth (repsTo (sameC a C) a.Next.length) p).toNat = nth C (nth (repsTo (sameC a C) a.Next.length) q).toNat → p = q := by
    intro p q hp hq e
    refine Classical.byContradiction fun hpq => ?_
    -- leave p out
    have h10 := nodup_le_p (L := diff C) (S := diff (((repsTo (sameC a C) a.Next.length).eraseIdx p).map fun r => nth C r.toNat)) diff_nodup fun x hx => by
      obtain ⟨r, hr, rfl⟩ := List.mem_map.1 (diff_mem.1 (hsub x hx))
      obtain ⟨u, hu, rfl⟩ := nth_of_mem hr
      by_cases hup : u = p
      · refine diff_mem.2 (List.mem_map.2 ⟨nth (repsTo (sameC a C) a.Next.length) q, ?_, by rw [hup, e]⟩)
        rw [List.mem_eraseIdx_iff_getElem]
        exact ⟨q, hq, Ne.symm hpq, (nth_eq hq).symm⟩
      · refine diff_mem.2 (List.mem_map.2 ⟨nth (repsTo (sameC a C) a.Next.length) u, ?_, rfl⟩)
        rw [List.mem_eraseIdx_iff_getElem]
        exact ⟨u, hu, hup, (nth_eq hu).symm⟩
    have h11 := hmap (((repsTo (sameC a C) a.Next.length).eraseIdx p).map fun r => nth C r.toNat)
    rw [List.length_map, List.length_eraseIdx_of_lt hp] at h11
    omega
  have hC : ∀ u : Nat, u < a.Next.length → nth C u = nth C (nth (repsTo (sameC a C) a.Next.length) (numC (sameC a C) u).toNat).toNat := by
    intro u hu
    obtain ⟨h4, h5, h6⟩ := h1.num u hu
    have hr := h1.rng _ (nth_mem (l := repsTo (sameC a C) a.Next.length) (k := (numC (sameC a C) u).toNat) (by omega))
    have h7 := ((sameC_iff hw h ⟨by omega, by omega⟩ ⟨hr.1, hr.2⟩).1 h6)
    exact (h.eqm u _ hu (by omega)).2 (by rw [show (((nth (repsTo (sameC a C) a.Next.length) (numC (sameC a C) u).toNat).toNat : Nat) : Int) = nth (repsTo (sameC a C) a.Next.length) (numC (sameC a C) u).toNat by omega]; exact ((eqm_step hw).1 h7).1)
  have hij := (h.eqm i j hi hj).2 hm
  rw [hC i hi, hC j hj] at hij
  have n1 := h1.num i hi
  have n2 := h1.num j hj
  have := hnd _ _ (by omega) (by omega) hij
  exact (sameC_iff hw h ⟨by omega, by omega⟩ ⟨by omega, by omega⟩).1 ((numC_iff (h.eqn hw) hi hj).1 (by omega))
theorem Cm.more (hw : WF a) (h : Cm a m C) (hne : (diff C).length ≠ (repsTo (sameC a C) a.Next.length).length) : (diff C).length < (diff (nxtTo (sameC a C) a.Next.length a.Next.length)).length ∧ (diff (nxtTo (sameC a C) a.Next.length a.Next.length)).length ≤ a.Next.length := by
  have h1 := (h.le hw).1
  rw [h.reps hw]
  refine ⟨by omega, ?_⟩
  rw [← h.reps hw]
  have := nodup_le_p (L := diff (nxtTo (sameC a C) a.Next.length a.Next.length)) diff_nodup fun x hx => diff_mem.1 hx
  rwa [nxtTo_len] at this
theorem eqm_all (hw : WF a) (h : Cm a m C) (he : (diff C).length = (repsTo (sameC a C) a.Next.length).length) : ∀ d i j, i < a.Next.length → j < a.Next.length → Eqm a m (i : Int) (j : Int) → Eqm a (m + d) (i : Int) (j : Int)
  | 0, _, _, _, _, h1 => h1
  | d + 1, i, j, hi, hj, h1 => by
    have h2 := (eqm_step hw).1 ((h.le hw).2 he i j hi hj h1)
    rw [show m + (d + 1) = (m + d) + 1 by omega, eqm_step hw]
    refine ⟨eqm_all hw h he d i j hi hj h1, fun c hc => ?_⟩
    have hs1 := InA.step (a := a) (s := (i : Int)) hw ⟨by omega, by omega⟩ ⟨by omega, hc⟩
    have hs2 := InA.step (a := a) (s := (j : Int)) hw ⟨by omega, by omega⟩ ⟨by omega, hc⟩
    have h3 := eqm_all hw h he d (stepA a i c).toNat (stepA a j c).toNat (by have := hs1.2; have := hs1.1; omega) (by have := hs2.2; have := hs2.1; omega)
    have e1 : (((stepA a (i : Int) (c : Int)).toNat : Nat) : Int) = stepA a i c := by have := hs1.1; omega
    have e2 : (((stepA a (j : Int) (c : Int)).toNat : Nat) : Int) = stepA a j c := by have := hs2.1; omega
    rw [e1, e2] at h3
    exact h3 (h2.2 c hc)
theorem Cm.done (hw : WF a) (h : Cm a m C) (he : (diff C).length = (repsTo (sameC a C) a.Next.length).length) : ClsL a (nxtTo (sameC a C) a.Next.length a.Next.length) where
  len := nxtTo_len
  rng := (h.next hw).rng
  eqv i j hi hj := by
    rw [(h.next hw).eqm i j hi hj]
    constructor
    · intro h1 l hv
      have h2 : Eqm a m (i : Int) (j : Int) := ((eqm_step hw).1 h1).1
      exact eqm_all hw h he l.length i j hi hj h2 l (by omega) hv
    · intro h1 l _ hv; exact h1 l hv
/-- the program's classes -/
def clF (C : List Int) (s : Int) : Int := nth C s.toNat
def repF (C : List Int) (c : Int) : Int := idxOf (fun x => decide (x = c)) C
theorem ClsL.at_ (h : ClsL a C) {s : Int} (hs : InA a s) : ∃ k : Nat, repF C (clF C s) = (k : Int) ∧ k < a.Next.length ∧ nth C k = clF C s := by
  obtain ⟨h0, h1⟩ := hs
  rcases idxOf_cases (fun x => decide (x = clF C s)) C with ⟨_, h2⟩ | ⟨k, hk, h2, h3⟩
  · have h4 := h2 s.toNat (by rw [h.len]; omega)
    exact absurd rfl (of_decide_eq_false h4)
  · exact ⟨k, h2, by rw [← h.len]; exact hk, of_decide_eq_true h3⟩
theorem ClsL.cls (h : ClsL a C) : Cls a (clF C) (repF C) where
  eqv s t hs ht := by
    have := h.eqv s.toNat t.toNat (by have := hs.2; have := hs.1; omega) (by have := ht.2; have := ht.1; omega)
    rwa [show ((s.toNat : Nat) : Int) = s by have := hs.1; omega, show ((t.toNat : Nat) : Int) = t by have := ht.1; omega] at this
  rep s hs := by
    obtain ⟨k, h1, h2, h3⟩ := h.at_ hs
    rw [h1]
    exact ⟨⟨by omega, by omega⟩, by rw [clF, Int.toNat_natCast]; exact h3⟩
end
theorem eqf_len {a b : List Int} {gp : Int → Int → Bool} (h : (a.length : Int) ≠ (b.length : Int)) : (decide (a.length = b.length) && (List.range a.length).all fun k => gp (nth a k) (nth b k)) = false := by
  rw [decide_eq_false (by omega)]; rfl
theorem eqf_no {a b : List Int} {gp : Int → Int → Bool} {k : Nat} (hk : k < a.length) (h : gp (nth a k) (nth b k) = false) : (decide (a.length = b.length) && (List.range a.length).all fun k => gp (nth a k) (nth b k)) = false := by
  rw [Bool.and_eq_false_iff]
  exact .inr (List.all_eq_false.2 ⟨k, List.mem_range.2 hk, by rw [h]; decide⟩)
theorem eqf_yes {a b : List Int} {gp : Int → Int → Bool} (hl : a.length = b.length) (h : ∀ k, k < a.length → gp (nth a k) (nth b k) = true) : (decide (a.length = b.length) && (List.range a.length).all fun k => gp (nth a k) (nth b k)) = true := by
  rw [decide_eq_true hl, Bool.true_and, List.all_eq_true]
  exact fun k hk => h k (List.mem_range.1 hk)
theorem and_dec {P : Prop} [Decidable P] {b : Bool} : decide (P ∧ b = true) = (decide P && b) := by cases b <;> simp
theorem repsTo_yes {s : Int → Int → Bool} {i : Nat} (h : idxOf (fun j => s (i : Int) j) (repsTo s i) < 0) : repsTo s (i + 1) = repsTo s i ++ [(i : Int)] ∧ ((repsTo s i).length : Int) = numC s i := by rw [repsTo, numC, if_pos h, if_pos h]; exact ⟨rfl, rfl⟩
theorem repsTo_no {s : Int → Int → Bool} {i : Nat} (h : ¬ idxOf (fun j => s (i : Int) j) (repsTo s i) < 0) : repsTo s (i + 1) = repsTo s i ∧ idxOf (fun j => s (i : Int) j) (repsTo s i) = numC s i := by rw [repsTo, numC, if_neg h, if_neg h]; exact ⟨rfl, rfl⟩
section
variable {a : Auto} {C : List Int} {m i : Nat}
theorem numC_rng (hw : WF a) (h : Cm a m C) (hi : i < a.Next.length) : 0 ≤ numC (sameC a C) i ∧ numC (sameC a C) i < 64 := by
  have := (h.next hw).rng _ (nth_mem (l := nxtTo (sameC a C) a.Next.length a.Next.length) (k := i) (by rw [nxtTo_len]; exact hi))
  rwa [nxtTo_nth hi] at this
theorem reps_rng (hw : WF a) (h : Cm a m C) (hi : i ≤ a.Next.length) : (∀ r, r ∈ repsTo (sameC a C) i → 0 ≤ r ∧ r < (a.Next.length : Int)) ∧ (repsTo (sameC a C) i).length ≤ 40 := by
  have h1 := reps_is (h.eqn hw) i hi
  refine ⟨fun r hr => by have := h1.rng r hr; omega, ?_⟩
  have h5 := pigeon (n := i) (l := repsTo (sameC a C) i) (nodup_nth fun p q hp hq e => by
    have := h1.ne (h.eqn hw) hi (p := p) (q := q) (by omega) hq (by
      rw [e]
      have := h1.rng _ (nth_mem hq)
      exact (h.eqn hw).refl _ this.1 (by omega))
    omega) h1.rng
  have := hw.many; omega
theorem keys_step {mm : List (Int × Bool)} {q : Nat} (hq : q < C.length) (h : mm.map (·.1) = diff (C.take q)) {b : Bool} : (mset mm (nth C q) b).map (·.1) = diff (C.take (q + 1)) := by
  rw [mset_keys, h, take_succ_nth hq, diff_app, addN]
theorem keys_len {mm : List (Int × Bool)} (h : mm.map (·.1) = diff C) : mm.length = (diff C).length := by rw [← h, List.length_map]
/-- what the program makes of a checked automaton -/
noncomputable def leastR (a : Auto) : Auto × (Int × Int) := if (autoFault a).1 ≠ 0 then (⟨0, [], []⟩, autoFault a) else (leastA a, (0, 0))
def LInv (a : Auto) (C : List Int) (x : Int) : Prop := ∃ s, InA a s ∧ x = clF C s
theorem LInv.start (hw : WF a) : LInv a C (clF C 0) := ⟨0, InA.start hw, rfl⟩
theorem LInv.rep (h : ClsL a C) {x : Int} (hx : LInv a C x) : 0 ≤ repF C x ∧ repF C x < (a.Next.length : Int) := by
  obtain ⟨s, hs, rfl⟩ := hx
  exact (h.cls.rep s hs).1
theorem LInv.step (hw : WF a) (h : ClsL a C) {x c : Int} (hx : LInv a C x) (h0 : 0 ≤ c) (h1 : c < (a.Signs.toNat : Int)) : LInv a C (clNx a (clF C) (repF C) x c) := by
  obtain ⟨s, hs, rfl⟩ := hx
  have hsg := hw.signs
  exact ⟨_, hs.step hw ⟨h0, by omega⟩, h.cls.step hw hs ⟨h0, by omega⟩⟩
theorem LInv.in64 (h : ClsL a C) {x : Int} (hx : LInv a C x) : In64 x := by
  obtain ⟨s, ⟨h0, h1⟩, rfl⟩ := hx
  have := h.rng _ (nth_mem (l := C) (k := s.toNat) (by rw [h.len]; omega))
  unfold clF
  constructor <;> omega
theorem LInv.few (hw : WF a) (h : ClsL a C) (L : List Int) (hn : L.Nodup) (hL : ∀ x ∈ L, LInv a C x) : L.length ≤ 2000 := by
  have h1 := h.cls.few L hn hL
  have := hw.many; omega
theorem LInv.made (hw : WF a) (h : ClsL a C) : builtA (clNx a (clF C) (repF C)) a.Signs.toNat (endL (clNx a (clF C) (repF C)) a.Signs.toNat (clF C 0)) (fun x => nth a.Takes (repF C x).toNat) = leastA a := least_is hw h.cls
theorem leastR_bad (h : (autoFault a).1 ≠ 0) : leastR a = (⟨0, [], []⟩, autoFault a) := if_pos h
theorem leastR_ok (hw : WF a) : leastR a = (leastA a, (0, 0)) := by rw [leastR, hw.fault, if_neg (by decide)]
end
end Go.Um
