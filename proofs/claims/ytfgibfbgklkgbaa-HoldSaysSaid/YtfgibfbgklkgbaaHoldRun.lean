/- A bad run is one. No program is in sight. -/
import Derived.Test.YtfgibfbgklkgbaaHoldPlain
namespace Go.Um
section
variable {l : Loop}
theorem chain_cons {R : List Int → List Int → Prop} {P : List Int → Prop} {L : List (List Int)} {C : List Nat} {a p : Nat} (ha : a < L.length) (h1 : 0 < C.length) (h2 : nth C 0 = p) (h3 : ∀ i, i < C.length → nth C i < L.length)
    (h4 : ∀ i, i + 1 < C.length → R (nth L (nth C i)) (nth L (nth C (i + 1)))) (h5 : P (nth L (nth C (C.length - 1)))) (h6 : R (nth L a) (nth L p)) :
    0 < (a :: C).length ∧ nth (a :: C) 0 = a ∧ (∀ i, i < (a :: C).length → nth (a :: C) i < L.length) ∧ (∀ i, i + 1 < (a :: C).length → R (nth L (nth (a :: C) i)) (nth L (nth (a :: C) (i + 1)))) ∧ P (nth L (nth (a :: C) ((a :: C).length - 1))) := by
  have hn : ∀ i, nth (a :: C) (i + 1) = nth C i := fun i => rfl
  refine ⟨by simp, rfl, fun i hi => ?_, fun i hi => ?_, ?_⟩
  · cases i with
    | zero => exact ha
    | succ i => rw [hn]; exact h3 i (by simpa using hi)
  · cases i with
    | zero => rw [hn, h2]; exact h6
    | succ i => rw [hn, hn]; exact h4 i (by simpa using hi)
  · rw [show (a :: C).length - 1 = (C.length - 1) + 1 by rw [List.length_cons]; omega, hn]; exact h5
/-- What a chain of places shows, from its last place back to the first. -/
theorem chain_run (hl : LW l) : ∀ (at_ : Nat), at_ < (comeL l).length → 0 < (chain l at_).length ∧ nth (chain l at_) 0 = at_ ∧ (∀ i, i < (chain l at_).length → nth (chain l at_) i < (comeL l).length) ∧
    (∀ i, i + 1 < (chain l at_).length → nth (comeL l) (nth (chain l at_) i) ∈ nextL l (nth (comeL l) (nth (chain l at_) (i + 1)))) ∧ holdB l.Start (nth (comeL l) (nth (chain l at_) ((chain l at_).length - 1))) = true := by
  intro at_
  induction at_ using Nat.strongRecOn with
  | _ at_ ih =>
    intro ha
    by_cases h : holdB l.Start (nth (comeL l) at_) = true
    · rw [chain_start h]
      refine ⟨by simp, rfl, fun i hi => ?_, fun i hi => ?_, h⟩
      · have : i = 0 := by simpa using hi
        subst this; exact ha
      · simp at hi
    · have hp := pred_is hl ha h
      obtain ⟨h1, h2, h3, h4, h5⟩ := ih _ hp.2.1 (by omega)
      rw [chain_step hl ha h]
      exact chain_cons (R := fun x y => x ∈ nextL l y) (P := fun x => holdB l.Start x = true) ha h1 h2 h3 h4 h5 hp.2.2
theorem nth_rev {α : Type} [Inhabited α] {L : List α} {i : Nat} (h : i < L.length) : nth L.reverse i = nth L (L.length - 1 - i) := by
  rw [nth_eq (by simpa using h), List.getElem_reverse, nth_eq]
theorem nth_mapN {α : Type} [Inhabited α] {f : Nat → α} {L : List Nat} {i : Nat} (h : i < L.length) : nth (L.map f) i = f (nth L i) := by
  rw [nth_eq (by simpa using h), nth_eq h, List.getElem_map]
/-- A bad run is one. -/
theorem bad_run (hl : LW l) (h : badB l = true) : 0 < (badL l).length ∧ (∀ i, i < (badL l).length → nth (badL l) i ∈ comeL l) ∧ (∀ i, i + 1 < (badL l).length → nth (badL l) (i + 1) ∈ nextL l (nth (badL l) i)) ∧
    holdB l.Start (nth (badL l) 0) = true ∧ holdB l.Bad (nth (badL l) ((badL l).length - 1)) = true := by
  have hz : ¬ (loopFault l).1 ≠ 0 := not_not_intro (by rw [hl.code])
  rw [badB, if_neg hz, decide_eq_true_iff] at h
  rcases first_or (holdB l.Bad) (comeL l) with h1 | ⟨k, hk, h1, h2⟩
  · rw [badAtI, idxOf_no h1] at h; omega
  · have he : badAtI l = k := idxOf_at hk h1 h2
    obtain ⟨c1, c2, c3, c4, c5⟩ := chain_run hl k hk
    have hb : badL l = ((chain l k).map (nth (comeL l))).reverse := (badL_of hz he rfl).1
    rw [hb]
    generalize hc : chain l k = C at *
    have hlen : (C.map (nth (comeL l))).reverse.length = C.length := by simp
    have hn : ∀ i, i < C.length → nth (C.map (nth (comeL l))).reverse i = nth (comeL l) (nth C (C.length - 1 - i)) := fun i hi => by
      rw [nth_rev (by simpa using hi), List.length_map, nth_mapN (by omega)]
    rw [hlen]
    refine ⟨c1, fun i hi => ?_, fun i hi => ?_, ?_, ?_⟩
    · rw [hn i hi]; exact nth_mem (c3 _ (by omega))
    · rw [hn i (by omega), hn (i + 1) hi]
      have := c4 (C.length - 1 - (i + 1)) (by omega)
      rwa [show C.length - 1 - (i + 1) + 1 = C.length - 1 - i by omega] at this
    · rw [hn 0 c1]; exact c5
    · rw [hn _ (by omega), show C.length - 1 - (C.length - 1) = 0 by omega, c2]; exact h2
theorem bad_none (hl : LW l) (h : badB l = false) : ∀ i, i < (comeL l).length → holdB l.Bad (nth (comeL l) i) = false := by
  have hz : ¬ (loopFault l).1 ≠ 0 := not_not_intro (by rw [hl.code])
  rw [badB, if_neg hz, decide_eq_false_iff_not] at h
  rcases first_or (holdB l.Bad) (comeL l) with h1 | ⟨k, hk, h1, h2⟩
  · exact h1
  · have he : badAtI l = k := idxOf_at hk h1 h2
    omega
theorem bad_nil (h : badB l = false) : badL l = [] := by
  by_cases hz : (loopFault l).1 ≠ 0
  · rw [badL, if_pos hz]
  · rw [badB, if_neg hz, decide_eq_false_iff_not] at h
    exact (badL_no hz (by omega)).1
end

theorem badL_few {l : Loop} : (badL l).length ≤ 1201 := by
  by_cases hz : (loopFault l).1 ≠ 0
  · rw [badL, if_pos hz]; exact Nat.zero_le _
  · have hl := LW.of (Decidable.of_not_not hz)
    rw [badL, if_neg hz]
    split
    · exact Nat.zero_le _
    · rename_i h
      rw [List.length_reverse, List.length_map]
      have h1 := chainF_len (l := l) (badAtI l).toNat (badAtI l).toNat
      have h2 : (badAtI l).toNat < (comeL l).length := by
        have := idxOf_lt (g := holdB l.Bad) (l := comeL l)
        have e : badAtI l = idxOf (holdB l.Bad) (comeL l) := rfl
        omega
      have h3 := comeL_few hl
      rw [chain]; omega

/-! ### Small systems of one number -/
def pickI (a n : Int) : Int := if a.tmod n < 0 then a.tmod n + n else a.tmod n
theorem pickI_rng {a n : Int} (hn : 1 ≤ n) : 0 ≤ pickI a n ∧ pickI a n < n := by
  have h1 := Int.tmod_lt_of_pos a (show 0 < n by omega)
  have h2 : -n < a.tmod n := by
    rcases Int.le_total 0 a with h0 | h0
    · have := Int.tmod_nonneg n h0; omega
    · have h3 := Int.tmod_lt_of_pos (-a) (show 0 < n by omega)
      rw [Int.neg_tmod] at h3; omega
  unfold pickI
  split <;> omega
def atI (l : List Int) (i : Int) : Int := if 0 ≤ i ∧ i < (l.length : Int) then nth l i.toNat else 0
def topJ (x : Int) : Jump := ⟨[⟨[1 - 2 * pickI x 2], 1, pickI (x.tdiv 2) 13 - 6⟩], [[pickI (x.tdiv 26) 3, pickI (x.tdiv 78) 9 - 4]]⟩
def topJs (l : List Int) (n : Nat) : List Jump := (List.range n).map fun i => topJ (atI l (2 + (i : Nat)))
def topL (l : List Int) : Loop := ⟨[0], [6], [⟨[1], 3, pickI (atI l 0) 7⟩], topJs l 2, [⟨[1], 3, pickI (atI l 1) 7⟩]⟩
def keepL (rows : List Int) (n : Nat) : List LRow := (List.range n).map fun i => ⟨[1 - 2 * pickI (nth rows i) 2], 1, pickI ((nth rows i).tdiv 2) 13 - 6⟩
def heldB (r : List LRow) (n : Int) : Bool := decide (∀ i, i < r.length → ¬ (nth r i).To < nth (nth r i).Of 0 * n)
theorem row1_ok {c t k : Int} (hc : -1000000 ≤ c ∧ c ≤ 1000000) (ht : -1000000 ≤ t ∧ t ≤ 1000000) (hk : 1 ≤ k ∧ k ≤ 3) : rowFault 1 ⟨[c], k, t⟩ = 0 :=
  rowFault_no hk (by simp) (by
    rintro (h | h)
    · rw [outs_no (l := [c]) (fun i hi => by
        have : i = 0 := by simpa using hi
        subst this; exact hc)] at h; cases h
    · exact h ht)
theorem rows1_ok {l : List LRow} (hl : l.length ≤ 40) (h : ∀ i, i < l.length → rowFault 1 (nth l i) = 0) : rowsFault l 1 = 0 := rowsFault_no (by omega) h
theorem topL_LW (l : List Int) : LW (topL l) where
  many := by show 1 ≤ ((1 : Nat) : Int) ∧ ((1 : Nat) : Int) ≤ 8; decide
  high := rfl
  rng k hk := by
    have : k = 0 := by have : k < 1 := hk; omega
    subst this; show ¬ ((((0 : Int) < -1000000 ∨ (1000000 : Int) < 6) ∨ (6 : Int) < 0)); decide
  box k hk := by
    have hk : k ≤ 1 := hk
    have : k = 0 ∨ k = 1 := by omega
    rcases this with rfl | rfl
    · show (1 : Int) ≤ 1200; decide
    · show (1 : Int) * (6 - 0 + 1) ≤ 1200; decide
  jumps := by show (topJs l 2).length ≤ 6; simp [topJs]
  start := rows1_ok (by show (1 : Nat) ≤ 40; decide) fun i hi => by
    have : i = 0 := by have : i < 1 := hi; omega
    subst this
    have := pickI_rng (a := atI l 0) (n := 7) (by decide)
    exact row1_ok (by decide) (by omega) (by decide)
  jump k hk := by
    have hk : k < (topJs l 2).length := hk
    have hk2 : k < 2 := by simpa [topJs] using hk
    have e : nth (topL l).Jumps k = topJ (atI l (2 + (k : Nat))) := by show nth (topJs l 2) k = _; rw [topJs, nth_range' hk2]
    rw [e]
    generalize atI l (2 + (k : Nat)) = x
    have p1 := pickI_rng (a := x) (n := 2) (by decide)
    have p2 := pickI_rng (a := x.tdiv 2) (n := 13) (by decide)
    have p3 := pickI_rng (a := x.tdiv 26) (n := 3) (by decide)
    have p4 := pickI_rng (a := x.tdiv 78) (n := 9) (by decide)
    refine ⟨rows1_ok (by show (1 : Nat) ≤ 40; decide) fun i hi => ?_, rfl, fun i hi => ?_⟩
    · have : i = 0 := by have : i < 1 := hi; omega
      subst this; exact row1_ok (by omega) (by omega) (by decide)
    · have : i = 0 := by have : i < 1 := hi; omega
      subst this
      refine ⟨rfl, outs_no fun j hj => ?_⟩
      have hj : j < 2 := hj
      have : j = 0 ∨ j = 1 := by omega
      rcases this with rfl | rfl
      · show -1000000 ≤ pickI (x.tdiv 26) 3 ∧ pickI (x.tdiv 26) 3 ≤ 1000000; omega
      · show -1000000 ≤ pickI (x.tdiv 78) 9 - 4 ∧ pickI (x.tdiv 78) 9 - 4 ≤ 1000000; omega
  bad := rows1_ok (by show (1 : Nat) ≤ 40; decide) fun i hi => by
    have : i = 0 := by have : i < 1 := hi; omega
    subst this
    have := pickI_rng (a := atI l 1) (n := 7) (by decide)
    exact row1_ok (by decide) (by omega) (by decide)
section
variable {l rows : List Int} {n i : Nat} {s : List Int}
theorem keepL_len : (keepL rows n).length = n := by simp [keepL]
theorem keepL_nth (h : i < n) : nth (keepL rows n) i = ⟨[1 - 2 * pickI (nth rows i) 2], 1, pickI ((nth rows i).tdiv 2) 13 - 6⟩ := by rw [keepL, nth_range' h]
theorem keepL_next : keepL rows (n + 1) = keepL rows n ++ [⟨[1 - 2 * pickI (nth rows n) 2], 1, pickI ((nth rows n).tdiv 2) 13 - 6⟩] := by simp [keepL, List.range_succ]
theorem topJs_next : topJs l (n + 1) = topJs l n ++ [topJ (atI l (2 + (n : Nat)))] := by simp [topJs, List.range_succ]
theorem keepL_ok (hn : n ≤ 2) : rowsFault (keepL rows n) 1 = 0 := rows1_ok (by rw [keepL_len]; omega) fun i hi => by
  rw [keepL_len] at hi
  rw [keepL_nth hi]
  have p1 := pickI_rng (a := nth rows i) (n := 2) (by decide)
  have p2 := pickI_rng (a := (nth rows i).tdiv 2) (n := 13) (by decide)
  exact row1_ok (by omega) (by omega) (by decide)
theorem held_hold : holdB (keepL rows n) [nth s 0] = heldB (keepL rows n) (nth s 0) := by
  unfold holdB heldB
  apply decide_congr_of
  have key : ∀ k, k < (keepL rows n).length → (rowOut (nth (keepL rows n) k) (dotL (nth (keepL rows n) k).Of [nth s 0]) ↔ (nth (keepL rows n) k).To < nth (nth (keepL rows n) k).Of 0 * nth s 0) := fun k hk => by
    rw [keepL_len] at hk
    rw [keepL_nth hk]
    have e : dotL [1 - 2 * pickI (nth rows k) 2] [nth s 0] = (1 - 2 * pickI (nth rows k) 2) * nth s 0 := by
      show (0 : Int) + (1 - 2 * pickI (nth rows k) 2) * nth s 0 = _
      omega
    show rowOut _ (dotL [1 - 2 * pickI (nth rows k) 2] [nth s 0]) ↔ _
    rw [e]
    unfold rowOut
    constructor
    · rintro (h | h | h)
      · exact h.2
      · exact absurd h.1 (show ¬ (1 : Int) = 2 by decide)
      · exact absurd h.1 (show ¬ (1 : Int) = 3 by decide)
    · intro h; exact .inl ⟨rfl, h⟩
  exact ⟨fun h k hk hc => h k hk ((key k hk).2 hc), fun h k hk hc => h k hk ((key k hk).1 hc)⟩
theorem one_state (h : s.length = 1) : s = [nth s 0] := by
  match s, h with
  | [x], _ => rfl
theorem eq_hold {t : Int} (h : s.length = 1) : holdB [⟨[1], 3, t⟩] s = decide (nth s 0 = t) := by
  rw [one_state h]
  unfold holdB
  apply decide_congr_of
  have e : dotL [1] [nth s 0] = nth s 0 := by
    show (0 : Int) + 1 * nth s 0 = _
    omega
  constructor
  · intro h2
    have := h2 0 (by simp)
    refine Decidable.of_not_not fun hne => this (.inr (.inr ⟨rfl, ?_⟩))
    show dotL [1] [nth s 0] ≠ t
    rw [e]; exact hne
  · intro h2 k hk
    have : k = 0 := by simpa using hk
    subst this
    rintro (h3 | h3 | h3)
    · exact absurd h3.1 (show ¬ (3 : Int) = 1 by decide)
    · exact absurd h3.1 (show ¬ (3 : Int) = 2 by decide)
    · apply h3.2
      show dotL [1] [nth s 0] = t
      rw [e]; exact h2
end
end Go.Um
