/- Automata of raw numbers, and De Morgan for what they take. No program is in sight. -/
import Derived.Test.YtkhpaklglggagaaAutoCls
import Derived.Test.YtkhpaklglggagaaUmDiv
namespace Go.Um
def pickI (a n : Int) : Int := if a.tmod n < 0 then a.tmod n + n else a.tmod n
theorem pickI_rng {a n : Int} (hn : 1 ≤ n) : 0 ≤ pickI a n ∧ pickI a n < n := by
  have h1 := tmod_rng (a := a) hn
  unfold pickI; split <;> omega
theorem pickI_neg {a n : Int} (h : a.tmod n < 0) : pickI a n = a.tmod n + n := if_pos h
theorem pickI_pos {a n : Int} (h : ¬ a.tmod n < 0) : pickI a n = a.tmod n := if_neg h
def atI (l : List Int) (i : Int) : Int := if 0 ≤ i ∧ i < (l.length : Int) then nth l i.toNat else 0
theorem atI_in {l : List Int} {i : Int} (h : 0 ≤ i ∧ i < (l.length : Int)) : atI l i = nth l i.toNat := if_pos h
theorem atI_out {l : List Int} {i : Int} (h : ¬ (0 ≤ i ∧ i < (l.length : Int))) : atI l i = 0 := if_neg h
def topRow (l : List Int) (i : Nat) : List Int := [pickI (atI l (2 * (i : Int))) 3, pickI (atI l (2 * (i : Int) + 1)) 3]
def topTk (l : List Int) (i : Nat) : Bool := decide (pickI (atI l (6 + (i : Int))) 2 = 1)
def topN (l : List Int) (k : Nat) : List (List Int) := (List.range k).map (topRow l)
def topT (l : List Int) (k : Nat) : List Bool := (List.range k).map (topTk l)
def topA (l : List Int) : Auto := ⟨2, topN l 3, topT l 3⟩
section
variable {l : List Int} {k : Nat} {a b : Auto}
theorem topN_next : topN l (k + 1) = topN l k ++ [topRow l k] := by rw [topN, List.range_succ, List.map_append]; rfl
theorem topT_next : topT l (k + 1) = topT l k ++ [topTk l k] := by rw [topT, List.range_succ, List.map_append]; rfl
theorem topN_len : (topN l k).length = k := by simp [topN]
theorem topT_len : (topT l k).length = k := by simp [topT]
theorem topA_WF : WF (topA l) where
  signs := by show (1 : Int) ≤ 2 ∧ (2 : Int) ≤ 12; decide
  many := by show 1 ≤ (topN l 3).length ∧ (topN l 3).length ≤ 40; rw [topN_len]; decide
  takes := by show (topT l 3).length = (topN l 3).length; rw [topN_len, topT_len]
  rows k hk := by
    have hk : k < (topN l 3).length := hk
    rw [topN_len] at hk
    show ((nth (topN l 3) k).length : Int) = 2
    rw [topN, nth_rng hk]; rfl
  to k hk t ht := by
    have hk : k < (topN l 3).length := hk
    show 0 ≤ t ∧ t < ((topN l 3).length : Int)
    rw [topN_len] at hk ⊢
    have ht : t ∈ nth (topN l 3) k := ht
    rw [topN, nth_rng hk] at ht
    rcases List.mem_cons.1 ht with rfl | ht
    · exact pickI_rng (by decide)
    · rw [List.mem_singleton.1 ht]; exact pickI_rng (by decide)
theorem and_small (ha : WF a) (hb : WF b) (hs : a.Signs = b.Signs) (h1 : a.Next.length ≤ 3) (h2 : b.Next.length ≤ 3) : (andR a b).2.1 = 0 := by
  have hc := pairs_closed ha hb hs
  have h3 := nodup_le_p (S := allPairs a.Next.length b.Next.length) hc.nodup fun p hp => by
    obtain ⟨⟨h3, h4⟩, h5, h6⟩ := pairs_pr ha hb hs p hp
    refine List.mem_flatMap.2 ⟨p.1.toNat, List.mem_range.2 (by omega), List.mem_map.2 ⟨p.2.toNat, List.mem_range.2 (by omega), ?_⟩⟩
    exact Prod.ext (by show ((p.1.toNat : Nat) : Int) = p.1; omega) (by show ((p.2.toNat : Nat) : Int) = p.2; omega)
  rw [allPairs_len] at h3
  have h4 : a.Next.length * b.Next.length ≤ 3 * 3 := Nat.mul_le_mul h1 h2
  have h5 : (prodA a b fun x y => x && y).Next.length = (pairsL a b).length := builtA_len.1
  rw [andR, bothR, pairFault_of ha hb hs, if_neg (by decide), if_neg (by omega)]
def textP (t : List Int) (k : Nat) : List Int := (t.take k).map fun x => pickI x 2
theorem textP_next {t : List Int} (hk : k < t.length) : textP t (k + 1) = textP t k ++ [pickI (nth t k) 2] := by rw [textP, take_succ_nth hk, List.map_append]; rfl
theorem textP_len {t : List Int} : (textP t k).length ≤ k := by rw [textP, List.length_map, List.length_take]; omega
theorem textP_valid {t : List Int} : ∀ c ∈ textP t k, 0 ≤ c ∧ c < 2 := by
  intro c hc
  obtain ⟨x, _, rfl⟩ := List.mem_map.1 hc
  exact pickI_rng (by decide)
theorem leastR_sg (h : In64 a.Signs) : In64 (leastR a).1.Signs := by
  unfold leastR
  split
  · show In64 0; decide
  · show In64 ((a.Signs.toNat : Nat) : Int)
    obtain ⟨h1, h2⟩ := h
    constructor <;> omega
/-- what the law asks -/
theorem texts_law (p q : List Int) :
    (andR (topA p) (topA q)).2 = (0, 0) ∧ (autoNot (andR (topA p) (topA q)).1).2 = (0, 0) ∧ (autoNot (topA p)).2 = (0, 0) ∧ (autoNot (topA q)).2 = (0, 0) ∧ (orR (autoNot (topA p)).1 (autoNot (topA q)).1).2 = (0, 0) ∧
    pairFault (autoNot (andR (topA p) (topA q)).1).1 (orR (autoNot (topA p)).1 (autoNot (topA q)).1).1 = (0, 0) ∧ sameR (autoNot (andR (topA p) (topA q)).1).1 (orR (autoNot (topA p)).1 (autoNot (topA q)).1).1 = true ∧
    (leastR (autoNot (andR (topA p) (topA q)).1).1).2 = (0, 0) ∧ 1 ≤ (leastR (autoNot (andR (topA p) (topA q)).1).1).1.Next.length ∧ (leastR (autoNot (andR (topA p) (topA q)).1).1).1.Next.length ≤ (autoNot (andR (topA p) (topA q)).1).1.Next.length ∧
    ∀ s : List Int, s.length ≤ 12 → (∀ c ∈ s, 0 ≤ c ∧ c < 2) → autoTakes (topA p) s = (takesA (topA p) 0 s, 0, 0) ∧ autoTakes (topA q) s = (takesA (topA q) 0 s, 0, 0) ∧
      autoTakes (leastR (autoNot (andR (topA p) (topA q)).1).1).1 s = (!(takesA (topA p) 0 s && takesA (topA q) 0 s), 0, 0) := by
  have h1 := and_small (topA_WF (l := p)) (topA_WF (l := q)) rfl (by show (topN p 3).length ≤ 3; rw [topN_len]; decide) (by show (topN q 3).length ≤ 3; rw [topN_len]; decide)
  obtain ⟨m1, m2, m3, m4, m5, m6⟩ := morgan_law h1
  obtain ⟨_, _, _, e1, w1, s1⟩ := bothR_ok (op := fun x y => x && y) h1
  have e1' : (andR (topA p) (topA q)).1 = prodA (topA p) (topA q) fun x y => x && y := by rw [andR, e1]
  have hw : WF (autoNot (andR (topA p) (topA q)).1).1 := by rw [e1', autoNot_ok w1]; exact not_WF w1
  have hsg : (autoNot (andR (topA p) (topA q)).1).1.Signs = 2 := by rw [e1', autoNot_ok w1]; exact s1
  have hl := least_len hw
  rw [leastR_ok hw]
  refine ⟨by rw [andR, e1], m1, m2, m3, m4, m5, m6, rfl, hl.1, hl.2, fun s hs hv => ?_⟩
  have hv' : ∀ c ∈ s, 0 ≤ c ∧ c < (topA p).Signs := hv
  have ht : (textFault 2 s).1 = 0 := by rw [textFault_ok (by omega) hv]
  refine ⟨autoTakes_is topA_WF ht, autoTakes_is topA_WF ht, ?_⟩
  rw [autoTakes_is (least_WF hw) (by rw [least_signs hw, hsg]; exact ht), least_takes hw (by rw [hsg]; exact hv), e1', autoNot_ok w1, not_takes w1 (by rw [s1]; exact hv), prodA_takes (a := topA p) (b := topA q) topA_WF topA_WF rfl hv']
end
end Go.Um
