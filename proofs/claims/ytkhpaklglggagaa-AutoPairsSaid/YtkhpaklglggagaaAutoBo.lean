/- The reference's automaton of pairs, state by state; what the law of pairs asks. No program is in sight. -/
import Derived.Test.YtkhpaklglggagaaAutoLea
namespace Go.Um
def fstL (P : List (Int × Int)) : List Int := P.map (·.1)
def sndL (P : List (Int × Int)) : List Int := P.map (·.2)
def opB (d : Bool) (x y : Bool) : Bool := if d = true then x && y else x || y
def boRow (a b : Auto) (L : List (Int × Int)) (i c : Nat) : List Int := (List.range c).map fun (c : Nat) => numOf L (stepP a b (nth L i) c)
noncomputable def boNext (a b : Auto) (i : Nat) : List (List Int) := ((pairsL a b).take i).map fun p => (List.range a.Signs.toNat).map fun (c : Nat) => numOf (pairsL a b) (stepP a b p c)
noncomputable def boTakes (a b : Auto) (d : Bool) (i : Nat) : List Bool := ((pairsL a b).take i).map fun p => opB d (nth a.Takes p.1.toNat) (nth b.Takes p.2.toNat)
theorem opB_1 {d A B : Bool} (hd : d = true) (h : A = true) : opB d A B = B := by subst hd; subst h; rfl
theorem opB_2 {d A B : Bool} (hd : d = true) (h : ¬ A = true) : opB d A B = false := by subst hd; cases A <;> first | rfl | exact absurd rfl h
theorem opB_3 {d A B : Bool} (hd : d = false) (h : A = true) : opB d A B = true := by subst hd; subst h; rfl
theorem opB_4 {d A B : Bool} (hd : d = false) (h : ¬ A = true) : opB d A B = B := by subst hd; cases A <;> first | rfl | exact absurd rfl h
structure BothS (a b : Auto) (P : List (Int × Int)) (i c : Nat) : Prop where
  map : P = growTo (stepP a b) (bfs (stepP a b) a.Signs.toNat (0, 0) i) (nth (bfs (stepP a b) a.Signs.toNat (0, 0) i) i) c
  pr : ∀ p, p ∈ P → Pr a b p
  done : ∀ j, j < i → j < (bfs (stepP a b) a.Signs.toNat (0, 0) j).length
  at_ : c = 0 ∨ i < (bfs (stepP a b) a.Signs.toNat (0, 0) i).length
  lt : c ≤ a.Signs.toNat
section
variable {a b : Auto} {P : List (Int × Int)} {i c k : Nat} {d : Bool}
theorem fstL_len : (fstL P).length = P.length := by simp [fstL]
theorem sndL_len : (sndL P).length = P.length := by simp [sndL]
theorem fstL_nth (h : k < P.length) : nth (fstL P) k = (nth P k).1 := nth_map' h
theorem sndL_nth (h : k < P.length) : nth (sndL P) k = (nth P k).2 := nth_map' h
theorem fstL_app {p : Int × Int} : fstL (P ++ [p]) = fstL P ++ [p.1] := by simp [fstL]
theorem sndL_app {p : Int × Int} : sndL (P ++ [p]) = sndL P ++ [p.2] := by simp [sndL]
theorem boRow_next {L : List (Int × Int)} : boRow a b L i (c + 1) = boRow a b L i c ++ [numOf L (stepP a b (nth L i) c)] := by rw [boRow, List.range_succ, List.map_append]; rfl
theorem boRow_len {L : List (Int × Int)} : (boRow a b L i c).length = c := by simp [boRow]
theorem boNext_len : (boNext a b i).length ≤ i := by rw [boNext, List.length_map, List.length_take]; omega
theorem boTakes_len : (boTakes a b d i).length ≤ i := by rw [boTakes, List.length_map, List.length_take]; omega
theorem boNext_next (h : i < (pairsL a b).length) : boNext a b (i + 1) = boNext a b i ++ [boRow a b (pairsL a b) i a.Signs.toNat] := by rw [boNext, take_succ_nth h, List.map_append]; rfl
theorem boTakes_next (h : i < (pairsL a b).length) : boTakes a b d (i + 1) = boTakes a b d i ++ [opB d (nth a.Takes (nth (pairsL a b) i).1.toNat) (nth b.Takes (nth (pairsL a b) i).2.toNat)] := by rw [boTakes, take_succ_nth h, List.map_append]; rfl
theorem bo_made : prodA a b (opB d) = ⟨((a.Signs.toNat : Nat) : Int), boNext a b (pairsL a b).length, boTakes a b d (pairsL a b).length⟩ := by
  rw [boNext, boTakes, List.take_length]; rfl
theorem BothS.start (ha : WF a) (hb : WF b) : BothS a b [(0, 0)] 0 0 := ⟨rfl, fun p hp => by rw [List.mem_singleton.1 hp]; exact Pr.start ha hb, (fun j hj => by omega), .inl rfl, Nat.zero_le _⟩
theorem BothS.any (h : BothS a b P i c) (ha : WF a) (hb : WF b) (k : Nat) : (0 ≤ nth (fstL P) k ∧ nth (fstL P) k < (a.Next.length : Int)) ∧ 0 ≤ nth (sndL P) k ∧ nth (sndL P) k < (b.Next.length : Int) := by
  by_cases hk : k < P.length
  · rw [fstL_nth hk, sndL_nth hk]; exact h.pr _ (nth_mem hk)
  · have e1 : nth (fstL P) k = 0 := by simp [nth, List.getElem?_eq_none (by rw [fstL_len]; omega : (fstL P).length ≤ k)]
    have e2 : nth (sndL P) k = 0 := by simp [nth, List.getElem?_eq_none (by rw [sndL_len]; omega : (sndL P).length ≤ k)]
    rw [e1, e2]
    have h1 := ha.many; have h2 := hb.many
    exact ⟨⟨Int.le_refl _, by omega⟩, Int.le_refl _, by omega⟩
theorem BothS.nodup (h : BothS a b P i c) : P.Nodup := by rw [h.map]; exact growTo_nodup (bfs_nodup i) c
theorem BothS.few (h : BothS a b P i c) (ha : WF a) (hb : WF b) : P.length ≤ 2000 := Pr.few ha hb P h.nodup h.pr
theorem pairs_1600 (h : BothS a b P i c) (ha : WF a) (hb : WF b) : P.length ≤ 1600 := by
  have h1 := nodup_le_p (S := allPairs a.Next.length b.Next.length) h.nodup fun p hp => by
    obtain ⟨⟨h3, h4⟩, h5, h6⟩ := h.pr p hp
    refine List.mem_flatMap.2 ⟨p.1.toNat, List.mem_range.2 (by omega), List.mem_map.2 ⟨p.2.toNat, List.mem_range.2 (by omega), ?_⟩⟩
    exact Prod.ext (by show ((p.1.toNat : Nat) : Int) = p.1; omega) (by show ((p.2.toNat : Nat) : Int) = p.2; omega)
  rw [allPairs_len] at h1
  have h2 : a.Next.length * b.Next.length ≤ 40 * 40 := Nat.mul_le_mul ha.many.2 hb.many.2
  omega
theorem BothS.pos (h : BothS a b P i c) (ha : WF a) (hb : WF b) (hs : a.Signs = b.Signs) (hk : k < P.length) : k < (pairsL a b).length ∧ nth (pairsL a b) k = nth P k := by
  obtain ⟨e, he⟩ := prod_ends ha hb hs
  have h2 := he.pre h.done h.lt h.at_ k (by rw [← h.map]; exact hk)
  rw [← h.map] at h2
  exact h2
theorem BothS.len (h : BothS a b P i 0) : (bfs (stepP a b) a.Signs.toNat (0, 0) i).length = P.length := by
  have := congrArg List.length h.map
  exact this.symm
theorem BothS.head (h : BothS a b P i c) (hi : i < (bfs (stepP a b) a.Signs.toNat (0, 0) i).length) : nth (bfs (stepP a b) a.Signs.toNat (0, 0) i) i = nth P i := by
  have h2 := growTo_pre (nx := stepP a b) (L := bfs (stepP a b) a.Signs.toNat (0, 0) i) (x := nth (bfs (stepP a b) a.Signs.toNat (0, 0) i) i) (Nat.zero_le c) i hi
  rw [← h.map] at h2
  exact h2.1.symm
theorem BothS.new (h : BothS a b P i c) (ha : WF a) (hb : WF b) (hs : a.Signs = b.Signs) (hi : i < (bfs (stepP a b) a.Signs.toNat (0, 0) i).length) (him : i < P.length) (hc : c < a.Signs.toNat) (hno : ∀ j, j < P.length → nth P j ≠ stepP a b (nth P i) c) : BothS a b (P ++ [stepP a b (nth P i) c]) i (c + 1) := by
  have hsg := ha.signs
  refine ⟨?_, fun p hp => ?_, h.done, .inr hi, hc⟩
  · show _ = addN (growTo _ _ _ c) _
    rw [← h.map, h.head hi, addN, if_neg]
    intro hm
    obtain ⟨j, hj, e⟩ := nth_of_mem hm
    exact hno j hj e
  · rcases List.mem_append.1 hp with hp | hp
    · exact h.pr p hp
    · rw [List.mem_singleton.1 hp]
      exact Pr.step ha hb hs (h.pr _ (nth_mem him)) ⟨by omega, by omega⟩
theorem BothS.old (h : BothS a b P i c) (hi : i < (bfs (stepP a b) a.Signs.toNat (0, 0) i).length) (hc : c < a.Signs.toNat) (hk : k < P.length) (he : nth P k = stepP a b (nth P i) c) : BothS a b P i (c + 1) := by
  refine ⟨?_, h.pr, h.done, .inr hi, hc⟩
  show P = addN (growTo _ _ _ c) _
  rw [← h.map, h.head hi, addN, if_pos]
  rw [← he]; exact nth_mem hk
theorem BothS.num (h : BothS a b P i (c + 1)) (ha : WF a) (hb : WF b) (hs : a.Signs = b.Signs) (him : i < P.length) (hk : k < P.length) (he : nth P k = stepP a b (nth P i) c) : numOf (pairsL a b) (stepP a b (nth (pairsL a b) i) c) = (k : Int) := by
  obtain ⟨_, h2⟩ := h.pos ha hb hs him
  obtain ⟨h3, h4⟩ := h.pos ha hb hs hk
  rw [h2, ← he, ← h4]
  exact numOf_nth (pairs_closed ha hb hs).nodup h3
theorem BothS.turn (h : BothS a b P i c) (hc : c = a.Signs.toNat) (hi : i < (bfs (stepP a b) a.Signs.toNat (0, 0) i).length) : BothS a b P (i + 1) 0 := by
  subst hc
  refine ⟨h.map, h.pr, fun j hj => ?_, .inl rfl, Nat.zero_le _⟩
  by_cases e : j = i
  · subst e; exact hi
  · exact h.done j (by omega)
theorem BothS.fin (h : BothS a b P i 0) (hi : i ≤ P.length) (hn : ¬ i < P.length) : i = (pairsL a b).length := by
  have hlen := h.len
  have hE : Ended (stepP a b) a.Signs.toNat (0, 0) i := ⟨by omega, h.done⟩
  rw [pairsL, hE.endL]; omega
/-- what the law of pairs asks -/
theorem pairs_law (ha : WF a) (hb : WF b) (hs : a.Signs = b.Signs) : pairFault a b = (0, 0) ∧ sameR a b = decide (leastA a = leastA b) ∧
    (40 < ((prodA a b (opB true)).Next.length : Int) → andR a b = (⟨0, [], []⟩, (10, 0)) ∧ orR a b = (⟨0, [], []⟩, (10, 0))) ∧
    (¬ 40 < ((prodA a b (opB true)).Next.length : Int) → andR a b = (prodA a b (opB true), (0, 0)) ∧ orR a b = (prodA a b (opB false), (0, 0))) := by
  have h0 := pairFault_of ha hb hs
  have e1 : opB true = fun x y => x && y := rfl
  have e2 : opB false = fun x y => x || y := rfl
  have hl : ∀ op, (prodA a b op).Next.length = (pairsL a b).length := fun op => builtA_len.1
  refine ⟨h0, sameR_least ha hb hs, fun h => ?_, fun h => ?_⟩
  · rw [hl] at h
    constructor
    · rw [andR, bothR, h0, if_neg (by decide), if_pos (by rw [hl]; exact h)]
    · rw [orR, bothR, h0, if_neg (by decide), if_pos (by rw [hl]; exact h)]
  · rw [hl] at h
    constructor
    · rw [andR, bothR, h0, if_neg (by decide), if_neg (by rw [hl]; exact h)]; rfl
    · rw [orR, bothR, h0, if_neg (by decide), if_neg (by rw [hl]; exact h)]; rfl
theorem pairs_bad (h : (pairFault a b).1 ≠ 0) : andR a b = (⟨0, [], []⟩, pairFault a b) ∧ orR a b = (⟨0, [], []⟩, pairFault a b) ∧ sameR a b = false := ⟨bothR_bad h, bothR_bad h, if_pos h⟩
theorem prod_sg {op : Bool → Bool → Bool} (h : In64 a.Signs) : In64 (prodA a b op).Signs := by
  show In64 ((a.Signs.toNat : Nat) : Int)
  obtain ⟨h1, h2⟩ := h
  constructor <;> omega
theorem leastA_sg (h : In64 a.Signs) : In64 (leastA a).Signs := by
  show In64 ((a.Signs.toNat : Nat) : Int)
  obtain ⟨h1, h2⟩ := h
  constructor <;> omega
/-- what is wrong with two, told in turn -/
def W1 (a b : Auto) (c e : Int) : Prop := ((autoFault a).1 = 0 → (c, e) = autoFault b) ∧ ((autoFault a).1 ≠ 0 → (c, e) = autoFault a)
theorem W1.yes {c e : Int} (h : W1 a b c e) (h2 : c = 0 ∧ a.Signs ≠ b.Signs) : (11 : Int) = (pairFault a b).1 ∧ (-1 : Int) = (pairFault a b).2 := by
  by_cases h0 : (autoFault a).1 = 0
  · have h3 := h.1 h0
    have h4 : (autoFault b).1 = 0 := by rw [← h3]; exact h2.1
    rw [pairFault_s (not_not_intro h0) (not_not_intro h4) h2.2]; exact ⟨rfl, rfl⟩
  · have h3 := h.2 h0
    exact absurd (by rw [← h3]; exact h2.1) h0
theorem W1.no {c e : Int} (h : W1 a b c e) (h2 : ¬ (c = 0 ∧ a.Signs ≠ b.Signs)) : c = (pairFault a b).1 ∧ e = (pairFault a b).2 := by
  by_cases h0 : (autoFault a).1 = 0
  · have h3 := h.1 h0
    by_cases h4 : (autoFault b).1 = 0
    · have hc : c = 0 := by rw [← h4, ← h3]
      have hs : ¬ a.Signs ≠ b.Signs := fun hne => h2 ⟨hc, hne⟩
      have h5 : autoFault b = (0, 0) := (WF.of h4).fault
      rw [h5] at h3
      rw [pairFault_no (not_not_intro h0) (not_not_intro h4) hs]
      exact ⟨congrArg Prod.fst h3, congrArg Prod.snd h3⟩
    · rw [pairFault, if_neg (not_not_intro h0), if_pos h4]
      exact ⟨congrArg Prod.fst h3, congrArg Prod.snd h3⟩
  · have h3 := h.2 h0
    rw [pairFault, if_pos h0]
    exact ⟨congrArg Prod.fst h3, congrArg Prod.snd h3⟩
end
end Go.Um
