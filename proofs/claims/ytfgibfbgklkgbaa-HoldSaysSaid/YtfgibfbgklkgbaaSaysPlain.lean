/- What the reference of kept rows and of bad runs makes. No program is in sight. -/
import Derived.Test.YtfgibfbgklkgbaaBadPlain
import Derived.Test.YtfgibfbgklkgbaaHoldFact
namespace Go.Um
/-! ### Where states came from -/
def FromOk (l : Loop) (fr : List Int) : Prop := ∀ q, q < fr.length → (q < (startsL l).length → nth fr q = -1) ∧ ∀ p : Nat, (comeAt l p).length ≤ q → q < (comeAt l (p + 1)).length → nth fr q = (p : Int)
def FromIn (fr2 fr3 : List Int) (i : Nat) : Prop := fr2.length ≤ fr3.length ∧ ∀ q, q < fr3.length → (q < fr2.length → nth fr3 q = nth fr2 q) ∧ (fr2.length ≤ q → nth fr3 q = (i : Int))
section
variable {l : Loop} {fr fr2 fr3 : List Int} {i u : Nat}
theorem FromOk.start (hu : u ≤ (startsL l).length) : FromOk l (List.replicate u (-1)) := fun q hq => by
  rw [List.length_replicate] at hq
  refine ⟨fun _ => by rw [nth_eq (by rw [List.length_replicate]; exact hq), List.getElem_replicate], fun p hp _ => ?_⟩
  have := (comeAt_pre (l := l) (show 0 ≤ p by omega)).1
  have e : (comeAt l 0).length = (startsL l).length := rfl
  omega
theorem FromIn.start : FromIn fr2 fr2 i := ⟨Nat.le_refl _, fun q hq => ⟨fun _ => rfl, fun h => by omega⟩⟩
theorem FromIn.add (h : FromIn fr2 fr3 i) : FromIn fr2 (fr3 ++ [(i : Int)]) i := by
  refine ⟨by rw [List.length_append]; have := h.1; omega, fun q hq => ?_⟩
  rw [List.length_append, List.length_singleton] at hq
  by_cases h3 : q < fr3.length
  · rw [nth_app_left h3]; exact h.2 q h3
  · have e : q = fr3.length := by omega
    rw [e, nth_app_last]
    exact ⟨fun h4 => by have := h.1; omega, fun _ => rfl⟩
theorem FromOk.next (h : FromOk l fr2) (h2 : FromIn fr2 fr3 i) (hl : fr2.length = (comeAt l i).length) (hl3 : fr3.length = (comeAt l (i + 1)).length) : FromOk l fr3 := fun q hq => by
  have h3 := h2.2 q hq
  by_cases hq2 : q < fr2.length
  · rw [h3.1 hq2]; exact h q hq2
  · have e := h3.2 (by omega)
    rw [e]
    have h0 := (comeAt_pre (l := l) (show 0 ≤ i by omega)).1
    have e0 : (comeAt l 0).length = (startsL l).length := rfl
    refine ⟨fun h4 => by omega, fun p hp1 hp2 => ?_⟩
    have : p = i := by
      refine Nat.le_antisymm (Nat.not_lt.1 fun h5 => ?_) (Nat.not_lt.1 fun h5 => ?_)
      · have := (comeAt_pre (l := l) (show i + 1 ≤ p by omega)).1; omega
      · have := (comeAt_pre (l := l) (show p + 1 ≤ i by omega)).1; omega
    rw [this]
theorem from_step (hl : LW l) (h : FromOk l fr) (hlen : fr.length = (comeL l).length) {z : Nat} (hz : z < (comeL l).length) :
    (holdB l.Start (nth (comeL l) z) = true ∧ nth fr z = -1) ∨ (¬ holdB l.Start (nth (comeL l) z) = true ∧ nth fr z = predI l z ∧ 0 ≤ predI l z ∧ (predI l z).toNat < z) := by
  have h1 := h z (by omega)
  by_cases hs : z < (startsL l).length
  · exact .inl ⟨(start_at hl hz).2 hs, h1.1 hs⟩
  · obtain ⟨p, hp, hpz, hp1, hp2, _⟩ := come_lvl hl hz (by omega)
    refine .inr ⟨fun h2 => hs ((start_at hl hz).1 h2), by rw [hp]; exact h1.2 p hp1 hp2, by omega, by omega⟩
end
/-! ### The chain, made from its end -/
def Want (l : Loop) (kk : Nat) (z : Int) (pr : List Nat) : Prop :=
  (kk < (comeL l).length → z < ((comeL l).length : Int) ∧ chain l kk = pr ++ (if z < 0 then [] else chain l z.toNat)) ∧ (¬ kk < (comeL l).length → z = (kk : Int) ∧ pr = [])
section
variable {l : Loop} {kk : Nat} {z : Int} {pr : List Nat} {fr : List Int} {wl : List (List Int)}
theorem Want.start : Want l kk (kk : Int) [] := ⟨fun h => ⟨by omega, by rw [if_neg (by omega)]; simp⟩, fun _ => ⟨rfl, rfl⟩⟩
theorem Want.next (hl : LW l) (h : Want l kk z pr) (hf : FromOk l fr) (hlen : fr.length = (comeL l).length) (hz : z < ((comeL l).length : Int) ∧ 0 ≤ z) : Want l kk (nth fr z.toNat) (pr ++ [z.toNat]) ∧ nth fr z.toNat < z ∧ pr.length + 1 ≤ 1201 := by
  have hk : kk < (comeL l).length := Decidable.of_not_not fun hn => by have := (h.2 hn).1; omega
  obtain ⟨h1, h2⟩ := h.1 hk
  rw [if_neg (show ¬ z < 0 by omega)] at h2
  have hzl : z.toNat < (comeL l).length := by omega
  have hb : pr.length + 1 ≤ 1201 := by
    have h3 := congrArg List.length h2
    rw [List.length_append] at h3
    have h4 := chain_pos hl hzl
    have h5 : (chain l kk).length ≤ kk + 1 := chainF_len kk kk
    have h6 := comeL_few hl
    omega
  rcases from_step hl hf hlen hzl with ⟨h3, h4⟩ | ⟨h3, h4, h5, h6⟩
  · rw [h4]
    refine ⟨⟨fun _ => ⟨by omega, ?_⟩, fun hn => absurd hk hn⟩, by omega, hb⟩
    rw [h2, chain_start h3, if_pos (by omega)]; simp
  · rw [h4]
    refine ⟨⟨fun _ => ⟨by omega, ?_⟩, fun hn => absurd hk hn⟩, by omega, hb⟩
    rw [h2, chain_step hl hzl h3, if_neg (by omega)]; simp
theorem Want.done (hl : LW l) (h : Want l kk z pr) (hz : ¬ (z < ((comeL l).length : Int) ∧ 0 ≤ z)) (hno : ∀ j, j < kk → holdB l.Bad (nth (comeL l) j) = false) (hkl : kk ≤ (comeL l).length) (hk : ¬ ((kk : Int) < ((comeL l).length : Int) ∧ (!holdB l.Bad (nth (comeL l) kk)) = true))
    (hw : wl = (pr.map (nth (comeL l))).reverse) : badB l = decide ((kk : Int) < ((comeL l).length : Int)) ∧ badL l = wl := by
  have hz0 : ¬ (loopFault l).1 ≠ 0 := not_not_intro (by rw [hl.code])
  by_cases hlt : kk < (comeL l).length
  · have hb : holdB l.Bad (nth (comeL l) kk) = true := by
      cases hh : holdB l.Bad (nth (comeL l) kk) with
      | true => rfl
      | false => exact absurd ⟨by omega, by rw [hh]; rfl⟩ hk
    obtain ⟨h1, h2⟩ := h.1 hlt
    rw [if_pos (show z < 0 by omega), List.append_nil] at h2
    have hbl := badL_of hz0 (idxOf_at hlt hno hb : badAtI l = kk) h2
    exact ⟨by rw [hbl.2, decide_eq_true (by omega)], by rw [hbl.1, hw]⟩
  · have hb : badB l = false := by
      rw [badB, if_neg hz0, badAtI, idxOf_no fun j hj => hno j (by omega)]; rfl
    exact ⟨by rw [hb, decide_eq_false (by omega)], by rw [bad_nil hb, hw, (h.2 hlt).2]; rfl⟩
end
/-! ### The most, one round after the other -/
section
variable {l : Loop} {r : List LRow} {left : List Int} {k i n x : Nat} {f0 f1 f2 : Bool}
theorem mostF_succ : ∀ (n : Nat) (left : List Int), holdMostF l r (n + 1) left = dropBad l r (holdMostF l r n left)
  | 0, _ => rfl
  | n + 1, left => by rw [holdMostF, mostF_succ n, holdMostF]
theorem filterI_yes {p : Int → Bool} {L : List Int} (h : i < L.length) (hp : p (nth L i) = true) : (L.take (i + 1)).filter p = (L.take i).filter p ++ [nth L i] := by
  rw [take_succ_nth h, List.filter_append]; simp [hp]
theorem filterI_no {p : Int → Bool} {L : List Int} (h : i < L.length) (hp : p (nth L i) = false) : (L.take (i + 1)).filter p = (L.take i).filter p := by
  rw [take_succ_nth h, List.filter_append]; simp [hp]
def fineB (l : Loop) (r : List LRow) (left : List Int) (i k : Nat) : Bool := !(((statesL l).take k).any fun s => strayAt l r (pickR r left) s (nth left i))
theorem fine_start : true = fineB l r left i 0 := rfl
theorem fine_end (hk : (statesL l).length ≤ k) : fineB l r left i k = !strayIn l r left (nth left i) := by rw [fineB, List.take_of_length_le hk]; rfl
theorem fine_next (hk : k < (statesL l).length) : fineB l r left i (k + 1) = (fineB l r left i k && !strayAt l r (pickR r left) (nth (statesL l) k) (nth left i)) := by
  rw [fineB, fineB, take_succ_nth hk, List.any_append, List.any_cons, List.any_nil, Bool.or_false, Bool.not_or]
/-- Where the rows do not hold, only the beginning counts. -/
theorem fine_skip (hk : k < (statesL l).length) (hf : f0 = fineB l r left i k) (h1 : f1 = (f0 && !(holdB l.Start (nth (statesL l) k) && !holdB [nth r (nth left i).toNat] (nth (statesL l) k)))) (hs : holdB (pickR r left) (nth (statesL l) k) = false) : f1 = fineB l r left i (k + 1) := by
  rw [h1, hf, fine_next hk, strayAt, hs, Bool.false_and, Bool.or_false]
theorem fine_go (hk : k < (statesL l).length) (hf : f0 = fineB l r left i k) (h1 : f1 = (f0 && !(holdB l.Start (nth (statesL l) k) && !holdB [nth r (nth left i).toNat] (nth (statesL l) k)))) (hs : holdB (pickR r left) (nth (statesL l) k) = true)
    (h2 : f2 = (f1 && ((nextL l (nth (statesL l) k)).take x).all fun t => holdB [nth r (nth left i).toNat] t)) (hx : (nextL l (nth (statesL l) k)).length ≤ x) : f2 = fineB l r left i (k + 1) := by
  rw [h2, h1, hf, fine_next hk, strayAt, hs, Bool.true_and, List.take_of_length_le hx, Bool.not_or, ← Bool.and_assoc, List.not_any_eq_all_not]
  simp
theorem fine_all {L : List (List Int)} {one : List LRow} (hx : x < L.length) (h2 : f2 = (f1 && (L.take x).all fun t => holdB one t)) : decide (f2 = true ∧ holdB one (nth L x) = true) = (f1 && (L.take (x + 1)).all fun t => holdB one t) := by
  rw [take_succ_nth hx, List.all_append, List.all_cons, List.all_nil, Bool.and_true, ← Bool.and_assoc, ← h2]
  cases f2 <;> cases holdB one (nth L x) <;> rfl
theorem fine_bad {a b : Bool} (h : a = true ∧ (!b) = true) : false = (f0 && !(a && !b)) := by rw [h.1, h.2]; simp
theorem fine_ok {a b : Bool} (h : ¬ (a = true ∧ (!b) = true)) : f0 = (f0 && !(a && !b)) := by
  cases a <;> cases b <;> simp_all
theorem dropBad_is : ((left.take left.length).filter fun i => !strayIn l r left i) = dropBad l r left := by rw [List.take_length]; rfl
theorem most_is (hc : (chkFault l r).1 = 0) (hn : n = r.length + 1) (h : left = holdMostF l r n (rangeI r.length)) : holdMost l r = left := by rw [holdMost, if_neg (not_not_intro hc), h, hn]
theorem lost_kept (hc : (chkFault l r).1 = 0) : keptB l r = !(lostS l r).isSome ∧ keptS l r = (lostS l r).getD [] := by
  constructor
  · rw [keptB, if_neg (not_not_intro hc)]; cases lostS l r <;> rfl
  · rw [keptS, if_neg (not_not_intro hc)]
end
theorem statesL_few {l : Loop} (hl : LW l) : (statesL l).length ≤ 1200 := allTo_le hl (Nat.le_refl _)
end Go.Um
