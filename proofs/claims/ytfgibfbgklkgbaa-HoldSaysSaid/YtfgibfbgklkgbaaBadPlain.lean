/- A bad run is shortest. No program is in sight. -/
import Derived.Test.YtfgibfbgklkgbaaHoldRun
namespace Go.Um
section
variable {l : Loop} {i j p q : Nat} {s t : List Int}
theorem come_lvl (hl : LW l) (hi : i < (comeL l).length) (h0 : (startsL l).length ≤ i) : ∃ p : Nat, predI l i = (p : Int) ∧ p < i ∧ (comeAt l p).length ≤ i ∧ i < (comeAt l (p + 1)).length ∧
    nth (comeL l) i ∈ nextL l (nth (comeL l) p) ∧ ∀ j, j < p → ¬ nth (comeL l) i ∈ nextL l (nth (comeL l) j) := by
  obtain ⟨n, h1, h2, h3, h4⟩ := come_end hl
  have key : ∀ m, i < (comeAt l m).length → ∃ p, p < m ∧ (comeAt l p).length ≤ i ∧ i < (comeAt l (p + 1)).length := by
    intro m
    induction m with
    | zero => intro h; exact absurd h (Nat.not_lt.2 h0)
    | succ m ih =>
      intro h
      by_cases hm : i < (comeAt l m).length
      · obtain ⟨p, hp, hq⟩ := ih hm; exact ⟨p, by omega, hq⟩
      · exact ⟨m, Nat.lt_succ_self _, by omega, h⟩
  obtain ⟨p, hpn, hp1, hp2⟩ := key n (by rw [← h3]; exact hi)
  have hpp := h4 p hpn
  have hpi : p < i := by omega
  have pre : ∀ k m, k < (comeAt l m).length → m ≤ n → nth (comeL l) k = nth (comeAt l m) k := fun k m hk hm => by rw [h3]; exact (comeAt_pre (l := l) hm).2 k hk
  have uniq : ∀ k, k < (comeAt l p).length → nth (comeL l) k = nth (comeL l) i → False := fun k hk he => by
    have hnd := comeAt_nodup (l := l) n
    have hkl : k < (comeAt l n).length := by rw [← h3]; omega
    rw [h3, nth_eq hkl, nth_eq (by rw [← h3]; exact hi)] at he
    have := (List.getElem_inj hnd).1 he
    omega
  have hin : nth (comeL l) i ∈ nextL l (nth (comeL l) p) := by
    rw [pre i (p + 1) hp2 hpn, pre p p hpp (by omega)]
    have hmem : nth (comeAt l (p + 1)) i ∈ growS (comeAt l p) (nextL l (nth (comeAt l p) p)) := by rw [← comeAt_step hpp]; exact nth_mem hp2
    rcases growS_from hmem with h | h
    · exfalso
      obtain ⟨k, hk, e⟩ := nth_of_mem h
      rw [← pre k p hk (by omega), ← pre i (p + 1) hp2 hpn] at e
      exact uniq k hk e
    · exact h
  have hmin : ∀ j, j < p → ¬ nth (comeL l) i ∈ nextL l (nth (comeL l) j) := fun j hj hm => by
    have hjj := h4 j (by omega)
    rw [pre j j hjj (by omega)] at hm
    have h5 : nth (comeL l) i ∈ comeAt l (j + 1) := by rw [comeAt_step hjj]; exact growS_mem hm
    obtain ⟨k, hk, e⟩ := nth_of_mem h5
    have hle := (comeAt_pre (l := l) (show j + 1 ≤ p by omega)).1
    rw [← pre k (j + 1) hk (by omega)] at e
    exact uniq k (by omega) e
  refine ⟨p, ?_, hpi, hp1, hp2, hin, hmin⟩
  refine idxOf_at (g := fun s => (nextL l s).any fun t => decide (t = nth (comeL l) i)) (by omega) (fun j hj => ?_) ?_
  · rw [any_mem]; exact decide_eq_false (hmin j hj)
  · rw [any_mem]; exact decide_eq_true hin
theorem start_at (hl : LW l) (hi : i < (comeL l).length) : holdB l.Start (nth (comeL l) i) = true ↔ i < (startsL l).length := by
  have hp := comeAt_pre (l := l) (show 0 ≤ 1200 by omega)
  have hle : (startsL l).length ≤ (comeL l).length := hp.1
  constructor
  · intro h
    have hst := st_states hl (comeL_st hl (nth_mem hi))
    have : nth (comeL l) i ∈ startsL l := List.mem_filter.2 ⟨hst, h⟩
    obtain ⟨k, hk, e⟩ := nth_of_mem this
    have e2 : nth (comeL l) k = nth (comeL l) i := by rw [← e]; exact hp.2 k hk
    have hnd : (comeL l).Nodup := comeAt_nodup (l := l) 1200
    rw [nth_eq (show k < (comeL l).length by omega), nth_eq hi] at e2
    have := (List.getElem_inj hnd).1 e2
    omega
  · intro h
    have e : nth (comeL l) i = nth (startsL l) i := hp.2 i h
    rw [e]; exact (startsL_mem hl (nth_mem h)).2
theorem chain_pos (hl : LW l) (hi : i < (comeL l).length) : 0 < (chain l i).length := (chain_run hl i hi).1
theorem chain_at0 (hl : LW l) (hi : i < (comeL l).length) (h : i < (startsL l).length) : (chain l i).length = 1 := by rw [chain_start ((start_at hl hi).2 h)]; rfl
theorem chain_atp (hl : LW l) (hi : i < (comeL l).length) (h : (startsL l).length ≤ i) (hp : predI l i = (p : Int)) : (chain l i).length = (chain l p).length + 1 := by
  rw [chain_step hl hi (fun h2 => by have := (start_at hl hi).1 h2; omega), hp, Int.toNat_natCast, List.length_cons]
theorem chain_mono (hl : LW l) : ∀ j, j < (comeL l).length → ∀ i, i ≤ j → (chain l i).length ≤ (chain l j).length := by
  intro j
  induction j using Nat.strongRecOn with
  | _ j ih =>
    intro hj i hij
    by_cases hi0 : i < (startsL l).length
    · rw [chain_at0 hl (by omega) hi0]; exact chain_pos hl hj
    · obtain ⟨p, hp, hpi, hp1, hp2, _⟩ := come_lvl hl (i := i) (by omega) (by omega)
      obtain ⟨q, hq, hqj, hq1, hq2, _⟩ := come_lvl hl (i := j) hj (by omega)
      rw [chain_atp hl (by omega) (by omega) hp, chain_atp hl hj (by omega) hq]
      have hpq : p ≤ q := by
        refine Nat.not_lt.1 fun h => ?_
        have := (comeAt_pre (l := l) (show q + 1 ≤ p by omega)).1
        omega
      have := ih q hqj (by omega) p hpq
      omega
theorem chain_edge (hl : LW l) (hj : j < (comeL l).length) (ht : t ∈ nextL l (nth (comeL l) j)) : ∃ q, q < (comeL l).length ∧ nth (comeL l) q = t ∧ (chain l q).length ≤ (chain l j).length + 1 := by
  obtain ⟨q, hq, he⟩ := nth_of_mem (come_closed hl hj ht)
  refine ⟨q, hq, he, ?_⟩
  by_cases hq0 : q < (startsL l).length
  · rw [chain_at0 hl hq hq0]; omega
  · obtain ⟨p, hp, hpi, hp1, hp2, _, hmin⟩ := come_lvl hl hq (by omega)
    rw [chain_atp hl hq (by omega) hp]
    have hpj : p ≤ j := Nat.not_lt.1 fun h => hmin j h (by rw [he]; exact ht)
    have := chain_mono hl j hj p hpj
    omega
/-- States that so many steps lead to. -/
def Lay (l : Loop) (m : Nat) (now : List (List Int)) : Prop := ∀ s ∈ now, ∃ q, q < (comeL l).length ∧ nth (comeL l) q = s ∧ (chain l q).length ≤ m
theorem Lay.start (hl : LW l) : Lay l 1 (startsL l) := fun s hs => by
  obtain ⟨k, hk, rfl⟩ := nth_of_mem hs
  have hp := comeAt_pre (l := l) (show 0 ≤ 1200 by omega)
  have hle : (startsL l).length ≤ (comeL l).length := hp.1
  exact ⟨k, by omega, hp.2 k hk, Nat.le_of_eq (chain_at0 hl (by omega) hk)⟩
theorem Lay.nil {m : Nat} : Lay l m [] := fun s hs => by cases hs
theorem Lay.add {m : Nat} {now nx : List (List Int)} (hl : LW l) (h : Lay l m now) (h2 : Lay l (m + 1) nx) (hs : s ∈ now) (ht : t ∈ nextL l s) : Lay l (m + 1) (nx ++ [t]) := fun u hu => by
  rcases List.mem_append.1 hu with hu | hu
  · exact h2 u hu
  · rw [List.mem_singleton.1 hu]
    obtain ⟨q, hq, rfl, hm⟩ := h s hs
    obtain ⟨p, hp, he, hc⟩ := chain_edge hl hq ht
    exact ⟨p, hp, he, by omega⟩
theorem Lay.st {m : Nat} {now : List (List Int)} (hl : LW l) (h : Lay l m now) (hs : s ∈ now) : St_ l s := by
  obtain ⟨q, hq, rfl, _⟩ := h s hs
  exact comeL_st hl (nth_mem hq)
theorem bad_short (hl : LW l) (hb : badB l = true) {m : Nat} {now : List (List Int)} (h : Lay l m now) (hs : s ∈ now) (hm : m < (badL l).length) : holdB l.Bad s = false := by
  cases hh : holdB l.Bad s with
  | false => rfl
  | true =>
    exfalso
    obtain ⟨q, hq, rfl, hc⟩ := h s hs
    have hz : ¬ (loopFault l).1 ≠ 0 := not_not_intro (by rw [hl.code])
    rcases first_or (holdB l.Bad) (comeL l) with h1 | ⟨k, hk, h1, h2⟩
    · rw [h1 q hq] at hh; cases hh
    · have he : badAtI l = k := idxOf_at hk h1 h2
      have hb2 : badL l = ((chain l k).map (nth (comeL l))).reverse := (badL_of hz he rfl).1
      rw [hb2, List.length_reverse, List.length_map] at hm
      have hkq : k ≤ q := Nat.not_lt.1 fun h => by rw [h1 q h] at hh; cases hh
      have := chain_mono hl q hq k hkq
      omega
end
end Go.Um
