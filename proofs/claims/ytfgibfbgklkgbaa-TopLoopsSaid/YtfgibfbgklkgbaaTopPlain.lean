/- What a system of one number shows. No program is in sight. -/
import Derived.Test.YtfgibfbgklkgbaaHoldRun
namespace Go.Um
theorem any_step {f : Nat → Bool} {w : Bool} {i : Nat} {p : Prop} [Decidable p] (h : w = (List.range i).any f) (hp : f i = decide p) : decide (w = true ∨ p) = (List.range (i + 1)).any f := by
  rw [List.range_succ, List.any_append, ← h, List.any_cons, List.any_nil, Bool.or_false, hp, Bool.decide_or, Bool.decide_eq_true]
theorem pickI_neg {a n : Int} (h : a.tmod n < 0) : pickI a n = a.tmod n + n := if_pos h
theorem pickI_pos {a n : Int} (h : ¬ a.tmod n < 0) : pickI a n = a.tmod n := if_neg h
theorem atI_in {l : List Int} {i : Int} (h : 0 ≤ i ∧ i < (l.length : Int)) : atI l i = nth l i.toNat := if_pos h
theorem atI_out {l : List Int} {i : Int} (h : ¬ (0 ≤ i ∧ i < (l.length : Int))) : atI l i = 0 := if_neg h
def HeldOk (r : List LRow) : Prop := ∀ k, k < r.length → (nth r k).Of.length = 1 ∧ (nth (nth r k).Of 0 = 1 ∨ nth (nth r k).Of 0 = -1)
theorem HeldOk.mul {r : List LRow} (h : HeldOk r) {k : Nat} (hk : k < r.length) {n : Int} (hn : -1000000 ≤ n ∧ n ≤ 1000000) : -1000000 ≤ nth (nth r k).Of 0 * n ∧ nth (nth r k).Of 0 * n ≤ 1000000 := by
  rcases (h k hk).2 with h1 | h1 <;> rw [h1] <;> omega
theorem keepL_held {rows : List Int} {n : Nat} : HeldOk (keepL rows n) := fun k hk => by
  rw [keepL_len] at hk
  have p1 := pickI_rng (a := nth rows k) (n := 2) (by decide)
  rw [keepL_nth hk]
  refine ⟨rfl, ?_⟩
  show 1 - 2 * pickI (nth rows k) 2 = 1 ∨ 1 - 2 * pickI (nth rows k) 2 = -1
  omega
section
variable {raw rows : List Int} {n i : Nat} {w : Bool}
theorem top_one {s : List Int} (h : s ∈ comeL (topL raw)) : s.length = 1 ∧ 0 ≤ nth s 0 ∧ nth s 0 ≤ 6 := by
  have hl := topL_LW raw
  have hs := comeL_st hl h
  have h1 : s.length = 1 := hs.1
  refine ⟨h1, ?_⟩
  exact of_decide_eq_true hs.2 0 (by omega)
theorem top_some : 0 < (comeL (topL raw)).length := by
  have hl := topL_LW raw
  have h0 := pickI_rng (a := atI raw 0) (n := 7) (by decide)
  have h1 : [pickI (atI raw 0) 7] ∈ startsL (topL raw) := by
    rw [startsL]
    refine List.mem_filter.2 ⟨allTo_has hl _ (Nat.le_refl _) _ rfl (decide_eq_true fun k hk => ?_), ?_⟩
    · have : k = 0 := by have : k < 1 := hk; omega
      subst this
      show (0 : Int) ≤ pickI (atI raw 0) 7 ∧ pickI (atI raw 0) 7 ≤ 6
      omega
    · show holdB [⟨[1], 3, pickI (atI raw 0) 7⟩] _ = true
      rw [eq_hold rfl]; exact decide_eq_true rfl
  have := starts_come hl h1
  exact List.length_pos_of_mem this
theorem top_bad : (List.range (comeL (topL raw)).length).any (fun j => decide (nth (nth (comeL (topL raw)) j) 0 = (nth (topL raw).Bad 0).To)) = badB (topL raw) := by
  have hl := topL_LW raw
  have hB : ∀ s, s ∈ comeL (topL raw) → (holdB (topL raw).Bad s = true ↔ nth s 0 = (nth (topL raw).Bad 0).To) := fun s hs => by
    show holdB [⟨[1], 3, pickI (atI raw 1) 7⟩] s = true ↔ _
    rw [eq_hold (top_one hs).1]
    exact decide_eq_true_iff
  cases hb : badB (topL raw) with
  | true =>
    obtain ⟨r1, r2, r3, r4, r5⟩ := bad_run hl hb
    have hm := r2 _ (show (badL (topL raw)).length - 1 < _ by omega)
    obtain ⟨j, hj, he⟩ := nth_of_mem hm
    rw [List.any_eq_true]
    refine ⟨j, List.mem_range.2 hj, ?_⟩
    rw [← he] at r5
    exact decide_eq_true ((hB _ (nth_mem hj)).1 r5)
  | false =>
    rw [List.any_eq_false]
    intro j hj h
    have hj := List.mem_range.1 hj
    have := bad_none hl hb j hj
    rw [(hB _ (nth_mem hj)).2 (of_decide_eq_true h)] at this
    cases this
theorem top_badlen : badB (topL raw) = decide (0 < (badL (topL raw)).length) := by
  cases hb : badB (topL raw) with
  | true => exact (decide_eq_true (bad_run (topL_LW raw) hb).1).symm
  | false => rw [bad_nil hb]; rfl
theorem top_chk (hn : n ≤ 2) : chkFault (topL raw) (keepL rows n) = (0, 0) := chk_of (topL_LW raw) (keepL_ok hn)
theorem top_kept (hn : n ≤ 2) (h : keptB (topL raw) (keepL rows n) = true) {s : List Int} (hs : s ∈ comeL (topL raw)) : heldB (keepL rows n) (nth s 0) = true := by
  have hl := topL_LW raw
  rw [keptB, top_chk hn, if_neg (by decide)] at h
  have h2 : lostS (topL raw) (keepL rows n) = none := by
    cases h3 : lostS (topL raw) (keepL rows n) with
    | none => rfl
    | some s => rw [h3] at h; cases h
  obtain ⟨i, hi, rfl⟩ := nth_of_mem hs
  have := kept_runs hl h2 i hi
  rw [← held_hold, ← one_state (top_one hs).1]; exact this
theorem top_badTo : -1000000 ≤ (nth (topL raw).Bad 0).To ∧ (nth (topL raw).Bad 0).To ≤ 1000000 := by
  have h0 := pickI_rng (a := atI raw 1) (n := 7) (by decide)
  show -1000000 ≤ pickI (atI raw 1) 7 ∧ pickI (atI raw 1) 7 ≤ 1000000
  omega
theorem top_in {i : Nat} (h : i < (runsOut (topL raw)).length) : nth (runsOut (topL raw)) i ∈ comeL (topL raw) := by
  have h1 := nth_mem h
  have e : runsOut (topL raw) = comeL (topL raw) := if_neg (not_not_intro (by rw [(topL_LW raw).code]))
  rw [e] at h1 ⊢; exact h1
theorem top_w (hw : w = (List.range i).any (fun j => decide (nth (nth (runsOut (topL raw)) j) 0 = (nth (topL raw).Bad 0).To))) (hi : i = (runsOut (topL raw)).length) : w = badB (topL raw) := by
  have e : runsOut (topL raw) = comeL (topL raw) := if_neg (not_not_intro (by rw [(topL_LW raw).code]))
  rw [hw, hi, e]; exact top_bad
theorem top_next {k : Nat} {w : Bool} {p : Nat} (hb : badB (topL raw) = true) (hp : p < (badL (topL raw)).length) (h0 : 0 < (p : Int))
    (hw : w = (List.range k).any (fun j => decide (((nth (nextOut (topL raw) (nth (badL (topL raw)) ((p : Int) - 1).toNat)) j).length : Int) = 1 ∧ nth (nth (nextOut (topL raw) (nth (badL (topL raw)) ((p : Int) - 1).toNat)) j) 0 = nth (nth (badL (topL raw)) p) 0)))
    (hk : k = (nextOut (topL raw) (nth (badL (topL raw)) ((p : Int) - 1).toNat)).length) : (nextFault (topL raw) (nth (badL (topL raw)) ((p : Int) - 1).toNat)).1 = 0 ∧ w = true := by
  obtain ⟨r1, r2, r3, r4, r5⟩ := bad_run (topL_LW raw) hb
  have e : ((p : Int) - 1).toNat = p - 1 := by omega
  rw [e] at hw hk ⊢
  have hst := comeL_st (topL_LW raw) (r2 (p - 1) (by omega))
  have hnx := next_ok (topL_LW raw) hst
  refine ⟨by rw [hnx.1], ?_⟩
  rw [hw, hk, List.any_eq_true]
  have h3 := r3 (p - 1) (by omega)
  rw [show p - 1 + 1 = p by omega, ← hnx.2] at h3
  obtain ⟨j, hj, he⟩ := nth_of_mem h3
  refine ⟨j, List.mem_range.2 hj, ?_⟩
  rw [he]
  exact decide_eq_true ⟨by rw [(top_one (r2 p hp)).1]; rfl, rfl⟩
theorem badL_few {l : Loop} : (badL l).length ≤ 1201 := by
  by_cases hz : (loopFault l).1 ≠ 0
  · rw [badL, if_pos hz]; exact Nat.zero_le _
  · have hl := LW.of (Decidable.of_not_not hz)
    rw [badL, if_neg hz]
    split
    · exact Nat.zero_le _
    · rename_i h
      rw [List.length_reverse, List.length_map]
      have h1 := chainF_len (l := l) (badAtI l).toNat (badAtI l).toNat
      have h2 : (badAtI l).toNat < (comeL l).length := by
        have := idxOf_lt (g := holdB l.Bad) (l := comeL l)
        have e : badAtI l = idxOf (holdB l.Bad) (comeL l) := rfl
        omega
      have h3 := comeL_few hl
      rw [chain]; omega
theorem top_runs : runsOut (topL raw) = comeL (topL raw) := if_neg (not_not_intro (by rw [(topL_LW raw).code]))
theorem top_last (hb : badB (topL raw) = true) : nth (nth (badL (topL raw)) ((badL (topL raw)).length - 1)) 0 = (nth (topL raw).Bad 0).To ∧ nth (nth (badL (topL raw)) 0) 0 = (nth (topL raw).Start 0).To := by
  obtain ⟨r1, r2, r3, r4, r5⟩ := bad_run (topL_LW raw) hb
  constructor
  · have h : holdB [⟨[1], 3, pickI (atI raw 1) 7⟩] _ = true := r5
    rw [eq_hold (top_one (r2 _ (by omega))).1] at h
    exact of_decide_eq_true h
  · have h : holdB [⟨[1], 3, pickI (atI raw 0) 7⟩] _ = true := r4
    rw [eq_hold (top_one (r2 _ (by omega))).1] at h
    exact of_decide_eq_true h
end
end Go.Um
