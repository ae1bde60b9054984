/- What the small system shows. No program is in sight. -/
import Derived.Test.YtfgibfbgklkgbaaMostPlain
import Derived.Test.YtfgibfbgklkgbaaLoopWeak
import Derived.Test.YtfgibfbgklkgbaaUmDiv
namespace Go.Um
theorem count_kept : keptB countL [⟨[1], 1, 3⟩] = true ∧ keptS countL [⟨[1], 1, 3⟩] = [] ∧ chkFault countL [⟨[1], 1, 3⟩] = (0, 0) := by decide +kernel
theorem count_lost : keptB countL [⟨[1], 1, 2⟩] = false ∧ keptS countL [⟨[1], 1, 2⟩] = [2] ∧ chkFault countL [⟨[1], 1, 2⟩] = (0, 0) := by decide +kernel
theorem count_most : holdMost countL [⟨[1], 1, 2⟩, ⟨[1], 1, 3⟩] = [1] ∧ chkFault countL [⟨[1], 1, 2⟩, ⟨[1], 1, 3⟩] = (0, 0) := by decide +kernel
theorem count_bad : badB countL = false ∧ badL countL = [] ∧ loopFault countL = (0, 0) := by
  have h1 := count_runs.2
  have h2 : comeL countL = [[0], [1], [2], [3]] := by
    have := count_runs.1
    rwa [runsOut, if_neg (by rw [h1]; decide)] at this
  have h3 : badB countL = false := by
    rw [badB, if_neg (by rw [h1]; decide), badAtI, h2]; decide +kernel
  exact ⟨h3, bad_nil h3, h1⟩
section
variable {P : Program} {o : Oper} {U : Nat → Prop} {f : Fr} {H : Heap}
theorem q_eqlT {t u : TypeId} {x y : Operand} {a b : Int} (ho : o.op = .binOp .eql t x y u) (hx : ev f x = I a) (hy : ev f y = I b) (h : a = b) : Quiet P o U f H (B true) := by
  have := q_eql (P := P) (U := U) (H := H) ho hx hy
  rwa [decide_eq_true h] at this
end
section
variable {l : Loop} {r : List LRow} {sm : List Int}
theorem kept_yes (h : keptB l r = true) : lostS l r = none := by
  unfold keptB at h
  split at h
  · cases h
  · cases h3 : lostS l r with
    | none => rfl
    | some s => rw [h3] at h; cases h
theorem kept_of (hc : (chkFault l r).1 = 0) (h : lostS l r = none) : keptB l r = true := by rw [keptB, if_neg (not_not_intro hc), h]; rfl
theorem runs_come (hl : LW l) : runsOut l = comeL l := if_neg (not_not_intro (by rw [hl.code]))
theorem kept_bad (hl : LW l) (h : lostS l r = none) (hno : ∀ j, j < (statesL l).length → ¬ (holdB r (nth (statesL l) j) = true ∧ holdB l.Bad (nth (statesL l) j) = true)) : badB l = false := by
  cases hb : badB l with
  | false => rfl
  | true =>
    obtain ⟨r1, r2, r3, r4, r5⟩ := bad_run hl hb
    have hm := r2 _ (show (badL l).length - 1 < _ by omega)
    obtain ⟨i, hi, he⟩ := nth_of_mem hm
    have h1 := kept_runs hl h i hi
    rw [he] at h1
    obtain ⟨j, hj, he2⟩ := nth_of_mem (st_states hl (comeL_st hl hm))
    exact absurd ⟨by rw [he2]; exact h1, by rw [he2]; exact r5⟩ (hno j hj)
theorem most_in (hc : ¬ (chkFault l r).1 ≠ 0) : InR r (holdMost l r) := fun x hx => inR_range x ((most_fix hc).2.subset hx)
theorem most_inc (hc : ¬ (chkFault l r).1 ≠ 0) {i : Nat} (h0 : 0 < i) (hi : i < (holdMost l r).length) : nth (holdMost l r) (i - 1) < nth (holdMost l r) i := by
  have hp : (rangeI r.length).Pairwise (· < ·) := by
    unfold rangeI
    rw [List.pairwise_map]
    exact List.pairwise_lt_range.imp (by intro a b h; omega)
  have hq := hp.sublist (most_fix hc).2
  rw [nth_eq (show i - 1 < _ by omega), nth_eq hi]
  exact List.pairwise_iff_getElem.1 hq (i - 1) i (by omega) hi (by omega)
theorem most_few (hc : ¬ (chkFault l r).1 ≠ 0) : (holdMost l r).length ≤ r.length := by
  have := (most_fix hc).2.length_le
  rwa [rangeI_len] at this
theorem most_kept (hc : (chkFault l r).1 = 0) : (chkFault l (pickR r (holdMost l r))).1 = 0 ∧ keptB l (pickR r (holdMost l r)) = true := by
  have hn := not_not_intro hc
  obtain ⟨hl, hrz, hcz⟩ := chk_zero hc
  have h1 : chkFault l (pickR r (holdMost l r)) = (0, 0) := chk_of hl (pick_fault (Nat.le_trans (most_few hn) (rowsFault_zero hrz).1) hrz (most_in hn))
  have h2 : (chkFault l (pickR r (holdMost l r))).1 = 0 := by rw [h1]
  exact ⟨h2, kept_of h2 (lost_fix (most_fix hn).1)⟩
theorem most_pick (hc : (chkFault l r).1 = 0) (hs : sm.length ≤ 40) (hin : InR r sm) : (chkFault l (pickR r sm)).1 = 0 := by
  obtain ⟨hl, hrz, hcz⟩ := chk_zero hc
  rw [chk_of hl (pick_fault hs hrz hin)]
theorem most_has (hc : (chkFault l r).1 = 0) (hin : InR r sm) (h : keptB l (pickR r sm) = true) : ∀ x ∈ sm, x ∈ holdMost l r := by
  rw [holdMost, if_neg (not_not_intro hc)]
  exact kept_sub hin (kept_yes h) _ _ fun x hx => rangeI_mem.2 (hin x hx)
end
end Go.Um
