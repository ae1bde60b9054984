/- Small facts for the walks of questions. -/
import Derived.Test.YtacphjgolmolmaaAskPlain
import Derived.Test.YtacphjgolmolmaaUmStr
import Derived.Test.YtacphjgolmolmaaUmOps
namespace Go.Um
theorem q_remZ {P : Program} {o : Oper} {U : Nat → Prop} {f : Fr} {H : Heap} {t u : TypeId} {x y : Operand} {a b : Int} (ho : o.op = .binOp .rem t x y u) (hx : ev f x = I a) (hy : ev f y = I b) (hne : ¬ b = 0) (ha : -1000000 ≤ a ∧ a ≤ 1000000) : Quiet P o U f H (I (a.tmod b)) := by
  have hin : In64 (a.tmod b) := by have := tmodR (b := b) ha; constructor <;> omega
  intro w _; simp [execOp, ho, hx, hy, eqGuard, binOp, Op.intArith, Op.intDiv, hne, wrap_in hin]
theorem Str.small {s : Str} (h : s.size ≤ maxLen) : s.size ≤ 9223372036854775807 := by
  simp only [maxLen] at h
  omega
theorem all_not_any {l : List Int} {gp : Int → Bool} : (!l.any fun x => !gp x) = l.all gp := by
  rw [Bool.eq_iff_iff]
  simp
end Go.Um
namespace Go.Um
section
variable {a : Ask} {n : Node} {i j k : Nat} {S l : List Int}
theorem declOf_yes (h : n.Op = 9) : declOf a n = nth a.Decls (findD a.Decls n.Name).toNat := if_pos h
theorem declOf_no (h : ¬ n.Op = 9) : declOf a n = ⟨noText, [], 0⟩ := if_neg h
theorem wantN_yes (h : n.Op = 9) : wantN a n = ((nth a.Decls (findD a.Decls n.Name).toNat).Args.length : Int) := by rw [wantN, if_pos h, declOf_yes h]
theorem wantN_no (h : ¬ n.Op = 9) : wantN a n = kidsN n.Op := if_neg h
theorem findD_lt {l : List Decl} {nm : Str} : findD l nm < l.length := idxOf_lt
theorem kids_no (hno : ∀ k, k < j → ¬ kidBad i (nth l k)) (hj : l.length ≤ j) : ¬ ∃ k ∈ l, kidBad i k := by
  rintro ⟨k, hk, hb⟩
  obtain ⟨m, hm, rfl⟩ := nth_of_mem hk
  exact hno m (by omega) hb
theorem kidS_next (h : j < l.length) : kidS S (l.take j) ++ [nth S (nth l j).toNat] = kidS S (l.take (j + 1)) := by
  rw [take_succ_nth h, kidS, kidS, List.map_append]; rfl
theorem kidS_len : (kidS S l).length = l.length := by simp [kidS]
variable (h1 : ¬ ((nth a.Nodes i).Op < 1 ∨ 25 < (nth a.Nodes i).Op)) (h2 : ¬ ((nth a.Nodes i).Op = 9 ∧ findD a.Decls (nth a.Nodes i).Name < 0)) (h3 : ¬ ((0 ≤ wantN a (nth a.Nodes i) ∧ ((nth a.Nodes i).Kids.length : Int) ≠ wantN a (nth a.Nodes i)) ∨ 8 < ((nth a.Nodes i).Kids.length : Int)))
  (h4 : ¬ ∃ k ∈ (nth a.Nodes i).Kids, kidBad i k) (h5 : formedN (nth a.Nodes i)) (h6 : (!numsB (nth a.Nodes i)) = false)
theorem nodeF_op (h : (nth a.Nodes i).Op < 1 ∨ 25 < (nth a.Nodes i).Op) : nodeF a i S = (0, 4) := if_pos h
include h1
theorem nodeF_none (h : (nth a.Nodes i).Op = 9) (h' : findD a.Decls (nth a.Nodes i).Name < 0) : nodeF a i S = (0, 6) := by rw [nodeF, if_neg h1, if_pos ⟨h, h'⟩]
include h2
theorem nodeF_size (h : (0 ≤ wantN a (nth a.Nodes i) ∧ ((nth a.Nodes i).Kids.length : Int) ≠ wantN a (nth a.Nodes i)) ∨ 8 < ((nth a.Nodes i).Kids.length : Int)) : nodeF a i S = (0, 9) := by rw [nodeF, if_neg h1, if_neg h2, if_pos h]
include h3
theorem nodeF_range {k : Int} (h : k ∈ (nth a.Nodes i).Kids) (hb : kidBad i k) : nodeF a i S = (0, 3) := by rw [nodeF, if_neg h1, if_neg h2, if_neg h3, if_pos ⟨k, h, hb⟩]
include h4
theorem nodeF_form (h : ¬ formedN (nth a.Nodes i)) : nodeF a i S = (0, 5) := by rw [nodeF, if_neg h1, if_neg h2, if_neg h3, if_neg h4, if_pos h]
include h5
theorem nodeF_num (h : numsB (nth a.Nodes i) = false) : nodeF a i S = (0, 3) := by rw [nodeF, if_neg h1, if_neg h2, if_neg h3, if_neg h4, if_neg (not_not_intro h5), if_pos (by simp [h])]
include h6
theorem nodeF_sort (h : sortN (nth a.Nodes i) (kidS S (nth a.Nodes i).Kids) (declOf a (nth a.Nodes i)) = 0) : nodeF a i S = (0, 8) := by
  rw [nodeF, if_neg h1, if_neg h2, if_neg h3, if_neg h4, if_neg (not_not_intro h5), if_neg (by simpa using h6), if_pos h]
theorem nodeF_ok (h : ¬ sortN (nth a.Nodes i) (kidS S (nth a.Nodes i).Kids) (declOf a (nth a.Nodes i)) = 0) : nodeF a i S = (sortN (nth a.Nodes i) (kidS S (nth a.Nodes i).Kids) (declOf a (nth a.Nodes i)), 0) := by
  rw [nodeF, if_neg h1, if_neg h2, if_neg h3, if_neg h4, if_neg (not_not_intro h5), if_neg (by simpa using h6), if_neg h]
end
theorem sort_len {a : Ask} {n : Node} {S : List Int} (h3 : ¬ ((0 ≤ wantN a n ∧ (n.Kids.length : Int) ≠ wantN a n) ∨ 8 < (n.Kids.length : Int))) : n.Op ≠ 9 → 0 ≤ kidsN n.Op → ((kidS S n.Kids).length : Int) = kidsN n.Op := by
  intro h9 h0
  rw [kidS_len]
  rw [wantN_no h9] at h3
  omega
theorem sort_D {n : Node} (h : (!numsB n) = false) : n.Op = 15 → n.D ≤ 8 ∧ 0 ≤ n.D := by
  intro h15
  have h' : numsB n = true := by simpa using h
  rw [numsB, h15] at h'
  have h2 := of_decide_eq_true h'
  exact ⟨h2.1.1.2, by have := h2.1.1.1; omega⟩
theorem kidsLen {n : Node} {K : List Int} (h : n.Op ≠ 9 → 0 ≤ kidsN n.Op → (K.length : Int) = kidsN n.Op) :
    (n.Op = 7 → K.length = 3) ∧ ((n.Op = 12 ∨ n.Op = 16 ∨ n.Op = 23) → K.length = 1) ∧ ((n.Op = 17 ∨ n.Op = 18 ∨ n.Op = 19 ∨ n.Op = 20 ∨ n.Op = 21 ∨ n.Op = 22) → K.length = 2) := by
  refine ⟨fun e => ?_, fun e => ?_, fun e => ?_⟩
  · rw [e] at h
    have h2 : (K.length : Int) = 3 := h (by decide) (by decide)
    omega
  · rcases e with e | e | e <;>
    · rw [e] at h
      have h2 : (K.length : Int) = 1 := h (by decide) (by decide)
      omega
  · rcases e with e | e | e | e | e | e <;>
    · rw [e] at h
      have h2 : (K.length : Int) = 2 := h (by decide) (by decide)
      omega
theorem wholeS_yes {p q : Prop} [Decidable p] [Decidable q] (h : p) : wholeS q = wholeS (p ∧ q) := by
  by_cases hq : q
  · rw [wholeS, if_pos hq, wholeS, if_pos ⟨h, hq⟩]
  · rw [wholeS, if_neg hq, wholeS, if_neg (fun h' => hq h'.2)]
theorem wholeS_no {p q : Prop} [Decidable p] [Decidable q] (h : ¬ p) : wholeS (false = true) = wholeS (p ∧ q) := by
  rw [wholeS, if_neg (by decide), wholeS, if_neg (fun h' => h h'.1)]
end Go.Um
