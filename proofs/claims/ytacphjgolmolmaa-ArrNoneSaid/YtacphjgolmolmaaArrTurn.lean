/- Arrays taken out of a question, node by node. No program is in sight. -/
import Derived.Test.YtacphjgolmolmaaArrPlain
namespace Go.Um
/-- The sorts of all nodes. -/
def sorts (a : Ask) : List Int := sortsTo a a.Nodes.length
def stepT (a : Ask) (t : Turned) (k : Nat) : Turned :=
  if nth (sorts a) k = 5 then ⟨t.Nodes, t.To ++ [0]⟩
  else if (nth a.Nodes k).Op = 24 then
    ⟨getL a t.To (nth t.To (kidN (nth a.Nodes k) 1)) t.Nodes (kidN (nth a.Nodes k) 0), t.To ++ [((getL a t.To (nth t.To (kidN (nth a.Nodes k) 1)) t.Nodes (kidN (nth a.Nodes k) 0)).length : Int) - 1]⟩
  else ⟨t.Nodes ++ [withKids (nth a.Nodes k) (kidS t.To (nth a.Nodes k).Kids)], t.To ++ [(t.Nodes.length : Int)]⟩
def turnTo (a : Ask) : Nat → Turned
  | 0 => ⟨[], []⟩
  | k + 1 => stepT a (turnTo a k) k
def turned (a : Ask) : Turned := turnTo a a.Nodes.length
def doF (a : Ask) : Int × Int := if (sortsF a).1 ≠ 0 then sortsF a else if 200 < (turned a).Nodes.length then (10, 0) else (0, 0)
def declA (d : Decl) : Decl := if d.Srt = 5 then ⟨d.Name, [4], 4⟩ else d
def doA (a : Ask) : Ask := if (doF a).1 ≠ 0 then ⟨[], [], []⟩ else ⟨a.Decls.map declA, (turned a).Nodes, a.Hold.map fun k => nth (turned a).To k.toNat⟩
section
variable {a : Ask} {k m : Nat} {t : Turned}
theorem stepT_len : t.Nodes.length ≤ (stepT a t k).Nodes.length ∧ (stepT a t k).Nodes.length ≤ t.Nodes.length + 2 * kidN (nth a.Nodes k) 0 + 1 := by
  unfold stepT
  split
  · exact ⟨Nat.le_refl _, by show t.Nodes.length ≤ _; omega⟩
  split
  · exact getL_len _
  · show t.Nodes.length ≤ (t.Nodes ++ [_]).length ∧ _
    rw [List.length_append, List.length_singleton]; omega
theorem stepT_to : (stepT a t k).To.length = t.To.length + 1 := by
  unfold stepT
  split
  · simp
  split <;> simp
theorem turnTo_to : ∀ k, (turnTo a k).To.length = k
  | 0 => rfl
  | k + 1 => by rw [turnTo, stepT_to, turnTo_to k]
theorem turnTo_mono (h : k ≤ m) : (turnTo a k).Nodes.length ≤ (turnTo a m).Nodes.length := by
  induction m with
  | zero => rw [show k = 0 by omega]; exact Nat.le_refl _
  | succ m ih =>
    by_cases hk : k ≤ m
    · exact Nat.le_trans (ih hk) stepT_len.1
    · rw [show k = m + 1 by omega]; exact Nat.le_refl _
theorem stepT_arr (h : nth (sorts a) k = 5) : stepT a t k = ⟨t.Nodes, t.To ++ [0]⟩ := if_pos h
theorem stepT_get (h : ¬ nth (sorts a) k = 5) (h2 : (nth a.Nodes k).Op = 24) : stepT a t k = ⟨getL a t.To (nth t.To (kidN (nth a.Nodes k) 1)) t.Nodes (kidN (nth a.Nodes k) 0), t.To ++ [((getL a t.To (nth t.To (kidN (nth a.Nodes k) 1)) t.Nodes (kidN (nth a.Nodes k) 0)).length : Int) - 1]⟩ := by rw [stepT, if_neg h, if_pos h2]
theorem stepT_flat (h : ¬ nth (sorts a) k = 5) (h2 : ¬ (nth a.Nodes k).Op = 24) : stepT a t k = ⟨t.Nodes ++ [withKids (nth a.Nodes k) (kidS t.To (nth a.Nodes k).Kids)], t.To ++ [(t.Nodes.length : Int)]⟩ := by rw [stepT, if_neg h, if_neg h2]
theorem doF_bad (h : (sortsF a).1 ≠ 0) : doF a = sortsF a := if_pos h
theorem doF_much (h : ¬ (sortsF a).1 ≠ 0) (hk : k ≤ a.Nodes.length) (h2 : 200 < ((turnTo a k).Nodes.length : Int)) : doF a = (10, 0) := by
  have := turnTo_mono (a := a) hk
  rw [doF, if_neg h, if_pos (by unfold turned; omega)]
theorem doF_ok (h : ¬ (sortsF a).1 ≠ 0) (h2 : (turned a).Nodes.length ≤ 200) : doF a = (0, 0) := by rw [doF, if_neg h, if_neg (by omega)]
theorem doF_zero (h : (doF a).1 = 0) : (sortsF a).1 = 0 ∧ (turned a).Nodes.length ≤ 200 := by
  unfold doF at h
  split at h
  · rename_i h1; exact absurd h h1
  rename_i h1
  split at h
  · cases h
  · exact ⟨Decidable.of_not_not h1, by omega⟩
theorem doA_bad (h : (doF a).1 ≠ 0) : doA a = ⟨[], [], []⟩ := if_pos h
theorem doA_ok (h : (doF a).1 = 0) : doA a = ⟨a.Decls.map declA, (turned a).Nodes, a.Hold.map fun k => nth (turned a).To k.toNat⟩ := if_neg (not_not_intro h)
theorem sortsL_eq (h : ¬ (sortsF a).1 ≠ 0) : sortsL a = sorts a := if_neg h
theorem declA_yes {d : Decl} (h : d.Srt = 5) : declA d = ⟨d.Name, [4], 4⟩ := if_pos h
theorem declA_no {d : Decl} (h : ¬ d.Srt = 5) : declA d = d := if_neg h
theorem map_next {α β : Type} [Inhabited α] {f : α → β} {l : List α} (h : k < l.length) : (l.take k).map f ++ [f (nth l k)] = (l.take (k + 1)).map f := by
  rw [take_succ_nth h, List.map_append]; rfl
theorem turn_arr (h : nth (sorts a) k = 5) : (turnTo a (k + 1)).Nodes = (turnTo a k).Nodes ∧ (turnTo a (k + 1)).To = (turnTo a k).To ++ [0] := by rw [turnTo, stepT_arr h]; exact ⟨rfl, rfl⟩
theorem turn_get (h : ¬ nth (sorts a) k = 5) (h2 : (nth a.Nodes k).Op = 24) : (turnTo a (k + 1)).Nodes = getL a (turnTo a k).To (nth (turnTo a k).To (kidN (nth a.Nodes k) 1)) (turnTo a k).Nodes (kidN (nth a.Nodes k) 0) ∧
    (turnTo a (k + 1)).To = (turnTo a k).To ++ [((getL a (turnTo a k).To (nth (turnTo a k).To (kidN (nth a.Nodes k) 1)) (turnTo a k).Nodes (kidN (nth a.Nodes k) 0)).length : Int) - 1] := by rw [turnTo, stepT_get h h2]; exact ⟨rfl, rfl⟩
theorem turn_flat (h : ¬ nth (sorts a) k = 5) (h2 : ¬ (nth a.Nodes k).Op = 24) : (turnTo a (k + 1)).Nodes = (turnTo a k).Nodes ++ [Node.mk (nth a.Nodes k).Op (kidS (turnTo a k).To (nth a.Nodes k).Kids) (nth a.Nodes k).N (nth a.Nodes k).D (nth a.Nodes k).Name] ∧
    (turnTo a (k + 1)).To = (turnTo a k).To ++ [((turnTo a k).Nodes.length : Int)] := by rw [turnTo, stepT_flat h h2]; exact ⟨rfl, rfl⟩
theorem turn_len : (turnTo a k).Nodes.length ≤ (turnTo a (k + 1)).Nodes.length ∧ (turnTo a (k + 1)).Nodes.length ≤ (turnTo a k).Nodes.length + 2 * kidN (nth a.Nodes k) 0 + 1 := stepT_len
/-! ### The sorts of kids -/
variable (h : AskOk a)
include h
theorem kidS_sorts (hk : k < a.Nodes.length) : kidS (sortsTo a k) (nth a.Nodes k).Kids = kidS (sorts a) (nth a.Nodes k).Kids := by
  unfold kidS
  refine List.map_congr_left fun x hx => ?_
  have := (h.nodes k hk).kids x hx
  exact sortsTo_same (by omega) (by omega)
theorem sort_at (hk : k < a.Nodes.length) : okS (nth a.Nodes k) (kidS (sorts a) (nth a.Nodes k).Kids) (declOf a (nth a.Nodes k)) = true ∧
    nth (sorts a) k = outS (nth a.Nodes k) (kidS (sorts a) (nth a.Nodes k).Kids) (declOf a (nth a.Nodes k)) := by
  have h1 := h.sorts k a.Nodes.length hk (Nat.le_refl _)
  have h2 := (h.nodes k hk).sort
  rw [kidS_sorts h hk] at h1 h2
  have h3 := sortN_ok h2
  exact ⟨h3.1, by unfold sorts at *; rw [h1]; exact h3.2⟩
theorem decl_at (hk : k < a.Nodes.length) (h9 : (nth a.Nodes k).Op = 9) : (findD a.Decls (nth a.Nodes k).Name).toNat < a.Decls.length ∧ DeclOk a.Decls (findD a.Decls (nth a.Nodes k).Name).toNat := by
  have h1 := (h.nodes k hk).found h9
  have h2 := findD_lt (l := a.Decls) (nm := (nth a.Nodes k).Name)
  have h3 : (findD a.Decls (nth a.Nodes k).Name).toNat < a.Decls.length := by omega
  exact ⟨h3, h.decls _ h3⟩
omit h in
theorem args4 {l : List Decl} {i : Nat} (h : DeclOk l i) : ∀ s ∈ (nth l i).Args, s = 4 := by
  intro s hs
  refine Decidable.of_not_not fun hn => ?_
  have h2 := h.args
  unfold argsBad at h2
  rw [List.any_eq_false] at h2
  exact h2 s hs (decide_eq_true hn)
theorem flat_at (hk : k < a.Nodes.length) (h24 : (nth a.Nodes k).Op ≠ 24) (h25 : (nth a.Nodes k).Op ≠ 25) : (∀ s ∈ kidS (sorts a) (nth a.Nodes k).Kids, s ≠ 5) ∧ ((nth a.Nodes k).Op ≠ 9 → nth (sorts a) k ≠ 5) := by
  have hn := h.nodes k hk
  have h1 := sort_at h hk
  have h2 := flat_sort (n := nth a.Nodes k) (K := kidS (sorts a) (nth a.Nodes k).Kids) (d := declOf a (nth a.Nodes k)) hn.op h24 h25 (fun h9 h0 => by
    rw [kidS_len, hn.size (by rw [wantN_no h9]; exact h0), wantN_no h9]) (fun h9 s hs => by
    rw [declOf_yes h9] at hs
    exact args4 (decl_at h hk h9).2 s hs) (fun e => (sort_D (by simp [hn.nums]) e).2) h1.1
  exact ⟨h2.1, fun h9 => by rw [h1.2]; exact h2.2 h9⟩
theorem arr_at (hk : k < a.Nodes.length) (hs : nth (sorts a) k = 5) : (nth a.Nodes k).Op = 9 ∨ ((nth a.Nodes k).Op = 25 ∧ kidS (sorts a) (nth a.Nodes k).Kids = [5, 4, 4]) := by
  have h1 := sort_at h hk
  by_cases h9 : (nth a.Nodes k).Op = 9
  · exact .inl h9
  by_cases h25 : (nth a.Nodes k).Op = 25
  · exact .inr ⟨h25, put_sort h25 h1.1⟩
  by_cases h24 : (nth a.Nodes k).Op = 24
  · rw [h1.2, outS, h24] at hs
    exact absurd hs (by decide : (4 : Int) ≠ 5)
  · exact absurd hs ((flat_at h hk h24 h25).2 h9)
theorem put5 (hk : k < a.Nodes.length) (h25 : (nth a.Nodes k).Op = 25) : nth (sorts a) k = 5 := by
  rw [(sort_at h hk).2, outS, h25]; rfl
theorem got_at (hk : k < a.Nodes.length) (h24 : (nth a.Nodes k).Op = 24) : kidS (sorts a) (nth a.Nodes k).Kids = [5, 4] := get_sort h24 (sort_at h hk).1
theorem flat_kids (hk : k < a.Nodes.length) (hs : nth (sorts a) k ≠ 5) (h24 : (nth a.Nodes k).Op ≠ 24) : ∀ x ∈ (nth a.Nodes k).Kids, nth (sorts a) x.toNat ≠ 5 := by
  intro x hx
  exact (flat_at h hk h24 fun h25 => hs (put5 h hk h25)).1 _ (List.mem_map.2 ⟨x, hx, rfl⟩)
theorem kid_lt (hk : k < a.Nodes.length) {j : Nat} (hj : j < (nth a.Nodes k).Kids.length) : 0 ≤ nth (nth a.Nodes k).Kids j ∧ kidN (nth a.Nodes k) j < k := by
  have := (h.nodes k hk).kids _ (nth_mem hj)
  unfold kidN
  omega
theorem chain_of : ∀ k, k < a.Nodes.length → nth (sorts a) k = 5 → k ≤ m → Chain a m k := by
  intro k
  induction k using Nat.strongRecOn with
  | _ k ih =>
    intro hk hs hm
    rcases arr_at h hk hs with h9 | ⟨h25, hK⟩
    · exact .name hk h9
    · have hl : (nth a.Nodes k).Kids.length = 3 := by
        have := congrArg List.length hK
        rw [kidS_len] at this; exact this
      have h0 := kid_lt h hk (j := 0) (by omega)
      have h1 := kid_lt h hk (j := 1) (by omega)
      have h2 := kid_lt h hk (j := 2) (by omega)
      refine .put hk (by omega) (by omega) (fun j hj => (kid_lt h hk (j := j) (by omega)).1) h0.2 (by omega) (by omega) (ih _ h0.2 (by omega) ?_ (by omega))
      have := nth_kidS (S := sorts a) (l := (nth a.Nodes k).Kids) (j := 0) (by omega)
      rw [hK] at this
      exact this.symm
theorem got_kids (hk : k < a.Nodes.length) (h24 : (nth a.Nodes k).Op = 24) : (nth a.Nodes k).Kids.length = 2 ∧ nth (sorts a) (kidN (nth a.Nodes k) 0) = 5 ∧ nth (sorts a) (kidN (nth a.Nodes k) 1) = 4 := by
  have hK := got_at h hk h24
  have hl : (nth a.Nodes k).Kids.length = 2 := by
    have := congrArg List.length hK
    rw [kidS_len] at this; exact this
  have h0 := nth_kidS (S := sorts a) (l := (nth a.Nodes k).Kids) (j := 0) (by omega)
  have h1 := nth_kidS (S := sorts a) (l := (nth a.Nodes k).Kids) (j := 1) (by omega)
  rw [hK] at h0 h1
  exact ⟨hl, h0.symm, h1.symm⟩
theorem got_chain (hk : k < a.Nodes.length) (h24 : (nth a.Nodes k).Op = 24) (hm : k ≤ m) : Chain a m (kidN (nth a.Nodes k) 0) := by
  have h1 := got_kids h hk h24
  have h2 := kid_lt h hk (j := 0) (by omega)
  exact chain_of h _ (by omega) h1.2.1 (by omega)
end
end Go.Um
