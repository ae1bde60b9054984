/- Cutting a word into parts that automata take. No program is in sight. -/
import Derived.Test.YtkhpaklglggagaaAutoShort
import Derived.Test.YtkhpaklglggagaaUmPair
namespace Go.Um
open GoT (sz ag rdc)

def cutStep (G : List Int → Option (List Int)) (a : Auto) (t : List Int) (n : Nat) : Option (List Int) :=
  if takesA a 0 (t.take n) = true then (G (t.drop n)).map (List.cons (n : Int)) else none
def cutG : List Auto → List Int → Option (List Int)
  | [], t => if t.length = 0 then some [] else none
  | a :: l, t => fst1 (cutStep (cutG l) a t) 0 (t.length + 1)

theorem cutG_cons {l : List Auto} {t : List Int} {i : Nat} (h : i < l.length) : cutG (l.drop i) t = fst1 (cutStep (cutG (l.drop (i + 1))) (nth l i) t) 0 (t.length + 1) := by
  rw [drop_nth h]; rfl
theorem cutG_found {l : List Auto} {t : List Int} {i n : Nat} {s : List Int} (h : i < l.length) (hn : n ≤ t.length) (hno : ∀ j, j < n → cutStep (cutG (l.drop (i + 1))) (nth l i) t j = none)
    (hs : cutStep (cutG (l.drop (i + 1))) (nth l i) t n = some s) : cutG (l.drop i) t = some s := by
  rw [cutG_cons h]
  exact fst1_some hs (Nat.zero_le _) (by omega) fun j _ hj => hno j hj
theorem cutG_lost {l : List Auto} {t : List Int} {i n : Nat} (h : i < l.length) (hn : t.length < n) (hno : ∀ j, j < n → cutStep (cutG (l.drop (i + 1))) (nth l i) t j = none) : cutG (l.drop i) t = none := by
  rw [cutG_cons h]
  exact fst1_none fun j _ hj => hno j (by omega)
/-- The last automaton takes all that is left, or nothing comes of it. -/
theorem cutG_one {a : Auto} {t : List Int} : cutG [a] t = if takesA a 0 t = true then some [(t.length : Int)] else none := by
  have hn : ∀ j, j < t.length → cutStep (cutG []) a t j = none := fun j hj => by
    unfold cutStep
    split
    · have : ¬ (t.drop j).length = 0 := by rw [List.length_drop]; omega
      rw [cutG, if_neg this]; rfl
    · rfl
  have hl : cutStep (cutG []) a t t.length = if takesA a 0 t = true then some [(t.length : Int)] else none := by
    unfold cutStep
    rw [List.take_of_length_le (Nat.le_refl _)]
    split
    · have : (t.drop t.length).length = 0 := by simp
      rw [cutG, if_pos this]; rfl
    · rfl
  show fst1 (cutStep (cutG []) a t) 0 (t.length + 1) = _
  split
  · rename_i h
    rw [if_pos h] at hl
    exact fst1_some hl (Nat.zero_le _) (by omega) fun j _ hj => hn j hj
  · rename_i h
    rw [if_neg h] at hl
    exact fst1_none fun j _ hj => by
      by_cases he : j = t.length
      · rw [he]; exact hl
      · exact hn j (by omega)
theorem cut_mid {t : List Int} {q : Int} {n : Nat} (hq : 0 ≤ q) : (t.take (q + (n : Int)).toNat).drop q.toNat = (t.drop q.toNat).take n := by
  rw [List.drop_take]; congr 1; omega
theorem cut_on {t : List Int} {q : Int} {n : Nat} (hq : 0 ≤ q) : t.drop (q + (n : Int)).toNat = (t.drop q.toNat).drop n := by
  rw [List.drop_drop]; congr 1; omega

/-- What is noted down as hopeless is. -/
def NoInv (l : List Auto) (t : List Int) (M : Int × Int → Option Bool) : Prop := ∀ i q, (M (i, q)).getD false = true → cutG (l.drop i.toNat) (t.drop q.toNat) = none
theorem NoInv.put {l : List Auto} {t : List Int} {m : List ((Int × Int) × Bool)} (h : NoInv l t (mget m)) {i q : Int} (hn : cutG (l.drop i.toNat) (t.drop q.toNat) = none) : NoInv l t (mget (mset m (i, q) true)) := by
  intro i' q' hm
  rw [mget_mset] at hm
  split at hm
  · rename_i he; cases he; exact hn
  · exact h i' q' hm
theorem NoInv.nil {l : List Auto} {t : List Int} : NoInv l t (mget []) := by intro i q h; simp [mget] at h
theorem none_all {α : Type} {o : Option α} {y : α} (h : o = none) : ∀ s, o = some s → y = s := fun s hs => by rw [h] at hs; cases hs
theorem fst1_what {β : Type} {g : Nat → Option β} {n i : Nat} {y : β} (h : fst1 g i n = some y) : ∃ j, i ≤ j ∧ j < i + n ∧ g j = some y ∧ ∀ j', i ≤ j' → j' < j → g j' = none := by
  induction n generalizing i with
  | zero => cases h
  | succ n ih =>
    simp only [fst1] at h
    split at h
    · cases h; exact ⟨i, Nat.le_refl _, by omega, by assumption, fun j' h1 h2 => by omega⟩
    · rename_i h0
      obtain ⟨j, h1, h2, h3, h4⟩ := ih h
      refine ⟨j, by omega, by omega, h3, fun j' k1 k2 => ?_⟩
      by_cases he : j' = i
      · rw [he]; exact h0
      · exact h4 j' (by omega) k2
theorem cutG_len : ∀ {l : List Auto} {t s : List Int}, cutG l t = some s → s.length = l.length
  | [], t, s, h => by
    unfold cutG at h
    split at h
    · cases h; rfl
    · cases h
  | a :: l, t, s, h => by
    obtain ⟨j, _, _, h3, _⟩ := fst1_what (show fst1 (cutStep (cutG l) a t) 0 (t.length + 1) = some s from h)
    unfold cutStep at h3
    split at h3
    · obtain ⟨s', hs', rfl⟩ := Option.map_eq_some_iff.1 h3
      simp [cutG_len hs']
    · cases h3
theorem opt_cases {α : Type} {o : Option α} (h : ¬ o.isSome = true) : o = none := by cases o <;> simp_all

/-! ### What is wrong with a question -/
def partFault (l : List Auto) (i : Nat) : Option (Int × Int) :=
  if (autoFault (nth l i)).1 ≠ 0 then some ((autoFault (nth l i)).1, (i : Int)) else if (nth l i).Signs ≠ (nth l 0).Signs then some (11, (i : Int)) else none
def cutFault (l : List Auto) (t : List Int) : Int × Int :=
  if (l.length : Int) < 1 ∨ 6 < (l.length : Int) then (2, -4) else match fst1 (partFault l) 0 l.length with
    | some x => x
    | none => textFault (nth l 0).Signs t
def cutOk (l : List Auto) (t : List Int) : Bool := decide ((cutFault l t).1 = 0) && (cutG l t).isSome
def cutList (l : List Auto) (t : List Int) : List Int := if (cutFault l t).1 = 0 then (cutG l t).getD [] else []
section
variable {l : List Auto} {t : List Int} {k : Nat}
theorem cutFault_many (h : (l.length : Int) < 1 ∨ 6 < (l.length : Int)) : cutFault l t = (2, -4) := by rw [cutFault, if_pos h]
theorem cutFault_part (h : ¬ ((l.length : Int) < 1 ∨ 6 < (l.length : Int))) (hk : k < l.length) (hp : ∀ j, j < k → partFault l j = none) {x : Int × Int} (hx : partFault l k = some x) : cutFault l t = x := by
  rw [cutFault, if_neg h, fst1_some hx (Nat.zero_le _) (by omega) fun j _ hj => hp j hj]
theorem cutFault_text (h : ¬ ((l.length : Int) < 1 ∨ 6 < (l.length : Int))) (hp : ∀ j, j < l.length → partFault l j = none) : cutFault l t = textFault (nth l 0).Signs t := by
  rw [cutFault, if_neg h, fst1_none fun j _ hj => hp j (by omega)]
theorem partFault_check (h : (autoFault (nth l k)).1 ≠ 0) : partFault l k = some ((autoFault (nth l k)).1, (k : Int)) := by rw [partFault, if_pos h]
theorem partFault_signs (h : ¬ (autoFault (nth l k)).1 ≠ 0) (h2 : (nth l k).Signs ≠ (nth l 0).Signs) : partFault l k = some (11, (k : Int)) := by rw [partFault, if_neg h, if_pos h2]
theorem partFault_no (h : ¬ (autoFault (nth l k)).1 ≠ 0) (h2 : ¬ (nth l k).Signs ≠ (nth l 0).Signs) : partFault l k = none := by rw [partFault, if_neg h, if_neg h2]
theorem partFault_none (h : partFault l k = none) : WF (nth l k) ∧ (nth l k).Signs = (nth l 0).Signs := by
  unfold partFault at h
  split at h
  · cases h
  · split at h
    · cases h
    · rename_i h1 h2
      exact ⟨WF.of (Decidable.of_not_not h1), Decidable.of_not_not h2⟩
theorem partFault_code {x : Int × Int} (h : partFault l k = some x) : x.1 ≠ 0 := by
  unfold partFault at h
  split at h
  · cases h; assumption
  · split at h
    · cases h; simp
    · cases h
theorem cut_bad (h : (cutFault l t).1 ≠ 0) : cutOk l t = false ∧ cutList l t = [] := by
  unfold cutOk cutList
  rw [if_neg h]
  simp [h]
theorem cut_good (h : (cutFault l t).1 = 0) : cutOk l t = (cutG l t).isSome ∧ cutList l t = (cutG l t).getD [] := by
  unfold cutOk cutList
  rw [if_pos h]
  simp [h]
/-- A question that nothing is wrong with. -/
structure CutWF (l : List Auto) (t : List Int) : Prop where
  many : 1 ≤ l.length ∧ l.length ≤ 6
  wf : ∀ j, j < l.length → WF (nth l j)
  signs : ∀ j, j < l.length → (nth l j).Signs = (nth l 0).Signs
  text : t.length ≤ 30
  valid : ∀ c ∈ t, 0 ≤ c ∧ c < (nth l 0).Signs
theorem CutWF.of (h : (cutFault l t).1 = 0) : CutWF l t := by
  by_cases h0 : (l.length : Int) < 1 ∨ 6 < (l.length : Int)
  · rw [cutFault_many h0] at h; cases h
  · cases hf : fst1 (partFault l) 0 l.length with
    | some x =>
      obtain ⟨j, _, _, hj, _⟩ := fst1_what hf
      rw [cutFault, if_neg h0, hf] at h
      exact (partFault_code hj h).elim
    | none =>
      have hp : ∀ j, j < l.length → partFault l j = none := fun j hj => fst1_neg hf j (Nat.zero_le _) (by omega)
      rw [cutFault_text h0 hp] at h
      obtain ⟨_, h2, h3⟩ := textFault_code h
      exact ⟨by omega, fun j hj => (partFault_none (hp j hj)).1, fun j hj => (partFault_none (hp j hj)).2, h2, h3⟩
theorem cutList_of {y : List Int} (h : (cutFault l t).1 = 0) (hy : ∀ s, cutG l t = some s → y = s) (hz : cutG l t = none → y = []) : y = cutList l t := by
  rw [(cut_good h).2]
  cases hc : cutG l t with
  | none => exact hz hc
  | some s => exact hy s hc
end

theorem nth_drop {α : Type} [Inhabited α] {l : List α} {k j : Nat} : nth (l.drop k) j = nth l (k + j) := by simp [nth]
theorem cutG_head {l : List Auto} {t : List Int} (h : 0 < l.length) : cutG l t = fst1 (cutStep (cutG (l.drop 1)) (nth l 0) t) 0 (t.length + 1) := by
  have := cutG_cons (t := t) (i := 0) h
  simpa using this
theorem cutG_single {l : List Auto} {t : List Int} (h : l.length = 1) : cutG l t = if takesA (nth l 0) 0 t = true then some [(t.length : Int)] else none := by
  have : l = [nth l 0] := by
    have h2 := nth_zero (l := l) (by omega)
    have h3 : l.drop 1 = [] := List.drop_eq_nil_of_le (by omega)
    rw [h3] at h2; exact h2
  rw [this]; exact cutG_one

/-- How far the law has come with what is wrong. -/
def CutA (l : List Auto) (t : List Int) (k : Nat) (c a : Int) : Prop :=
  (c = 0 ∧ a = 0 ∧ ¬ ((l.length : Int) < 1 ∨ 6 < (l.length : Int)) ∧ ∀ j, j < k → partFault l j = none) ∨ (c ≠ 0 ∧ cutFault l t = (c, a))
section
variable {l : List Auto} {t : List Int} {k : Nat} {c a : Int}
theorem CutA.bad (h : CutA l t k c a) (hc : c = 0) (hk : k < l.length) {x : Int × Int} (hx : partFault l k = some x) : CutA l t (k + 1) x.1 x.2 := by
  rcases h with ⟨_, _, h1, h2⟩ | ⟨h1, _⟩
  · exact .inr ⟨partFault_code hx, cutFault_part h1 hk h2 hx⟩
  · exact (h1 hc).elim
theorem CutA.good (h : CutA l t k c a) (hc : c = 0) (hx : partFault l k = none) : CutA l t (k + 1) c a := by
  rcases h with ⟨h0, ha, h1, h2⟩ | ⟨h1, _⟩
  · exact .inl ⟨h0, ha, h1, fun j hj => by
      by_cases he : j = k
      · rw [he]; exact hx
      · exact h2 j (by omega)⟩
  · exact (h1 hc).elim
theorem CutA.text (h : CutA l t k c a) (hc : c = 0) (hk : l.length ≤ k) : cutFault l t = textFault (nth l 0).Signs t ∧ 0 < l.length := by
  rcases h with ⟨_, _, h1, h2⟩ | ⟨h1, _⟩
  · exact ⟨cutFault_text h1 fun j hj => h2 j (by omega), by omega⟩
  · exact (h1 hc).elim
theorem CutA.fault (h : CutA l t k c a) (hc : c ≠ 0) : cutFault l t = (c, a) := by
  rcases h with ⟨h0, _⟩ | ⟨_, h1⟩
  · exact (hc h0).elim
  · exact h1
end

theorem evenCut_f : cutFault [evenA, evenA] [1, 1] = (0, 0) := by decide +kernel
theorem evenCut_o : cutOk [evenA, evenA] [1, 1] = true := by decide +kernel
theorem evenCut_l : cutList [evenA, evenA] [1, 1] = [0, 2] := by decide +kernel
end Go.Um
