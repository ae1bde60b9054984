/- Least shortest words of a step function, and what a search breadth first knows. No program is in sight. -/
import Derived.Test.YtpdcejallbbncaaEasyPlain
import Derived.Test.YtpdcejallbbncaaBestData
import Derived.Test.YtpdcejallbbncaaUmMap
import Derived.Test.YtpdcejallbbncaaUmRev
namespace Go.Um
/-! ### The order of words: shorter ones first -/
def lessB : List Int → List Int → Bool
  | [], [] => false
  | [], _ :: _ => true
  | _ :: _, [] => false
  | a :: p, b :: w => decide (a < b) || (decide (a = b) && lessB p w)
theorem lessB_irrefl : ∀ p : List Int, lessB p p = false
  | [] => rfl
  | a :: p => by simp [lessB, lessB_irrefl p]
theorem lessB_trans : ∀ {p w u : List Int}, lessB p w = true → lessB w u = true → lessB p u = true
  | [], [], _, h, _ => by cases h
  | [], _ :: _, [], _, h => by cases h
  | [], _ :: _, _ :: _, _, _ => rfl
  | _ :: _, [], _, h, _ => by cases h
  | _ :: _, _ :: _, [], _, h => by cases h
  | a :: p, b :: w, c :: u, h, h2 => by
    simp only [lessB, Bool.or_eq_true, Bool.and_eq_true, decide_eq_true_eq] at h h2 ⊢
    rcases h with h | ⟨rfl, h⟩
    · rcases h2 with h2 | ⟨rfl, _⟩
      · exact .inl (by omega)
      · exact .inl h
    · rcases h2 with h2 | ⟨rfl, h2⟩
      · exact .inl h2
      · exact .inr ⟨rfl, lessB_trans h h2⟩
theorem lessB_app : ∀ {p w : List Int} {c d : Int}, p.length = w.length → (lessB p w = true ∨ (p = w ∧ c < d)) → lessB (p ++ [c]) (w ++ [d]) = true
  | [], [], c, d, _, h => by
    rcases h with h | ⟨_, h⟩
    · cases h
    · simp [lessB, h]
  | [], _ :: _, _, _, hl, _ => by cases hl
  | _ :: _, [], _, _, hl, _ => by cases hl
  | a :: p, b :: w, c, d, hl, h => by
    simp only [List.cons_append, lessB, Bool.or_eq_true, Bool.and_eq_true, decide_eq_true_eq] at h ⊢
    rcases h with (h | ⟨rfl, h⟩) | ⟨h, h2⟩
    · exact .inl h
    · exact .inr ⟨rfl, lessB_app (by simpa using hl) (.inl h)⟩
    · cases h; exact .inr ⟨rfl, lessB_app rfl (.inr ⟨rfl, h2⟩)⟩
def sl (p w : List Int) : Prop := p.length < w.length ∨ (p.length = w.length ∧ lessB p w = true)
def sle (p w : List Int) : Prop := p = w ∨ sl p w
section
variable {p w u : List Int} {c d : Int}
theorem sl_irrefl : ¬ sl p p := by rintro (h | ⟨_, h⟩); omega; rw [lessB_irrefl] at h; cases h
theorem sl_trans (h : sl p w) (h2 : sl w u) : sl p u := by
  rcases h with h | ⟨h, h'⟩ <;> rcases h2 with h2 | ⟨h2, h2'⟩
  · exact .inl (by omega)
  · exact .inl (by omega)
  · exact .inl (by omega)
  · exact .inr ⟨by omega, lessB_trans h' h2'⟩
theorem sle_trans (h : sle p w) (h2 : sle w u) : sle p u := by
  rcases h with rfl | h
  · exact h2
  · rcases h2 with rfl | h2
    · exact .inr h
    · exact .inr (sl_trans h h2)
theorem sl_of_le (h : sle p w) (h2 : sl w u) : sl p u := by
  rcases h with rfl | h
  · exact h2
  · exact sl_trans h h2
theorem sle_len (h : sle p w) : p.length ≤ w.length := by
  rcases h with rfl | h | ⟨h, _⟩
  · exact Nat.le_refl _
  · omega
  · omega
theorem sle_antisymm (h : sle p w) (h2 : sle w p) : p = w := by
  rcases h with rfl | h
  · rfl
  · exact absurd (sl_of_le h2 h) sl_irrefl
theorem sl_app (h : sl p w) : sl (p ++ [c]) (w ++ [d]) := by
  rcases h with h | ⟨h, h'⟩
  · exact .inl (by simp; omega)
  · exact .inr ⟨by simp; omega, lessB_app h (.inl h')⟩
theorem sl_last (h : c < d) : sl (p ++ [c]) (p ++ [d]) := .inr ⟨by simp, lessB_app rfl (.inr ⟨rfl, h⟩)⟩
theorem sl_ext : sl p (p ++ [c]) := .inl (by simp)
theorem sle_app (h : sle p w) : sle (p ++ [c]) (w ++ [c]) := by
  rcases h with rfl | h
  · exact .inl rfl
  · exact .inr (sl_app h)
end

/-! ### Words that lead from a start -/
def runS {σ : Type} (step : σ → Int → Option σ) : List Int → σ → Option σ
  | [], s => some s
  | k :: p, s => (step s k).bind (runS step p)
section
variable {σ : Type} {step : σ → Int → Option σ} {s0 s t : σ} {p w : List Int}
theorem runS_app {v : List Int} : runS step (p ++ v) s = (runS step p s).bind (runS step v) := by
  induction p generalizing s with
  | nil => rfl
  | cons k p ih =>
    show (step s k).bind _ = ((step s k).bind _).bind _
    cases step s k with
    | none => rfl
    | some t => exact ih
theorem runS_one {k : Int} : runS step [k] s = step s k := by
  show (step s k).bind _ = _
  cases step s k <;> rfl
theorem runS_last {k : Int} : runS step (p ++ [k]) s = (runS step p s).bind fun t => step t k := by
  rw [runS_app]; congr 1; funext t; exact runS_one
end

/-- What a search breadth first knows: it has found E; the entries before m are done, of entry m the letters below k. Words of no more than b letters are kept; those of 20 or more need not be gone on from. -/
structure Bst {σ : Type} [Inhabited σ] (step : σ → Int → Option σ) (s0 : σ) (b : Nat) (E : List (σ × List Int)) (m k : Nat) : Prop where
  start : (s0, []) ∈ E
  run : ∀ e, e ∈ E → runS step e.2 s0 = some e.1
  nodup : (E.map (·.1)).Nodup
  sorted : ∀ i j, i < j → j < E.length → sl (nth E i).2 (nth E j).2
  below : m < E.length → ∀ e, e ∈ E → sl e.2 ((nth E m).2 ++ [(k : Int)])
  closed : ∀ j, j < E.length → ∀ c : Int, (j < m ∨ (j = m ∧ c < (k : Int))) → (nth E j).2.length < 20 → ∀ t, step (nth E j).1 c = some t → ∃ e, e ∈ E ∧ e.1 = t ∧ sle e.2 ((nth E j).2 ++ [c])
  par : ∀ e, e ∈ E → ∀ t c, e.2 = t ++ [c] → ∃ s, (s, t) ∈ E
  short : ∀ e, e ∈ E → e.2.length ≤ b
  le : m ≤ E.length
section
variable {σ : Type} [Inhabited σ] {step : σ → Int → Option σ} {s0 : σ} {b m k K : Nat} {E : List (σ × List Int)}
theorem Bst.init (hK : ∀ s c t, step s c = some t → 0 ≤ c ∧ c < (K : Int)) : Bst step s0 b [(s0, [])] 0 0 where
  start := List.mem_singleton.2 rfl
  run e he := by cases List.mem_singleton.1 he; rfl
  nodup := by simp
  sorted i j hi hj := by simp at hj; omega
  below _ e he := by cases List.mem_singleton.1 he; exact sl_ext
  closed j hj c hc hl t ht := by have := hK _ _ _ ht; simp at hj; omega
  par e he t c h := by cases List.mem_singleton.1 he; simp at h
  short e he := by cases List.mem_singleton.1 he; exact Nat.zero_le _
  le := by simp
theorem Bst.some (h : Bst step s0 b E m k) {e : σ × List Int} (he : e ∈ E) : ∃ j, j < E.length ∧ nth E j = e := by
  obtain ⟨j, hj, h2⟩ := List.mem_iff_getElem.1 he
  exact ⟨j, hj, by rw [nth_eq hj, h2]⟩
theorem Bst.le_of (h : Bst step s0 b E m k) {i j : Nat} (hij : i ≤ j) (hj : j < E.length) : sle (nth E i).2 (nth E j).2 := by
  rcases Nat.lt_or_eq_of_le hij with h1 | rfl
  · exact .inr (h.sorted i j h1 hj)
  · exact .inl rfl
theorem Bst.keep (h : Bst step s0 b E m k) (hm : m < E.length) (hn : ∀ t, step (nth E m).1 (k : Int) = Option.some t → ∃ e, e ∈ E ∧ e.1 = t) : Bst step s0 b E m (k + 1) where
  start := h.start
  run := h.run
  nodup := h.nodup
  sorted := h.sorted
  below hm e he := sl_trans (h.below hm e he) (sl_last (by omega))
  closed j hj c hc hl t ht := by
    by_cases h2 : j < m ∨ (j = m ∧ c < (k : Int))
    · exact h.closed j hj c h2 hl t ht
    · have hjm : j = m := by omega
      have hck : c = (k : Int) := by omega
      subst hjm; subst hck
      obtain ⟨e, he, h3⟩ := hn t ht
      exact ⟨e, he, h3, .inr (h.below hm e he)⟩
  par := h.par
  short := h.short
  le := h.le
theorem Bst.push (h : Bst step s0 b E m k) (hm : m < E.length) {t : σ} (ht : step (nth E m).1 (k : Int) = Option.some t) (hnew : ∀ e, e ∈ E → e.1 ≠ t) (hb : (nth E m).2.length < b) : Bst step s0 b (E ++ [(t, (nth E m).2 ++ [(k : Int)])]) m (k + 1) := by
  have hap : ∀ {j}, j < E.length → nth (E ++ [(t, (nth E m).2 ++ [(k : Int)])]) j = nth E j := fun hj => nth_app_left' hj
  have hlast : nth (E ++ [(t, (nth E m).2 ++ [(k : Int)])]) E.length = (t, (nth E m).2 ++ [(k : Int)]) := by simp [nth]
  refine ⟨List.mem_append_left _ h.start, fun e he => ?_, ?_, fun i j hij hj => ?_, fun h2 e he => ?_, fun j hj c hc hl t' ht' => ?_, fun e he u c hu => ?_, fun e he => ?_, by rw [List.length_append]; have := h.le; omega⟩
  · rcases List.mem_append.1 he with he | he
    · exact h.run e he
    · cases List.mem_singleton.1 he
      rw [runS_last, h.run _ (nth_mem hm)]; exact ht
  · rw [List.map_append]
    refine List.nodup_append.2 ⟨h.nodup, by simp, ?_⟩
    intro a ha c hc
    simp only [List.map_cons, List.map_nil, List.mem_singleton] at hc
    subst hc
    obtain ⟨e, he, rfl⟩ := List.mem_map.1 ha
    exact hnew e he
  · rw [List.length_append, List.length_singleton] at hj
    by_cases h2 : j < E.length
    · rw [hap h2, hap (by omega)]; exact h.sorted i j hij h2
    · have : j = E.length := by omega
      subst this
      rw [hlast, hap hij]
      exact h.below hm _ (nth_mem hij)
  · rw [hap hm]
    rcases List.mem_append.1 he with he | he
    · exact sl_trans (h.below hm e he) (sl_last (by omega))
    · cases List.mem_singleton.1 he
      exact sl_last (by omega)
  · rw [List.length_append, List.length_singleton] at hj
    by_cases h2 : j < E.length
    · rw [hap h2] at hl ht' ⊢
      by_cases h3 : j < m ∨ (j = m ∧ c < (k : Int))
      · obtain ⟨e, he, h4⟩ := h.closed j h2 c h3 hl t' ht'
        exact ⟨e, List.mem_append_left _ he, h4⟩
      · have hjm : j = m := by omega
        have hck : c = (k : Int) := by omega
        subst hjm; subst hck
        rw [ht] at ht'; cases ht'
        exact ⟨_, List.mem_append_right _ (List.mem_singleton.2 rfl), rfl, .inl rfl⟩
    · have := h.le; omega
  · rcases List.mem_append.1 he with he | he
    · obtain ⟨s, hs⟩ := h.par e he u c hu
      exact ⟨s, List.mem_append_left _ hs⟩
    · cases List.mem_singleton.1 he
      obtain ⟨h3, _⟩ := List.append_inj' hu rfl
      subst h3
      exact ⟨(nth E m).1, List.mem_append_left _ (nth_mem hm)⟩
  · rcases List.mem_append.1 he with he | he
    · exact h.short e he
    · cases List.mem_singleton.1 he
      simp; omega
theorem Bst.turn (h : Bst step s0 b E m k) (hm : m < E.length) (hK : ∀ s c t, step s c = Option.some t → 0 ≤ c ∧ c < (K : Int)) (hk : K ≤ k ∨ 20 ≤ (nth E m).2.length) : Bst step s0 b E (m + 1) 0 where
  start := h.start
  run := h.run
  nodup := h.nodup
  sorted := h.sorted
  below h2 e he := sl_trans (h.below hm e he) (sl_app (h.sorted m (m + 1) (by omega) h2))
  closed j hj c hc hl t ht := by
    have h9 := hK _ c t ht
    by_cases hjm : j < m
    · exact h.closed j hj c (.inl hjm) hl t ht
    · have : j = m := by omega
      subst this
      rcases hk with hk | hk
      · exact h.closed j hj c (.inr ⟨rfl, by omega⟩) hl t ht
      · omega
  par := h.par
  short := h.short
  le := hm
theorem rev_ind {C : List Int → Prop} (h0 : C []) (h1 : ∀ v c, C v → C (v ++ [c])) (w : List Int) : C w := by
  rw [← List.reverse_reverse w]
  induction w.reverse with
  | nil => exact h0
  | cons c v ih => rw [List.reverse_cons]; exact h1 _ _ ih
/-- a word of no more than 20 letters: what it leads to is found by a word that is not behind it, or an entry that is not done is shorter and ahead of it -/
theorem Bst.cover (h : Bst step s0 b E m 0) : ∀ (w : List Int) (s : σ), runS step w s0 = Option.some s → w.length ≤ 20 → (∃ e, e ∈ E ∧ e.1 = s ∧ sle e.2 w) ∨ ∃ j, m ≤ j ∧ j < E.length ∧ (nth E j).2.length < w.length := by
  intro w
  induction w using rev_ind with
  | h0 => intro s hs _; cases hs; exact .inl ⟨_, h.start, rfl, .inl rfl⟩
  | h1 v c ih =>
    intro s hs hl
    rw [List.length_append, List.length_singleton] at hl ⊢
    rw [runS_last] at hs
    cases hv : runS step v s0 with
    | none => rw [hv] at hs; cases hs
    | some u =>
      rw [hv] at hs
      rcases ih u hv (by omega) with ⟨e, he, h1, h2⟩ | ⟨j, h1, h2, h3⟩
      · obtain ⟨j, hj, rfl⟩ := h.some he
        have h4 := sle_len h2
        by_cases hjm : j < m
        · obtain ⟨e', he', h5, h6⟩ := h.closed j hj c (.inl hjm) (by omega) s (by rw [h1]; exact hs)
          exact .inl ⟨e', he', h5, sle_trans h6 (sle_app h2)⟩
        · exact .inr ⟨j, by omega, hj, by omega⟩
      · exact .inr ⟨j, h1, h2, by omega⟩
theorem Bst.found (h : Bst step s0 b E m 0) {goal : σ → Bool} {i : Nat} (hi : i < E.length) (hno : ∀ j, j < i → goal (nth E j).1 = false) (hlen : ∀ j, m ≤ j → j < E.length → (nth E i).2.length ≤ (nth E j).2.length) {w : List Int} {s : σ} (hw : runS step w s0 = Option.some s) (hl : w.length ≤ 20) (hg : goal s = true) : sle (nth E i).2 w := by
  rcases h.cover w s hw hl with ⟨e, he, h1, h2⟩ | ⟨j, h1, h2, h3⟩
  · obtain ⟨j, hj, rfl⟩ := h.some he
    by_cases hji : j < i
    · have := hno j hji; rw [h1, hg] at this; cases this
    · exact sle_trans (h.le_of (by omega) hj) h2
  · exact .inr (.inl (by have := hlen j h1 h2; omega))
theorem Bst.lost (h : Bst step s0 b E m 0) {goal : σ → Bool} (hno : ∀ j, j < m → goal (nth E j).1 = false) (hlen : ∀ j, m ≤ j → j < E.length → 20 < (nth E j).2.length) {w : List Int} {s : σ} (hw : runS step w s0 = Option.some s) (hl : w.length ≤ 20) : goal s = false := by
  rcases h.cover w s hw hl with ⟨e, he, h1, h2⟩ | ⟨j, h1, h2, h3⟩
  · obtain ⟨j, hj, rfl⟩ := h.some he
    have h4 := sle_len h2
    by_cases hji : j < m
    · rw [← h1]; exact hno j hji
    · have := hlen j (by omega) hj; omega
  · have := hlen j h1 h2; omega
end

/-! ### Plans as words -/
def stepB (q : Quest) (now : List Bool) (k : Int) : Option (List Bool) := if 0 ≤ k ∧ k < (q.Acts.length : Int) ∧ canA (nth q.Acts k.toNat) now = true then some (afterA (nth q.Acts k.toNat) now) else none
def runB (q : Quest) (p : List Int) : Option (List Bool) := runS (stepB q) p (firstL q)
section
variable {q : Quest} {p w : List Int} {now s t : List Bool} {i k : Nat} {o : Bool}
theorem stepB_rng (s : List Bool) (c : Int) (t : List Bool) (h : stepB q s c = some t) : 0 ≤ c ∧ c < (q.Acts.length : Int) := by
  unfold stepB at h
  split at h
  · rename_i h1; exact ⟨h1.1, h1.2.1⟩
  · cases h
theorem stepB_at (hk : k < q.Acts.length) : stepB q now (k : Int) = if canA (nth q.Acts k) now = true then some (afterA (nth q.Acts k) now) else none := by
  unfold stepB
  by_cases h : canA (nth q.Acts k) now = true
  · rw [if_pos ⟨by omega, by omega, by simpa using h⟩, if_pos h]; simp
  · rw [if_neg (fun h2 => h (by simpa using h2.2.2)), if_neg h]
theorem walkR_run : ∀ {p : List Int} {i : Nat} {now : List Bool}, (walkR q i p now).1.1 = 0 → runS (stepB q) p now = some (walkR q i p now).2
  | [], _, _, _ => rfl
  | k :: p, i, now, h => by
    unfold walkR at h ⊢
    show (stepB q now k).bind _ = _
    unfold stepB
    split at h
    · exact absurd h (by decide : (3 : Int) ≠ 0)
    · rename_i h1
      split at h
      · rename_i h2
        have h3 := Decidable.of_not_not h1
        rw [if_pos ⟨h3.1, h3.2, h2⟩, if_neg h1, if_pos h2]
        exact walkR_run h
      · exact absurd h (by decide : (11 : Int) ≠ 0)
theorem run_walkR : ∀ {p : List Int} {i : Nat} {now s : List Bool}, runS (stepB q) p now = some s → walkR q i p now = ((0, 0), s)
  | [], _, _, _, h => by cases h; rfl
  | k :: p, i, now, s, h => by
    unfold walkR
    have h : (stepB q now k).bind _ = _ := h
    unfold stepB at h
    split at h
    · rename_i h1
      rw [if_neg (not_not_intro ⟨h1.1, h1.2.1⟩), if_pos h1.2.2]
      exact run_walkR h
    · cases h
theorem runB_len (h : runB q p = some s) : s.length = q.Facts.toNat := by
  have h1 := run_walkR (i := 0) h
  have h2 := walkR_len (q := q) (ps := p) (i := 0) (now := firstL q) (by rw [h1])
  rw [h1, firstL_len] at h2
  exact h2
theorem walk_runB (h : (walkFault q p).1 = 0) : runB q p = some (walkNow q p) ∧ p.length ≤ 20 ∧ walkOk q p = goalA q (walkNow q p) := by
  obtain ⟨_, _, h3, h4, h5⟩ := walkFault_zero h
  refine ⟨?_, by omega, ?_⟩
  · rw [runB, walkR_run h4, h5.1]
  · rw [walkOk, if_neg (not_not_intro h)]
theorem runB_walk (hq : (questFault q).1 = 0) (h : runB q p = some s) (hl : p.length ≤ 20) : walkFault q p = (0, 0) ∧ walkOk q p = goalA q s := by
  have h1 := walk_good (not_not_intro hq) (by omega) (run_walkR (i := 0) h)
  exact ⟨h1.1, by rw [h1.2.2]⟩
/-- the least of the shortest plans, if there is one of no more than 20 acts -/
def BestOk (q : Quest) (o : Bool) (p : List Int) : Prop :=
  if o = true then p.length ≤ 20 ∧ (∃ s, runB q p = some s ∧ goalA q s = true) ∧ ∀ w s, runB q w = some s → w.length ≤ 20 → goalA q s = true → sle p w
  else p = [] ∧ ∀ w s, runB q w = some s → w.length ≤ 20 → goalA q s = false
theorem BestOk.uniq {o2 : Bool} {p2 : List Int} (h : BestOk q o p) (h2 : BestOk q o2 p2) : o = o2 ∧ p = p2 := by
  unfold BestOk at h h2
  cases o <;> cases o2
  · rw [if_neg (by decide)] at h h2
    exact ⟨rfl, by rw [h.1, h2.1]⟩
  · rw [if_neg (by decide)] at h; rw [if_pos rfl] at h2
    obtain ⟨h3, ⟨s, h4, h5⟩, _⟩ := h2
    rw [h.2 _ _ h4 h3] at h5; cases h5
  · rw [if_neg (by decide)] at h2; rw [if_pos rfl] at h
    obtain ⟨h3, ⟨s, h4, h5⟩, _⟩ := h
    rw [h2.2 _ _ h4 h3] at h5; cases h5
  · rw [if_pos rfl] at h h2
    obtain ⟨h3, ⟨s, h4, h5⟩, h6⟩ := h
    obtain ⟨h3', ⟨s', h4', h5'⟩, h6'⟩ := h2
    exact ⟨rfl, sle_antisymm (h6 _ _ h4' h3' h5') (h6' _ _ h4 h3 h5)⟩
/-! ### States as numbers -/
def numB (now : List Bool) : Nat := bitsN (idxTo now now.length)
theorem Rep.num : Rep now.length (numB now) now where
  len := rfl
  bit f := by
    rw [numB, bitsN_bit (fun x hx => ((idxTo_rising now.length).mem hx).1), idxTo_has]
    by_cases hf : f < now.length
    · simp [hf]
    · rw [nth_off hf]; simp [hf]
theorem Rep.uniq {n a c : Nat} (h : Rep n a now) (h2 : Rep n c now) : a = c := Nat.eq_of_testBit_eq fun f => by rw [h.bit, h2.bit]
theorem Rep.is {n a : Nat} (h : Rep n a now) : numB now = a := by
  obtain ⟨rfl, _⟩ := h
  exact Rep.num.uniq ⟨rfl, ‹_›⟩
theorem numB_inj (hl : s.length = t.length) (h : numB s = numB t) : s = t := by
  rw [← (Rep.num (now := s)).out, ← (Rep.num (now := t)).out, h, hl]
def stP (q : Quest) (p : List Int) : Int := match runB q p with | some s => (numB s : Int) | none => 0
def wayP (q : Quest) (p : List Int) : Way := if p = [] then ⟨-1, -1, 0⟩ else ⟨stP q p.dropLast, nth p (p.length - 1), p.length⟩
end

/-! ### The ways that are kept in a map -/
def wayAt (q : Quest) (E : List (List Bool × List Int)) (x : Int) : Option Way := (E.find? fun e => decide ((numB e.1 : Int) = x)).map fun e => wayP q e.2
def numL (E : List (List Bool × List Int)) : List Int := E.map fun e => ((numB e.1 : Nat) : Int)
structure BestI (q : Quest) (E : List (List Bool × List Int)) (mp : List (Int × Way)) (i k : Nat) : Prop where
  bst : Bst (stepB q) (firstL q) 20 E i k
  map : mget mp = wayAt q E
section
variable {q : Quest} {E : List (List Bool × List Int)} {mp : List (Int × Way)} {i k j : Nat} {x : Int}
theorem numL_len : (numL E).length = E.length := by simp [numL]
theorem numL_nth (h : i < E.length) : nth (numL E) i = ((numB (nth E i).1 : Nat) : Int) := by
  rw [nth_eq (by rw [numL_len]; exact h), nth_eq h]; simp [numL]
theorem numL_app {e : List Bool × List Int} : numL (E ++ [e]) = numL E ++ [((numB e.1 : Nat) : Int)] := by simp [numL]
theorem wayAt_none : wayAt q E x = none ↔ ∀ e, e ∈ E → ((numB e.1 : Nat) : Int) ≠ x := by
  unfold wayAt
  rw [Option.map_eq_none_iff, List.find?_eq_none]
  simp
theorem wayAt_app {e : List Bool × List Int} (h : ∀ d, d ∈ E → ((numB d.1 : Nat) : Int) ≠ ((numB e.1 : Nat) : Int)) : wayAt q (E ++ [e]) x = if ((numB e.1 : Nat) : Int) = x then some (wayP q e.2) else wayAt q E x := by
  have h1 : ∀ y, wayAt q (E ++ [e]) y = ((E.find? fun e => decide ((numB e.1 : Int) = y)).or ([e].find? fun e => decide ((numB e.1 : Int) = y))).map fun e => wayP q e.2 := fun y => by rw [wayAt, List.find?_append]
  by_cases hx : ((numB e.1 : Nat) : Int) = x
  · rw [if_pos hx, h1]
    have h2 : (E.find? fun e => decide ((numB e.1 : Int) = x)) = none := by
      rw [List.find?_eq_none]; intro d hd; simpa using fun h9 => h d hd (by rw [h9, hx])
    rw [h2]; simp [hx]
  · rw [if_neg hx, h1, wayAt]
    have h2 : ([e].find? fun e => decide ((numB e.1 : Int) = x)) = none := by simp [hx]
    rw [h2]; simp
theorem BestI.len (h : BestI q E mp i k) {e : List Bool × List Int} (he : e ∈ E) : e.1.length = q.Facts.toNat := runB_len (h.bst.run e he)
theorem BestI.inj (h : BestI q E mp i k) {e : List Bool × List Int} (he : e ∈ E) {t : List Bool} (ht : t.length = q.Facts.toNat) (hn : ((numB e.1 : Nat) : Int) = ((numB t : Nat) : Int)) : e.1 = t := numB_inj (by rw [h.len he, ht]) (by omega)
theorem BestI.find (h : BestI q E mp i k) (hj : j < E.length) : mget mp ((numB (nth E j).1 : Nat) : Int) = some (wayP q (nth E j).2) := by
  rw [h.map, wayAt]
  cases hf : (E.find? fun e => decide ((numB e.1 : Int) = ((numB (nth E j).1 : Nat) : Int))) with
  | none => rw [List.find?_eq_none] at hf; have := hf _ (nth_mem hj); simp at this
  | some e =>
    have h1 := List.find?_some hf
    have h2 := List.mem_of_find?_eq_some hf
    have h3 := h.inj h2 (h.len (nth_mem hj)) (of_decide_eq_true h1)
    obtain ⟨a, ha, rfl⟩ := h.bst.some h2
    have h4 : a = j := by
      have := (List.getElem_inj (i := a) (j := j) (h₀ := by simpa using ha) (h₁ := by simpa using hj) h.bst.nodup).1 (by simpa [nth_eq ha, nth_eq hj] using h3)
      exact this
    rw [h4]; rfl
theorem numB_lt (h : BestI q E mp i k) (hq : QW q) {e : List Bool × List Int} (he : e ∈ E) : numB e.1 < 65536 := by
  have h1 := (Rep.num (now := e.1))
  rw [h.len he] at h1
  exact h1.lt hq.facts.2
theorem nodup_le_b {α : Type} [DecidableEq α] : ∀ {L S : List α}, L.Nodup → (∀ x ∈ L, x ∈ S) → L.length ≤ S.length
  | [], _, _, _ => Nat.zero_le _
  | a :: L, S, h, hs => by
    have ha := hs a (List.mem_cons_self ..)
    have h1 := List.nodup_cons.1 h
    have h2 := nodup_le_b (S := S.erase a) h1.2 fun x hx => (List.mem_erase_of_ne (fun e : x = a => h1.1 (by rw [← e]; exact hx))).2 (hs x (List.mem_cons_of_mem _ hx))
    rw [List.length_erase_of_mem ha] at h2
    have := List.length_pos_of_mem ha
    simp; omega
theorem BestI.few (h : BestI q E mp i k) (hq : QW q) : E.length ≤ 65536 := by
  have h1 : ((E.map (·.1)).map numB).Nodup := by
    refine List.pairwise_map.2 (List.Pairwise.imp_of_mem (fun {a c} ha hc hac he => ?_) h.bst.nodup)
    obtain ⟨d, hd, rfl⟩ := List.mem_map.1 ha
    obtain ⟨e, hE, rfl⟩ := List.mem_map.1 hc
    exact hac (numB_inj (by rw [h.len hd, h.len hE]) he)
  have h2 := nodup_le_b (S := List.range 65536) h1 fun y hy => by
    obtain ⟨e, he, rfl⟩ := List.mem_map.1 hy
    obtain ⟨d, hd, rfl⟩ := List.mem_map.1 he
    exact List.mem_range.2 (numB_lt h hq hd)
  simpa using h2
theorem BestI.start : BestI q [(firstL q, [])] (mset [] ((numB (firstL q) : Nat) : Int) ⟨-1, -1, 0⟩) 0 0 where
  bst := Bst.init (K := q.Acts.length) stepB_rng
  map := by
    funext y
    rw [mget_mset, mget_nil]
    by_cases h : ((numB (firstL q) : Nat) : Int) = y
    · rw [if_pos h]; simp [wayAt, h, wayP]
    · rw [if_neg h]; simp [wayAt, h]
def nxN (q : Quest) (now : List Bool) (k : Nat) : Nat := if actOk (nth q.Acts k) (numB now) then actTo (nth q.Acts k) (numB now) else 0
theorem step_num (hq : QW q) {now : List Bool} (hn : now.length = q.Facts.toNat) (hk : k < q.Acts.length) : (actOk (nth q.Acts k) (numB now) ↔ canA (nth q.Acts k) now = true) ∧ numB (afterA (nth q.Acts k) now) = actTo (nth q.Acts k) (numB now) := by
  have h1 := Rep.num (now := now)
  rw [hn] at h1
  exact ⟨h1.can (hq.form k hk), (h1.after (hq.form k hk)).is⟩
theorem BestI.old (h : BestI q E mp i k) (hq : QW q) (hi : i < E.length) (hk : k < q.Acts.length) (hno : ¬ (actOk (nth q.Acts k) (numB (nth E i).1) ∧ (!(mget mp ((nxN q (nth E i).1 k : Nat) : Int)).isSome) = true)) : BestI q E mp i (k + 1) where
  bst := h.bst.keep hi fun t ht => by
    rw [stepB_at hk] at ht
    obtain ⟨h1, h2⟩ := step_num hq (h.len (nth_mem hi)) hk
    split at ht
    · rename_i h3
      cases ht
      have h4 := h1.2 h3
      have h5 : (mget mp ((nxN q (nth E i).1 k : Nat) : Int)).isSome = true := by
        rw [not_and] at hno
        have h6 := hno h4
        cases hm : (mget mp ((nxN q (nth E i).1 k : Nat) : Int)).isSome with
        | true => rfl
        | false => rw [hm] at h6; exact absurd rfl h6
      rw [nxN, if_pos h4, h.map, Option.isSome_iff_ne_none] at h5
      rw [Ne, wayAt_none] at h5
      simp only [Classical.not_forall, Decidable.not_not] at h5
      obtain ⟨e, he, h6⟩ := h5
      refine ⟨e, he, h.inj he ?_ (by rw [h6, h2])⟩
      rw [afterA_len, h.len (nth_mem hi)]
    · cases ht
  map := h.map
theorem BestI.new (h : BestI q E mp i k) (hq : QW q) (hi : i < E.length) (hk : k < q.Acts.length) (hy : actOk (nth q.Acts k) (numB (nth E i).1) ∧ (!(mget mp ((nxN q (nth E i).1 k : Nat) : Int)).isSome) = true) (hlt : (nth E i).2.length < 20) :
    ((nxN q (nth E i).1 k : Nat) : Int) = ((numB (afterA (nth q.Acts k) (nth E i).1) : Nat) : Int) ∧
    BestI q (E ++ [(afterA (nth q.Acts k) (nth E i).1, (nth E i).2 ++ [(k : Int)])]) (mset mp ((nxN q (nth E i).1 k : Nat) : Int) ⟨((numB (nth E i).1 : Nat) : Int), (k : Int), ((mget mp ((numB (nth E i).1 : Nat) : Int)).getD ⟨0, 0, 0⟩).Long + 1⟩) i (k + 1) := by
  obtain ⟨h1, h2⟩ := step_num hq (h.len (nth_mem hi)) hk
  have h3 := h1.1 hy.1
  have hk1 : ((nxN q (nth E i).1 k : Nat) : Int) = ((numB (afterA (nth q.Acts k) (nth E i).1) : Nat) : Int) := by rw [nxN, if_pos hy.1, h2]
  have h4 : ∀ d, d ∈ E → ((numB d.1 : Nat) : Int) ≠ ((numB (afterA (nth q.Acts k) (nth E i).1) : Nat) : Int) := by
    rw [← wayAt_none (q := q), ← h.map, ← hk1]
    have := hy.2
    cases hm : mget mp ((nxN q (nth E i).1 k : Nat) : Int) with
    | none => rfl
    | some v => rw [hm] at this; simp at this
  have hrun : runB q ((nth E i).2) = some (nth E i).1 := h.bst.run _ (nth_mem hi)
  refine ⟨hk1, ⟨h.bst.push hi (by rw [stepB_at hk, if_pos h3]) (fun e he h5 => h4 e he (by rw [h5])) hlt, ?_⟩⟩
  funext y
  rw [mget_mset, wayAt_app h4, hk1, h.find hi, h.map]
  by_cases hx : ((numB (afterA (nth q.Acts k) (nth E i).1) : Nat) : Int) = y
  · rw [if_pos hx, if_pos hx]
    have h6 : (nth E i).2 ++ [(k : Int)] ≠ [] := by simp
    have h7 : nth ((nth E i).2 ++ [(k : Int)]) (((nth E i).2 ++ [(k : Int)]).length - 1) = (k : Int) := by simp [nth]
    have h8 : (wayP q (nth E i).2).Long = ((nth E i).2.length : Int) := by
      rw [wayP]; split
      · rename_i h9; rw [h9]; rfl
      · rfl
    have h10 : wayP q ((nth E i).2 ++ [(k : Int)]) = ⟨((numB (nth E i).1 : Nat) : Int), (k : Int), ((nth E i).2.length : Int) + 1⟩ := by
      rw [wayP, if_neg h6, List.dropLast_concat, stP, hrun, h7]; simp
    rw [h10, Option.getD_some, h8]
  · rw [if_neg hx, if_neg hx]
theorem Bst.takes {σ : Type} [Inhabited σ] {step : σ → Int → Option σ} {s0 : σ} {b m k : Nat} {E : List (σ × List Int)} (h : Bst step s0 b E m k) {e : σ × List Int} (he : e ∈ E) : ∀ d j, j + d = e.2.length → ∃ s, (s, e.2.take j) ∈ E := by
  intro d
  induction d with
  | zero => intro j hj; exact ⟨e.1, by rw [List.take_of_length_le (by omega)]; exact he⟩
  | succ d ih =>
    intro j hj
    obtain ⟨s, hs⟩ := ih (j + 1) (by omega)
    exact h.par _ hs _ (nth e.2 j) (take_succ_nth (by omega))
/-- the way back from an entry -/
theorem BestI.back (h : BestI q E mp i k) {a : Nat} (ha : a < E.length) : ∀ j, j ≤ (nth E a).2.length → mget mp (stP q ((nth E a).2.take j)) = some (if j = 0 then ⟨-1, -1, 0⟩ else ⟨stP q ((nth E a).2.take (j - 1)), nth (nth E a).2 (j - 1), (j : Int)⟩) := by
  intro j hj
  obtain ⟨s, hs⟩ := h.bst.takes (nth_mem ha) ((nth E a).2.length - j) j (by omega)
  obtain ⟨c, hc, h1⟩ := h.bst.some hs
  have h2 := h.find hc
  have h3 : runB q ((nth E a).2.take j) = some s := h.bst.run _ hs
  rw [h1] at h2
  rw [stP, h3]
  refine h2.trans (congrArg some ?_)
  show wayP q ((nth E a).2.take j) = _
  rw [wayP]
  by_cases hj0 : j = 0
  · subst hj0; rw [if_pos (by simp), if_pos rfl]
  · have h5 : (nth E a).2.take j ≠ [] := by intro h9; have := congrArg List.length h9; simp at this; rcases this with h9 | h9 <;> simp [h9] at hj <;> omega
    have h6 : ((nth E a).2.take j).length = j := by rw [List.length_take]; omega
    rw [if_neg h5, if_neg hj0, h6, List.dropLast_eq_take, h6, List.take_take, Nat.min_eq_left (by omega)]
    congr 1
    have h7 : j - 1 < j := by omega
    simp [nth, List.getElem?_take, h7]
theorem BestI.st (h : BestI q E mp i k) {a : Nat} (ha : a < E.length) : stP q ((nth E a).2.take (nth E a).2.length) = ((numB (nth E a).1 : Nat) : Int) := by
  have h3 : runB q (nth E a).2 = some (nth E a).1 := h.bst.run _ (nth_mem ha)
  rw [List.take_length, stP, h3]
end

/-! ### The way back, step by step -/
section
variable {m : List (Int × Way)} {st : Nat → Int} {p : List Int} {j : Nat}
def BackOk (m : List (Int × Way)) (st : Nat → Int) (p : List Int) : Prop := ∀ j, j ≤ p.length → mget m (st j) = some (if j = 0 then ⟨-1, -1, 0⟩ else ⟨st (j - 1), nth p (j - 1), (j : Int)⟩)
theorem BackOk.pos (h : BackOk m st p) (hj : j ≤ p.length) (hb : 0 ≤ ((mget m (st j)).getD (Way.mk 0 0 0)).By) : 0 < j := by
  rcases Nat.eq_zero_or_pos j with h0 | h0
  · subst h0; rw [h 0 hj] at hb; exact absurd (show (0 : Int) ≤ -1 from hb) (by decide)
  · exact h0
theorem BackOk.zero (h : BackOk m st p) (hr : ∀ j, j < p.length → 0 ≤ nth p j) (hj : j ≤ p.length) (hb : ¬ 0 ≤ ((mget m (st j)).getD (Way.mk 0 0 0)).By) : j = 0 := by
  rcases Nat.eq_zero_or_pos j with h0 | h0
  · exact h0
  · rw [h j hj, if_neg (by omega)] at hb; exact absurd (hr (j - 1) (by omega)) hb
theorem BackOk.by (h : BackOk m st p) (hj : j ≤ p.length) (h0 : 0 < j) : ((mget m (st j)).getD (Way.mk 0 0 0)).By = nth p (j - 1) := by rw [h j hj, if_neg (by omega)]; rfl
theorem BackOk.from (h : BackOk m st p) (hj : j ≤ p.length) (h0 : 0 < j) : ((mget m (st j)).getD (Way.mk 0 0 0)).From = st (j - 1) := by rw [h j hj, if_neg (by omega)]; rfl
theorem rev_drop (h0 : 0 < j) (hj : j ≤ p.length) : (p.drop j).reverse ++ [nth p (j - 1)] = (p.drop (j - 1)).reverse := by
  have h1 : p.drop (j - 1) = nth p (j - 1) :: p.drop j := by
    rw [List.drop_eq_getElem_cons (by omega), nth_eq (by omega), show j - 1 + 1 = j by omega]
  rw [h1, List.reverse_cons]
end
/-! ### What is found -/
def DoOk (q : Quest) (s : Int) (p : List Int) : Prop := if (questFault q).1 ≠ 0 then s = 0 ∧ p = [] else ∃ o, BestOk q o p ∧ s = if o = true then 1 else 2
section
variable {q : Quest} {E : List (List Bool × List Int)} {mp : List (Int × Way)} {i k : Nat} {p : List Int} {s : Int}
theorem goal_num (hq : QW q) {now : List Bool} (hn : now.length = q.Facts.toNat) : (((numB now &&& bitsN q.Goal : Nat) : Int) = ((bitsN q.Goal : Nat) : Int)) ↔ goalA q now = true := by
  have h1 := Rep.num (now := now)
  rw [hn] at h1
  rw [← h1.goal hq.goal]
  exact ⟨fun h => Int.ofNat.inj h, fun h => congrArg Int.ofNat h⟩
theorem BestI.long (h : BestI q E mp i k) (hi : i < E.length) : ((mget mp ((numB (nth E i).1 : Nat) : Int)).getD (Way.mk 0 0 0)).Long = ((nth E i).2.length : Int) := by
  rw [h.find hi, Option.getD_some, wayP]
  split
  · rename_i h9; rw [h9]; rfl
  · rfl
theorem BestI.turn (h : BestI q E mp i k) (hi : i < E.length) (hk : q.Acts.length ≤ k ∨ 20 ≤ (nth E i).2.length) : BestI q E mp (i + 1) 0 := ⟨h.bst.turn hi stepB_rng hk, h.map⟩
theorem BestI.nonneg (h : BestI q E mp i k) (hi : i < E.length) (j : Nat) (hj : j < (nth E i).2.length) : 0 ≤ nth (nth E i).2 j := by
  have h1 : runB q (nth E i).2 = some (nth E i).1 := h.bst.run _ (nth_mem hi)
  have key : ∀ (p : List Int) (s t : List Bool), runS (stepB q) p s = some t → ∀ x, x ∈ p → 0 ≤ x := by
    intro p
    induction p with
    | nil => intro _ _ _ x hx; cases hx
    | cons a p ih =>
      intro s t h x hx
      have h : (stepB q s a).bind _ = _ := h
      cases h2 : stepB q s a with
      | none => rw [h2] at h; cases h
      | some u =>
        rw [h2] at h
        rcases List.mem_cons.1 hx with rfl | hx
        · exact (stepB_rng _ _ _ h2).1
        · exact ih _ _ h _ hx
  exact key _ _ _ h1 _ (nth_mem hj)
theorem BestI.yes (h : BestI q E mp i 0) (hq : (questFault q).1 = 0) (hi : i < E.length) (hno : ∀ j, j < i → goalA q (nth E j).1 = false) (hg : goalA q (nth E i).1 = true) : DoOk q 1 (nth E i).2 := by
  rw [DoOk, if_neg (not_not_intro hq)]
  refine ⟨true, ?_, rfl⟩
  rw [BestOk, if_pos rfl]
  refine ⟨h.bst.short _ (nth_mem hi), ⟨_, h.bst.run _ (nth_mem hi), hg⟩, fun w s hw hl hs => h.bst.found (goal := goalA q) hi hno (fun j hij hj => sle_len (h.bst.le_of hij hj)) hw hl hs⟩
theorem BestI.no (h : BestI q E mp i 0) (hq : (questFault q).1 = 0) (hi : ¬ i < E.length) (hno : ∀ j, j < i → goalA q (nth E j).1 = false) : DoOk q 2 [] := by
  rw [DoOk, if_neg (not_not_intro hq)]
  refine ⟨false, ?_, rfl⟩
  rw [BestOk, if_neg (by decide)]
  exact ⟨rfl, fun w s hw hl => h.bst.lost (goal := goalA q) hno (fun j hij hj => by omega) hw hl⟩
theorem DoOk.bad (h : DoOk q s p) (hq : (questFault q).1 ≠ 0) : s = 0 ∧ p = [] := by rw [DoOk, if_pos hq] at h; exact h
theorem DoOk.good (h : DoOk q s p) (hq : (questFault q).1 = 0) : ∃ o, BestOk q o p ∧ s = if o = true then 1 else 2 := by rw [DoOk, if_neg (not_not_intro hq)] at h; exact h
/-! ### The order as the reference tells it -/
theorem lessB_same : ∀ {k : Nat} {a b : List Int}, k < a.length → k < b.length → a.take k = b.take k → nth a k ≠ nth b k → lessB a b = decide (nth a k < nth b k)
  | 0, x :: a, y :: b, _, _, _, h => by
    have h : x ≠ y := h
    show (decide (x < y) || (decide (x = y) && lessB a b)) = decide (x < y)
    simp [h]
  | k + 1, x :: a, y :: b, h1, h2, h3, h => by
    simp only [List.take_succ_cons, List.cons.injEq] at h3
    obtain ⟨rfl, h3⟩ := h3
    show (decide (x < x) || (decide (x = x) && lessB a b)) = decide (nth a k < nth b k)
    rw [← lessB_same (by simpa using h1) (by simpa using h2) h3 h]; simp
  | _, [], _, h1, _, _, _ => by simp at h1
  | _, _ :: _, [], _, h2, _, _ => by simp at h2
theorem lessB_end : ∀ {k : Nat} {a b : List Int}, k ≤ a.length → k ≤ b.length → ¬ (k < a.length ∧ k < b.length) → a.take k = b.take k → lessB a b = decide (a.length < b.length)
  | _, [], [], _, _, _, _ => by simp [lessB]
  | _, [], _ :: _, _, _, _, _ => by simp [lessB]
  | _, _ :: _, [], _, _, _, _ => by simp [lessB]
  | 0, x :: a, y :: b, _, _, h, _ => absurd ⟨by simp, by simp⟩ h
  | k + 1, x :: a, y :: b, h1, h2, h, h3 => by
    simp only [List.take_succ_cons, List.cons.injEq] at h3
    obtain ⟨rfl, h3⟩ := h3
    show (decide (x < x) || (decide (x = x) && lessB a b)) = _
    rw [lessB_end (k := k) (by simpa using h1) (by simpa using h2) (by simpa using h) h3]; simp
end
theorem quest_best : BestOk questQ true [0] := by
  rw [BestOk, if_pos rfl]
  refine ⟨by decide, ⟨[true], by decide +kernel, by decide +kernel⟩, fun w s hw hl hg => ?_⟩
  match w with
  | [] => cases hw; exact absurd hg (by decide +kernel)
  | c :: w' =>
    have h1 : (stepB questQ (firstL questQ) c).bind (runS (stepB questQ) w') = some s := hw
    cases h2 : stepB questQ (firstL questQ) c with
    | none => rw [h2] at h1; cases h1
    | some u =>
      have h3 := stepB_rng _ _ _ h2
      have h4 : (questQ.Acts.length : Int) = 1 := by decide
      match w' with
      | [] => exact .inl (by rw [show c = 0 by omega])
      | _ :: _ => exact .inr (.inl (by simp))
theorem quest_do {s : Int} {p : List Int} (h : DoOk questQ s p) : s = 1 ∧ p = [0] := by
  obtain ⟨o, h1, h2⟩ := h.good (by decide +kernel)
  obtain ⟨rfl, rfl⟩ := h1.uniq quest_best
  exact ⟨h2, rfl⟩
section
variable {q : Quest} {p w : List Int} {s : Int}
theorem plans_no (h : DoOk q s p) (hq : (questFault q).1 = 0) (hs : s = 2) : (walkFault q w).1 ≠ 0 ∨ walkOk q w = false := by
  obtain ⟨o, h1, h2⟩ := h.good hq
  cases o with
  | true => rw [if_pos rfl] at h2; omega
  | false =>
    rw [BestOk, if_neg (by decide)] at h1
    by_cases hw : (walkFault q w).1 = 0
    · obtain ⟨h3, h4, h5⟩ := walk_runB hw
      exact .inr (by rw [h5]; exact h1.2 _ _ h3 h4)
    · exact .inl hw
theorem plans_yes (h : DoOk q s p) (hq : (questFault q).1 = 0) (hs : s ≠ 2) : s = 1 ∧ walkFault q p = (0, 0) ∧ walkOk q p = true ∧ ((walkFault q w).1 = 0 → walkOk q w = true → ¬ (w.length < p.length ∨ (w.length = p.length ∧ lessB w p = true))) := by
  obtain ⟨o, h1, h2⟩ := h.good hq
  cases o with
  | false => rw [if_neg (by decide)] at h2; omega
  | true =>
    rw [BestOk, if_pos rfl] at h1
    obtain ⟨h3, ⟨t, h4, h5⟩, h6⟩ := h1
    have h7 := runB_walk hq h4 h3
    refine ⟨h2, h7.1, by rw [h7.2, h5], fun hw ho hl => ?_⟩
    obtain ⟨h8, h9, h10⟩ := walk_runB hw
    exact sl_irrefl (sl_of_le (h6 _ _ h8 h9 (by rw [← h10]; exact ho)) hl)
theorem says_one (h : DoOk q s p) (hq : (questFault q).1 = 0) : 1 ≤ s ∧ s ≤ 2 := by
  obtain ⟨o, h1, h2⟩ := h.good hq
  cases o
  · rw [if_neg (by decide)] at h2; omega
  · rw [if_pos rfl] at h2; omega
theorem says_same (h : DoOk q s p) (hq : (questFault q).1 = 0) {o : Bool} (h2 : BestOk q o w) : s = (if o = true then 1 else 2) ∧ p = w ∧ (o = false → p = []) := by
  obtain ⟨o', h1, h3⟩ := h.good hq
  obtain ⟨rfl, rfl⟩ := h1.uniq h2
  refine ⟨h3, rfl, fun ho => ?_⟩
  subst ho
  rw [BestOk, if_neg (by decide)] at h1
  exact h1.1
end
end Go.Um
