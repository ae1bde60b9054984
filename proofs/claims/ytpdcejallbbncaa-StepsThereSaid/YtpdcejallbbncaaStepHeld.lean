/- Plans are models and models are plans (Kautz and Selman). No program is in sight. -/
import Derived.Test.YtpdcejallbbncaaStepLaw
namespace Go.Um
def litP (h : List Bool) (v : Int) : Prop := ((0 < v ∧ (1 ≤ v ∧ v ≤ (h.length : Int))) ∧ nth h (v - 1).toNat = true) ∨ ((v < 0 ∧ (1 ≤ -v ∧ -v ≤ (h.length : Int))) ∧ (!nth h (-v - 1).toNat) = true)
instance {h : List Bool} {v : Int} : Decidable (litP h v) := by unfold litP; infer_instance
def clauseB (h : List Bool) (c : List Int) : Bool := c.any fun v => decide (litP h v)
def heldB (l : List (List Int)) (h : List Bool) : Bool := l.all fun c => clauseB h c
section
variable {q : Quest} {n : Int} {h : List Bool} {l : List (List Int)} {c : List Int} {i : Nat}
theorem clauseB_yes (hi : i < c.length) (hp : litP h (nth c i)) : clauseB h (c.take (i + 1)) = true := by
  rw [take_succ_nth hi, clauseB, List.any_append]; simp [hp]
theorem clauseB_no (hi : i < c.length) (hp : ¬ litP h (nth c i)) : clauseB h (c.take (i + 1)) = clauseB h (c.take i) := by
  rw [take_succ_nth hi, clauseB, List.any_append, clauseB]; simp [hp]
theorem clauseB_nil : clauseB h (c.take 0) = false := by simp [clauseB]
theorem heldB_not (hi : i < l.length) (hc : clauseB h (nth l i) = false) : heldB l h = false := by
  rw [heldB, Bool.eq_false_iff]
  intro ha
  have := List.all_eq_true.1 ha _ (nth_mem hi)
  rw [hc] at this; cases this
theorem heldB_all (ha : ∀ j, j < l.length → clauseB h (nth l j) = true) : heldB l h = true := by
  refine List.all_eq_true.2 fun c hc => ?_
  obtain ⟨j, hj, rfl⟩ := List.mem_iff_getElem.1 hc
  rw [← nth_eq hj]; exact ha j hj
theorem heldB_iff : heldB l h = true ↔ ∀ c ∈ l, clauseB h c = true := List.all_eq_true
/-! ### All clauses, part by part -/
theorem all_clauses {P : List Int → Prop} : (∀ c ∈ clausesQ q n, P c) ↔
    (∀ f, f < q.Facts.toNat → P (if hasB q.First (f : Nat) = true then [factV q f 0] else [-factV q f 0])) ∧
    (∀ t, t < n.toNat → P (tAll q n t q.Acts.length) ∧ (∀ a, a < q.Acts.length → ∀ b, b < a → P [-actV q n b t, -actV q n a t]) ∧
      (∀ a, a < q.Acts.length → (∀ f ∈ (nth q.Acts a).Need, P [factV q f t, -actV q n a t]) ∧ (∀ f ∈ (nth q.Acts a).Bar, P [-factV q f t, -actV q n a t]) ∧
        (∀ f ∈ (nth q.Acts a).Add, P [factV q f (t + 1), -actV q n a t]) ∧ (∀ f ∈ (nth q.Acts a).Drop, P [-factV q f (t + 1), -actV q n a t])) ∧
      ∀ f, f < q.Facts.toNat → P (tRise q n t f q.Acts.length) ∧ P (tFall q n t f q.Acts.length)) ∧
    ∀ g ∈ q.Goal, P [factV q g n] := by
  rw [clausesQ]
  simp only [List.forall_mem_append]
  rw [and_assoc]
  refine and_congr ?_ (and_congr ?_ ?_)
  · rw [cFirst]; simp only [List.forall_mem_map, List.mem_range]
  · rw [cTimes]; simp only [List.mem_flatMap, List.mem_range]
    constructor
    · intro hh t ht
      have h1 : ∀ c ∈ timeC q n t, P c := fun c hc => hh c ⟨t, ht, hc⟩
      rw [timeC] at h1
      simp only [List.forall_mem_append, List.forall_mem_singleton] at h1
      obtain ⟨⟨⟨h1, h2⟩, h3⟩, h4⟩ := h1
      refine ⟨h1, fun a ha b hb => h2 _ ?_, fun a ha => ?_, fun f hf => ?_⟩
      · exact List.mem_flatMap.2 ⟨a, List.mem_range.2 ha, List.mem_map.2 ⟨b, List.mem_range.2 hb, rfl⟩⟩
      · have h5 : ∀ c ∈ tAct q n t a, P c := fun c hc => h3 c (List.mem_flatMap.2 ⟨a, List.mem_range.2 ha, hc⟩)
        rw [tAct] at h5
        simp only [List.forall_mem_append, tPos, tNeg, List.forall_mem_map] at h5
        exact ⟨h5.1.1.1, h5.1.1.2, h5.1.2, h5.2⟩
      · have h5 : ∀ c ∈ [tRise q n t f q.Acts.length, tFall q n t f q.Acts.length], P c := fun c hc => h4 c (List.mem_flatMap.2 ⟨f, List.mem_range.2 hf, hc⟩)
        exact ⟨h5 _ (List.mem_cons_self ..), h5 _ (List.mem_cons_of_mem _ (List.mem_cons_self ..))⟩
    · rintro hh c ⟨t, ht, hc⟩
      obtain ⟨h1, h2, h3, h4⟩ := hh t ht
      rw [timeC] at hc
      simp only [List.mem_append, List.mem_singleton] at hc
      rcases hc with ((hc | hc) | hc) | hc
      · rw [hc]; exact h1
      · obtain ⟨a, ha, hc⟩ := List.mem_flatMap.1 hc
        obtain ⟨b, hb, rfl⟩ := List.mem_map.1 hc
        exact h2 a (List.mem_range.1 ha) b (List.mem_range.1 hb)
      · obtain ⟨a, ha, hc⟩ := List.mem_flatMap.1 hc
        obtain ⟨g1, g2, g3, g4⟩ := h3 a (List.mem_range.1 ha)
        rw [tAct] at hc
        simp only [List.mem_append, tPos, tNeg, List.mem_map] at hc
        rcases hc with ((⟨f, hf, rfl⟩ | ⟨f, hf, rfl⟩) | ⟨f, hf, rfl⟩) | ⟨f, hf, rfl⟩
        · exact g1 f hf
        · exact g2 f hf
        · exact g3 f hf
        · exact g4 f hf
      · obtain ⟨f, hf, hc⟩ := List.mem_flatMap.1 hc
        obtain ⟨g1, g2⟩ := h4 f (List.mem_range.1 hf)
        rcases List.mem_cons.1 hc with rfl | hc
        · exact g1
        · rw [List.mem_singleton.1 hc]; exact g2
  · rw [cGoal]; simp only [List.forall_mem_map]
/-! ### Literals -/
theorem litP_pos {v : Int} (h1 : 1 ≤ v) (h2 : v ≤ (h.length : Int)) : litP h v ↔ nth h (v - 1).toNat = true :=
  ⟨fun hh => hh.elim (fun hh => hh.2) fun hh => by have := hh.1.1; omega, fun hh => .inl ⟨⟨by omega, h1, h2⟩, hh⟩⟩
theorem litP_neg {v : Int} (h1 : 1 ≤ v) (h2 : v ≤ (h.length : Int)) : litP h (-v) ↔ ¬ nth h (v - 1).toNat = true := by
  have e : -(-v) - 1 = v - 1 := by omega
  rw [Bool.not_eq_true]
  constructor
  · rintro (hh | hh)
    · have := hh.1.1; omega
    · have h3 := hh.2; rw [e] at h3; simpa using h3
  · intro hh; exact .inr ⟨⟨by omega, by omega, by omega⟩, by rw [e, hh]; rfl⟩
theorem fact_in (hQ : QW q) (hn : 0 ≤ n ∧ n ≤ 20) (hl : (h.length : Int) = varsN q n) {f t : Int} (hf : 0 ≤ f ∧ f < q.Facts) (ht : 0 ≤ t ∧ t ≤ n) : 1 ≤ factV q f t ∧ factV q f t ≤ (h.length : Int) := by
  have h1 := (fact_rng hQ (f := f) (t := t) (by have := hQ.facts; omega) (by omega)).2.2.1
  have h2 : t * q.Facts ≤ n * q.Facts := Int.mul_le_mul_of_nonneg_right ht.2 (by have := hQ.facts; omega)
  have h3 : (n + 1) * q.Facts = n * q.Facts + q.Facts := by rw [Int.add_mul, Int.one_mul]
  have h4 := (vars_rng hQ hn).2.2.1
  rw [hl, varsN, h3]
  refine ⟨h1, ?_⟩
  unfold factV; omega
theorem act_in (hQ : QW q) (hn : 0 ≤ n ∧ n ≤ 20) (hl : (h.length : Int) = varsN q n) {k u : Nat} (hu : u < n.toNat) (hk : k < q.Acts.length) : 1 ≤ actV q n (k : Nat) (u : Nat) ∧ actV q n (k : Nat) (u : Nat) ≤ (h.length : Int) := by
  have := act_lt hQ hn (u := u) (k := k) (by omega) hk
  rw [hl]; omega
/-- The literals are small. -/
theorem lits_small (hQ : QW q) (hn : 0 ≤ n ∧ n ≤ 20) : ∀ c ∈ clausesQ q n, ∀ v ∈ c, -1000 ≤ v ∧ v ≤ 1000 := by
  have hfx := hQ.facts
  have hmy := hQ.many
  have hF : ∀ f t : Int, 0 ≤ f ∧ f < q.Facts → 0 ≤ t ∧ t ≤ 21 → 1 ≤ factV q f t ∧ factV q f t ≤ 353 := fun f t h1 h2 => (fact_rng hQ (by omega) h2).2.2
  have hA : ∀ a t : Nat, a < q.Acts.length → t < n.toNat → 1 ≤ actV q n (a : Nat) (t : Nat) ∧ actV q n (a : Nat) (t : Nat) ≤ 601 := fun a t h1 h2 => (act_rng hQ hn (by omega) (by omega)).2.2.2.2
  have pair : ∀ {x y : Int}, (-1000 ≤ x ∧ x ≤ 1000) → (-1000 ≤ y ∧ y ≤ 1000) → ∀ v ∈ [x, y], -1000 ≤ v ∧ v ≤ 1000 := fun {x y} h1 h2 v hv => by
    rcases List.mem_cons.1 hv with rfl | hv
    · exact h1
    · rw [List.mem_singleton.1 hv]; exact h2
  refine all_clauses.2 ⟨fun f hf v hv => ?_, fun t ht => ⟨?_, ?_, ?_, ?_⟩, fun g hg v hv => ?_⟩
  · have := hF f 0 (by omega) (by omega)
    split at hv <;> (rw [List.mem_singleton.1 hv]; omega)
  · intro v hv
    obtain ⟨a, ha, rfl⟩ := List.mem_map.1 hv
    have := hA a t (List.mem_range.1 ha) ht; omega
  · intro a ha b hb
    have h1 := hA a t ha ht
    have h2 := hA b t (by omega) ht
    exact pair (by omega) (by omega)
  · intro a ha
    have h1 := hA a t ha ht
    have hfm := hQ.form a ha
    refine ⟨fun f hf => ?_, fun f hf => ?_, fun f hf => ?_, fun f hf => ?_⟩
    · have h2 := hF f t (hfm.1.1.1.mem hf) (by omega); exact pair (by omega) (by omega)
    · have h2 := hF f t (hfm.1.1.2.mem hf) (by omega); exact pair (by omega) (by omega)
    · have h2 := hF f (t + 1) (hfm.1.2.mem hf) (by omega); exact pair (by omega) (by omega)
    · have h2 := hF f (t + 1) (hfm.2.mem hf) (by omega); exact pair (by omega) (by omega)
  · intro f hf
    have h1 := hF f t (by omega) (by omega)
    have h2 := hF f (t + 1) (by omega) (by omega)
    constructor
    · intro v hv
      rcases List.mem_append.1 hv with hv | hv
      · exact pair (by omega) (by omega) v hv
      · obtain ⟨a, ha, rfl⟩ := List.mem_map.1 hv
        have := hA a t (List.mem_range.1 (List.mem_filter.1 ha).1) ht; omega
    · intro v hv
      rcases List.mem_append.1 hv with hv | hv
      · exact pair (by omega) (by omega) v hv
      · obtain ⟨a, ha, rfl⟩ := List.mem_map.1 hv
        have := hA a t (List.mem_range.1 (List.mem_filter.1 ha).1) ht; omega
  · have := hF g n (hQ.goal.mem hg) (by omega)
    rw [List.mem_singleton.1 hv]; omega
/-! ### What holds, in facts and acts -/
/-- Ahead of the goal. -/
structure RunT (q : Quest) (n : Nat) (F : Nat → Int → Bool) (A : Nat → Nat → Bool) : Prop where
  first : ∀ f : Nat, f < q.Facts.toNat → F 0 f = hasB q.First f
  some : ∀ t, t < n → ∃ a, a < q.Acts.length ∧ A t a = true
  one : ∀ t, t < n → ∀ a, a < q.Acts.length → ∀ b, b < a → ¬ (A t b = true ∧ A t a = true)
  need : ∀ t, t < n → ∀ a, a < q.Acts.length → A t a = true → ∀ f ∈ (nth q.Acts a).Need, F t f = true
  bar : ∀ t, t < n → ∀ a, a < q.Acts.length → A t a = true → ∀ f ∈ (nth q.Acts a).Bar, ¬ F t f = true
  add : ∀ t, t < n → ∀ a, a < q.Acts.length → A t a = true → ∀ f ∈ (nth q.Acts a).Add, F (t + 1) f = true
  drop : ∀ t, t < n → ∀ a, a < q.Acts.length → A t a = true → ∀ f ∈ (nth q.Acts a).Drop, ¬ F (t + 1) f = true
  rise : ∀ t, t < n → ∀ f : Nat, f < q.Facts.toNat → F (t + 1) f = true → F t f = true ∨ ∃ a, a < q.Acts.length ∧ hasB (nth q.Acts a).Add (f : Nat) = true ∧ A t a = true
  fall : ∀ t, t < n → ∀ f : Nat, f < q.Facts.toNat → F t f = true → F (t + 1) f = true ∨ ∃ a, a < q.Acts.length ∧ hasB (nth q.Acts a).Drop (f : Nat) = true ∧ A t a = true
theorem pair_iff {x y : Int} : clauseB h [x, y] = true ↔ litP h x ∨ litP h y := by simp [clauseB]
theorem one_iff {x : Int} : clauseB h [x] = true ↔ litP h x := by simp [clauseB]
theorem frame_iff {x y : Int} {g : Nat → Bool} {v : Nat → Int} {m : Nat} : clauseB h ([x, y] ++ ((List.range m).filter g).map v) = true ↔ (litP h x ∨ litP h y) ∨ ∃ a, a < m ∧ g a = true ∧ litP h (v a) := by
  rw [clauseB, List.any_append, Bool.or_eq_true]
  refine or_congr pair_iff ?_
  rw [List.any_eq_true]
  constructor
  · rintro ⟨w, hw, hp⟩
    obtain ⟨a, ha, rfl⟩ := List.mem_map.1 hw
    obtain ⟨h1, h2⟩ := List.mem_filter.1 ha
    exact ⟨a, List.mem_range.1 h1, h2, of_decide_eq_true hp⟩
  · rintro ⟨a, h1, h2, h3⟩
    exact ⟨v a, List.mem_map.2 ⟨a, List.mem_filter.2 ⟨List.mem_range.2 h1, h2⟩, rfl⟩, decide_eq_true h3⟩
def factH (q : Quest) (h : List Bool) (t : Nat) (f : Int) : Bool := nth h (factV q f (t : Nat) - 1).toNat
def actH (q : Quest) (n : Int) (h : List Bool) (t : Nat) (a : Nat) : Bool := nth h (actV q n (a : Nat) (t : Nat) - 1).toNat
theorem imp_iff {a b : Prop} [Decidable a] : (¬ a ∨ b) ↔ (a → b) := ⟨fun h ha => h.elim (fun h => absurd ha h) id, fun h => if ha : a then .inr (h ha) else .inl ha⟩
theorem held_iff (hQ : QW q) (hn : 0 ≤ n ∧ n ≤ 20) (hl : (h.length : Int) = varsN q n) :
    heldB (clausesQ q n) h = true ↔ RunT q n.toNat (factH q h) (actH q n h) ∧ ∀ g ∈ q.Goal, factH q h n.toNat g = true := by
  have fp : ∀ {f : Int} {t : Nat}, 0 ≤ f ∧ f < q.Facts → t ≤ n.toNat → (litP h (factV q f (t : Nat)) ↔ factH q h t f = true) := fun {f t} h1 h2 => by
    have := fact_in hQ hn hl (f := f) (t := (t : Nat)) h1 (by omega)
    exact litP_pos this.1 this.2
  have fn : ∀ {f : Int} {t : Nat}, 0 ≤ f ∧ f < q.Facts → t ≤ n.toNat → (litP h (-factV q f (t : Nat)) ↔ ¬ factH q h t f = true) := fun {f t} h1 h2 => by
    have := fact_in hQ hn hl (f := f) (t := (t : Nat)) h1 (by omega)
    exact litP_neg this.1 this.2
  have ap : ∀ {a t : Nat}, a < q.Acts.length → t < n.toNat → (litP h (actV q n (a : Nat) (t : Nat)) ↔ actH q n h t a = true) := fun {a t} h1 h2 => by
    have := act_in hQ hn hl h2 h1
    exact litP_pos this.1 this.2
  have an : ∀ {a t : Nat}, a < q.Acts.length → t < n.toNat → (litP h (-actV q n (a : Nat) (t : Nat)) ↔ ¬ actH q n h t a = true) := fun {a t} h1 h2 => by
    have := act_in hQ hn hl h2 h1
    exact litP_neg this.1 this.2
  have hfx := hQ.facts
  rw [heldB_iff, all_clauses]
  have eF : ∀ f : Nat, f < q.Facts.toNat → (clauseB h (if hasB q.First (f : Nat) = true then [factV q f 0] else [-factV q f 0]) = true ↔ factH q h 0 f = hasB q.First f) := fun f hf => by
    have h1 := fp (f := (f : Nat)) (t := 0) (by omega) (Nat.zero_le _)
    have h2 := fn (f := (f : Nat)) (t := 0) (by omega) (Nat.zero_le _)
    cases hb : hasB q.First (f : Nat) with
    | true => rw [if_pos rfl, one_iff]; exact h1
    | false => rw [if_neg (by decide), one_iff]; exact h2.trans (Bool.not_eq_true _ ▸ Iff.rfl)
  have eS : ∀ t, t < n.toNat → (clauseB h (tAll q n t q.Acts.length) = true ↔ ∃ a, a < q.Acts.length ∧ actH q n h t a = true) := fun t ht => by
    rw [clauseB, List.any_eq_true]
    constructor
    · rintro ⟨w, hw, hp⟩
      obtain ⟨a, ha, rfl⟩ := List.mem_map.1 hw
      exact ⟨a, List.mem_range.1 ha, (ap (List.mem_range.1 ha) ht).1 (of_decide_eq_true hp)⟩
    · rintro ⟨a, ha, hp⟩
      exact ⟨_, List.mem_map.2 ⟨a, List.mem_range.2 ha, rfl⟩, decide_eq_true ((ap ha ht).2 hp)⟩
  have eG : (∀ g ∈ q.Goal, clauseB h [factV q g n] = true) ↔ ∀ g ∈ q.Goal, factH q h n.toNat g = true :=
    forall_congr' fun g => forall_congr' fun hg => by
      have h1 := fp (f := g) (t := n.toNat) (hQ.goal.mem hg) (Nat.le_refl _)
      rw [show ((n.toNat : Nat) : Int) = n by omega] at h1
      rw [one_iff]; exact h1
  have eR : ∀ t, t < n.toNat → ∀ f : Nat, f < q.Facts.toNat → (clauseB h (tRise q n t f q.Acts.length) = true ↔ (factH q h (t + 1) f = true → factH q h t f = true ∨ ∃ a, a < q.Acts.length ∧ hasB (nth q.Acts a).Add (f : Nat) = true ∧ actH q n h t a = true)) := fun t ht f hf => by
    rw [tRise, frame_iff, fp (by omega) (by omega), show ((t : Nat) : Int) + 1 = ((t + 1 : Nat) : Int) from rfl, fn (by omega) (by omega), ← imp_iff, or_comm (a := factH q h t f = true), or_assoc]
    refine or_congr Iff.rfl (or_congr Iff.rfl ⟨?_, ?_⟩)
    · rintro ⟨a, h1, h2, h3⟩; exact ⟨a, h1, h2, (ap h1 ht).1 h3⟩
    · rintro ⟨a, h1, h2, h3⟩; exact ⟨a, h1, h2, (ap h1 ht).2 h3⟩
  have eL : ∀ t, t < n.toNat → ∀ f : Nat, f < q.Facts.toNat → (clauseB h (tFall q n t f q.Acts.length) = true ↔ (factH q h t f = true → factH q h (t + 1) f = true ∨ ∃ a, a < q.Acts.length ∧ hasB (nth q.Acts a).Drop (f : Nat) = true ∧ actH q n h t a = true)) := fun t ht f hf => by
    rw [tFall, frame_iff, fn (by omega) (by omega), show ((t : Nat) : Int) + 1 = ((t + 1 : Nat) : Int) from rfl, fp (by omega) (by omega), ← imp_iff, or_assoc]
    refine or_congr Iff.rfl (or_congr Iff.rfl ⟨?_, ?_⟩)
    · rintro ⟨a, h1, h2, h3⟩; exact ⟨a, h1, h2, (ap h1 ht).1 h3⟩
    · rintro ⟨a, h1, h2, h3⟩; exact ⟨a, h1, h2, (ap h1 ht).2 h3⟩
  rw [eG, ← and_assoc]
  refine and_congr ⟨?_, ?_⟩ Iff.rfl
  · rintro ⟨h1, h2⟩
    refine ⟨fun f hf => (eF f hf).1 (h1 f hf), fun t ht => (eS t ht).1 (h2 t ht).1, fun t ht a ha b hb => ?_, fun t ht a ha hx f hf => ?_, fun t ht a ha hx f hf => ?_, fun t ht a ha hx f hf => ?_, fun t ht a ha hx f hf => ?_, fun t ht f hf => (eR t ht f hf).1 ((h2 t ht).2.2.2 f hf).1, fun t ht f hf => (eL t ht f hf).1 ((h2 t ht).2.2.2 f hf).2⟩
    · have h3 := pair_iff.1 ((h2 t ht).2.1 a ha b hb)
      rw [an (by omega) ht, an ha ht] at h3
      rintro ⟨h4, h5⟩; exact h3.elim (fun h => h h4) fun h => h h5
    · have h3 := pair_iff.1 (((h2 t ht).2.2.1 a ha).1 f hf)
      rw [fp ((hQ.form a ha).1.1.1.mem hf) (by omega), an ha ht] at h3
      exact h3.elim id fun h => absurd hx h
    · have h3 := pair_iff.1 (((h2 t ht).2.2.1 a ha).2.1 f hf)
      rw [fn ((hQ.form a ha).1.1.2.mem hf) (by omega), an ha ht] at h3
      exact h3.elim id fun h => absurd hx h
    · have h3 := pair_iff.1 (((h2 t ht).2.2.1 a ha).2.2.1 f hf)
      rw [show ((t : Nat) : Int) + 1 = ((t + 1 : Nat) : Int) from rfl, fp ((hQ.form a ha).1.2.mem hf) (by omega), an ha ht] at h3
      exact h3.elim id fun h => absurd hx h
    · have h3 := pair_iff.1 (((h2 t ht).2.2.1 a ha).2.2.2 f hf)
      rw [show ((t : Nat) : Int) + 1 = ((t + 1 : Nat) : Int) from rfl, fn ((hQ.form a ha).2.mem hf) (by omega), an ha ht] at h3
      exact h3.elim id fun h => absurd hx h
  · intro hR
    refine ⟨fun f hf => (eF f hf).2 (hR.first f hf), fun t ht => ⟨(eS t ht).2 (hR.some t ht), fun a ha b hb => pair_iff.2 ?_, fun a ha => ⟨fun f hf => pair_iff.2 ?_, fun f hf => pair_iff.2 ?_, fun f hf => pair_iff.2 ?_, fun f hf => pair_iff.2 ?_⟩, fun f hf => ⟨(eR t ht f hf).2 (hR.rise t ht f hf), (eL t ht f hf).2 (hR.fall t ht f hf)⟩⟩⟩
    · rw [an (by omega) ht, an ha ht]
      have := hR.one t ht a ha b hb
      by_cases h1 : actH q n h t b = true
      · exact .inr fun h2 => this ⟨h1, h2⟩
      · exact .inl h1
    · rw [fp ((hQ.form a ha).1.1.1.mem hf) (by omega), an ha ht, or_comm, imp_iff]
      exact fun hx => hR.need t ht a ha hx f hf
    · rw [fn ((hQ.form a ha).1.1.2.mem hf) (by omega), an ha ht, or_comm, imp_iff]
      exact fun hx => hR.bar t ht a ha hx f hf
    · rw [show ((t : Nat) : Int) + 1 = ((t + 1 : Nat) : Int) from rfl, fp ((hQ.form a ha).1.2.mem hf) (by omega), an ha ht, or_comm, imp_iff]
      exact fun hx => hR.add t ht a ha hx f hf
    · rw [show ((t : Nat) : Int) + 1 = ((t + 1 : Nat) : Int) from rfl, fn ((hQ.form a ha).2.mem hf) (by omega), an ha ht, or_comm, imp_iff]
      exact fun hx => hR.drop t ht a ha hx f hf
end
end Go.Um
