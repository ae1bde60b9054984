/- The walk of a plan and its model, both ways. No program is in sight. -/
import Derived.Test.YtpdcejallbbncaaStepHeld
namespace Go.Um
section
variable {q : Quest} {n : Int} {h : List Bool} {plan : List Int}
theorem nth_take' {α : Type} [Inhabited α] {l : List α} {j k : Nat} (h : j < k) : nth (l.take k) j = nth l j := by simp [nth, List.getElem?_take, h]
theorem nth_app_right {α : Type} [Inhabited α] {l m : List α} {i k : Nat} (h : i = l.length + k) : nth (l ++ m) i = nth m k := by subst h; simp [nth, List.getElem?_append_right]
/-- What holds after k steps. -/
def stt (q : Quest) (plan : List Int) : Nat → List Bool
  | 0 => firstL q
  | k + 1 => afterA (nth q.Acts (nth plan k).toNat) (stt q plan k)
theorem stt_len : ∀ k, (stt q plan k).length = q.Facts.toNat
  | 0 => firstL_len
  | k + 1 => by rw [stt, afterA_len, stt_len k]
def StepOk (q : Quest) (plan : List Int) (S : Nat → List Bool) (t : Nat) : Prop := (0 ≤ nth plan t ∧ nth plan t < (q.Acts.length : Int)) ∧ canA (nth q.Acts (nth plan t).toNat) (S t) = true ∧ S (t + 1) = afterA (nth q.Acts (nth plan t).toNat) (S t)
theorem walkR_run {S : Nat → List Bool} : ∀ (d i k : Nat), plan.length = k + d → (∀ t, k ≤ t → t < plan.length → StepOk q plan S t) → walkR q i (plan.drop k) (S k) = ((0, 0), S plan.length)
  | 0, i, k, hd, _ => by rw [walkR_end (by omega), show plan.length = k by omega]
  | d + 1, i, k, hd, hs => by
    obtain ⟨h1, h2, h3⟩ := hs k (Nat.le_refl _) (by omega)
    rw [walkR_step (by omega) h1 h2, ← h3]
    exact walkR_run d (i + 1) (k + 1) (by omega) fun t h4 h5 => hs t (by omega) h5
theorem walkR_steps (h0 : (walkR q 0 plan (firstL q)).1.1 = 0) : ∀ k, k ≤ plan.length → walkR q 0 plan (firstL q) = walkR q k (plan.drop k) (stt q plan k) ∧ ∀ t, t < k → StepOk q plan (stt q plan) t
  | 0, _ => ⟨rfl, fun t ht => absurd ht (Nat.not_lt_zero _)⟩
  | k + 1, hk => by
    obtain ⟨h1, h2⟩ := walkR_steps h0 k (by omega)
    by_cases hp : 0 ≤ nth plan k ∧ nth plan k < (q.Acts.length : Int)
    · by_cases hc : canA (nth q.Acts (nth plan k).toNat) (stt q plan k) = true
      · refine ⟨h1.trans (walkR_step (by omega) hp hc), fun t ht => ?_⟩
        by_cases he : t = k
        · rw [he]; exact ⟨hp, hc, rfl⟩
        · exact h2 t (by omega)
      · rw [h1, walkR_state (by omega) hp hc] at h0; cases h0
    · rw [h1, walkR_range (by omega) hp] at h0; cases h0
theorem stt_take {k : Nat} : ∀ j, j ≤ k → stt q (plan.take k) j = stt q plan j
  | 0, _ => rfl
  | j + 1, hj => by rw [stt, stt, stt_take j (by omega), nth_take' (by omega)]
/-- A plan that is walked: each step, and what holds after the first ones. -/
theorem walked (h0 : (walkFault q plan).1 = 0) : (∀ t, t < plan.length → StepOk q plan (stt q plan) t) ∧ (∀ k, k ≤ plan.length → (walkFault q (plan.take k)).1 = 0 ∧ walkNow q (plan.take k) = stt q plan k) ∧ walkOk q plan = goalA q (stt q plan plan.length) := by
  obtain ⟨hQ, h1, h2, h3, h4, h5⟩ := walkFault_zero h0
  have hs := (walkR_steps h3 plan.length (Nat.le_refl _)).2
  have hall := walkR_run (q := q) (plan := plan) (S := stt q plan) plan.length 0 0 (by omega) fun t _ ht => hs t ht
  refine ⟨hs, fun k hk => ?_, ?_⟩
  · have hl : (plan.take k).length = k := by rw [List.length_take]; omega
    have hw := walkR_run (q := q) (plan := plan.take k) (S := stt q plan) k 0 0 (by omega) fun t _ ht => by
      rw [hl] at ht
      have := hs t (by omega)
      unfold StepOk at this ⊢
      rw [nth_take' ht]; exact this
    rw [hl] at hw
    have hg := walk_good (q := q) (plan := plan.take k) (now := stt q plan k) (fun hh => hh h1) (by omega) hw
    exact ⟨by rw [hg.1], hg.2.1⟩
  · rw [h5]
    have e : walkR q 0 plan (firstL q) = ((0, 0), stt q plan plan.length) := hall
    rw [e]
/-! ### Rows of blocks -/
theorem nth_blocks {α : Type} [Inhabited α] {g : Nat → List α} {L : Nat} : ∀ m, (∀ t, t < m → (g t).length = L) → ((List.range m).flatMap g).length = m * L ∧ ∀ t f, t < m → f < L → nth ((List.range m).flatMap g) (t * L + f) = nth (g t) f
  | 0, _ => ⟨by simp, fun t f ht => absurd ht (Nat.not_lt_zero _)⟩
  | m + 1, hg => by
    obtain ⟨h1, h2⟩ := nth_blocks m fun t ht => hg t (by omega)
    have e : (List.range (m + 1)).flatMap g = (List.range m).flatMap g ++ g m := by rw [List.range_succ, List.flatMap_append]; simp
    rw [e]
    refine ⟨by rw [List.length_append, h1, hg m (by omega), Nat.add_mul, Nat.one_mul], fun t f ht hf => ?_⟩
    by_cases hm : t = m
    · subst hm
      exact nth_app_right (by rw [h1])
    · have hlt : t * L + f < m * L := by
        have : (t + 1) * L ≤ m * L := Nat.mul_le_mul_right _ (by omega)
        rw [Nat.add_mul, Nat.one_mul] at this; omega
      rw [nth_app_left' (by rw [h1]; exact hlt)]
      exact h2 t f (by omega) hf
/-! ### The assignment of a plan -/
def thereF (q : Quest) (plan : List Int) (m : Nat) : List Bool := (List.range m).flatMap fun k => walkNow q (plan.take k)
def isAt (plan : List Int) (t m : Nat) : List Bool := (List.range m).map fun (k : Nat) => decide ((k : Int) = nth plan t)
def thereA (q : Quest) (plan : List Int) (m : Nat) : List Bool := (List.range m).flatMap fun t => isAt plan t q.Acts.length
def thereH (q : Quest) (plan : List Int) : List Bool := thereF q plan (plan.length + 1) ++ thereA q plan plan.length
theorem thereF_next {k : Nat} : thereF q plan (k + 1) = thereF q plan k ++ walkNow q (plan.take k) := by rw [thereF, List.range_succ, List.flatMap_append]; simp [thereF]
theorem thereA_next {k : Nat} : thereA q plan (k + 1) = thereA q plan k ++ isAt plan k q.Acts.length := by rw [thereA, List.range_succ, List.flatMap_append]; simp [thereA]
theorem isAt_next {t k : Nat} : isAt plan t (k + 1) = isAt plan t k ++ [decide ((k : Int) = nth plan t)] := by rw [isAt, List.range_succ, List.map_append]; rfl
theorem isAt_len {t k : Nat} : (isAt plan t k).length = k := by simp [isAt]
theorem thereF_len (h0 : (walkFault q plan).1 = 0) {m : Nat} (hm : m ≤ plan.length + 1) : (thereF q plan m).length = m * q.Facts.toNat :=
  (nth_blocks m fun t ht => by rw [((walked h0).2.1 t (by omega)).2]; exact stt_len t).1
theorem thereA_len {m : Nat} : (thereA q plan m).length = m * q.Acts.length := (nth_blocks m fun t _ => isAt_len).1
theorem thereH_len (h0 : (walkFault q plan).1 = 0) : ((thereH q plan).length : Int) = varsN q plan.length := by
  have hf := (walkFault_zero h0).1.facts
  have : ((plan.length + 1) * q.Facts.toNat + plan.length * q.Acts.length : Nat) = (((plan.length : Int) + 1) * q.Facts + (plan.length : Int) * (q.Acts.length : Int)) := by
    rw [Int.natCast_add, Int.natCast_mul, Int.natCast_mul, Int.toNat_of_nonneg (by omega)]; rfl
  rw [thereH, List.length_append, thereF_len h0 (Nat.le_refl _), thereA_len, this, varsN]
theorem there_fact (h0 : (walkFault q plan).1 = 0) {t : Nat} (ht : t ≤ plan.length) {f : Int} (hf : 0 ≤ f ∧ f < q.Facts) : factH q (thereH q plan) t f = nth (stt q plan t) f.toNat := by
  have hw := (walked h0).2.1
  have hb := nth_blocks (g := fun k => walkNow q (plan.take k)) (L := q.Facts.toNat) (plan.length + 1) fun t ht => by rw [(hw t (by omega)).2]; exact stt_len t
  have e : (factV q f (t : Nat) - 1).toNat = t * q.Facts.toNat + f.toNat := by
    have h1 : ((t * q.Facts.toNat + f.toNat : Nat) : Int) = (t : Int) * q.Facts + f := by
      rw [Int.natCast_add, Int.natCast_mul, Int.toNat_of_nonneg (by omega), Int.toNat_of_nonneg (by omega)]
    unfold factV; omega
  have h2 := hb.2 t f.toNat (by omega) (by omega)
  rw [factH, e, thereH, nth_app_left' (by
    have h3 : (t + 1) * q.Facts.toNat ≤ (plan.length + 1) * q.Facts.toNat := Nat.mul_le_mul_right _ (by omega)
    rw [Nat.add_mul t, Nat.one_mul] at h3
    rw [thereF_len h0 (Nat.le_refl _)]; omega), thereF, h2, (hw t ht).2]
theorem there_act (h0 : (walkFault q plan).1 = 0) {t a : Nat} (ht : t < plan.length) (ha : a < q.Acts.length) : actH q plan.length (thereH q plan) t a = decide ((a : Int) = nth plan t) := by
  have hfx := (walkFault_zero h0).1.facts
  have hb := nth_blocks (g := fun t => isAt plan t q.Acts.length) (L := q.Acts.length) plan.length fun t _ => isAt_len
  have e : (actV q plan.length (a : Nat) (t : Nat) - 1).toNat = (plan.length + 1) * q.Facts.toNat + (t * q.Acts.length + a) := by
    have h1 : (((plan.length + 1) * q.Facts.toNat + (t * q.Acts.length + a) : Nat) : Int) = ((plan.length : Int) + 1) * q.Facts + ((t : Int) * (q.Acts.length : Int) + (a : Int)) := by
      have e2 : ((q.Facts.toNat : Nat) : Int) = q.Facts := by omega
      push_cast; rw [e2]
    unfold actV; omega
  have h2 := hb.2 t a ht ha
  have h3 : nth (thereF q plan (plan.length + 1) ++ thereA q plan plan.length) ((plan.length + 1) * q.Facts.toNat + (t * q.Acts.length + a)) = nth (thereA q plan plan.length) (t * q.Acts.length + a) := by
    exact nth_app_right (by rw [thereF_len h0 (Nat.le_refl _)])
  rw [actH, e, thereH, h3, thereA, h2, isAt, nth_range ha]
theorem canA_at {a : Act} {now : List Bool} (hc : canA a now = true) {f : Nat} (hf : f < now.length) : (hasB a.Need (f : Nat) = true → nth now f = true) ∧ (hasB a.Bar (f : Nat) = true → ¬ nth now f = true) := by
  have h1 := (of_decide_eq_true hc) f hf
  unfold canBad at h1
  obtain ⟨h2, h3⟩ := not_or.1 h1
  constructor
  · intro hh
    cases hb : nth now f with
    | true => rfl
    | false => exact absurd ⟨hh, by rw [hb]; rfl⟩ h2
  · exact fun hh hx => h3 ⟨hh, hx⟩
theorem afterA_at {a : Act} {now : List Bool} {f : Nat} (hf : f < now.length) : nth (afterA a now) f = true ↔ (hasB a.Add (f : Nat) = true ∨ (nth now f = true ∧ ¬ hasB a.Drop (f : Nat) = true)) := by
  rw [afterA, nth_range hf, decide_eq_true_iff]; simp
theorem has_mem {l : List Int} {f : Int} : hasB l f = true ↔ f ∈ l := decide_eq_true_iff
theorem not_drop {a : Act} {f : Int} (h : ¬ actTwice a) (hf : hasB a.Add f = true) : ¬ hasB a.Drop f = true := fun h2 => h (.inl (shareB_at hf h2))
theorem there_run (h0 : (walkFault q plan).1 = 0) : RunT q plan.length (factH q (thereH q plan)) (actH q plan.length (thereH q plan)) := by
  obtain ⟨hs, hw, _⟩ := walked h0
  have hQ := (walkFault_zero h0).1
  have hfx := hQ.facts
  have aa : ∀ {t a : Nat}, t < plan.length → a < q.Acts.length → (actH q plan.length (thereH q plan) t a = true ↔ (a : Int) = nth plan t) := fun ht ha => by rw [there_act h0 ht ha, decide_eq_true_iff]
  have is : ∀ {t a : Nat}, t < plan.length → a < q.Acts.length → actH q plan.length (thereH q plan) t a = true → canA (nth q.Acts a) (stt q plan t) = true ∧ stt q plan (t + 1) = afterA (nth q.Acts a) (stt q plan t) := fun {t a} ht ha hx => by
    have h1 := (aa ht ha).1 hx
    have h2 := (hs t ht).2
    rwa [← h1, Int.toNat_natCast] at h2
  have ff : ∀ {t : Nat} {f : Int}, t ≤ plan.length → 0 ≤ f ∧ f < q.Facts → (factH q (thereH q plan) t f = true ↔ nth (stt q plan t) f.toNat = true) := fun ht hf => by rw [there_fact h0 ht hf]
  have nat : ∀ {f : Int}, 0 ≤ f ∧ f < q.Facts → ((f.toNat : Nat) : Int) = f := fun hf => by omega
  refine ⟨fun f hf => ?_, fun t ht => ?_, fun t ht a ha b hb => ?_, fun t ht a ha hx f hf => ?_, fun t ht a ha hx f hf => ?_, fun t ht a ha hx f hf => ?_, fun t ht a ha hx f hf => ?_, fun t ht f hf hx => ?_, fun t ht f hf hx => ?_⟩
  · rw [there_fact h0 (Nat.zero_le _) (by omega), stt, firstL, Int.toNat_natCast, nth_range hf]
  · have h1 := (hs t ht).1
    exact ⟨(nth plan t).toNat, by omega, (aa ht (by omega)).2 (by omega)⟩
  · rintro ⟨h1, h2⟩
    rw [aa ht (by omega)] at h1
    rw [aa ht ha] at h2
    omega
  · have hm := (hQ.form a ha).1.1.1.mem hf
    have h1 := (canA_at (is ht ha hx).1 (f := f.toNat) (by rw [stt_len]; omega)).1
    rw [nat hm] at h1
    exact (ff (by omega) hm).2 (h1 (has_mem.2 hf))
  · have hm := (hQ.form a ha).1.1.2.mem hf
    have h1 := (canA_at (is ht ha hx).1 (f := f.toNat) (by rw [stt_len]; omega)).2
    rw [nat hm] at h1
    exact fun h2 => h1 (has_mem.2 hf) ((ff (by omega) hm).1 h2)
  · have hm := (hQ.form a ha).1.2.mem hf
    refine (ff (by omega) hm).2 ?_
    rw [(is ht ha hx).2, afterA_at (by rw [stt_len]; omega), nat hm]
    exact .inl (has_mem.2 hf)
  · have hm := (hQ.form a ha).2.mem hf
    rw [ff (by omega) hm, (is ht ha hx).2, afterA_at (by rw [stt_len]; omega), nat hm]
    rintro (h1 | h1)
    · exact not_drop (hQ.twice a ha) h1 (has_mem.2 hf)
    · exact h1.2 (has_mem.2 hf)
  · obtain ⟨h1, h2, h3⟩ := hs t ht
    rw [ff (by omega) (by omega), Int.toNat_natCast, h3, afterA_at (by rw [stt_len]; omega)] at hx
    rcases hx with hx | hx
    · exact .inr ⟨(nth plan t).toNat, by omega, hx, (aa ht (by omega)).2 (by omega)⟩
    · exact .inl ((ff (by omega) (by omega)).2 (by rw [Int.toNat_natCast]; exact hx.1))
  · obtain ⟨h1, h2, h3⟩ := hs t ht
    by_cases hd : hasB (nth q.Acts (nth plan t).toNat).Drop (f : Nat) = true
    · exact .inr ⟨(nth plan t).toNat, by omega, hd, (aa ht (by omega)).2 (by omega)⟩
    · refine .inl ((ff (by omega) (by omega)).2 ?_)
      rw [Int.toNat_natCast, h3, afterA_at (by rw [stt_len]; omega)]
      exact .inr ⟨by rw [ff (by omega) (by omega), Int.toNat_natCast] at hx; exact hx, hd⟩
theorem goalA_iff {now : List Bool} : goalA q now = true ↔ ∀ g ∈ q.Goal, nth now g.toNat = true := by
  rw [goalA, decide_eq_true_iff]
  constructor
  · intro hh g hg
    obtain ⟨j, hj, rfl⟩ := List.mem_iff_getElem.1 hg
    rw [← nth_eq hj]; exact hh j hj
  · exact fun hh i hi => hh _ (nth_mem hi)
theorem there_held (h0 : (walkFault q plan).1 = 0) : heldB (clausesQ q plan.length) (thereH q plan) = walkOk q plan := by
  obtain ⟨hQ, _, h2, _⟩ := walkFault_zero h0
  have hi := held_iff hQ (n := plan.length) (by omega) (thereH_len h0)
  rw [Int.toNat_natCast] at hi
  rw [Bool.eq_iff_iff, hi, (walked h0).2.2, goalA_iff]
  have hr := there_run h0
  constructor
  · rintro ⟨_, h3⟩ g hg
    rw [← there_fact h0 (Nat.le_refl _) (hQ.goal.mem hg)]; exact h3 g hg
  · exact fun h3 => ⟨hr, fun g hg => by rw [there_fact h0 (Nat.le_refl _) (hQ.goal.mem hg)]; exact h3 g hg⟩
/-! ### What is handed back -/
theorem bk_of {t : Nat} (ha : ∃ a, a < q.Acts.length ∧ actH q n h t a = true) : ∃ a : Nat, a < q.Acts.length ∧ bkAt q n h (t : Nat) = (a : Int) ∧ actH q n h t a = true := by
  obtain ⟨a, h1, h2⟩ := ha
  have key : ∀ m a, a < m → actH q n h t a = true → ∃ b, b < m ∧ actH q n h t b = true ∧ ∀ j, j < b → ¬ actH q n h t j = true := by
    intro m
    induction m with
    | zero => intro a h; omega
    | succ m ih =>
      intro a h1 h2
      by_cases hx : ∃ j, j < a ∧ actH q n h t j = true
      · obtain ⟨j, h3, h4⟩ := hx
        obtain ⟨b, g1, g2, g3⟩ := ih j (by omega) h4
        exact ⟨b, by omega, g2, g3⟩
      · exact ⟨a, h1, h2, fun j h3 h4 => hx ⟨j, h3, h4⟩⟩
  obtain ⟨b, g1, g2, g3⟩ := key _ a h1 h2
  exact ⟨b, g1, bkAt_is (fun j hj => g3 j hj) g1 g2, g2⟩
theorem backL_nth {u t : Nat} (ht : t < u) : nth (backL q n h u) t = bkAt q n h (t : Nat) := nth_range ht
theorem there_back (h0 : (walkFault q plan).1 = 0) (hc : ¬ (chkF q plan.length).1 ≠ 0) : backF q plan.length (thereH q plan) = (0, 0) ∧ backP q plan.length (thereH q plan) = plan := by
  obtain ⟨hs, _, _⟩ := walked h0
  have hr := there_run h0
  have hb : ∀ t, t < plan.length → bkAt q plan.length (thereH q plan) (t : Nat) = nth plan t := fun t ht => by
    obtain ⟨a, h1, h2, h3⟩ := bk_of (hr.some t ht)
    rw [h2]
    rw [there_act h0 ht h1] at h3
    exact of_decide_eq_true h3
  obtain ⟨h1, h2⟩ := backF_4 (holds := thereH q plan) hc (by rw [thereH_len h0]; omega) fun j hj => by
    rw [hb j (by omega)]; have := (hs j (by omega)).1.1; omega
  refine ⟨h1, ?_⟩
  rw [h2, Int.toNat_natCast]
  refine nth_ext backL_len fun k hk => ?_
  rw [backL_len] at hk
  rw [backL_nth hk]; exact hb k hk
/-- The facts of an assignment at a time. -/
def nowH (q : Quest) (h : List Bool) (t : Nat) : List Bool := (List.range q.Facts.toNat).map fun (f : Nat) => factH q h t f
theorem model_back (hc : ¬ (chkF q n).1 ≠ 0) (hl : (h.length : Int) = varsN q n) (hh : heldB (clausesQ q n) h = true) :
    (backF q n h).1 = 0 ∧ ((backP q n h).length : Int) = n ∧ (walkFault q (backP q n h)).1 = 0 ∧ walkOk q (backP q n h) = true := by
  obtain ⟨_, hQ, hq0, hn, _⟩ := chkF_zero (Decidable.of_not_not hc)
  have hfx := hQ.facts
  obtain ⟨hr, hg⟩ := (held_iff hQ hn hl).1 hh
  have hb := fun t ht => bk_of (hr.some t ht)
  obtain ⟨h1, h2⟩ := backF_4 (holds := h) hc (by omega) fun j hj => by
    obtain ⟨a, _, e, _⟩ := hb j (by omega)
    omega
  have hpl : (backP q n h).length = n.toNat := by rw [h2, backL_len]
  have nl : ∀ t, (nowH q h t).length = q.Facts.toNat := fun t => by simp [nowH]
  have na : ∀ {t f : Nat}, f < q.Facts.toNat → nth (nowH q h t) f = factH q h t f := fun hf => nth_range hf
  have nat : ∀ {f : Int}, 0 ≤ f ∧ f < q.Facts → ((f.toNat : Nat) : Int) = f := fun hf => by omega
  have hS : ∀ t, t < n.toNat → StepOk q (backP q n h) (nowH q h) t := fun t ht => by
    obtain ⟨a, ha, e, hx⟩ := hb t ht
    have ep : nth (backP q n h) t = (a : Int) := by rw [h2, backL_nth ht, e]
    refine ⟨by omega, ?_, ?_⟩
    · rw [ep, Int.toNat_natCast]
      refine decide_eq_true fun f hf => ?_
      rw [nl] at hf
      unfold canBad
      rw [na hf]
      rintro (⟨g1, g2⟩ | ⟨g1, g2⟩)
      · have := hr.need t ht a ha hx (f : Nat) (has_mem.1 g1)
        rw [this] at g2; cases g2
      · exact hr.bar t ht a ha hx (f : Nat) (has_mem.1 g1) g2
    · rw [ep, Int.toNat_natCast]
      refine nth_ext (by rw [nl, afterA_len, nl]) fun f hf => ?_
      rw [nl] at hf
      rw [na hf, Bool.eq_iff_iff, afterA_at (by rw [nl]; exact hf), na hf]
      have only : ∀ b, b < q.Acts.length → actH q n h t b = true → b = a := fun b hb2 hy => by
        rcases Nat.lt_trichotomy b a with hlt | he | hlt
        · exact absurd ⟨hy, hx⟩ (hr.one t ht a ha b hlt)
        · exact he
        · exact absurd ⟨hx, hy⟩ (hr.one t ht b hb2 a hlt)
      constructor
      · intro hy
        by_cases had : hasB (nth q.Acts a).Add (f : Nat) = true
        · exact .inl had
        · refine .inr ⟨?_, fun hd => hr.drop t ht a ha hx (f : Nat) (has_mem.1 hd) hy⟩
          rcases hr.rise t ht f hf hy with h3 | ⟨b, g1, g2, g3⟩
          · exact h3
          · rw [only b g1 g3] at g2; exact absurd g2 had
      · rintro (h3 | ⟨h3, h4⟩)
        · exact hr.add t ht a ha hx (f : Nat) (has_mem.1 h3)
        · rcases hr.fall t ht f hf h3 with h5 | ⟨b, g1, g2, g3⟩
          · exact h5
          · rw [only b g1 g3] at g2; exact absurd g2 h4
  have h0 : nowH q h 0 = firstL q := by
    refine nth_ext (by rw [nl, firstL_len]) fun f hf => ?_
    rw [nl] at hf
    rw [na hf, hr.first f hf, firstL, nth_range hf]
  have hw := walkR_run (q := q) (plan := backP q n h) (S := nowH q h) n.toNat 0 0 (by omega) fun t _ ht => hS t (by omega)
  rw [h0, hpl] at hw
  have hgd := walk_good (q := q) (plan := backP q n h) (now := nowH q h n.toNat) (fun hx => hx hq0) (by omega) hw
  refine ⟨by rw [h1], by omega, by rw [hgd.1], ?_⟩
  rw [hgd.2.2, goalA_iff]
  intro g hgm
  have hm := hQ.goal.mem hgm
  rw [na (by omega), nat hm]
  exact hg g hgm
end
/-! ### The laws -/
theorem doC_small {q : Quest} {n : Int} : ∀ c ∈ doC q n, ∀ v ∈ c, -1000 ≤ v ∧ v ≤ 1000 := by
  rw [doC]
  split
  · intro c hc; cases hc
  · rename_i h0
    have hc : ¬ (chkF q n).1 ≠ 0 := fun h => h0 (by rw [(doF_chk h).1]; exact h)
    obtain ⟨_, hQ, _, hn, _⟩ := chkF_zero (Decidable.of_not_not hc)
    exact lits_small hQ hn
theorem do_none {q : Quest} {n : Int} (h : (doF q n).1 ≠ 0) : doC q n = [] := if_pos h
theorem do_is {q : Quest} {n : Int} (h : (doF q n).1 = 0) : (¬ (chkF q n).1 ≠ 0) ∧ doV q n = varsN q n ∧ doC q n = clausesQ q n :=
  ⟨fun hx => by rw [(doF_chk hx).1] at h; exact hx h, if_neg (not_not_intro h), if_neg (not_not_intro h)⟩
theorem back_law {q : Quest} {n : Int} {h : List Bool} (h0 : (doF q n).1 = 0) (hl : (h.length : Int) = doV q n) (hh : heldB (doC q n) h = true) :
    (backF q n h).1 = 0 ∧ ((backP q n h).length : Int) = n ∧ (walkFault q (backP q n h)).1 = 0 ∧ walkOk q (backP q n h) = true := by
  obtain ⟨h1, h2, h3⟩ := do_is h0
  rw [h2] at hl
  rw [h3] at hh
  exact model_back h1 hl hh
theorem there_law {q : Quest} {plan : List Int} (h0 : (walkFault q plan).1 = 0) (h1 : (doF q plan.length).1 = 0) :
    ((thereH q plan).length : Int) = doV q plan.length ∧ heldB (doC q plan.length) (thereH q plan) = walkOk q plan ∧ backF q plan.length (thereH q plan) = (0, 0) ∧ backP q plan.length (thereH q plan) = plan := by
  obtain ⟨h2, h3, h4⟩ := do_is h1
  rw [h3, h4]
  exact ⟨thereH_len h0, there_held h0, there_back h0 h2⟩
def thereT (q : Quest) (plan : List Int) (t : Nat) : List Bool := thereF q plan (plan.length + 1) ++ thereA q plan t
def thereK (q : Quest) (plan : List Int) (t k : Nat) : List Bool := thereT q plan t ++ isAt plan t k
section
variable {q : Quest} {plan : List Int} {t k : Nat}
theorem thereT_zero : thereT q plan 0 = thereF q plan (plan.length + 1) := by simp [thereT, thereA]
theorem thereK_zero : thereK q plan t 0 = thereT q plan t := by simp [thereK, isAt]
theorem thereT_next : thereT q plan (t + 1) = thereK q plan t q.Acts.length := by rw [thereT, thereA_next, thereK, thereT, List.append_assoc]
theorem thereK_next : thereK q plan t (k + 1) = thereK q plan t k ++ [decide ((k : Int) = nth plan t)] := by rw [thereK, isAt_next, thereK, List.append_assoc]
theorem thereT_all : thereT q plan plan.length = thereH q plan := rfl
theorem thereF_le (h0 : (walkFault q plan).1 = 0) {m : Nat} (hm : m ≤ plan.length + 1) : (thereF q plan m).length ≤ 336 := by
  obtain ⟨hQ, _, h2, _⟩ := walkFault_zero h0
  have h3 := hQ.facts
  have h4 : m * q.Facts.toNat ≤ 21 * 16 := Nat.mul_le_mul (by omega) (by omega)
  rw [thereF_len h0 hm]; omega
theorem thereK_le (h0 : (walkFault q plan).1 = 0) (ht : t ≤ plan.length) (hk : k ≤ q.Acts.length) : (thereK q plan t k).length ≤ 600 := by
  obtain ⟨hQ, _, h2, _⟩ := walkFault_zero h0
  have h3 := hQ.many
  have h4 : t * q.Acts.length ≤ 20 * 12 := Nat.mul_le_mul (by omega) h3
  have h5 := thereF_le h0 (Nat.le_refl (plan.length + 1))
  rw [thereK, thereT, List.length_append, List.length_append, thereA_len, isAt_len]; omega
end
/-! ### The closed fact -/
theorem questQ_steps : (doF questQ 1).1 = 0 ∧ doV questQ 1 = 3 ∧ 3 < ((doC questQ 1).length : Int) ∧ (backF questQ 1 [false, true, true]).1 = 0 ∧ backP questQ 1 [false, true, true] = [0] := by decide +kernel
end Go.Um
