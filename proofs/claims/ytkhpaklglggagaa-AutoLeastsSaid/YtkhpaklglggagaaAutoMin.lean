/- The least automaton of a language. No program is in sight. -/
import Derived.Test.YtkhpaklglggagaaAutoLang
namespace Go.Um
/-! ### Searches that go alike -/
section
variable {α β : Type} [DecidableEq α] [DecidableEq β] [Inhabited α] [Inhabited β] {R : α → β → Prop} {nx : α → Int → α} {nx' : β → Int → β} {sg : Nat} {s : α} {s' : β}
def RelL (R : α → β → Prop) (L : List α) (L' : List β) : Prop := L.length = L'.length ∧ ∀ k, k < L.length → R (nth L k) (nth L' k)
omit [DecidableEq α] [DecidableEq β] in
theorem RelL.mem {L : List α} {L' : List β} (h : RelL R L L') (hb : ∀ x y x' y', R x y → R x' y' → (x = x' ↔ y = y')) {x : α} {y : β} (hxy : R x y) : x ∈ L ↔ y ∈ L' := by
  constructor
  · intro hx
    obtain ⟨k, hk, e⟩ := nth_of_mem hx
    have h1 := h.2 k hk
    rw [e] at h1
    rw [(hb _ _ _ _ hxy h1).1 rfl]
    exact nth_mem (by rw [← h.1]; exact hk)
  · intro hy
    obtain ⟨k, hk, e⟩ := nth_of_mem hy
    have h1 := h.2 k (by rw [h.1]; exact hk)
    rw [e] at h1
    rw [(hb _ _ _ _ hxy h1).2 rfl]
    exact nth_mem (by rw [h.1]; exact hk)
theorem RelL.add {L : List α} {L' : List β} (h : RelL R L L') (hb : ∀ x y x' y', R x y → R x' y' → (x = x' ↔ y = y')) {x : α} {y : β} (hxy : R x y) : RelL R (addN L x) (addN L' y) := by
  unfold addN
  by_cases hm : x ∈ L
  · rw [if_pos hm, if_pos ((h.mem hb hxy).1 hm)]; exact h
  · rw [if_neg hm, if_neg (fun h2 => hm ((h.mem hb hxy).2 h2))]
    refine ⟨by simp [h.1], fun k hk => ?_⟩
    by_cases hl : k < L.length
    · rw [nth_app_left hl, nth_app_left (by rw [← h.1]; exact hl)]; exact h.2 k hl
    · have hk' : k = L.length := by simp at hk; omega
      subst hk'
      rw [nth_app_last, h.1, nth_app_last]; exact hxy
theorem RelL.grow {L : List α} {L' : List β} (h : RelL R L L') (hb : ∀ x y x' y', R x y → R x' y' → (x = x' ↔ y = y')) {x : α} {y : β} (hst : ∀ c : Nat, c < sg → R (nx x c) (nx' y c)) : ∀ c, c ≤ sg → RelL R (growTo nx L x c) (growTo nx' L' y c)
  | 0, _ => h
  | c + 1, hc => (RelL.grow h hb hst c (by omega)).add hb (hst c (by omega))
theorem bfs_rel (hb : ∀ x y x' y', R x y → R x' y' → (x = x' ↔ y = y')) (h0 : R s s') (hst : ∀ x y, R x y → ∀ c : Nat, c < sg → R (nx x c) (nx' y c)) : ∀ i, (∀ j, j < i → j < (bfs nx sg s j).length) → RelL R (bfs nx sg s i) (bfs nx' sg s' i)
  | 0, _ => ⟨rfl, fun k hk => by have : k = 0 := by simp [bfs] at hk; omega
                                 subst this; exact h0⟩
  | i + 1, hd => by
    have ih := bfs_rel hb h0 hst i fun j hj => hd j (by omega)
    exact ih.grow hb (hst _ _ (ih.2 i (hd i (by omega)))) sg (Nat.le_refl _)
theorem ended_rel (hb : ∀ x y x' y', R x y → R x' y' → (x = x' ↔ y = y')) (h0 : R s s') (hst : ∀ x y, R x y → ∀ c : Nat, c < sg → R (nx x c) (nx' y c)) {i : Nat} (h : Ended nx sg s i) : Ended nx' sg s' i ∧ RelL R (bfs nx sg s i) (bfs nx' sg s' i) := by
  have h1 := fun m (hm : m ≤ i) => bfs_rel hb h0 hst m (fun j hj => h.2 j (by omega))
  exact ⟨⟨by rw [← (h1 i (Nat.le_refl _)).1]; exact h.1, fun j hj => by rw [← (h1 j (by omega)).1]; exact h.2 j hj⟩, h1 i (Nat.le_refl _)⟩
theorem numOf_rel {L : List α} {L' : List β} (h : RelL R L L') (hL : L.Nodup) (hL' : L'.Nodup) (hb : ∀ x y x' y', R x y → R x' y' → (x = x' ↔ y = y')) {x : α} {y : β} (hxy : R x y) (hx : x ∈ L) : numOf L x = numOf L' y := by
  obtain ⟨k, hk, rfl⟩ := nth_of_mem hx
  have h1 := h.2 k hk
  rw [(hb _ _ _ _ hxy h1).1 rfl, numOf_nth hL hk, numOf_nth hL' (by rw [← h.1]; exact hk)]
theorem built_rel {tk : α → Bool} {tk' : β → Bool} (hb : ∀ x y x' y', R x y → R x' y' → (x = x' ↔ y = y')) (h0 : R s s') (hst : ∀ x y, R x y → ∀ c : Nat, c < sg → R (nx x c) (nx' y c)) (htk : ∀ x y, R x y → tk x = tk' y) {i : Nat} (h : Ended nx sg s i) :
    builtA nx sg (endL nx sg s) tk = builtA nx' sg (endL nx' sg s') tk' := by
  obtain ⟨h', hr⟩ := ended_rel hb h0 hst h
  rw [h.endL, h'.endL]
  show Auto.mk _ _ _ = Auto.mk _ _ _
  have hlen : ∀ {γ : Type} (f : α → γ) (g : β → γ), (∀ x y, x ∈ bfs nx sg s i → R x y → f x = g y) → (bfs nx sg s i).map f = (bfs nx' sg s' i).map g := by
    intro γ f g hfg
    refine List.ext_getElem (by simp [hr.1]) fun k h1 h2 => ?_
    rw [List.getElem_map, List.getElem_map]
    have h3 := hr.2 k (by simpa using h1)
    rw [nth_eq (by simpa using h1), nth_eq (by simpa using h2)] at h3
    exact hfg _ _ (List.getElem_mem _) h3
  congr 1
  · refine hlen _ _ fun x y hx hxy => ?_
    apply List.map_congr_left
    intro c hc
    have hc := List.mem_range.1 hc
    exact numOf_rel hr (bfs_nodup i) (bfs_nodup i) hb (hst x y hxy c hc) (h.closed hx hc)
  · exact hlen _ _ fun x y _ hxy => htk x y hxy
end
/-! ### States that take the same -/
def Valid_ (sg : Int) (l : List Int) : Prop := ∀ c ∈ l, 0 ≤ c ∧ c < sg
def Eqv (a : Auto) (s t : Int) : Prop := ∀ l, Valid_ a.Signs l → takesA a s l = takesA a t l
def InA (a : Auto) (s : Int) : Prop := 0 ≤ s ∧ s < (a.Next.length : Int)
section
variable {a b : Auto} {s t u c : Int}
theorem takes_cons {l : List Int} : takesA a s (c :: l) = takesA a (stepA a s c) l := by rw [takesA_cons (by simp)]; rfl
theorem Eqv.symm (h : Eqv a s t) : Eqv a t s := fun l hl => (h l hl).symm
theorem Eqv.trans (h : Eqv a s t) (h2 : Eqv a t u) : Eqv a s u := fun l hl => (h l hl).trans (h2 l hl)
theorem Eqv.step (h : Eqv a s t) (hc : 0 ≤ c ∧ c < a.Signs) : Eqv a (stepA a s c) (stepA a t c) := fun l hl => by
  rw [← takes_cons, ← takes_cons]
  exact h _ fun d hd => (List.mem_cons.1 hd).elim (fun e => e ▸ hc) (hl d)
theorem InA.start (h : WF a) : InA a 0 := ⟨Int.le_refl _, by have := h.many; omega⟩
theorem InA.step (h : WF a) (hs : InA a s) (hc : 0 ≤ c ∧ c < a.Signs) : InA a (stepA a s c) := h.step hs hc
/-- Numbers of classes of states that take the same, and a state of each. -/
structure Cls (a : Auto) (cl rep : Int → Int) : Prop where
  eqv : ∀ s t, InA a s → InA a t → (cl s = cl t ↔ Eqv a s t)
  rep : ∀ s, InA a s → InA a (rep (cl s)) ∧ cl (rep (cl s)) = cl s
def clNx (a : Auto) (cl rep : Int → Int) (x c : Int) : Int := cl (stepA a (rep x) c)
noncomputable def leastB (a : Auto) (cl rep : Int → Int) : Auto := builtA (clNx a cl rep) a.Signs.toNat (endL (clNx a cl rep) a.Signs.toNat (cl 0)) fun x => nth a.Takes (rep x).toNat
variable {cl rep cl' rep' : Int → Int}
theorem Cls.step (h : Cls a cl rep) (hw : WF a) (hs : InA a s) (hc : 0 ≤ c ∧ c < a.Signs) : clNx a cl rep (cl s) c = cl (stepA a s c) := by
  obtain ⟨h1, h2⟩ := h.rep s hs
  exact (h.eqv _ _ (h1.step hw hc) (hs.step hw hc)).2 (((h.eqv _ _ h1 hs).1 h2).step hc)
theorem Cls.takes (h : Cls a cl rep) (hs : InA a s) : nth a.Takes (rep (cl s)).toNat = nth a.Takes s.toNat := by
  obtain ⟨h1, h2⟩ := h.rep s hs
  exact (h.eqv _ _ h1 hs).1 h2 [] (fun _ h => by cases h)
theorem Cls.few (h : Cls a cl rep) (L : List Int) (hn : L.Nodup) (hL : ∀ x ∈ L, ∃ s, InA a s ∧ x = cl s) : L.length ≤ a.Next.length := by
  have h1 : (L.map rep).Nodup := by
    refine List.pairwise_map.2 (List.Pairwise.imp_of_mem (fun {x y} hx hy hxy he => ?_) hn)
    obtain ⟨s, hs, rfl⟩ := hL x hx
    obtain ⟨t, ht, rfl⟩ := hL y hy
    have h3 := (h.rep s hs).2
    rw [he, (h.rep t ht).2] at h3
    exact hxy h3.symm
  have h2 := pigeon (n := a.Next.length) h1 fun y hy => by
    obtain ⟨x, hx, rfl⟩ := List.mem_map.1 hy
    obtain ⟨s, hs, rfl⟩ := hL x hx
    exact (h.rep s hs).1
  simpa using h2
theorem Cls.ends (h : Cls a cl rep) (hw : WF a) : ∃ i, Ended (clNx a cl rep) a.Signs.toNat (cl 0) i := by
  refine search_ends (I := fun x => ∃ s, InA a s ∧ x = cl s) (N := a.Next.length) ⟨0, InA.start hw, rfl⟩ ?_ h.few
  rintro x c ⟨s, hs, rfl⟩ h0 h1
  have hsg := hw.signs
  have hc : 0 ≤ c ∧ c < a.Signs := by omega
  exact ⟨_, hs.step hw hc, h.step hw hs hc⟩
theorem least_rel (ha : WF a) (hb : WF b) (hs : a.Signs = b.Signs) (h : Cls a cl rep) (h' : Cls b cl' rep') (hl : ∀ l, Valid_ a.Signs l → takesA a 0 l = takesA b 0 l) : leastB a cl rep = leastB b cl' rep' := by
  obtain ⟨i, hi⟩ := h.ends ha
  have hsg := ha.signs
  have := built_rel (R := fun x y => ∃ s t, InA a s ∧ InA b t ∧ x = cl s ∧ y = cl' t ∧ ∀ l, Valid_ a.Signs l → takesA a s l = takesA b t l) (nx' := clNx b cl' rep') (s' := cl' 0) (tk := fun x => nth a.Takes (rep x).toNat) (tk' := fun x => nth b.Takes (rep' x).toNat) ?_ ?_ ?_ ?_ hi
  · rw [leastB, leastB, ← hs]; exact this
  · rintro _ _ _ _ ⟨s, t, h1, h2, rfl, rfl, h3⟩ ⟨s2, t2, h4, h5, rfl, rfl, h6⟩
    rw [h.eqv _ _ h1 h4, h'.eqv _ _ h2 h5]
    constructor
    · intro he l hl; rw [← hs] at hl; rw [← h3 l hl, ← h6 l hl]; exact he l hl
    · intro he l hl; rw [h3 l hl, h6 l hl]; exact he l (by rw [← hs]; exact hl)
  · exact ⟨0, 0, InA.start ha, InA.start hb, rfl, rfl, hl⟩
  · rintro _ _ ⟨s, t, h1, h2, rfl, rfl, h3⟩ c hc
    have hc1 : 0 ≤ (c : Int) ∧ (c : Int) < a.Signs := by omega
    have hc2 : 0 ≤ (c : Int) ∧ (c : Int) < b.Signs := by omega
    refine ⟨_, _, h1.step ha hc1, h2.step hb hc2, h.step ha h1 hc1, h'.step hb h2 hc2, fun l hl => ?_⟩
    rw [← takes_cons, ← takes_cons]
    exact h3 _ fun d hd => (List.mem_cons.1 hd).elim (fun e => e ▸ hc1) (hl d)
  · rintro _ _ ⟨s, t, h1, h2, rfl, rfl, h3⟩
    show nth a.Takes (rep (cl s)).toNat = nth b.Takes (rep' (cl' t)).toNat
    rw [h.takes h1, h'.takes h2]
    exact h3 [] (fun _ h => by cases h)
end
/-! ### The least automaton -/
noncomputable def cl0 (a : Auto) (s : Int) : Int := open Classical in idxOf (fun j : Int => decide (Eqv a j s)) ((List.range a.Next.length).map fun (k : Nat) => (k : Int))
noncomputable def leastA (a : Auto) : Auto := leastB a (cl0 a) id
section
variable {a b : Auto} {s t : Int} {cl rep : Int → Int}
theorem cl0_is (hs : InA a s) : InA a (cl0 a s) ∧ Eqv a (cl0 a s) s ∧ ∀ j : Int, 0 ≤ j → j < cl0 a s → ¬ Eqv a j s := by
  obtain ⟨h0, h1⟩ := hs
  have hr : ∀ k, k < a.Next.length → nth ((List.range a.Next.length).map fun (k : Nat) => (k : Int)) k = (k : Int) := fun k hk => nth_rng hk
  open Classical in
  rcases first_or (fun j : Int => decide (Eqv a j s)) ((List.range a.Next.length).map fun (k : Nat) => (k : Int)) with h | ⟨k, hk, h2, h3⟩
  · have h4 := h s.toNat (by simp; omega)
    rw [hr _ (by omega), show ((s.toNat : Nat) : Int) = s by omega] at h4
    exact absurd (fun l _ => rfl) (of_decide_eq_false h4)
  · have hk' : k < a.Next.length := by simpa using hk
    have e : cl0 a s = (k : Int) := idxOf_at hk h2 h3
    rw [hr k hk'] at h3
    rw [e]
    refine ⟨⟨by omega, by omega⟩, of_decide_eq_true h3, fun j hj0 hj => ?_⟩
    have h4 := h2 j.toNat (by omega)
    rw [hr _ (by omega), show ((j.toNat : Nat) : Int) = j by omega] at h4
    exact of_decide_eq_false h4
theorem cls0 : Cls a (cl0 a) id where
  eqv s t hs ht := by
    obtain ⟨h1, h2, h3⟩ := cl0_is hs
    obtain ⟨h4, h5, h6⟩ := cl0_is ht
    constructor
    · intro e; rw [e] at h2; exact h2.symm.trans h5
    · intro e
      have h7 := h3 (cl0 a t) h4.1
      have h8 := h6 (cl0 a s) h1.1
      have h9 : ¬ cl0 a t < cl0 a s := fun h => h7 h (h5.trans e.symm)
      have h10 : ¬ cl0 a s < cl0 a t := fun h => h8 h (h2.trans e)
      omega
  rep s hs := by
    obtain ⟨h1, h2, h3⟩ := cl0_is hs
    refine ⟨h1, ?_⟩
    obtain ⟨h4, h5, h6⟩ := cl0_is h1
    have h9 : ¬ cl0 a s < cl0 a (cl0 a s) := fun h => h6 _ h1.1 h (fun _ _ => rfl)
    have h10 : ¬ cl0 a (cl0 a s) < cl0 a s := fun h => h3 _ h4.1 h (h5.trans h2)
    show cl0 a (cl0 a s) = cl0 a s
    omega
theorem least_is (hw : WF a) (h : Cls a cl rep) : leastB a cl rep = leastA a := least_rel hw hw rfl h cls0 fun _ _ => rfl
theorem least_same (ha : WF a) (hb : WF b) (hs : a.Signs = b.Signs) (hl : ∀ l, Valid_ a.Signs l → takesA a 0 l = takesA b 0 l) : leastA a = leastA b := least_rel ha hb hs cls0 cls0 hl
theorem least_closed (hw : WF a) : Closed (clNx a (cl0 a) id) a.Signs.toNat (cl0 a 0) (endL (clNx a (cl0 a) id) a.Signs.toNat (cl0 a 0)) := by
  obtain ⟨i, hi⟩ := cls0.ends hw
  exact hi.clos
theorem least_reps (hw : WF a) : ∀ x ∈ endL (clNx a (cl0 a) id) a.Signs.toNat (cl0 a 0), ∃ s, InA a s ∧ x = cl0 a s := by
  obtain ⟨i, hi⟩ := cls0.ends hw
  rw [hi.endL]
  refine hi.all (I := fun x => ∃ s, InA a s ∧ x = cl0 a s) ⟨0, InA.start hw, rfl⟩ ?_
  rintro x c ⟨s, hs, rfl⟩ h0 h1
  have hsg := hw.signs
  have hc : 0 ≤ c ∧ c < a.Signs := by omega
  exact ⟨_, hs.step hw hc, cls0.step hw hs hc⟩
theorem least_len (hw : WF a) : 1 ≤ (leastA a).Next.length ∧ (leastA a).Next.length ≤ a.Next.length := by
  have h1 := least_closed hw
  rw [leastA, leastB, builtA_len.1]
  exact ⟨h1.pos, cls0.few _ h1.nodup (least_reps hw)⟩
theorem least_WF (hw : WF a) : WF (leastA a) := by
  have hsg := hw.signs
  have h1 := least_len hw
  have h2 := hw.many
  rw [leastA, leastB, builtA_len.1] at h1
  exact builtA_WF (least_closed hw) (by omega) (by omega)
theorem least_signs (hw : WF a) : (leastA a).Signs = a.Signs := by
  have := hw.signs
  show ((a.Signs.toNat : Nat) : Int) = a.Signs
  omega
theorem cl0_run (hw : WF a) : ∀ (l : List Int) (s : Int), InA a s → Valid_ a.Signs l → l.foldl (clNx a (cl0 a) id) (cl0 a s) = cl0 a (runA a s l) ∧ InA a (runA a s l)
  | [], s, hs, _ => ⟨rfl, hs⟩
  | c :: l, s, hs, hl => by
    have hc := hl c (List.mem_cons_self ..)
    rw [List.foldl_cons, cls0.step hw hs hc]
    exact cl0_run hw l _ (hs.step hw hc) fun d hd => hl d (List.mem_cons_of_mem _ hd)
theorem least_takes (hw : WF a) {l : List Int} (hl : Valid_ a.Signs l) : takesA (leastA a) 0 l = takesA a 0 l := by
  have hc := least_closed hw
  have hsg := hw.signs
  have h0 := nth_mem hc.pos
  rw [hc.first] at h0
  have h1 := (builtA_run (tk := fun x => nth a.Takes (id x).toNat) hc l h0 (fun c hm => by have := hl c hm; omega)).1
  rw [numOf_first hc] at h1
  obtain ⟨h2, h3⟩ := cl0_run hw l 0 (InA.start hw) hl
  rw [leastA, leastB, h1, h2, cls0.takes h3]
  rfl
theorem least_iff (ha : WF a) (hb : WF b) (hs : a.Signs = b.Signs) : leastA a = leastA b ↔ ∀ l, Valid_ a.Signs l → takesA a 0 l = takesA b 0 l := by
  refine ⟨fun h l hl => ?_, least_same ha hb hs⟩
  rw [← least_takes ha hl, h, least_takes hb (by rw [← hs]; exact hl)]
end
end Go.Um
