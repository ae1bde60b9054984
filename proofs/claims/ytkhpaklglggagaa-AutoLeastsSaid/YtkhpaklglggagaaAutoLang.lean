/- What automata of pairs take. No program is in sight. -/
import Derived.Test.YtkhpaklglggagaaAutoProd
namespace Go.Um
theorem nth_map' {α β : Type} [Inhabited α] [Inhabited β] {f : α → β} {l : List α} {k : Nat} (h : k < l.length) : nth (l.map f) k = f (nth l k) := by
  rw [nth_eq h, nth_eq (by simpa using h), List.getElem_map]
theorem nth_rng {β : Type} [Inhabited β] {g : Nat → β} {n f : Nat} (h : f < n) : nth ((List.range n).map g) f = g f := by simp [nth, h]
/-- What is known of a list of states that a search ends with. -/
structure Closed {α : Type} [DecidableEq α] [Inhabited α] (nx : α → Int → α) (sg : Nat) (s : α) (L : List α) : Prop where
  nodup : L.Nodup
  pos : 0 < L.length
  first : nth L 0 = s
  clo : ∀ x ∈ L, ∀ c : Nat, c < sg → nx x c ∈ L
section
variable {α : Type} [DecidableEq α] [Inhabited α] {nx : α → Int → α} {sg : Nat} {s : α} {L : List α} {tk : α → Bool}
theorem Ended.clos {i : Nat} (h : Ended nx sg s i) : Closed nx sg s (Go.Um.endL nx sg s) := by
  rw [h.endL]
  exact ⟨bfs_nodup i, h.first.2, h.first.1, fun x hx c hc => h.closed hx hc⟩
theorem builtA_len : (builtA nx sg L tk).Next.length = L.length ∧ (builtA nx sg L tk).Takes.length = L.length := by simp [builtA]
theorem builtA_step (hL : Closed nx sg s L) {x : α} (hx : x ∈ L) {c : Int} (hc : 0 ≤ c ∧ c < sg) : stepA (builtA nx sg L tk) (numOf L x) c = numOf L (nx x c) := by
  obtain ⟨k, e, hk, rfl⟩ := numOf_mem hx
  rw [e, stepA, builtA]
  simp only [Int.toNat_natCast]
  rw [nth_map' hk, nth_rng (by omega), show ((c.toNat : Nat) : Int) = c by omega]
theorem builtA_takes {x : α} (hx : x ∈ L) : nth (builtA nx sg L tk).Takes (numOf L x).toNat = tk x := by
  obtain ⟨k, e, hk, rfl⟩ := numOf_mem hx
  rw [e, builtA]
  simp only [Int.toNat_natCast]
  rw [nth_map' hk]
theorem builtA_run (hL : Closed nx sg s L) : ∀ (l : List Int) {x : α}, x ∈ L → (∀ c ∈ l, 0 ≤ c ∧ c < (sg : Int)) → takesA (builtA nx sg L tk) (numOf L x) l = tk (l.foldl nx x) ∧ l.foldl nx x ∈ L
  | [], x, hx, _ => ⟨builtA_takes hx, hx⟩
  | c :: l, x, hx, hl => by
    have hc := hl c (List.mem_cons_self ..)
    have hm : nx x c ∈ L := by have := hL.clo x hx c.toNat (by omega); rwa [show ((c.toNat : Nat) : Int) = c by omega] at this
    have ih := builtA_run hL l hm fun y hy => hl y (List.mem_cons_of_mem _ hy)
    refine ⟨?_, ih.2⟩
    rw [takesA_cons (by simp)]
    show takesA _ (stepA _ (numOf L x) (nth (c :: l) 0)) l = _
    rw [show nth (c :: l) 0 = c from rfl, builtA_step hL hx hc]
    exact ih.1
theorem numOf_first (hL : Closed nx sg s L) : numOf L s = 0 := by
  have := numOf_nth hL.nodup hL.pos
  rwa [hL.first] at this
theorem builtA_WF (hL : Closed nx sg s L) (hs : 1 ≤ sg ∧ sg ≤ 12) (h40 : L.length ≤ 40) : WF (builtA nx sg L tk) where
  signs := by show 1 ≤ (sg : Int) ∧ (sg : Int) ≤ 12; omega
  many := by rw [builtA_len.1]; exact ⟨hL.pos, h40⟩
  takes := by rw [builtA_len.1, builtA_len.2]
  rows k hk := by
    rw [builtA_len.1] at hk
    show ((nth (L.map fun x => (List.range sg).map fun (c : Nat) => numOf L (nx x c)) k).length : Int) = (sg : Int)
    rw [nth_map' hk]; simp
  to k hk t ht := by
    rw [builtA_len.1] at hk
    rw [builtA_len.1]
    have ht' : t ∈ nth (L.map fun x => (List.range sg).map fun (c : Nat) => numOf L (nx x c)) k := ht
    rw [nth_map' hk] at ht'
    obtain ⟨c, hc, rfl⟩ := List.mem_map.1 ht'
    obtain ⟨j, e, hj, _⟩ := numOf_mem (hL.clo _ (nth_mem hk) c (List.mem_range.1 hc))
    rw [e]; omega
end
section
variable {a b : Auto} {op : Bool → Bool → Bool}
/-- A search among finitely many ends. -/
theorem search_ends {α : Type} [DecidableEq α] [Inhabited α] {nx : α → Int → α} {sg : Nat} {s : α} {I : α → Prop} {N : Nat} (h0 : I s) (hI : ∀ x (c : Int), I x → 0 ≤ c → c < sg → I (nx x c)) (hN : ∀ L : List α, L.Nodup → (∀ x ∈ L, I x) → L.length ≤ N) :
    ∃ i, Ended nx sg s i := by
  refine Classical.byContradiction fun hno => ?_
  have key : ∀ m, (∀ j, j < m → j < (bfs nx sg s j).length) := by
    intro m
    induction m with
    | zero => intro j hj; exact absurd hj (Nat.not_lt_zero j)
    | succ m ih =>
      intro j hj
      by_cases hjm : j = m
      · subst hjm
        refine Classical.byContradiction fun hlt => hno ⟨j, ?_, ih⟩
        cases j with
        | zero => simp [bfs] at hlt
        | succ j => have h1 := ih j (by omega); have h2 := bfs_len (nx := nx) (signs := sg) (start := s) j; omega
      · exact ih j (by omega)
  have h1 := key (N + 1) N (by omega)
  have h2 := hN _ (bfs_nodup (nx := nx) (signs := sg) (start := s) N) (bfs_all h0 hI N fun j hj => key (N + 1) j (by omega))
  omega
theorem prod_ends (ha : WF a) (hb : WF b) (hs : a.Signs = b.Signs) : ∃ i, Ended (stepP a b) a.Signs.toNat (0, 0) i :=
  search_ends (Pr.start ha hb) (fun x c hx h0 h1 => Pr.step ha hb hs hx ⟨h0, by have := ha.signs; omega⟩) (Pr.few ha hb)
noncomputable def pairsL (a b : Auto) : List (Int × Int) := endL (stepP a b) a.Signs.toNat (0, 0)
theorem pairs_closed (ha : WF a) (hb : WF b) (hs : a.Signs = b.Signs) : Closed (stepP a b) a.Signs.toNat (0, 0) (pairsL a b) := by
  obtain ⟨i, hi⟩ := prod_ends ha hb hs
  exact hi.clos
theorem pairs_pr (ha : WF a) (hb : WF b) (hs : a.Signs = b.Signs) : ∀ p ∈ pairsL a b, Pr a b p := by
  obtain ⟨i, hi⟩ := prod_ends ha hb hs
  unfold pairsL
  rw [hi.endL]
  exact hi.all (Pr.start ha hb) fun x c hx h0 h1 => Pr.step ha hb hs hx ⟨h0, by have := ha.signs; omega⟩
theorem fold_pair : ∀ (l : List Int) (p : Int × Int), l.foldl (stepP a b) p = (runA a p.1 l, runA b p.2 l)
  | [], p => rfl
  | c :: l, p => by rw [List.foldl_cons, fold_pair l]; rfl
theorem prodA_takes (ha : WF a) (hb : WF b) (hs : a.Signs = b.Signs) {l : List Int} (hl : ∀ c ∈ l, 0 ≤ c ∧ c < a.Signs) : takesA (prodA a b op) 0 l = op (takesA a 0 l) (takesA b 0 l) := by
  have hc := pairs_closed ha hb hs
  have hsg := ha.signs
  have h0 : (0, 0) ∈ pairsL a b := by have := nth_mem hc.pos; rwa [hc.first] at this
  have h1 := (builtA_run (tk := fun p : Int × Int => op (nth a.Takes p.1.toNat) (nth b.Takes p.2.toNat)) hc l h0 (fun c hm => by have := hl c hm; omega)).1
  rw [numOf_first hc] at h1
  rw [show prodA a b op = builtA (stepP a b) a.Signs.toNat (pairsL a b) (fun p => op (nth a.Takes p.1.toNat) (nth b.Takes p.2.toNat)) from rfl, h1, fold_pair]
  rfl
theorem bothR_bad (h : (pairFault a b).1 ≠ 0) : bothR a b op = (⟨0, [], []⟩, pairFault a b) := if_pos h
theorem bothR_ok (h : (bothR a b op).2.1 = 0) : WF a ∧ WF b ∧ a.Signs = b.Signs ∧ bothR a b op = (prodA a b op, (0, 0)) ∧ WF (prodA a b op) ∧ (prodA a b op).Signs = a.Signs := by
  unfold bothR at h ⊢
  split at h
  · rename_i h1; exact absurd h h1
  · rename_i h1
    split at h
    · exact absurd h (by decide)
    · rename_i h2
      obtain ⟨_, ha, hb, hs⟩ := pairFault_zero (Decidable.of_not_not h1)
      have hsg := ha.signs
      rw [if_neg h1, if_neg h2]
      refine ⟨ha, hb, hs, rfl, ?_, ?_⟩
      · refine builtA_WF (pairs_closed ha hb hs) ⟨by omega, by omega⟩ ?_
        have h3 : (prodA a b op).Next.length = (pairsL a b).length := builtA_len.1
        show (pairsL a b).length ≤ 40
        omega
      · show ((a.Signs.toNat : Nat) : Int) = a.Signs; omega
theorem bothR_none (h : (bothR a b op).2.1 ≠ 0) : (bothR a b op).1.Next = [] := by
  unfold bothR at h ⊢
  split
  · rfl
  · rename_i h1
    split
    · rfl
    · rename_i h2; rw [if_neg h1, if_neg h2] at h; exact absurd rfl h
/-! ### Not -/
theorem autoNot_ok (ha : WF a) : autoNot a = (⟨a.Signs, a.Next, a.Takes.map (!·)⟩, 0, 0) := by rw [autoNot, ha.fault, if_neg (by decide)]
theorem not_WF (ha : WF a) : WF ⟨a.Signs, a.Next, a.Takes.map (!·)⟩ := ⟨ha.signs, ha.many, by show (a.Takes.map _).length = _; rw [List.length_map]; exact ha.takes, ha.rows, ha.to⟩
theorem not_run (s : Int) (l : List Int) : runA ⟨a.Signs, a.Next, a.Takes.map (!·)⟩ s l = runA a s l := rfl
theorem not_takes (ha : WF a) {l : List Int} (hl : ∀ c ∈ l, 0 ≤ c ∧ c < a.Signs) : takesA ⟨a.Signs, a.Next, a.Takes.map (!·)⟩ 0 l = !takesA a 0 l := by
  have hm := ha.many
  have hr := ha.run hl (s := 0) (by omega)
  rw [takesA, takesA, not_run, nth_map_not (by rw [ha.takes]; omega)]
/-- De Morgan. -/
theorem morgan (ha : WF a) (hb : WF b) (hs : a.Signs = b.Signs) :
    (⟨(prodA a b fun x y => x && y).Signs, (prodA a b fun x y => x && y).Next, (prodA a b fun x y => x && y).Takes.map (!·)⟩ : Auto) = prodA ⟨a.Signs, a.Next, a.Takes.map (!·)⟩ ⟨b.Signs, b.Next, b.Takes.map (!·)⟩ fun x y => x || y := by
  show Auto.mk _ _ _ = Auto.mk _ _ _
  congr 1
  show (List.map _ (pairsL a b)).map _ = List.map _ (pairsL a b)
  rw [List.map_map]
  apply List.map_congr_left
  intro p hp
  obtain ⟨⟨h1, h2⟩, h3, h4⟩ := pairs_pr ha hb hs p hp
  show (!(nth a.Takes p.1.toNat && nth b.Takes p.2.toNat)) = (nth (a.Takes.map (!·)) p.1.toNat || nth (b.Takes.map (!·)) p.2.toNat)
  rw [nth_map_not (by rw [ha.takes]; omega), nth_map_not (by rw [hb.takes]; omega)]
  cases nth a.Takes p.1.toNat <;> cases nth b.Takes p.2.toNat <;> rfl
theorem same_self (ha : WF a) : sameR a a = true ∧ pairFault a a = (0, 0) := by
  have hp := pairFault_of ha ha rfl
  refine ⟨?_, hp⟩
  rw [sameR, hp, if_neg (by decide), sameB]
  obtain ⟨i, hi⟩ := prod_ends ha ha rfl
  have hall := hi.all (I := fun p : Int × Int => p.1 = p.2) rfl fun x c hx _ _ => by show stepA a x.1 c = stepA a x.2 c; rw [hx]
  rw [hi.endL, Bool.not_eq_true', List.any_eq_false]
  intro p hpm h
  have e := hall p hpm
  rw [e] at h
  exact of_decide_eq_true h rfl
end
theorem bothR_sg {a b : Auto} {op : Bool → Bool → Bool} (h : In64 a.Signs) : In64 (bothR a b op).1.Signs := by
  unfold bothR
  split
  · show In64 0; decide
  · split
    · show In64 0; decide
    · show In64 ((a.Signs.toNat : Nat) : Int)
      obtain ⟨h1, h2⟩ := h
      constructor <;> omega
theorem not_sg {a : Auto} (h : In64 a.Signs) : In64 (autoNot a).1.Signs := by
  unfold autoNot
  split
  · show In64 0; decide
  · exact h
theorem autoTakes_bad {a : Auto} {l : List Int} (h : (autoTakes a l).2.1 ≠ 0) : (autoTakes a l).1 = false := by
  unfold autoTakes at h ⊢
  split
  · rfl
  · rename_i h1
    split
    · rfl
    · rename_i h2; rw [if_neg h1, if_neg h2] at h; exact absurd rfl h
theorem autoTakes_is {a : Auto} {l : List Int} (ha : WF a) (hl : (textFault a.Signs l).1 = 0) : autoTakes a l = (takesA a 0 l, 0, 0) := by
  rw [autoTakes, ha.fault, if_neg (by decide), if_neg (not_not_intro hl)]
theorem autoTakes_text {a : Auto} {l : List Int} (ha : WF a) (h : (autoTakes a l).2.1 = 0) : (textFault a.Signs l).1 = 0 := by
  rw [autoTakes_snd (by rw [ha.fault])] at h; exact h
theorem autoNot_zero {a : Auto} (h : (autoNot a).2.1 = 0) : WF a := by
  unfold autoNot at h
  split at h
  · rename_i h1; exact absurd h h1
  · rename_i h1; exact WF.of (Decidable.of_not_not h1)
/-- What products take, as the law asks. -/
theorem takes_law {a b : Auto} {l : List Int} (h1 : (andR a b).2.1 = 0) (h2 : (orR a b).2.1 = 0) (h4 : (autoTakes a l).2.1 = 0) :
    autoTakes a l = (takesA a 0 l, 0, 0) ∧ autoTakes b l = (takesA b 0 l, 0, 0) ∧ autoTakes (andR a b).1 l = (takesA a 0 l && takesA b 0 l, 0, 0) ∧ autoTakes (orR a b).1 l = (takesA a 0 l || takesA b 0 l, 0, 0) ∧ autoTakes (autoNot a).1 l = (!takesA a 0 l, 0, 0) := by
  obtain ⟨ha, hb, hs, e1, w1, s1⟩ := bothR_ok (op := fun x y => x && y) h1
  obtain ⟨_, _, _, e2, w2, s2⟩ := bothR_ok (op := fun x y => x || y) h2
  have ht := autoTakes_text ha h4
  have hv := (textFault_code ht).2.2
  have e1' : (andR a b).1 = prodA a b fun x y => x && y := by rw [andR, e1]
  have e2' : (orR a b).1 = prodA a b fun x y => x || y := by rw [orR, e2]
  refine ⟨autoTakes_is ha ht, autoTakes_is hb (by rw [← hs]; exact ht), ?_, ?_, ?_⟩
  · rw [e1', autoTakes_is w1 (by rw [s1]; exact ht), prodA_takes ha hb hs hv]
  · rw [e2', autoTakes_is w2 (by rw [s2]; exact ht), prodA_takes ha hb hs hv]
  · rw [autoNot_ok ha, autoTakes_is (not_WF ha) ht, not_takes ha hv]
/-- De Morgan, as the law asks. -/
theorem morgan_law {a b : Auto} (h : (andR a b).2.1 = 0) : (autoNot (andR a b).1).2 = (0, 0) ∧ (autoNot a).2 = (0, 0) ∧ (autoNot b).2 = (0, 0) ∧ (orR (autoNot a).1 (autoNot b).1).2 = (0, 0) ∧
    pairFault (autoNot (andR a b).1).1 (orR (autoNot a).1 (autoNot b).1).1 = (0, 0) ∧ sameR (autoNot (andR a b).1).1 (orR (autoNot a).1 (autoNot b).1).1 = true := by
  obtain ⟨ha, hb, hs, e1, w1, s1⟩ := bothR_ok (op := fun x y => x && y) h
  have e1' : (andR a b).1 = prodA a b fun x y => x && y := by rw [andR, e1]
  have hm := morgan ha hb hs
  have hor : orR (autoNot a).1 (autoNot b).1 = (prodA ⟨a.Signs, a.Next, a.Takes.map (!·)⟩ ⟨b.Signs, b.Next, b.Takes.map (!·)⟩ fun x y => x || y, (0, 0)) := by
    rw [autoNot_ok ha, autoNot_ok hb, orR, bothR, pairFault_of (not_WF ha) (not_WF hb) hs, if_neg (by decide), ← hm, if_neg]
    show ¬ 40 < ((prodA a b fun x y => x && y).Next.length : Int)
    have := w1.many; omega
  have hn : autoNot (andR a b).1 = (⟨(prodA a b fun x y => x && y).Signs, (prodA a b fun x y => x && y).Next, (prodA a b fun x y => x && y).Takes.map (!·)⟩, 0, 0) := by rw [e1', autoNot_ok w1]
  have hw := not_WF w1
  rw [hm] at hw
  have hss := same_self hw
  refine ⟨by rw [hn], by rw [autoNot_ok ha], by rw [autoNot_ok hb], by rw [hor], ?_, ?_⟩
  · rw [hn, hor, hm]; exact hss.2
  · rw [hn, hor, hm]; exact hss.1
end Go.Um
