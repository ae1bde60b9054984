/- The reference search for a plan, round by round. No program is in sight. -/
import Derived.Test.YtpdcejallbbncaaBestPlain
namespace Go.Um
/-! ### The reference's search, round by round -/
def codeA (now : List Bool) : Nat := now.foldl (fun n b => 2 * n + (if b = true then 1 else 0)) 0
theorem rev_ind' {α : Type} {C : List α → Prop} (h0 : C []) (h1 : ∀ v c, C v → C (v ++ [c])) (w : List α) : C w := by
  rw [← List.reverse_reverse w]
  induction w.reverse with
  | nil => exact h0
  | cons c v ih => rw [List.reverse_cons]; exact h1 _ _ ih
theorem codeA_app {v : List Bool} {b : Bool} : codeA (v ++ [b]) = 2 * codeA v + (if b = true then 1 else 0) := by rw [codeA, List.foldl_append]; rfl
theorem codeA_lt (now : List Bool) : codeA now < 2 ^ now.length := by
  induction now using rev_ind' with
  | h0 => decide
  | h1 v b ih =>
    rw [codeA_app, List.length_append, List.length_singleton, Nat.pow_succ]
    split <;> omega
theorem codeA16 {now : List Bool} (h : now.length ≤ 16) : codeA now < 65536 := by
  have h1 := codeA_lt now
  have h2 : 2 ^ now.length ≤ 2 ^ 16 := Nat.pow_le_pow_right (by decide) h
  omega
theorem codeA_inj : ∀ {n : Nat} {a c : List Bool}, a.length = n → c.length = n → codeA a = codeA c → a = c := by
  intro n
  induction n with
  | zero => intro a c ha hc _; rw [List.length_eq_zero_iff.1 ha, List.length_eq_zero_iff.1 hc]
  | succ n ih =>
    intro a c ha hc h
    rcases List.eq_nil_or_concat a with rfl | ⟨a', x, rfl⟩
    · simp at ha
    · rcases List.eq_nil_or_concat c with rfl | ⟨c', y, rfl⟩
      · simp at hc
      · simp only [List.concat_eq_append, List.length_append, List.length_singleton] at ha hc h ⊢
        rw [codeA_app, codeA_app] at h
        have hxy : x = y := by cases x <;> cases y <;> simp at h <;> first | rfl | omega
        subst hxy
        rw [ih (by omega) (by omega) (by omega : codeA a' = codeA c')]
def codes (E : List (List Bool × List Int)) : List Int := E.map fun e => ((codeA e.1 : Nat) : Int)
def nowsL (E : List (List Bool × List Int)) : List (List Bool) := E.map (·.1)
def plansL (E : List (List Bool × List Int)) : List (List Int) := E.map (·.2)
/-- of round n: D is done, W is at hand up to i, N is found for the next round, of W's entry i the acts below k are tried -/
structure Rnd (q : Quest) (D W N : List (List Bool × List Int)) (n i k : Nat) : Prop where
  bst : Bst (stepB q) (firstL q) 21 (D ++ W ++ N) (D.length + i) k
  lenW : ∀ e, e ∈ W → e.2.length = n
  lenN : ∀ e, e ∈ N → e.2.length = n + 1
  no : ∀ e, e ∈ D → goalA q e.1 = false
section
variable {q : Quest} {D W N E : List (List Bool × List Int)} {n i k j : Nat}
theorem codes_len : (codes E).length = E.length := by simp [codes]
theorem codes_app {e : List Bool × List Int} : codes (E ++ [e]) = codes E ++ [((codeA e.1 : Nat) : Int)] := by simp [codes]
theorem codes_take (h : i < E.length) : codes (E.take (i + 1)) = codes (E.take i) ++ [((codeA (nth E i).1 : Nat) : Int)] := by rw [take_succ_nth h, codes_app]
theorem nowsL_len : (nowsL E).length = E.length := by simp [nowsL]
theorem plansL_len : (plansL E).length = E.length := by simp [plansL]
theorem nowsL_nth (h : i < E.length) : nth (nowsL E) i = (nth E i).1 := by rw [nth_eq (by rw [nowsL_len]; exact h), nth_eq h]; simp [nowsL]
theorem plansL_nth (h : i < E.length) : nth (plansL E) i = (nth E i).2 := by rw [nth_eq (by rw [plansL_len]; exact h), nth_eq h]; simp [plansL]
theorem nowsL_app {e : List Bool × List Int} : nowsL (E ++ [e]) = nowsL E ++ [e.1] := by simp [nowsL]
theorem plansL_app {e : List Bool × List Int} : plansL (E ++ [e]) = plansL E ++ [e.2] := by simp [plansL]
theorem hasB_codes {x : Int} : hasB (codes E) x = true ↔ ∃ e, e ∈ E ∧ ((codeA e.1 : Nat) : Int) = x := by rw [hasB, decide_eq_true_iff, codes, List.mem_map]
theorem Bst.lens {b m : Nat} (h : Bst (stepB q) (firstL q) b E m k) {e : List Bool × List Int} (he : e ∈ E) : e.1.length = q.Facts.toNat := runB_len (h.run e he)
theorem Bst.few {b m : Nat} (h : Bst (stepB q) (firstL q) b E m k) (hq : QW q) : E.length ≤ 65536 := by
  have h1 : ((E.map (·.1)).map codeA).Nodup := by
    refine List.pairwise_map.2 (List.Pairwise.imp_of_mem (fun {a c} ha hc hac he => ?_) h.nodup)
    obtain ⟨d, hd, rfl⟩ := List.mem_map.1 ha
    obtain ⟨e, hE, rfl⟩ := List.mem_map.1 hc
    exact hac (codeA_inj (h.lens hd) (h.lens hE) he)
  have h2 := nodup_le_b (S := List.range 65536) h1 fun y hy => by
    obtain ⟨e, he, rfl⟩ := List.mem_map.1 hy
    obtain ⟨d, hd, rfl⟩ := List.mem_map.1 he
    have h3 := codeA_lt d.1
    rw [h.lens hd] at h3
    have h4 : 2 ^ q.Facts.toNat ≤ 2 ^ 16 := Nat.pow_le_pow_right (by decide) (by have := hq.facts; omega)
    exact List.mem_range.2 (by omega)
  simpa using h2
theorem Rnd.few (h : Rnd q D W N n i k) (hq : QW q) : D.length + W.length + N.length ≤ 65536 := by
  have := h.bst.few hq
  simpa [Nat.add_assoc] using this
theorem Rnd.start : Rnd q [] [(firstL q, [])] [] 0 0 0 where
  bst := Bst.init (K := q.Acts.length) stepB_rng
  lenW e he := by cases List.mem_singleton.1 he; rfl
  lenN e he := by cases he
  no e he := by cases he
theorem Rnd.at_ (h : Rnd q D W N n i k) (hj : j < W.length) : nth (D ++ W ++ N) (D.length + j) = nth W j := by
  rw [nth_eq (by simp; omega), nth_eq hj, List.getElem_append_left (by simp; omega), List.getElem_append_right (by omega)]
  congr 1; omega
theorem Rnd.memW (h : Rnd q D W N n i k) {e : List Bool × List Int} (he : e ∈ W) : e ∈ D ++ W ++ N := List.mem_append_left _ (List.mem_append_right _ he)
theorem Rnd.memN (h : Rnd q D W N n i k) {e : List Bool × List Int} (he : e ∈ N) : e ∈ D ++ W ++ N := List.mem_append_right _ he
theorem Rnd.lens (h : Rnd q D W N n i k) (hj : j < W.length) : (nth W j).1.length = q.Facts.toNat := h.bst.lens (h.memW (nth_mem hj))
theorem Rnd.plen (h : Rnd q D W N n i k) (hj : j < W.length) : (nth W j).2.length = n := h.lenW _ (nth_mem hj)
theorem Rnd.cant (h : Rnd q D W N n i k) (hi : i < W.length) (hk : k < q.Acts.length) (hc : ¬ canA (nth q.Acts k) (nth W i).1 = true) : Rnd q D W N n i (k + 1) where
  bst := h.bst.keep (by simp; omega) fun t ht => by rw [h.at_ hi, stepB_at hk, if_neg hc] at ht; cases ht
  lenW := h.lenW
  lenN := h.lenN
  no := h.no
theorem Rnd.has (h : Rnd q D W N n i k) (hi : i < W.length) : (hasB (codes (D ++ W)) ((codeA (afterA (nth q.Acts k) (nth W i).1) : Nat) : Int) = true ∨ hasB (codes N) ((codeA (afterA (nth q.Acts k) (nth W i).1) : Nat) : Int) = true) ↔ ∃ e, e ∈ D ++ W ++ N ∧ e.1 = afterA (nth q.Acts k) (nth W i).1 := by
  rw [hasB_codes, hasB_codes]
  have key : ∀ e, e ∈ D ++ W ++ N → ((codeA e.1 : Nat) : Int) = ((codeA (afterA (nth q.Acts k) (nth W i).1) : Nat) : Int) → e.1 = afterA (nth q.Acts k) (nth W i).1 := fun e he hc =>
    codeA_inj (h.bst.lens he) (by rw [afterA_len, h.lens hi]) (by omega)
  constructor
  · rintro (⟨e, he, h1⟩ | ⟨e, he, h1⟩)
    · exact ⟨e, List.mem_append_left _ he, key e (List.mem_append_left _ he) h1⟩
    · exact ⟨e, h.memN he, key e (h.memN he) h1⟩
  · rintro ⟨e, he, h1⟩
    rcases List.mem_append.1 he with he | he
    · exact .inl ⟨e, he, by rw [h1]⟩
    · exact .inr ⟨e, he, by rw [h1]⟩
theorem Rnd.old (h : Rnd q D W N n i k) (hi : i < W.length) (hk : k < q.Acts.length) (hc : canA (nth q.Acts k) (nth W i).1 = true) (ho : ∃ e, e ∈ D ++ W ++ N ∧ e.1 = afterA (nth q.Acts k) (nth W i).1) : Rnd q D W N n i (k + 1) where
  bst := h.bst.keep (by simp; omega) fun t ht => by rw [h.at_ hi, stepB_at hk, if_pos hc] at ht; cases ht; exact ho
  lenW := h.lenW
  lenN := h.lenN
  no := h.no
theorem Rnd.new (h : Rnd q D W N n i k) (hi : i < W.length) (hk : k < q.Acts.length) (hn : n ≤ 20) (hc : canA (nth q.Acts k) (nth W i).1 = true) (ho : ¬ ∃ e, e ∈ D ++ W ++ N ∧ e.1 = afterA (nth q.Acts k) (nth W i).1) :
    Rnd q D W (N ++ [(afterA (nth q.Acts k) (nth W i).1, (nth W i).2 ++ [(k : Int)])]) n i (k + 1) where
  bst := by
    have h1 := h.bst.push (t := afterA (nth q.Acts k) (nth W i).1) (by simp; omega) (by rw [h.at_ hi, stepB_at hk, if_pos hc]) (fun e he h2 => ho ⟨e, he, h2⟩) (by rw [h.at_ hi, h.plen hi]; omega)
    rw [h.at_ hi, List.append_assoc (D ++ W)] at h1
    exact h1
  lenW := h.lenW
  lenN e he := by
    rcases List.mem_append.1 he with he | he
    · exact h.lenN e he
    · cases List.mem_singleton.1 he
      show ((nth W i).2 ++ [(k : Int)]).length = n + 1
      rw [List.length_append, h.plen hi]; rfl
  no := h.no
theorem Rnd.turn (h : Rnd q D W N n i k) (hi : i < W.length) (hk : q.Acts.length ≤ k) : Rnd q D W N n (i + 1) 0 where
  bst := h.bst.turn (K := q.Acts.length) (by simp; omega) stepB_rng (.inl hk)
  lenW := h.lenW
  lenN := h.lenN
  no := h.no
theorem Rnd.round (h : Rnd q D W N n i 0) (hi : i = W.length) (hg : ∀ j, j < W.length → goalA q (nth W j).1 = false) : Rnd q (D ++ W) N [] (n + 1) 0 0 where
  bst := by
    have h1 := h.bst
    rw [hi, show D.length + W.length = (D ++ W).length + 0 by simp] at h1
    rw [List.append_nil]
    exact h1
  lenW := h.lenN
  lenN e he := by cases he
  no e he := by
    rcases List.mem_append.1 he with he | he
    · exact h.no e he
    · obtain ⟨j, hj, h2⟩ := List.mem_iff_getElem.1 he
      have := hg j hj
      rwa [nth_eq hj, h2] at this
theorem Rnd.yes (h : Rnd q D W [] n 0 0) (hn : n ≤ 20) (hi : i < W.length) (hg : ∀ j, j < i → goalA q (nth W j).1 = false) (hgi : goalA q (nth W i).1 = true) : BestOk q true (nth W i).2 := by
  rw [BestOk, if_pos rfl]
  have hD : ∀ {j}, j < D.length → nth (D ++ W ++ []) j ∈ D := fun {j} hj => by
    rw [nth_eq (by simp; omega), List.getElem_append_left (by simp; omega), List.getElem_append_left hj]
    exact List.getElem_mem hj
  refine ⟨by rw [h.plen hi]; exact hn, ⟨_, h.bst.run _ (h.memW (nth_mem hi)), hgi⟩, fun w s hw hl hs => ?_⟩
  have h1 := h.bst.found (goal := goalA q) (i := D.length + i) (by simp; omega) (fun j hj => ?_) (fun j hj hj2 => ?_) hw hl hs
  · rwa [h.at_ hi] at h1
  · by_cases hjd : j < D.length
    · exact h.no _ (hD hjd)
    · have h2 := h.at_ (j := j - D.length) (by omega)
      rw [show D.length + (j - D.length) = j by omega] at h2
      rw [h2]; exact hg _ (by omega)
  · have hjw : j - D.length < W.length := by simp at hj2; omega
    have h2 := h.at_ hjw
    rw [show D.length + (j - D.length) = j by omega] at h2
    rw [h2, h.at_ hi, h.plen hi, h.plen hjw]; exact Nat.le_refl _
theorem Rnd.lost (h : Rnd q D W [] n 0 0) (hn : ¬ (n ≤ 20 ∧ 0 < W.length)) : BestOk q false [] := by
  rw [BestOk, if_neg (by decide)]
  refine ⟨rfl, fun w s hw hl => h.bst.lost (goal := goalA q) (fun j hj => ?_) (fun j hj hj2 => ?_) hw hl⟩
  · refine h.no _ ?_
    rw [nth_eq (by simp; omega), List.getElem_append_left (by simp; omega), List.getElem_append_left (by omega)]
    exact List.getElem_mem _
  · have hjw : j - D.length < W.length := by simp at hj2; omega
    have h2 := h.at_ hjw
    rw [show D.length + (j - D.length) = j by omega] at h2
    rw [h2, h.plen hjw]; omega
theorem codes_more (h : i < W.length) : codes (D ++ W.take (i + 1)) = codes (D ++ W.take i) ++ [((codeA (nth (nowsL W) i) : Nat) : Int)] := by rw [nowsL_nth h, take_succ_nth h, ← List.append_assoc, codes_app]
theorem nows_more (h : i < W.length) {a : Act} : nowsL (N ++ [(afterA a (nth W i).1, (nth W i).2 ++ [(k : Int)])]) = nowsL N ++ [afterA a (nth W i).1] := nowsL_app
end
end Go.Um
