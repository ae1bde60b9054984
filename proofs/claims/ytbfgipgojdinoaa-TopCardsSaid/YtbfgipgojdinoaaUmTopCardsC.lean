import Derived.WalkKit
import Derived.ArgAppend
import Derived.Sort.Grow
import Derived.Sort.Row
import Derived.Test.YtbfgipgojdinoaaUmTopCardsB
namespace Go.Um
def marks (T : List Int) : List (Int × Bool) := T.foldl (fun m l => mset m l true) []
theorem marks_app {T : List Int} {l : Int} : marks (T ++ [l]) = mset (marks T) l true := by simp [marks, List.foldl_append]
theorem marks_acc {T : List Int} {x : Int} : ∀ {m : List (Int × Bool)}, mget (T.foldl (fun m l => mset m l true) m) x = if x ∈ T then some true else mget m x := by
  induction T with
  | nil => intro m; simp
  | cons l T ih =>
    intro m
    rw [List.foldl_cons, ih, mget_mset]
    by_cases h1 : x ∈ T
    · simp [h1]
    · by_cases h2 : l = x
      · simp [h2]
      · have : ¬ x = l := fun e => h2 e.symm
        simp [h1, h2, this]
theorem marks_get {T : List Int} {x : Int} : (mget (marks T) x).getD false = decide (x ∈ T) := by
  rw [marks, marks_acc]
  by_cases h : x ∈ T <;> simp [h, mget]
theorem marks_yes {T : List Int} {x : Int} (h : (mget (marks T) x).getD false = true) : x ∈ T := by rw [marks_get] at h; exact of_decide_eq_true h
theorem marks_no {T : List Int} {x : Int} (h : ¬ (mget (marks T) x).getD false = true) : x ∉ T := fun e => h (by rw [marks_get]; exact decide_eq_true e)
theorem marks_nf {T : List Int} {x : Int} (h : (mget (marks T) x).getD false = false) : x ∉ T := marks_no (by rw [h]; exact Bool.false_ne_true)
section
variable {T c : List Int} {k : Nat} {o : Int}
theorem stF_early (hk : k < c.length) (h1 : ¬ -nth c k ∈ T) (h2 : nth c k ∈ T ∨ o ≠ 0) : stateF T (c.drop k) o = (false, 0) := by
  rw [drop_nth hk, stateF, if_neg h1, if_pos h2]
theorem stF_skip (hk : k < c.length) (h1 : -nth c k ∈ T) : stateF T (c.drop k) o = stateF T (c.drop (k + 1)) o := by
  rw [drop_nth hk, stateF, if_pos h1]
theorem stF_open (hk : k < c.length) (h1 : ¬ -nth c k ∈ T) (h2 : ¬ (nth c k ∈ T ∨ o ≠ 0)) : stateF T (c.drop k) o = stateF T (c.drop (k + 1)) (nth c k) := by
  rw [drop_nth hk, stateF, if_neg h1, if_neg h2]
theorem stF_end (hk : c.length ≤ k) : stateF T (c.drop k) o = (decide (o = 0), o) := by
  rw [List.drop_of_length_le hk, stateF]
variable {C : List (List Int)} {f : Int}
theorem scF_no (hk : k < C.length) (h : (stateL T (nth C k)).1 = true) : scanF T (C.drop k) k f = (true, (k : Int)) := by
  rw [drop_nth hk, scanF, if_pos h]
theorem scF_next (hk : k < C.length) (h : ¬ (stateL T (nth C k)).1 = true) : scanF T (C.drop k) k f = scanF T (C.drop (k + 1)) ((k + 1 : Nat) : Int) (if (stateL T (nth C k)).2 ≠ 0 ∧ f < 0 then (k : Int) else f) := by
  rw [drop_nth hk, scanF, if_neg h]
  rfl
theorem scF_end (hk : C.length ≤ k) : scanF T (C.drop k) k f = (false, f) := by
  rw [List.drop_of_length_le hk, scanF]
theorem scanF_lt : ∀ {C : List (List Int)} {i f : Int}, 0 ≤ i → f < i + C.length → (scanF T C i f).2 < i + C.length ∨ C = [] ∧ (scanF T C i f).2 = f
  | [], i, f, _, _ => .inr ⟨rfl, rfl⟩
  | c :: C, i, f, h0, h => by
    refine .inl ?_
    simp only [List.length_cons] at h ⊢
    rw [scanF]
    split
    · show i < _
      omega
    · have hf : (if (stateL T c).2 ≠ 0 ∧ f < 0 then i else f) < i + 1 + C.length := by split <;> omega
      rcases scanF_lt (C := C) (i := i + 1) (by omega) hf with h1 | ⟨h1, h2⟩
      · omega
      · rw [h2]; omega
theorem scanL_lt : (scanL C T).2 < C.length := by
  rcases scanF_lt (T := T) (C := C) (i := 0) (f := -1) (Int.le_refl 0) (by omega) with h | ⟨h1, h2⟩
  · unfold scanL; omega
  · subst h1
    show (-1 : Int) < 0
    decide
end
section
variable {l : List Int} {s i m : Nat}
theorem pick_yes (h : s.testBit i = true) : pickTo l s (i + 1) = pickTo l s i ++ [nth l i] := by rw [pickTo, if_pos h]
theorem pick_no (h : ¬ s.testBit i = true) : pickTo l s i = pickTo l s (i + 1) := by rw [pickTo, if_neg h]
theorem pick_len : (pickTo l s i).length ≤ i := by
  induction i with
  | zero => exact Nat.le_refl _
  | succ i ih =>
    rw [pickTo]
    split
    · rw [List.length_append]; exact Nat.add_le_add_right ih 1
    · omega
theorem some_yes (h : (pickTo l s l.length).length = m) : someTo l m (s + 1) = someTo l m s ++ [pickTo l s l.length] := by rw [someTo, if_pos h]
theorem some_no (h : ¬ (pickTo l s l.length).length = m) : someTo l m s = someTo l m (s + 1) := by rw [someTo, if_neg h]
theorem some_len : (someTo l m s).length ≤ s := by
  induction s with
  | zero => exact Nat.le_refl _
  | succ i ih =>
    rw [someTo]
    split
    · rw [List.length_append]; exact Nat.add_le_add_right ih 1
    · omega
theorem two_pow8 (h : l.length ≤ 8) : 2 ^ l.length ≤ 256 := Nat.le_trans (Nat.pow_le_pow_right (by decide) h) (by decide)
theorem neg_next (hi : i < l.length) : negL (l.take (i + 1)) = negL (l.take i) ++ [-nth l i] := by rw [negL, take_succ_nth hi, List.map_append]; rfl
theorem lit_in {vars : Int} (h : litsOk vars l) (hv : vars ≤ 120) (hi : i < l.length) : -120 ≤ nth l i ∧ nth l i ≤ 120 := by
  obtain ⟨_, a, b, _⟩ := h i hi
  omega
end
section
variable {C : List (List Int)} {T W : List Int} {n : Nat} {X : List Int × List Int × Int} {fi i : Int}
theorem run_no (h : runF C n T W = some X) (hs : scanL C T = (true, i)) : X = (T, W, i) := by
  cases n with
  | zero => cases h
  | succ n =>
    rw [runF, hs, if_pos rfl] at h
    exact (Option.some.inj h).symm
theorem run_done (h : runF C n T W = some X) (hs : scanL C T = (false, fi)) (hn : fi < 0) : X = (T, W, -1) := by
  cases n with
  | zero => cases h
  | succ n =>
    rw [runF, hs, if_neg (show ¬ (false = true) from Bool.false_ne_true), if_pos hn] at h
    exact (Option.some.inj h).symm
theorem run_step (h : runF C n T W = some X) (hs : scanL C T = (false, fi)) (hn : ¬ fi < 0) : ∃ m, m < n ∧ runF C m (T ++ [(stateL T (nth C fi.toNat)).2]) (W ++ [fi]) = some X := by
  cases n with
  | zero => cases h
  | succ n =>
    rw [runF, hs, if_neg (show ¬ (false = true) from Bool.false_ne_true), if_neg hn] at h
    exact ⟨n, Nat.lt_succ_self n, h⟩
def litsIn (c : List Int) : Prop := ∀ i, i < c.length → -120 ≤ nth c i ∧ nth c i ≤ 120
theorem scan_lt (hs : scanL C T = (false, fi)) : fi < C.length := by
  have := scanL_lt (C := C) (T := T)
  rw [hs] at this
  exact this
theorem state_in {c : List Int} (hc : litsIn c) : ∀ {k : Nat} {o : Int}, (-120 ≤ o ∧ o ≤ 120) → -120 ≤ (stateF T (c.drop k) o).2 ∧ (stateF T (c.drop k) o).2 ≤ 120 := by
  intro k o ho
  by_cases hk : k < c.length
  · by_cases h1 : -nth c k ∈ T
    · rw [stF_skip hk h1]; exact state_in hc ho
    · by_cases h2 : nth c k ∈ T ∨ o ≠ 0
      · rw [stF_early hk h1 h2]; decide
      · rw [stF_open hk h1 h2]; exact state_in hc (hc k hk)
  · rw [stF_end (by omega)]; exact ho
termination_by k => c.length - k
end
theorem St.freshN {H0 H : Heap} {S : Nat → Prop} {A' : List Ent} (h : St H0 NoB (fun b => S b ∧ b < H0.size) A' H) : Fresh S A' H0 H ∧ A'.Pairwise fun e e' => ∀ b, e.blocks b → ¬ e'.blocks b :=
  ⟨⟨h.ok, fun b ⟨e', he, hb⟩ => (h.ge e' he b hb).1.elim id (fun h => h.elim)⟩, h.dj⟩
theorem run_len {C : List (List Int)} {T2 W2 : List Int} {b : Int} : ∀ {n : Nat} {T W : List Int}, runF C n T W = some (T2, W2, b) → T2.length ≤ T.length + n ∧ W2.length ≤ W.length + n
  | 0, _, _, h => by cases h
  | n + 1, T, W, h => by
    rw [runF] at h
    split at h
    · cases h; exact ⟨Nat.le_add_right _ _, Nat.le_add_right _ _⟩
    split at h
    · cases h; exact ⟨Nat.le_add_right _ _, Nat.le_add_right _ _⟩
    · have := run_len h
      simp only [List.length_append, List.length_singleton] at this
      omega
section
variable {T A : List Int} {i j : Nat} {nx : Int} {ph : Bool} {n : Nat} {v : Int}
theorem ask_no (hi : i < A.length) (h : -nth A i ∈ T) : askF T (A.drop i) nx = (nth A i, 0) := by rw [drop_nth hi, askF, if_pos h]
theorem ask_next (hi : i < A.length) (h : ¬ -nth A i ∈ T) : askF T (A.drop i) nx = askF T (A.drop (i + 1)) (if nx = 0 ∧ nth A i ∉ T then nth A i else nx) := by rw [drop_nth hi, askF, if_neg h]
theorem ask_end (hi : A.length ≤ i) : askF T (A.drop i) nx = (0, nx) := by rw [List.drop_of_length_le hi, askF]
theorem var_stop (h : nx ≠ 0) : varF T ph n v nx = nx := by
  cases n with
  | zero => rfl
  | succ n => rw [varF, if_pos h]
theorem var_next (h : nx = 0) (hn : 0 < n) : varF T ph n v nx = varF T ph (n - 1) (v + 1) (if v ∉ T ∧ -v ∉ T then (if ph then v else -v) else 0) := by
  cases n with
  | zero => exact absurd hn (Nat.lt_irrefl 0)
  | succ n => rw [varF, if_neg (not_not_intro h)]; rfl
theorem var_end : varF T ph 0 v nx = nx := rfl
theorem ask_in (hA : litsIn A) : ∀ {i : Nat} {nx : Int}, (-120 ≤ nx ∧ nx ≤ 120) → (-120 ≤ (askF T (A.drop i) nx).1 ∧ (askF T (A.drop i) nx).1 ≤ 120) ∧ (-120 ≤ (askF T (A.drop i) nx).2 ∧ (askF T (A.drop i) nx).2 ≤ 120) := by
  intro i nx hn
  by_cases hi : i < A.length
  · by_cases h : -nth A i ∈ T
    · rw [ask_no hi h]; exact ⟨hA i hi, ⟨show (-120 : Int) ≤ 0 by decide, show (0 : Int) ≤ 120 by decide⟩⟩
    · rw [ask_next hi h]
      have := hA i hi
      exact ask_in hA (by split <;> omega)
  · rw [ask_end (by omega)]; exact ⟨⟨show (-120 : Int) ≤ 0 by decide, show (0 : Int) ≤ 120 by decide⟩, hn⟩
termination_by i => A.length - i
end
section
variable {T W A Lv : List Int} {ph : Bool} {V : Nat} {lv : Int}
def decN (T A : List Int) (ph : Bool) (V : Nat) : Int := varF T ph V 1 (askF T A 0).2
def decS (T A : List Int) (ph : Bool) (V : Nat) : Prop := (askF T A 0).1 ≠ 0 ∨ decN T A ph V = 0
instance : Decidable (decS T A ph V) := by unfold decS; infer_instance
def decT (T A : List Int) (ph : Bool) (V : Nat) (X : List Int) (x : Int) : List Int := if decS T A ph V then X else X ++ [x]
def decL (T A : List Int) (ph : Bool) (V : Nat) (lv : Int) : Int := if decS T A ph V then lv else lv + 1
theorem dec_stay (h : decS T A ph V) : (∀ X x, decT T A ph V X x = X) ∧ decL T A ph V lv = lv := ⟨fun _ _ => if_pos h, if_pos h⟩
theorem dec_go (h : ¬ decS T A ph V) : (∀ X x, decT T A ph V X x = X ++ [x]) ∧ decL T A ph V lv = lv + 1 := ⟨fun _ _ => if_neg h, if_neg h⟩
theorem dec_no {x : Int} (h : (x, (0 : Int)) = askF T A 0) (hx : x ≠ 0) : decS T A ph V ∧ (askF T A 0).1 = x := by
  rw [decS, ← h]
  exact ⟨.inl hx, rfl⟩
theorem dec_end {nx ny : Int} (hq : askF T A 0 = (0, nx)) (hw : varF T ph V 1 nx = ny) : (decS T A ph V ↔ ny = 0) ∧ decN T A ph V = ny ∧ (askF T A 0).1 = 0 := by
  have h2 : decN T A ph V = ny := by rw [decN, hq]; exact hw
  refine ⟨?_, h2, by rw [hq]⟩
  rw [decS, h2, hq]
  exact ⟨fun h => h.elim (fun h => absurd rfl h) id, .inr⟩
end
section
variable {C : List (List Int)} {T W td sn O c : List Int} {n i : Nat} {x : Int}
theorem core_step (h : (coreF C T W n (x :: td) sn O).isSome = true) : (0 ≤ idxOf (fun y => decide (y = x)) T ∧ idxOf (fun y => decide (y = x)) T < W.length) ∧ ∃ m, m < n ∧
    (nth W (idxOf (fun y => decide (y = x)) T).toNat < 0 → (coreF C T W m td sn (if x ∈ O then O else O ++ [x])).isSome = true) ∧
    (¬ nth W (idxOf (fun y => decide (y = x)) T).toNat < 0 → nth W (idxOf (fun y => decide (y = x)) T).toNat < C.length ∧
      (coreF C T W m (moreF x (nth C (nth W (idxOf (fun y => decide (y = x)) T).toNat).toNat) td sn).1 (moreF x (nth C (nth W (idxOf (fun y => decide (y = x)) T).toNat).toNat) td sn).2 O).isSome = true) := by
  cases n with
  | zero => cases h
  | succ n =>
    rw [coreF] at h
    unfold idxI at h
    by_cases h1 : idxOf (fun y => decide (y = x)) T < 0 ∨ (W.length : Int) ≤ idxOf (fun y => decide (y = x)) T
    · rw [if_pos h1] at h; cases h
    · rw [if_neg h1] at h
      refine ⟨by omega, n, Nat.lt_succ_self n, fun h2 => ?_, fun h2 => ?_⟩
      · rw [if_pos h2] at h; exact h
      · rw [if_neg h2] at h
        by_cases h3 : (C.length : Int) ≤ nth W (idxOf (fun y => decide (y = x)) T).toNat
        · rw [if_pos h3] at h; cases h
        · rw [if_neg h3] at h; exact ⟨by omega, h⟩
theorem cons_drop (h : 0 < td.length) : td = nth td 0 :: td.drop 1 := by
  have := drop_nth h
  rwa [List.drop_zero] at this
theorem more_yes (hi : i < c.length) (h : nth c i ≠ x ∧ -nth c i ∉ sn) : moreF x (c.drop i) td sn = moreF x (c.drop (i + 1)) (td ++ [-nth c i]) (sn ++ [-nth c i]) := by rw [drop_nth hi, moreF, if_pos h]
theorem more_no (hi : i < c.length) (h : ¬ (nth c i ≠ x ∧ -nth c i ∉ sn)) : moreF x (c.drop i) td sn = moreF x (c.drop (i + 1)) td sn := by rw [drop_nth hi, moreF, if_neg h]
theorem more_end (hi : c.length ≤ i) : moreF x (c.drop i) td sn = (td, sn) := by rw [List.drop_of_length_le hi, moreF]
theorem lits_drop (h : litsIn td) : litsIn (td.drop 1) := fun i hi => by
  have := h (i + 1) (by rw [List.length_drop] at hi; omega)
  have e : nth (td.drop 1) i = nth td (i + 1) := by simp [nth]
  rwa [e]
theorem lits_app (h : litsIn td) (hx : -120 ≤ x ∧ x ≤ 120) : litsIn (td ++ [x]) := fun i hi => by
  by_cases h1 : i < td.length
  · have e : nth (td ++ [x]) i = nth td i := by simp [nth, List.getElem?_append_left h1]
    rw [e]; exact h i h1
  · rw [List.length_append, List.length_singleton] at hi
    have e : nth (td ++ [x]) i = x := by simp [nth, show i = td.length by omega]
    rw [e]; exact hx
theorem lits_one (hx : -120 ≤ x ∧ x ≤ 120) : litsIn [x] := lits_app (td := []) (fun i hi => absurd hi (Nat.not_lt_zero i)) hx
end
theorem lits_perm {a b : List Int} (h : litsIn b) (hp : a.Perm b) : litsIn a := fun i hi => by
  obtain ⟨j, hj, e⟩ := nth_of_mem (hp.mem_iff.1 (nth_mem hi))
  rw [← e]; exact h j hj
theorem cnf_lits {V : Int} {C : List (List Int)} (h : cnfOk V C) : (∀ c ∈ C, litsIn c) ∧ ∀ c ∈ C, c.length ≤ 24 := ⟨fun c hc _ hi => lit_in (h.2.2.2 c hc).2 h.2.1 hi, fun c hc => (h.2.2.2 c hc).1⟩
theorem var_rng {V l : Int} (h : ¬ l = 0 ∧ -V ≤ l ∧ l ≤ V) : 1 ≤ varA l ∧ varA l ≤ V := by
  unfold varA
  obtain ⟨h1, h2, h3⟩ := h
  omega
section
variable {C : List (List Int)} {A T W : List Int} {V n : Nat} {ph : Bool} {lv st : Int}
theorem go_step (h : goF C A V ph n T W lv = some st) : ∃ m T2 W2 b, m + 1 = n ∧ runF C 8 T W = some (T2, W2, b) ∧ (0 ≤ b → lv = 0 ∧ st = 2) ∧
    (¬ 0 ≤ b → trailOk V T2 ∧ ((askF T2 A 0).1 ≠ 0 → st = 2 ∧ (coreF C T2 W2 12 [-(askF T2 A 0).1] [-(askF T2 A 0).1] [(askF T2 A 0).1]).isSome = true) ∧
      (¬ (askF T2 A 0).1 ≠ 0 → (decN T2 A ph V = 0 → st = 1) ∧ (¬ decN T2 A ph V = 0 → goF C A V ph m (T2 ++ [decN T2 A ph V]) (W2 ++ [-1]) (lv + 1) = some st))) := by
  cases n with
  | zero => cases h
  | succ m =>
    rw [goF] at h
    cases hr : runF C 8 T W with
    | none => rw [hr] at h; cases h
    | some X =>
      obtain ⟨T2, W2, b⟩ := X
      rw [hr] at h
      dsimp only at h
      refine ⟨m, T2, W2, b, rfl, rfl, fun hb => ?_, fun hb => ?_⟩
      · rw [if_pos hb] at h
        by_cases hl : lv = 0
        · rw [if_pos hl] at h; exact ⟨hl, (Option.some.inj h).symm⟩
        · rw [if_neg hl] at h; cases h
      · rw [if_neg hb] at h
        by_cases ht : trailOk V T2
        · rw [if_pos ht] at h
          refine ⟨ht, fun ha => ?_, fun ha => ?_⟩
          · rw [if_pos ha] at h
            by_cases hc : (coreF C T2 W2 12 [-(askF T2 A 0).1] [-(askF T2 A 0).1] [(askF T2 A 0).1]).isSome = true
            · rw [if_pos hc] at h; exact ⟨(Option.some.inj h).symm, hc⟩
            · rw [if_neg hc] at h; cases h
          · rw [if_neg ha] at h
            have h : (if decN T2 A ph V = 0 then some 1 else goF C A V ph m (T2 ++ [decN T2 A ph V]) (W2 ++ [-1]) (lv + 1)) = some st := h
            refine ⟨fun hd => ?_, fun hd => ?_⟩
            · rw [if_pos hd] at h; exact (Option.some.inj h).symm
            · rw [if_neg hd] at h; exact h
        · rw [if_neg ht] at h; cases h
end
theorem dec_list {T A Lv W : List Int} {ph : Bool} {V : Nat} {lv : Int} (h : decS T A ph V) : decT T A ph V T (decN T A ph V) = T ∧ decT T A ph V W (-1) = W ∧ decT T A ph V Lv (lv + 1) = Lv ∧ decL T A ph V lv = lv :=
  ⟨(dec_stay (lv := lv) h).1 _ _, (dec_stay (lv := lv) h).1 _ _, (dec_stay (lv := lv) h).1 _ _, (dec_stay h).2⟩
theorem dec_more {T A Lv W : List Int} {ph : Bool} {V : Nat} {lv : Int} (h : ¬ decS T A ph V) : decT T A ph V T (decN T A ph V) = T ++ [decN T A ph V] ∧ decT T A ph V W (-1) = W ++ [-1] ∧ decT T A ph V Lv (lv + 1) = Lv ++ [lv + 1] ∧ decL T A ph V lv = lv + 1 :=
  ⟨(dec_go (lv := lv) h).1 _ _, (dec_go (lv := lv) h).1 _ _, (dec_go (lv := lv) h).1 _ _, (dec_go h).2⟩
theorem sure_go : cnfOk (1 : Nat) [[1], [-1]] ∧ litsOk (1 : Nat) [] ∧ goF [[1], [-1]] [] 1 (decide ((0 : Int) = 1)) 2 [] [] 0 = some 2 := by decide +kernel
theorem q_neqF {P : Program} {o : Oper} {U : Nat → Prop} {f : Fr} {H : Heap} {t u : TypeId} {x y : Operand} {a b : Int} (ho : o.op = .binOp .neq t x y u) (hx : ev f x = I a) (hy : ev f y = I b) (h : a = b) : Quiet P o U f H (B false) := by
  have := q_neq (P := P) (U := U) (H := H) ho hx hy
  rwa [decide_eq_false (not_not_intro h)] at this
def cardTo : Nat → List Int
  | 0 => []
  | i + 1 => cardTo i ++ [(i : Int) + 1]
theorem cardTo5 : cardTo 5 = cardL := rfl
section
variable {p i n : Nat}
theorem ask_yes (h : p.testBit i = true) : askTo p (i + 1) = askTo p i ++ [(i : Int) + 1] := by rw [askTo, if_pos h]
theorem ask_not (h : ¬ p.testBit i = true) : askTo p (i + 1) = askTo p i ++ [-(i : Int) - 1] := by rw [askTo, if_neg h]
theorem many_yes (h : p.testBit i = true) : ((manyTo p (i + 1) : Nat) : Int) = ((manyTo p i : Nat) : Int) + 1 := by rw [manyTo, if_pos h]; rfl
theorem many_not (h : ¬ p.testBit i = true) : ((manyTo p (i + 1) : Nat) : Int) = ((manyTo p i : Nat) : Int) := by rw [manyTo, if_neg h]
theorem askTo_len : (askTo p i).length = i := by
  induction i with
  | zero => rfl
  | succ i ih => rw [askTo, List.length_append, ih]; rfl
theorem cardTo_len : (cardTo i).length = i := by
  induction i with
  | zero => rfl
  | succ i ih => rw [cardTo, List.length_append, ih]; rfl
theorem manyTo_le : manyTo p i ≤ i := by
  induction i with
  | zero => exact Nat.le_refl _
  | succ i ih => rw [manyTo]; split <;> omega
theorem card_go (hp : p < 32) (hn : n < 7) (ph : Bool) : goF (atMost cardL n) (askTo p 5) 5 ph 8 [] [] 0 = some (if manyTo p 5 ≤ n then 1 else 2) ∧ goF (atLeast cardL n) (askTo p 5) 5 ph 8 [] [] 0 = some (if n ≤ manyTo p 5 then 1 else 2) ∧
    cnfOk (5 : Nat) (atMost cardL n) ∧ cnfOk (5 : Nat) (atLeast cardL n) ∧ litsOk (5 : Nat) (askTo p 5) := by
  have h := card_at hp hn
  have h2 : cardB ph p n = true := by cases ph; exact h.1; exact h.2
  simp only [cardB, Bool.and_eq_true, decide_eq_true_eq] at h2
  obtain ⟨⟨⟨⟨a1, a2⟩, a3⟩, a4⟩, a5⟩ := h2
  exact ⟨a1, a2, a3, a4, a5⟩
theorem card_lits : litsOk 5 cardL ∧ cardL.length ≤ 8 := by decide +kernel
end
theorem card_say1 {m n : Nat} {mc : Int} (h : mc = (m : Int)) : decide ((if m ≤ n then (1 : Int) else 2) = 1) = decide (mc ≤ (n : Int)) := by
  subst h
  by_cases hm : m ≤ n
  · rw [if_pos hm]; exact decide_eq_decide.2 ⟨fun _ => by omega, fun _ => rfl⟩
  · rw [if_neg hm]; exact decide_eq_decide.2 ⟨fun h => absurd h (by decide), fun h => absurd h (by omega)⟩
theorem card_say2 {m n : Nat} {mc : Int} (h : mc = (m : Int)) : decide ((if n ≤ m then (1 : Int) else 2) = 1) = decide ((n : Int) ≤ mc) := by
  subst h
  by_cases hm : n ≤ m
  · rw [if_pos hm]; exact decide_eq_decide.2 ⟨fun _ => by omega, fun _ => rfl⟩
  · rw [if_neg hm]; exact decide_eq_decide.2 ⟨fun h => absurd h (by decide), fun h => absurd h (by omega)⟩
end Go.Um
namespace Go.Um
open Go.RowKit
def andNotN (a b : Nat) : Nat := a ^^^ (a &&& b)
section
variable {P : Program} {o : Oper} {U : Nat → Prop} {f : Fr} {H : Heap} {a b : Nat}
theorem ofNat64 (a : Nat) : BitVec.ofInt 64 (a : Int) = BitVec.ofNat 64 a := by
  apply BitVec.eq_of_toNat_eq
  simp [BitVec.toNat_ofInt]
theorem bv64 {a : Nat} (h : a < 4611686018427387904) : (BitVec.ofInt 64 (a : Int)).toNat = a := by
  rw [ofNat64, BitVec.toNat_ofNat]; omega
theorem lt62_and {a b : Nat} (ha : a < 4611686018427387904) : a &&& b < 4611686018427387904 := Nat.lt_of_le_of_lt Nat.and_le_left ha
theorem lt62_andNot {a b : Nat} (ha : a < 4611686018427387904) (hb : b < 4611686018427387904) : andNotN a b < 4611686018427387904 := Nat.xor_lt_two_pow (n := 62) ha (lt62_and ha)
theorem shr_lt {a k : Nat} (ha : a < 4611686018427387904) : a >>> k < 4611686018427387904 := Nat.lt_of_le_of_lt (Nat.shiftRight_le _ _) ha
theorem wrap62 {a : Nat} (h : a < 4611686018427387904) : IntKind.i64.wrap (a : Int) = (a : Int) := wrap_in (by constructor <;> omega)
theorem run_and {w : World} (ha : a < 4611686018427387904) (hb : b < 4611686018427387904) : (Op.intBits .and .i64 (a : Int) (b : Int)).run P w = .ok (I ((a &&& b : Nat) : Int)) w := by
  have h : (BitVec.ofInt 64 (a : Int) &&& BitVec.ofInt 64 (b : Int)).toNat = a &&& b := by rw [BitVec.toNat_and, bv64 ha, bv64 hb]
  have h2 := wrap62 (lt62_and (b := b) ha)
  show (pure (Value.int .i64 (IntKind.i64.wrap ((BitVec.ofInt 64 (a : Int) &&& BitVec.ofInt 64 (b : Int) : BitVec 64).toNat : Int))) : Sem Value).run P w = _
  rw [h, h2]; simp
theorem q_andN {t u : TypeId} {x y : Operand} (ho : o.op = .binOp .and t x y u) (hx : ev f x = I ((a : Nat) : Int)) (hy : ev f y = I ((b : Nat) : Int)) (ha : a < 4611686018427387904) (hb : b < 4611686018427387904) : Quiet P o U f H (I ((a &&& b : Nat) : Int)) := by
  intro w _; simp [execOp, ho, hx, hy, eqGuard, binOp, run_and ha hb]
theorem q_shl1 {t u : TypeId} {x y : Operand} {b : Int} (ho : o.op = .binOp .shl t x y u) (hx : ev f x = I 1) (hy : ev f y = I b) (h0 : 0 ≤ b) (h1 : b ≤ 61) : Quiet P o U f H (I ((2 ^ b.toNat : Nat) : Int)) := by
  intro w _
  have hlt : 2 ^ b.toNat < 4611686018427387904 := Nat.pow_lt_pow_right (a := 2) (n := 62) (by decide) (by omega)
  have h2 := wrap62 hlt
  have hm : min b.toNat 64 = b.toNat := by omega
  have hn : ¬ b < 0 := by omega
  simp only [execOp, ho, hx, hy, eqGuard, binOp, Op.shift, IntKind.bits, hm, if_neg hn]
  simp at h2 ⊢
  rw [h2]
theorem q_shrN {t u : TypeId} {x y : Operand} {b : Int} (ho : o.op = .binOp .shr t x y u) (hx : ev f x = I ((a : Nat) : Int)) (hy : ev f y = I b) (h0 : 0 ≤ b) (h1 : b ≤ 61) : Quiet P o U f H (I ((a >>> b.toNat : Nat) : Int)) := by
  intro w _
  have hm : min b.toNat 64 = b.toNat := by omega
  have hn : ¬ b < 0 := by omega
  have e : ((a : Int).fdiv (2 ^ b.toNat)) = ((a >>> b.toNat : Nat) : Int) := by
    rw [Nat.shiftRight_eq_div_pow]
    rw [Int.fdiv_eq_ediv_of_nonneg _ (by exact_mod_cast Nat.zero_le _)]
    norm_cast
  simp only [execOp, ho, hx, hy, eqGuard, binOp, Op.shift, IntKind.bits, hm, if_neg hn]
  simp [e]
end
theorem bit_one (s f : Nat) : decide ((((s >>> f) &&& 1 : Nat) : Int) = 1) = s.testBit f := by
  rw [Nat.testBit, Nat.and_comm 1, Nat.and_one_is_mod]
  have : (s >>> f) % 2 < 2 := Nat.mod_lt _ (by decide)
  by_cases h : (s >>> f) % 2 = 1
  · simp [h]
  · have h0 : (s >>> f) % 2 = 0 := by omega
    simp [h0]
end Go.Um
namespace Go.Um
theorem sk {α : Type} {a : α} {l m : List α} (h : l.Sublist m) : (a :: l).Sublist (a :: m) := List.Sublist.cons_cons a h
theorem sn {α : Type} {a : α} {l m : List α} (h : l.Sublist m) : l.Sublist (a :: m) := List.Sublist.cons a h
end Go.Um
namespace Go.Um
section
variable {P : Program} {N : Nat} {ops : Array Oper} {o : Oper} {rest : List Oper} {n r : FP} {x : Nat → FP} {f : Fr} {H : Heap}
theorem lq {v : Value} (hg : o.guard = none) (hQ : Quiet P o NoB f H v) (h : wpL P ops n rest (updO f o.dst v) H) : wpL P ops n (o :: rest) f H := wpL_q hg hQ h
theorem lo (hg : o.guard = none) (h : OpE P o (wpL P ops n rest) f H) : wpL P ops n (o :: rest) f H := wpL_o hg h
theorem sc {c d : Code} (J : FP) (h : wpF P N c J x r f H) (hJ : ∀ f H, J f H → wpF P N d n x r f H) : wpF P N (.seq c d) n x r f H := wpF_seq (wpF_cut J h hJ)
theorem fcr {id : Nat} {d : Code} {l : List Oper} (J : FP) (h : wpL P l.toArray J l f H) (hJ : ∀ f H, J f H → wpF P N d n x r f H) : wpF P N (.seq (.region id l.toArray false) d) n x r f H := wpF_seq (wpF_cut J (wpF_region h) hJ)
theorem rq {lab : List (Option Nat)} {ul : List (List Nat)} {blk : Nat → Nat → Prop} {l : List Nat} {v : Value} (q : Nat)
    (hd : (decide (l.length < ops.size) && readyB ops (mkL ops.size l) q) = true) (hq : ops[q]? = some o) (hg : o.guard = none) (hQ : Quiet P o (labU ul blk q) f H v)
    (h : wpR P ops lab ul blk n (q :: l) (updO f o.dst v) H) : wpR P ops lab ul blk n l f H := wpR_q q hd hq (quietAt hq hg hQ) h
theorem fa {α : Type} {p : α → Prop} {a : α} {l : List α} (h : p a) (t : ∀ x ∈ l, p x) : ∀ x ∈ a :: l, p x := List.forall_mem_cons.2 ⟨h, t⟩
theorem fe {α : Type} {p : α → Prop} : ∀ x ∈ ([] : List α), p x := fun _ h => by cases h
theorem la {e : Operand} {v : Value} (hg : o.guard = none) (ho : o.op = .assign e) (hx : ev f e = v) (h : wpL P ops n rest (updO f o.dst v) H) : wpL P ops n (o :: rest) f H := wpL_q (U := NoB) hg (q_assign ho hx) h
theorem lm {e : Operand} {v : Value} (hg : o.guard = none) (ho : o.op = .move e) (hx : ev f e = v) (h : wpL P ops n rest (updO f o.dst v) H) : wpL P ops n (o :: rest) f H := wpL_q (U := NoB) hg (q_move ho hx) h
theorem gq {v : Value} {j : Nat} {b : Bool} {oj : Oper} {d : Nat} (hg : o.guard = some (j, b)) (hj : ops[j]? = some oj) (hjd : oj.dst = some d) (hv : f d = .bool b)
    (hQ : Quiet P o NoB f H v) (h : wpL P ops n rest (updO f o.dst v) H) : wpL P ops n (o :: rest) f H := wpL_gq hg hj hjd hv hQ h
theorem rs {lab : List (Option Nat)} {ul : List (List Nat)} {blk : Nat → Nat → Prop} {l : List Nat} {j : Nat} {b c : Bool} {oj : Oper} {d : Nat} (q : Nat)
    (hd : (decide (l.length < ops.size) && readyB ops (mkL ops.size l) q) = true) (hv : f d = .bool c) (hq : ops[q]? = some o) (hg : o.guard = some (j, b)) (hj : ops[j]? = some oj) (hjd : oj.dst = some d)
    (hne : (c == b) = false) (h : wpR P ops lab ul blk n (q :: l) (updO f o.dst undef) H) : wpR P ops lab ul blk n l f H := wpR_q q hd hq (quietAt_s hq hg hj hjd hv hne) h
end
abbrev Vg : Array Value → Value := .agg
abbrev bE (g : Nat) (cs : Array Value) (t : TypeId) : Ent := blkE g (.cells cs t)
abbrev nS : Value := .slice none 0 0
abbrev SZ (S : Nat → Prop) (H0 : Heap) : Nat → Prop := fun b => S b ∧ b < H0.size
end Go.Um
namespace Go.Um
open GoT (sz ag rdc)
open Go.RowKit
def queC (size : Nat) (t : TypeId) (v : Value) (n : Nat) (cl : List Value) (H : Heap) : Prop :=
  ∃ g off c cur, v = .slice (some ⟨g, off, none⟩) n c ∧ H[g]? = some (.cells cur t (0, 0)) ∧ n ≤ c ∧ c ≤ maxLen ∧ off + c * size ≤ cur.size ∧ (cur.toList.drop off).take (n * size) = cl
def queOk {α : Type} [GoT α] (t : TypeId) (v : Value) (l : List α) (S : Nat → Prop) (H : Heap) : Prop :=
  l.length * GoT.bytes α ≤ 140737488355328 ∧ ∃ cl, RdCs S H cl l ∧ queC (sz α) t v l.length cl H
theorem queC.lt {size : Nat} {t : TypeId} {v : Value} {n : Nat} {cl : List Value} {H : Heap} (h : queC size t v n cl H) {b : Nat} (hb : rowB v b) : b < H.size := by
  obtain ⟨g, off, c, cur, rfl, hg, _⟩ := h
  simp only [rowB, Value.ownBlock, Option.some.injEq] at hb
  subst hb
  exact (Array.getElem?_eq_some_iff.1 hg).1
theorem queC.ext {size : Nat} {t : TypeId} {v : Value} {n : Nat} {cl : List Value} {H H' : Heap} (h : queC size t v n cl H) (hs : ∀ b, b < H.size → rowB v b → H'[b]? = H[b]?) : queC size t v n cl H' := by
  obtain ⟨g, off, c, cur, rfl, hg, hh⟩ := h
  refine ⟨g, off, c, cur, rfl, ?_, hh⟩
  rw [hs g (Array.getElem?_eq_some_iff.1 hg).1 (by simp [rowB, Value.ownBlock])]
  exact hg
def queE {α : Type} [GoT α] (t : TypeId) (v : Value) (l : List α) : Ent where
  blocks := rowB v
  ok S H := queOk t v l S H
  lt h hb := by obtain ⟨_, cl, _, h⟩ := h; exact h.lt hb
  ext h hz hs ht := by
    obtain ⟨hb, cl, hcl, hh⟩ := h
    exact ⟨hb, cl, hcl.ext ⟨hz, fun b hb hn => hs b hb (.inr hn)⟩ ht, hh.ext fun b hb hr => hs b hb (.inl hr)⟩
section
variable {α : Type} [GoT α] {P : Program} {o : Oper} {f : Fr} {H0 H : Heap} {M S0 : Nat → Prop} {L : List Ent} {next : FP}
theorem St.que {t : TypeId} {v : Value} {xs : List α} (h : St H0 M S0 (rowE t v xs :: L) H) (hne : xs ≠ []) : St H0 M S0 (queE t v xs :: L) H := by
  refine h.upd0 (Nat.le_refl _) (fun _ _ _ => rfl) (fun b hb => .inl hb) ?_
  obtain ⟨hby, cl, hcl, ⟨rfl, hn, _⟩ | ⟨g, c, cur, rfl, hg, hc, hm, hz, ht⟩⟩ := h.head
  · exact absurd (List.eq_nil_of_length_eq_zero hn) hne
  · exact ⟨hby, cl, hcl.ext (.refl _ _) (fun b _ hb => by
      rcases hb with hb | ⟨e, he, hb⟩
      · exact .inl hb
      · rcases List.mem_cons.1 he with rfl | he
        · exact .inr ⟨_, List.mem_cons_self .., hb⟩
        · exact .inr ⟨e, List.mem_cons_of_mem _ he, hb⟩), g, 0, c, cur, rfl, hg, hc, hm, by rw [hz]; omega, by rw [List.drop_zero]; exact ht⟩
theorem queOk.rdL {t : TypeId} {v : Value} {xs : List α} {S S' : Nat → Prop} (h : queOk t v xs S H) (hs : ∀ b, S' b → S b) (hb : ∀ b, rowB v b → ¬ S' b) : RdL S' H v xs := by
  obtain ⟨hby, cl, hcl, g, off, c, cur, rfl, hg, hc, hm, hz, ht⟩ := h
  refine ⟨_, _, c, cl, rfl, rfl, hc, hm, hby, hcl.ext (.refl _ _) (fun b _ hb => hs b hb), fun _ => ⟨g, off, rfl, hb g (by simp [rowB, Value.ownBlock]), ?_⟩⟩
  intro j hj
  rw [← ht] at hj ⊢
  simp only [hcell, hg]
  rw [List.getElem?_take]
  simp only [List.length_take] at hj
  rw [if_pos (by omega), List.getElem?_drop]
  simp
theorem St.queN {t : TypeId} {v : Value} {xs : List α} (h : St H0 M S0 L H) (k : Nat) (hk : L[k]? = some (queE t v xs)) : RdL NoB H v xs :=
  queOk.rdL (h.get k hk) (fun _ h => h.elim) (fun _ _ h => h)
theorem St.queTail {t : TypeId} {v : Value} {x : α} {xs : List α} (h : St H0 M S0 (queE t v (x :: xs) :: L) H) : St H0 M S0 (queE t (sliceV (sz α) v 1 (x :: xs).length) xs :: L) H := by
  have hh := h.head
  obtain ⟨hby, cl, ⟨c1, c2, e, h1, h2⟩, g, off, c, cur, rfl, hg, hc, hm, hz, ht⟩ := hh
  have hl1 : c1.length = sz α := GoT.len h1
  have hpos : 0 < sz α := GoT.pos
  have hlen : (x :: xs).length = xs.length + 1 := rfl
  rw [hlen] at hby hc ht
  have hv : ∃ off', sliceV (sz α) (.slice (some ⟨g, off, none⟩) (x :: xs).length c) 1 (x :: xs).length = .slice (some ⟨g, off', none⟩) xs.length (c - 1) ∧ off' + (c - 1) * sz α ≤ cur.size ∧ (cur.toList.drop off').take (xs.length * sz α) = c2 := by
    by_cases h1c : c = 1
    · have hx : xs = [] := List.eq_nil_of_length_eq_zero (by omega)
      subst hx
      refine ⟨off, by simp [sliceV, h1c], by rw [h1c] at hz ⊢; omega, ?_⟩
      have : c2 = [] := h2
      rw [this]
      simp
    · refine ⟨off + sz α, ?_, ?_, ?_⟩
      · have : sz α ≠ 0 := by omega
        simp [sliceV, h1c, Addr.add, this]
      · obtain ⟨d, rfl⟩ : ∃ d, c = d + 1 := ⟨c - 1, by omega⟩
        rw [Nat.succ_mul] at hz
        rw [Nat.add_sub_cancel]
        omega
      · have e2 : (cur.toList.drop off).take ((xs.length + 1) * sz α) = c1 ++ c2 := by rw [ht, e]
        have e3 := congrArg (List.drop (sz α)) e2
        rw [← hl1, List.drop_left, hl1, List.drop_take, List.drop_drop] at e3
        rw [← e3]
        congr 1
        rw [Nat.succ_mul, Nat.add_sub_cancel]
  obtain ⟨off', hv, hz', ht'⟩ := hv
  have hblk : ∀ b, rowB (.slice (some ⟨g, off', none⟩) xs.length (c - 1)) b → rowB (.slice (some ⟨g, off, none⟩) (x :: xs).length c) b := fun b hb => by simpa [rowB, Value.ownBlock] using hb
  rw [hv]
  refine h.upd0 (Nat.le_refl _) (fun _ _ _ => rfl) (fun b hb => .inl (hblk b hb)) ?_
  exact ⟨Nat.le_trans (Nat.mul_le_mul_right _ (Nat.le_succ _)) hby, c2, h2.ext (.refl _ _) (fun b _ hb => by
      rcases hb with hb | ⟨e, he, hb⟩
      · exact .inl hb
      · rcases List.mem_cons.1 he with rfl | he
        · exact .inr ⟨_, List.mem_cons_self .., hblk b hb⟩
        · exact .inr ⟨e, List.mem_cons_of_mem _ he, hb⟩), g, off', c - 1, cur, rfl, hg, by omega, by omega, hz', ht'⟩
theorem setCell_row {w : World} {g k : Nat} {cur : Array Value} {e : TypeId} {fr : Nat × Nat} {v : Value} (hg : w.heap[g]? = some (.cells cur e fr)) :
    (w.setCell ⟨g, k, none⟩ v).heap[g]? = some (.cells (cur.setIfInBounds k v) e fr) ∧ (w.setCell ⟨g, k, none⟩ v).heap.size = w.heap.size ∧ ∀ b, b ≠ g → (w.setCell ⟨g, k, none⟩ v).heap[b]? = w.heap[b]? := by
  refine ⟨?_, by simp [World.setCell], fun b hb => ?_⟩
  · unfold World.setCell
    show (w.heap.modify g _)[g]? = _
    rw [Array.getElem?_modify, if_pos rfl, hg]
    rfl
  · unfold World.setCell
    show (w.heap.modify g _)[b]? = _
    rw [Array.getElem?_modify, if_neg (Ne.symm hb)]
theorem e_appendQ {s x : Operand} {t e : TypeId} {v sv : Value} {xs : List Int} {y : Int} {S : Nat → Prop} (ho : o.op = .call { callee := .builtin .append, args := #[s, x], argTypes := #[t, t] })
    (ht : P.underlying t = some (.slice e)) (hE : ElemOk P Int e) (hsv : ev f s = v) (hxv : ev f x = sv) (h : St H0 M S0 (queE e v xs :: L) H)
    (hr : Rd S H sv [y]) (hb : xs.length + 1 ≤ 1000000)
    (hK : ∀ v' H', St H0 M S0 (queE e v' (xs ++ [y]) :: L) H' → Ext (rowB v) H H' → next (updO f o.dst v') H') : OpE P o next f H := by
  intro w hw
  subst hw
  obtain ⟨hby, cl, hcl, g, off, c, cur, rfl, hg, hc, hm, hz, htk⟩ := h.head
  obtain ⟨a, n, c', dl, rfl, hn, hnc, hcm, hby', hdl, hpp⟩ := Rd.list.1 hr
  obtain ⟨b0, off0, rfl, _, hcells⟩ := hpp (by simp)
  subst hn
  obtain ⟨c1, c2, e1, ⟨rfl, h6⟩, rfl⟩ := hdl
  subst e1
  obtain ⟨i, z, hi, hzi, hiz, hiby, hzz⟩ := hE.info
  have hsz : sz Int = 1 := rfl
  have hb8 : GoT.bytes Int = 8 := rfl
  rw [hsz] at hz htk hiz hzz
  rw [hb8] at hiby
  have hcll : cl.length = xs.length := by have := hcl.len; rw [hsz] at this; omega
  have hlt : g < w.heap.size := (Array.getElem?_eq_some_iff.1 hg).1
  have hnews : ∀ j u, ([I y] ++ [] : List Value)[j]? = some u → w.cell? ((⟨b0, off0, none⟩ : Addr).add j) = some u := by
    intro j u hj
    have hj1 : j < ([I y] ++ [] : List Value).length := by
      rcases Nat.lt_or_ge j ([I y] ++ [] : List Value).length with h | h
      · exact h
      · rw [List.getElem?_eq_none h] at hj; cases hj
    rw [add_off, cell_hcell, hcells j hj1, hj]
  have hrow : ∀ k b, rowB (.slice (some ⟨g, off, none⟩) k c) b ↔ b = g := by intro k b; simp [rowB, Value.ownBlock, eq_comm]
  have hsl : ∀ (v' : Value) (ys : List Int), (∀ b, rowB v' b → b = g ∨ w.heap.size ≤ b) → ∀ b, b < w.heap.size → SL S0 (queE e v' ys :: L) b → SL S0 (queE e (.slice (some ⟨g, off, none⟩) xs.length c) xs :: L) b := by
    intro v' ys hv' b hbl hs
    rcases hs with hs | ⟨e', he, hs⟩
    · exact .inl hs
    · rcases List.mem_cons.1 he with rfl | he
      · rcases hv' b hs with rfl | h2
        · exact .inr ⟨_, List.mem_cons_self .., (hrow _ _).2 rfl⟩
        · omega
      · exact .inr ⟨e', List.mem_cons_of_mem _ he, hs⟩
  have hrdy : ∀ (S' : Nat → Prop) (H' : Heap), RdCs S' H' [I y] [y] := fun S' H' => ⟨[I y], [], rfl, ⟨rfl, h6⟩, rfl⟩
  by_cases hroom : xs.length + 1 ≤ c
  · have hfit : off + xs.length < cur.size := by omega
    have hrun := run_append_room_cells (P := P) w t o.type e i ht hi g off xs.length c ⟨b0, off0, none⟩ 1 c' [I y] (by rw [hiz]; rfl) hnews (by intro u hu; rw [List.mem_singleton.1 hu]; rfl) hroom
      (by intro j hj; have hj0 : j = 0 := by simpa using hj
          subst hj0
          rw [hiz, cell_hcell]; simp only [hcell, hg]; rw [Array.getElem?_eq_getElem (by omega)]; rfl)
      (by intro j hj; unfold World.frozen?; simp only [hg]; simp)
    have hw1 : w.setCells g (off + xs.length * i.size) [I y] = w.setCell ⟨g, off + xs.length, none⟩ (I y) := by rw [hiz, Nat.mul_one]; rfl
    rw [hw1] at hrun
    have hrun2 : (execOp (ev f) o).run P w = .ok (.value (.slice (some ⟨g, off, none⟩) (xs.length + 1) c)) (w.setCell ⟨g, off + xs.length, none⟩ (I y)) := by
      simp only [List.length_cons, List.length_nil, Nat.zero_add] at hxv
      simp [execOp, ho, resolve, invoke, builtin, hsv, hxv, hrun]
    rw [hrun2]
    obtain ⟨s1, s2, s3⟩ := setCell_row (k := off + xs.length) (v := I y) hg
    have hx : Ext (rowB (.slice (some ⟨g, off, none⟩) xs.length c)) w.heap (w.setCell ⟨g, off + xs.length, none⟩ (I y)).heap := ⟨by rw [s2]; exact Nat.le_refl _, fun b _ hb => s3 b fun e => hb ((hrow _ _).2 e)⟩
    refine ⟨⟨rfl, rfl, rfl⟩, hK _ _ (h.upd0 (by rw [s2]; exact Nat.le_refl _) (fun b hb hne => s3 b fun e => hne ((hrow _ _).2 e)) (fun b hb => .inl ((hrow _ _).2 ((hrow _ _).1 hb))) ?_) hx⟩
    refine ⟨by rw [List.length_append, hb8]; simp only [List.length_singleton]; omega, cl ++ [I y], RdCs.app (hcl.ext (hx.mono fun b hb => .inr ⟨_, List.mem_cons_self .., hb⟩) fun b hb => hsl _ _ (fun b hb => .inl ((hrow _ _).1 hb)) b hb) (hrdy _ _), g, off, c, cur.setIfInBounds (off + xs.length) (I y), by simp, s1, by simp; exact hroom, hm, by rw [hsz]; simpa using hz, ?_⟩
    rw [hsz]
    apply List.ext_getElem?
    intro j
    rw [List.getElem?_take, List.getElem?_drop, Array.getElem?_toList, Array.getElem?_setIfInBounds]
    have hjc : ∀ j, j < xs.length → cl[j]? = cur[off + j]? := fun j hj => by
      rw [← htk, List.getElem?_take, if_pos (by omega), List.getElem?_drop, Array.getElem?_toList]
    simp only [List.length_append, List.length_singleton, Nat.mul_one]
    by_cases h1 : j < xs.length
    · rw [if_pos (by omega), if_neg (by omega), List.getElem?_append_left (by omega), hjc j h1]
    · by_cases h2 : j = xs.length
      · subst h2
        rw [if_pos (by omega), if_pos rfl, if_pos hfit, List.getElem?_append_right (by omega), hcll, Nat.sub_self]
        rfl
      · rw [if_neg (by omega), List.getElem?_eq_none (by simp; omega)]
  · obtain ⟨v', w', hrun, hown, hgr⟩ := run_append_arg_grows (P := P) w t o.type e i z 1 8 ht hi hzi hiz hiby hzz (by decide) ⟨g, off, none⟩ xs.length c cl (by rw [hcll]; omega)
      (by intro j u hj
          have hj1 : j < cl.length := by
            rcases Nat.lt_or_ge j cl.length with h | h
            · exact h
            · rw [List.getElem?_eq_none h] at hj; cases hj
          rw [add_off, cell_hcell]; simp only [hcell, hg]
          rw [← htk, List.getElem?_take, if_pos (by omega), List.getElem?_drop, Array.getElem?_toList] at hj
          exact hj) ⟨b0, off0, none⟩ 1 c' [I y] rfl hnews (by omega) (by simp only [maxLen]; omega) (by omega)
    have hrun2 : (execOp (ev f) o).run P w = .ok (.value v') w' := by
      simp only [List.length_cons, List.length_nil, Nat.zero_add] at hxv
      simp [execOp, ho, resolve, invoke, builtin, hsv, hxv, hrun]
    rw [hrun2]
    have hx : Ext NoB w.heap w'.heap := ⟨hgr.size, fun b hb _ => hgr.block b hb (by simp)⟩
    refine ⟨⟨hgr.os, hgr.tape, hgr.output⟩, hK _ _ ?_ (hx.mono fun _ h => h.elim)⟩
    rcases hown.2 with ⟨_, h0⟩ | ⟨g', cap, cur', rfl, hge, hg', hn', hm', hz', ht'⟩
    · omega
    refine h.upd0 hgr.size (fun b hb _ => hx.same b hb id) (fun b hb => .inr (by simp only [queE, rowB, Value.ownBlock, Option.some.injEq] at hb; omega)) ?_
    exact ⟨by rw [List.length_append, hb8]; simp only [List.length_singleton]; omega, cl ++ [I y], RdCs.app (hcl.ext (hx.mono fun _ h => h.elim) fun b hb => hsl _ _ (fun b hb => .inr (by simp only [rowB, Value.ownBlock, Option.some.injEq] at hb; omega)) b hb) (hrdy _ _), g', 0, cap, cur', by simp, hg', by simp; exact hn', hm', by rw [hsz]; omega, by rw [hsz, List.drop_zero]; simpa using ht'⟩
end
end Go.Um
namespace Go.Um
open GoT (sz ag rdc)
open Go.RowKit
theorem rd_ints {S : Nat → Prop} {H : Heap} : ∀ {l : List Int} {cl : List Value}, RdCs S H cl l → cl = l.map I ∧ ∀ c ∈ l, In64 c
  | [], cl, h => ⟨h, fun c hc => by cases hc⟩
  | c :: l, cl, ⟨c1, c2, e, ⟨e1, i1⟩, h2⟩ => by
    obtain ⟨e2, h3⟩ := rd_ints h2
    refine ⟨by rw [e, e1, e2]; rfl, fun c' hc' => ?_⟩
    rcases List.mem_cons.1 hc' with rfl | hc'
    · exact i1
    · exact h3 c' hc'
theorem ints_rd {S : Nat → Prop} {H : Heap} : ∀ {l : List Int}, (∀ c ∈ l, In64 c) → RdCs S H (l.map I) l
  | [], _ => rfl
  | c :: l, h => ⟨[I c], l.map I, rfl, ⟨rfl, h c (List.mem_cons_self ..)⟩, ints_rd fun c' hc' => h c' (List.mem_cons_of_mem _ hc')⟩
theorem holds_ints {w : World} {g : Nat} {t : TypeId} {cur : Array Value} {l : List Int} (hg : w.heap[g]? = some (.cells cur t (0, 0))) (ht : cur.toList.take l.length = l.map I) : Go.Sort.Holds (Value.int .i64) w g 0 l.toArray := by
  intro j hj
  have hj' : j < l.length := by simpa using hj
  refine ⟨?_, ?_⟩
  · unfold World.cell?
    rw [hg]
    have : cur[j]? = (l.map I)[j]? := by rw [← ht, List.getElem?_take, if_pos hj', Array.getElem?_toList]
    show cur[0 + j]? = _
    rw [Nat.zero_add, this, List.getElem?_map, List.getElem?_eq_getElem hj', getElem!_pos _ j hj, List.getElem_toArray]
    rfl
  · unfold World.frozen?
    rw [hg]
    simp
section
variable {P : Program} {H0 H : Heap} {M S0 : Nat → Prop} {L : List Ent}
theorem sort_rowI {F : Nat} {t : TypeId} {v : Value} {l : List Int} (hne : l ≠ [])
    (hsome : ∀ (blk cap : Nat) (zs : List Int) (w : World), Go.Sort.Holds (Value.int .i64) w blk 0 zs.toArray → blk < w.heap.size → zs.length < 4611686018427387904 → Calls P F #[.slice (some ⟨blk, 0, none⟩) zs.length cap] w fun e w' =>
      e = .returned (.tuple #[]) ∧ ∃ n os, w' = Go.Sort.grow (Go.Sort.putRow (Value.int .i64) (Go.Sort.ahead w n) blk 0 (zs.mergeSort fun x y => decide (x ≤ y)).toArray) os) (h : St H0 M S0 (rowE t v l :: L) H) :
    CallsH P F #[v] H fun rv H' => Ext (rowB v) H H' ∧ rv = .tuple #[] ∧ ∃ l' : List Int, l'.Perm l ∧ St H0 M S0 (rowE t v l' :: L) H' := by
  intro w hw
  subst hw
  obtain ⟨hby, cl, hcl, ⟨rfl, hn, rfl⟩ | ⟨g, c, cur, rfl, hg, hc, hm, hz, ht⟩⟩ := h.head
  · exact absurd (List.eq_nil_of_length_eq_zero hn) hne
  obtain ⟨rfl, hin⟩ := rd_ints hcl
  have hlt : g < w.heap.size := (Array.getElem?_eq_some_iff.1 hg).1
  have hb : GoT.bytes Int = 8 := rfl
  have hs1 : sz Int = 1 := rfl
  rw [hs1, Nat.mul_one] at hz ht
  have hsz : l.length < 4611686018427387904 := by rw [hb] at hby; omega
  refine (hsome g c l w (holds_ints hg ht) hlt hsz).mono ?_
  rintro e w' ⟨rfl, n, os, rfl⟩
  have hperm : (l.mergeSort fun x y => decide (x ≤ y)).Perm l := List.mergeSort_perm ..
  generalize (l.mergeSort fun x y => decide (x ≤ y)) = l' at hperm
  have hlen : l'.length = l.length := hperm.length_eq
  generalize hw2 : Go.Sort.grow (Go.Sort.putRow (Value.int .i64) (Go.Sort.ahead w n) g 0 l'.toArray) os = w2
  have hat : w2.heap[g]? = some (.cells (Go.Sort.putCells (Value.int .i64) 0 l'.toArray cur) t (0, 0)) := by
    rw [← hw2]
    unfold Go.Sort.putRow Go.Sort.mapBlock Go.Sort.grow
    show ((w.heap.modify g _) ++ os)[g]? = _
    rw [Array.getElem?_append_left (by simpa using hlt), Array.getElem?_modify, if_pos rfl, hg]
    rfl
  have hgr : w.heap.size ≤ w2.heap.size := by rw [← hw2]; simp
  have hsame : ∀ b, b < w.heap.size → b ≠ g → w2.heap[b]? = w.heap[b]? := by
    intro b hb hne
    rw [← hw2]
    unfold Go.Sort.putRow Go.Sort.mapBlock Go.Sort.grow
    show ((w.heap.modify g _) ++ os)[b]? = _
    rw [Array.getElem?_append_left (by simpa using hb), Array.getElem?_modify, if_neg (Ne.symm hne)]
  have hamb : Amb w w2 := by rw [← hw2]; exact ⟨rfl, rfl, rfl⟩
  have hrow : ∀ b, rowB (.slice (some ⟨g, 0, none⟩) l.length c) b ↔ b = g := by intro b; simp [rowB, Value.ownBlock, eq_comm]
  refine ⟨_, rfl, hamb, ⟨hgr, fun b hb hne => hsame b hb fun e => hne ((hrow b).2 e)⟩, rfl, l', hperm, ?_⟩
  refine h.upd0 hgr (fun b hb hne => hsame b hb fun e => hne ((hrow b).2 e)) (fun b hb => .inl hb) ?_
  refine ⟨by rw [hlen]; exact hby, _, ints_rd fun x hx => hin x (hperm.mem_iff.1 hx), .inr ⟨g, c, _, by rw [hlen], hat, by omega, hm, by rw [hs1]; simp [Go.Sort.putCells, hz], ?_⟩⟩
  rw [hs1, Nat.mul_one]
  apply List.ext_getElem?
  intro j
  rw [List.getElem?_take]
  by_cases hj : j < l'.length
  · rw [if_pos hj, Array.getElem?_toList]
    unfold Go.Sort.putCells
    rw [Array.getElem?_mapIdx, Array.getElem?_eq_getElem (show j < cur.size by omega), Option.map_some, if_pos ⟨Nat.zero_le _, by simpa using hj⟩, List.getElem?_map, List.getElem?_eq_getElem hj, Nat.sub_zero, getElem!_pos _ j (by simpa using hj), List.getElem_toArray]
    rfl
  · rw [if_neg hj, List.getElem?_eq_none (by simpa using hj)]
end
end Go.Um
namespace Go.Um
def hasB (l : List Int) (f : Int) : Bool := decide (f ∈ l)
theorem any_has {l : List Int} {n : Int} : (l.any fun x => decide (x = n)) = true ↔ hasB l n = true := by
  rw [List.any_eq_true, hasB, decide_eq_true_iff]
  constructor
  · rintro ⟨x, hx, h⟩; rw [← of_decide_eq_true h]; exact hx
  · intro h; exact ⟨n, h, decide_eq_true rfl⟩
end Go.Um
namespace Go.Um
open GoT (sz ag rdc)
open Go.RowKit
structure Stp where
  Kind : Int
  Lits : List Int
  Nums : List Int
  AK : Int
  AA : Int
  AB : Int
  Of : List Int
  RK : Int
  RTo : Int
  deriving Inhabited, DecidableEq
instance instStp : GoT Stp where
  sz := 9
  bytes := 120
  ag := true
  rdc S H cs x := ∃ v1 v2 v6, cs = [I x.Kind, v1, v2, I x.AK, I x.AA, I x.AB, v6, I x.RK, I x.RTo] ∧ In64 x.Kind ∧ RdL S H v1 x.Lits ∧ RdL S H v2 x.Nums ∧ In64 x.AK ∧ In64 x.AA ∧ In64 x.AB ∧ RdL S H v6 x.Of ∧ In64 x.RK ∧ In64 x.RTo
  pos := by decide
  one h := by cases h
  len h := by obtain ⟨_, _, _, rfl, _⟩ := h; rfl
  cell h := by
    obtain ⟨_, _, _, rfl, _, ⟨_, _, _, _, rfl, _⟩, ⟨_, _, _, _, rfl, _⟩, _, _, _, ⟨_, _, _, _, rfl, _⟩, _, _⟩ := h
    simp [Value.oneCell']
  ext h hx hs := by obtain ⟨v1, v2, v6, rfl, h0, h1, h2, h3, h4, h5, h6, h7, h8⟩ := h; exact ⟨v1, v2, v6, rfl, h0, h1.ext hx hs, h2.ext hx hs, h3, h4, h5, h6.ext hx hs, h7, h8⟩
theorem Rd.stp {S : Nat → Prop} {H : Heap} {v : Value} {a : Stp} :
    Rd S H v a ↔ ∃ v1 v2 v6, v = .agg #[I a.Kind, v1, v2, I a.AK, I a.AA, I a.AB, v6, I a.RK, I a.RTo] ∧ In64 a.Kind ∧ Rd S H v1 a.Lits ∧ Rd S H v2 a.Nums ∧ In64 a.AK ∧ In64 a.AA ∧ In64 a.AB ∧ Rd S H v6 a.Of ∧ In64 a.RK ∧ In64 a.RTo := by
  constructor
  · rintro ⟨cs, ⟨v1, v2, v6, rfl, h0, h1, h2, h3, h4, h5, h6, h7, h8⟩, rfl⟩
    exact ⟨v1, v2, v6, rfl, h0, Rd.list.2 h1, Rd.list.2 h2, h3, h4, h5, Rd.list.2 h6, h7, h8⟩
  · rintro ⟨v1, v2, v6, rfl, h0, h1, h2, h3, h4, h5, h6, h7, h8⟩
    exact ⟨_, ⟨v1, v2, v6, rfl, h0, Rd.list.1 h1, Rd.list.1 h2, h3, h4, h5, Rd.list.1 h6, h7, h8⟩, rfl⟩
instance limStp : LimT Stp := ⟨fun a => LimT.lim a.Lits ∧ LimT.lim a.Nums ∧ LimT.lim a.Of⟩
end Go.Um
namespace Go.Um
def pickR (r : List LRow) (left : List Int) : List LRow := left.map fun i => nth r i.toNat
def InR (r : List LRow) (left : List Int) : Prop := ∀ x ∈ left, 0 ≤ x ∧ x < (r.length : Int)
section
variable {l : Loop} {r : List LRow} {left : List Int} {s : List Int} {i k n : Nat}
theorem pickR_len : (pickR r left).length = left.length := by simp [pickR]
theorem pickR_nth (hk : k < left.length) : nth (pickR r left) k = nth r (nth left k).toNat := by
  rw [nth_eq (by simpa [pickR] using hk), nth_eq hk]; simp [pickR]
def strayAt (l : Loop) (r : List LRow) (some_ : List LRow) (s : List Int) (i : Int) : Bool :=
  (holdB l.Start s && !holdB [nth r i.toNat] s) || (holdB some_ s && (nextL l s).any fun t => !holdB [nth r i.toNat] t)
def strayIn (l : Loop) (r : List LRow) (left : List Int) (i : Int) : Bool := (statesL l).any fun s => strayAt l r (pickR r left) s i
def dropBad (l : Loop) (r : List LRow) (left : List Int) : List Int := left.filter fun i => !strayIn l r left i
theorem InR.drop (h : InR r left) : InR r (dropBad l r left) := fun x hx => h x (List.mem_filter.1 hx).1
end
def Marks (m : List (Int × Bool)) (left : List Int) (g : Int → Bool) : Prop := ∀ i, mget m i = if i ∈ left ∧ g i = true then some true else none
section
variable {m : List (Int × Bool)} {left : List Int} {g : Int → Bool} {i : Int} {k : Nat}
theorem Marks.nil : Marks [] left fun _ => false := fun i => by simp [mget]
theorem Marks.congr {g' : Int → Bool} (h : Marks m left g) (hg : ∀ i ∈ left, g i = g' i) : Marks m left g' := fun i => by
  rw [h i]
  by_cases hi : i ∈ left
  · simp [hi, hg i hi]
  · simp [hi]
theorem Marks.set (h : Marks m left g) (hi : i ∈ left) : Marks (mset m i true) left fun j => g j || decide (j = i) := fun j => by
  rw [mget_mset]
  by_cases hj : i = j
  · subst hj; simp [hi]
  · rw [if_neg hj, h j]
    have : ¬ j = i := fun e => hj e.symm
    simp [this]
theorem Marks.getD (h : Marks m left g) (hi : i ∈ left) : (mget m i).getD false = g i := by
  rw [h i]
  cases hg : g i <;> simp [hi]
theorem Marks.none (h : Marks m left g) (hm : (m.length : Int) = 0) : ∀ i ∈ left, g i = false := fun i hi => by
  have e : m = [] := List.eq_nil_of_length_eq_zero (by omega)
  have := h.getD hi
  rw [← this, e]; rfl
theorem Marks.some (h : Marks m left g) (hm : (m.length : Int) ≠ 0) : ∃ i ∈ left, g i = true := by
  match m, hm with
  | (i, b) :: m, _ =>
    have := h i
    rw [mget, if_pos rfl] at this
    by_cases hc : i ∈ left ∧ g i = true
    · exact ⟨i, hc.1, hc.2⟩
    · rw [if_neg hc] at this; cases this
end
section
variable {m mk : List (Int × Bool)} {left : List Int} {gq b : Int → Bool} {k : Nat}
end
theorem HoldOk.one {r : List LRow} {s : List Int} (h : HoldOk r s) {k : Nat} (hk : k < r.length) : HoldOk [nth r k] s where
  len j hj := by
    have : j = 0 := by simpa using hj
    subst this; exact h.len k hk
  mul j hj := by
    have : j = 0 := by simpa using hj
    subst this; exact h.mul k hk
  sum j hj := by
    have : j = 0 := by simpa using hj
    subst this; exact h.sum k hk
  kind j hj := by
    have : j = 0 := by simpa using hj
    subst this; exact h.kind k hk
theorem HoldOk.pick {r : List LRow} {s : List Int} {left : List Int} (h : HoldOk r s) (hin : InR r left) : HoldOk (pickR r left) s where
  len j hj := by
    rw [pickR_len] at hj; have := hin _ (nth_mem hj)
    rw [pickR_nth hj]; exact h.len _ (by omega)
  mul j hj := by
    rw [pickR_len] at hj; have := hin _ (nth_mem hj)
    rw [pickR_nth hj]; exact h.mul _ (by omega)
  sum j hj := by
    rw [pickR_len] at hj; have := hin _ (nth_mem hj)
    rw [pickR_nth hj]; exact h.sum _ (by omega)
  kind j hj := by
    rw [pickR_len] at hj; have := hin _ (nth_mem hj)
    rw [pickR_nth hj]; exact h.kind _ (by omega)
section
variable {l : Loop} {r : List LRow} {left s : List Int} {m : List (Int × Bool)} {g1 : Int → Bool} {j q : Nat}
end
section
variable {xs C : List Int} {gp : Int → Bool} {i j : Nat}
end
end Go.Um
namespace Go.Um
section
variable {P : Program} {o : Oper} {U : Nat → Prop} {f : Fr} {H : Heap}
theorem q_eqlT {t u : TypeId} {x y : Operand} {a b : Int} (ho : o.op = .binOp .eql t x y u) (hx : ev f x = I a) (hy : ev f y = I b) (h : a = b) : Quiet P o U f H (B true) := by
  have := q_eql (P := P) (U := U) (H := H) ho hx hy
  rwa [decide_eq_true h] at this
end
section
variable {l : Loop} {r : List LRow} {sm : List Int}
end
end Go.Um
