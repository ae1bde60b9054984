/- Transition systems: where states lead, and which are come to. No program is in sight. -/
import Derived.Test.YtfgibfbgklkgbaaLoopStates
namespace Go.Um

/-! ### Where a jump leads -/
def ledTo (j : Jump) (s : List Int) (i : Nat) : Nat → Int
  | 0 => nth (nth j.To i) s.length
  | k + 1 => ledTo j s i k + nth (nth j.To i) k * nth s k
def ledL (j : Jump) (s : List Int) : List Int := (List.range j.To.length).map fun i => ledTo j s i s.length
section
variable {j : Jump} {s : List Int} {i k n : Nat}
theorem ledTo_eq : ∀ k, ledTo j s i k = nth (nth j.To i) s.length + sumTo (fun k => nth (nth j.To i) k * nth s k) k
  | 0 => by simp [ledTo, sumTo]
  | k + 1 => by rw [ledTo, ledTo_eq k, sumTo]; omega
theorem led_mul (hj : JW j n) (hl : s.length = n) (hs : Small s) (hi : i < j.To.length) (hk : k < s.length) : -1000000000000 ≤ nth (nth j.To i) k * nth s k ∧ nth (nth j.To i) k * nth s k ≤ 1000000000000 :=
  mul_whole (hj.at_ hi (by omega)).2 (hs k hk)
theorem led_bound (hj : JW j n) (hl : s.length = n) (hn : n ≤ 8) (hs : Small s) (hi : i < j.To.length) (hk : k ≤ s.length) : -8000001000000 ≤ ledTo j s i k ∧ ledTo j s i k ≤ 8000001000000 := by
  have h0 := (hj.at_ (i := i) (v := s.length) hi (by omega)).2
  have h2 := sumTo_bound (g := fun k => nth (nth j.To i) k * nth s k) (b := 1000000000000) (n := k) fun v hv => led_mul hj hl hs hi (by omega)
  have h3 : (k : Int) ≤ 8 := by omega
  rw [ledTo_eq]; omega
theorem ledL_len : (ledL j s).length = j.To.length := by simp [ledL]
def ledPre (j : Jump) (s : List Int) (m : Nat) : List Int := (List.range m).map fun i => ledTo j s i s.length
theorem ledPre_next : ledPre j s (i + 1) = ledPre j s i ++ [ledTo j s i s.length] := by simp [ledPre, List.range_succ]
end

/-! ### Next states -/
def nextTo (l : Loop) (s : List Int) : Nat → List (List Int)
  | 0 => []
  | i + 1 => if holdB (nth l.Jumps i).When s = true then
      (if insideB l (ledL (nth l.Jumps i) s) = true ∧ ledL (nth l.Jumps i) s ∉ nextTo l s i then nextTo l s i ++ [ledL (nth l.Jumps i) s] else nextTo l s i)
    else nextTo l s i
def nextL (l : Loop) (s : List Int) : List (List Int) := nextTo l s l.Jumps.length
section
variable {l : Loop} {s : List Int} {i : Nat}
theorem nextTo_no (h : ¬ holdB (nth l.Jumps i).When s = true) : nextTo l s (i + 1) = nextTo l s i := by rw [nextTo, if_neg h]
theorem nextTo_in (h : holdB (nth l.Jumps i).When s = true) (h2 : insideB l (ledL (nth l.Jumps i) s) = true ∧ ledL (nth l.Jumps i) s ∉ nextTo l s i) : nextTo l s (i + 1) = nextTo l s i ++ [ledL (nth l.Jumps i) s] := by
  rw [nextTo, if_pos h, if_pos h2]
theorem nextTo_out (h : holdB (nth l.Jumps i).When s = true) (h2 : ¬ (insideB l (ledL (nth l.Jumps i) s) = true ∧ ledL (nth l.Jumps i) s ∉ nextTo l s i)) : nextTo l s (i + 1) = nextTo l s i := by
  rw [nextTo, if_pos h, if_neg h2]
theorem nextTo_len : ∀ i, (nextTo l s i).length ≤ i
  | 0 => by simp [nextTo]
  | i + 1 => by
    have ih := nextTo_len i
    rw [nextTo]
    split
    · split
      · simp; omega
      · omega
    · omega
theorem nextTo_mem (hl : LW l) : ∀ i, i ≤ l.Jumps.length → ∀ t ∈ nextTo l s i, t.length = l.Low.length ∧ insideB l t = true
  | 0, _, t, ht => by simp [nextTo] at ht
  | i + 1, hi, t, ht => by
    have ih := nextTo_mem hl i (by omega) t
    by_cases h : holdB (nth l.Jumps i).When s = true
    · by_cases h2 : insideB l (ledL (nth l.Jumps i) s) = true ∧ ledL (nth l.Jumps i) s ∉ nextTo l s i
      · rw [nextTo_in h h2] at ht
        rcases List.mem_append.1 ht with ht | ht
        · exact ih ht
        · rw [List.mem_singleton.1 ht]
          exact ⟨by rw [ledL_len]; have := (hl.jump i (by omega)).len; omega, h2.1⟩
      · rw [nextTo_out h h2] at ht; exact ih ht
    · rw [nextTo_no h] at ht; exact ih ht
end

/-! ### States that are come to -/
def startsL (l : Loop) : List (List Int) := (statesL l).filter (holdB l.Start)
def growS (L : List (List Int)) (ss : List (List Int)) : List (List Int) := ss.foldl addN L
def comeAt (l : Loop) : Nat → List (List Int)
  | 0 => startsL l
  | i + 1 => if i < (comeAt l i).length then growS (comeAt l i) (nextL l (nth (comeAt l i) i)) else comeAt l i
def comeL (l : Loop) : List (List Int) := comeAt l 1200
section
variable {l : Loop} {i m : Nat} {L ss : List (List Int)}
theorem growS_take {k : Nat} (h : k < ss.length) : growS L (ss.take (k + 1)) = addN (growS L (ss.take k)) (nth ss k) := by
  rw [take_succ_nth h, growS, List.foldl_append]; rfl
theorem growS_len : ∀ {ss L : List (List Int)}, L.length ≤ (growS L ss).length
  | [], _ => Nat.le_refl _
  | s :: ss, L => Nat.le_trans (addN_len L s) (growS_len (ss := ss))
theorem growS_nth {k : Nat} : ∀ {ss L : List (List Int)}, k < L.length → nth (growS L ss) k = nth L k
  | [], _, _ => rfl
  | s :: ss, L, h => by
    show nth (growS (addN L s) ss) k = _
    rw [growS_nth (Nat.lt_of_lt_of_le h (addN_len L s)), addN_nth h]
theorem growS_nodup : ∀ {ss L : List (List Int)}, L.Nodup → (growS L ss).Nodup
  | [], _, h => h
  | s :: ss, L, h => growS_nodup (ss := ss) (addN_nodup h)
theorem growS_all {I : List Int → Prop} : ∀ {ss L : List (List Int)}, (∀ x ∈ L, I x) → (∀ x ∈ ss, I x) → ∀ x ∈ growS L ss, I x
  | [], _, h, _ => h
  | s :: ss, L, h, h2 => growS_all (ss := ss) (addN_all h (h2 s (List.mem_cons_self ..))) fun x hx => h2 x (List.mem_cons_of_mem _ hx)
theorem growS_sub {x : List Int} : ∀ {ss L : List (List Int)}, x ∈ L → x ∈ growS L ss
  | [], _, h => h
  | s :: ss, L, h => growS_sub (ss := ss) (addN_sub h)
theorem growS_mem {x : List Int} : ∀ {ss L : List (List Int)}, x ∈ ss → x ∈ growS L ss
  | s :: ss, L, h => by
    rcases List.mem_cons.1 h with rfl | h
    · exact growS_sub (ss := ss) (addN_mem L _)
    · exact growS_mem (ss := ss) h
theorem growS_from {x : List Int} : ∀ {ss L : List (List Int)}, x ∈ growS L ss → x ∈ L ∨ x ∈ ss
  | [], _, h => .inl h
  | s :: ss, L, h => by
    rcases growS_from (ss := ss) (L := addN L s) h with h | h
    · unfold addN at h
      split at h
      · exact .inl h
      · rcases List.mem_append.1 h with h | h
        · exact .inl h
        · rw [List.mem_singleton.1 h]; exact .inr (List.mem_cons_self ..)
    · exact .inr (List.mem_cons_of_mem _ h)
def St_ (l : Loop) (s : List Int) : Prop := s.length = l.Low.length ∧ insideB l s = true
theorem comeAt_step (h : i < (comeAt l i).length) : comeAt l (i + 1) = growS (comeAt l i) (nextL l (nth (comeAt l i) i)) := by rw [comeAt, if_pos h]
theorem comeAt_len (i : Nat) : (comeAt l i).length ≤ (comeAt l (i + 1)).length := by
  rw [comeAt]; split
  · exact growS_len
  · exact Nat.le_refl _
theorem startsL_mem (hl : LW l) {s : List Int} (h : s ∈ startsL l) : St_ l s ∧ holdB l.Start s = true := by
  have := List.mem_filter.1 h
  exact ⟨allTo_mem hl _ (Nat.le_refl _) s this.1, this.2⟩
theorem comeAt_all (hl : LW l) : ∀ i, ∀ s ∈ comeAt l i, St_ l s
  | 0, s, h => (startsL_mem hl h).1
  | i + 1, s, h => by
    rw [comeAt] at h
    split at h
    · exact growS_all (comeAt_all hl i) (fun x hx => nextTo_mem hl _ (Nat.le_refl _) x hx) s h
    · exact comeAt_all hl i s h
theorem comeAt_nodup : ∀ i, (comeAt l i).Nodup
  | 0 => List.Pairwise.filter _ (allTo_nodup _)
  | i + 1 => by
    rw [comeAt]; split
    · exact growS_nodup (comeAt_nodup i)
    · exact comeAt_nodup i
theorem rngL_has (hl : LW l) (hi : i < l.Low.length) {x : Int} (h1 : nth l.Low i ≤ x) (h2 : x ≤ nth l.High i) : x ∈ rngL l i := by
  refine List.mem_map.2 ⟨(x - nth l.Low i).toNat, List.mem_range.2 ?_, by omega⟩
  unfold facI; omega
theorem allTo_has (hl : LW l) : ∀ i, i ≤ l.Low.length → ∀ s : List Int, s.length = i → insideB l s = true → s ∈ allTo l i
  | 0, _, s, hs, _ => by rw [List.length_eq_zero_iff.1 hs]; simp [allTo]
  | i + 1, hi, s, hs, hin => by
    have hk := of_decide_eq_true hin
    have e : s = s.take i ++ [nth s i] := by rw [← take_succ_nth (by omega), List.take_of_length_le (by omega)]
    rw [allTo, e]
    have hlen : (s.take i).length = i := by rw [List.length_take]; omega
    have hn := hk i (by omega)
    refine List.mem_flatMap.2 ⟨s.take i, allTo_has hl i (by omega) _ hlen ?_, List.mem_map.2 ⟨nth s i, rngL_has hl (by omega) hn.1 hn.2, rfl⟩⟩
    refine decide_eq_true fun k hk2 => ?_
    rw [hlen] at hk2
    have : nth (s.take i) k = nth s k := by simp [nth, List.getElem?_take, hk2]
    rw [this]; exact hk k (by omega)
theorem comeAt_few (hl : LW l) (i : Nat) : (comeAt l i).length ≤ 1200 := by
  have h1 := nodup_le (S := allTo l l.Low.length) (comeAt_nodup i) fun s hs => allTo_has hl _ (Nat.le_refl _) s (comeAt_all hl i s hs).1 (comeAt_all hl i s hs).2
  have h2 := allTo_le hl (Nat.le_refl l.Low.length)
  omega
theorem growS_few (hl : LW l) (h : i < (comeAt l i).length) (k : Nat) : (growS (comeAt l i) ((nextL l (nth (comeAt l i) i)).take k)).length ≤ 1200 := by
  have hall := growS_all (comeAt_all hl i) (fun x hx => nextTo_mem hl _ (Nat.le_refl _) x (List.mem_of_mem_take hx)) (ss := (nextL l (nth (comeAt l i) i)).take k)
  have h1 := nodup_le (S := allTo l l.Low.length) (growS_nodup (comeAt_nodup i) (ss := (nextL l (nth (comeAt l i) i)).take k)) fun s hs => allTo_has hl _ (Nat.le_refl _) s (hall s hs).1 (hall s hs).2
  have h2 := allTo_le hl (Nat.le_refl l.Low.length)
  omega
theorem comeAt_stop (h : ¬ i < (comeAt l i).length) : ∀ m, i ≤ m → comeAt l m = comeAt l i := by
  intro m hm
  induction hm with
  | refl => rfl
  | @step m hm ih =>
    have : i ≤ m := hm
    rw [comeAt, ih, if_neg (by omega)]
theorem comeL_of (hi : i ≤ 1200) (h : ¬ i < (comeAt l i).length) : comeL l = comeAt l i := comeAt_stop h _ hi
theorem comeAt_pre {j : Nat} (hij : i ≤ j) : (comeAt l i).length ≤ (comeAt l j).length ∧ ∀ k, k < (comeAt l i).length → nth (comeAt l j) k = nth (comeAt l i) k := by
  induction hij with
  | refl => exact ⟨Nat.le_refl _, fun _ _ => rfl⟩
  | @step j hij ih =>
    refine ⟨Nat.le_trans ih.1 (comeAt_len j), fun k hk => ?_⟩
    rw [← ih.2 k hk, comeAt]
    split
    · exact growS_nth (Nat.lt_of_lt_of_le hk ih.1)
    · rfl
/-- The end of the search. -/
theorem come_end (hl : LW l) : ∃ n, n ≤ 1200 ∧ (comeAt l n).length = n ∧ comeL l = comeAt l n ∧ ∀ j, j < n → j < (comeAt l j).length := by
  have key : ∀ m, m ≤ 1201 → (∃ n, n ≤ 1200 ∧ (comeAt l n).length = n ∧ comeL l = comeAt l n ∧ ∀ j, j < n → j < (comeAt l j).length) ∨ ∀ j, j < m → j < (comeAt l j).length := by
    intro m
    induction m with
    | zero => intro _; exact .inr fun j hj => absurd hj (Nat.not_lt_zero j)
    | succ m ih =>
      intro hm
      rcases ih (by omega) with h | h
      · exact .inl h
      · by_cases hlt : m < (comeAt l m).length
        · exact .inr (all_succ h hlt)
        · left
          have hge : m ≤ (comeAt l m).length := by
            cases m with
            | zero => omega
            | succ m => have := h m (by omega); have := comeAt_len (l := l) m; omega
          exact ⟨m, by omega, by omega, comeL_of (by omega) hlt, h⟩
  rcases key 1201 (Nat.le_refl _) with h | h
  · exact h
  · have := h 1200 (by omega); have := comeAt_few hl 1200; omega
/-- What is come to leads to what is come to. -/
theorem come_closed (hl : LW l) {i : Nat} (hi : i < (comeL l).length) {t : List Int} (ht : t ∈ nextL l (nth (comeL l) i)) : t ∈ comeL l := by
  obtain ⟨n, h1, h2, h3, h4⟩ := come_end hl
  rw [h3] at hi ht ⊢
  have hin : i < n := by omega
  rw [(comeAt_pre (l := l) (show i ≤ n by omega)).2 i (h4 i hin)] at ht
  have h5 : t ∈ comeAt l (i + 1) := by rw [comeAt_step (h4 i hin)]; exact growS_mem ht
  obtain ⟨k, hk, rfl⟩ := nth_of_mem h5
  rw [← (comeAt_pre (l := l) (show i + 1 ≤ n by omega)).2 k hk]
  exact nth_mem (Nat.lt_of_lt_of_le hk (comeAt_pre (l := l) (show i + 1 ≤ n by omega)).1)
/-- And each but those of the beginning is led to by one ahead. -/
theorem come_from (hl : LW l) {i : Nat} (hi : i < (comeL l).length) : nth (comeL l) i ∈ startsL l ∨ ∃ j, j < i ∧ nth (comeL l) i ∈ nextL l (nth (comeL l) j) := by
  obtain ⟨n, h1, h2, h3, h4⟩ := come_end hl
  rw [h3] at hi ⊢
  have key : ∀ m, m ≤ n → ∀ k, k < (comeAt l m).length → nth (comeAt l m) k ∈ startsL l ∨ ∃ j, j < k ∧ j < m ∧ nth (comeAt l m) k ∈ nextL l (nth (comeAt l m) j) := by
    intro m
    induction m with
    | zero => intro _ k hk; exact .inl (nth_mem hk)
    | succ m ih =>
      intro hm k hk
      have hp := comeAt_pre (l := l) (show m ≤ m + 1 by omega)
      by_cases hkm : k < (comeAt l m).length
      · rw [hp.2 k hkm]
        rcases ih (by omega) k hkm with h | ⟨j, h5, h6, h7⟩
        · exact .inl h
        · exact .inr ⟨j, h5, by omega, by rw [hp.2 j (by have := h4 j (by omega); have := (comeAt_pre (l := l) (show j ≤ m by omega)).1; omega)]; exact h7⟩
      · right
        have hst := comeAt_step (h4 m (by omega))
        have hmem : nth (comeAt l (m + 1)) k ∈ growS (comeAt l m) (nextL l (nth (comeAt l m) m)) := by rw [← hst]; exact nth_mem hk
        rcases growS_from hmem with h | h
        · exfalso
          obtain ⟨k', hk', e⟩ := nth_of_mem h
          rw [← hp.2 k' hk'] at e
          have hnd := comeAt_nodup (l := l) (m + 1)
          rw [nth_eq (by omega), nth_eq hk] at e
          have := (List.getElem_inj hnd).1 e
          omega
        · exact ⟨m, by have := h4 m (by omega); omega, by omega, by rw [hp.2 m (h4 m (by omega))]; exact h⟩
  rcases key n (Nat.le_refl _) i hi with h | ⟨j, h5, _, h7⟩
  · exact .inl h
  · exact .inr ⟨j, h5, h7⟩
theorem starts_come (hl : LW l) {s : List Int} (h : s ∈ startsL l) : s ∈ comeL l := by
  obtain ⟨k, hk, rfl⟩ := nth_of_mem h
  have hp := comeAt_pre (l := l) (show 0 ≤ 1200 by omega)
  have e : nth (startsL l) k = nth (comeL l) k := (hp.2 k hk).symm
  rw [e]
  exact nth_mem (Nat.lt_of_lt_of_le hk hp.1)
theorem comeL_st (hl : LW l) {s : List Int} (h : s ∈ comeL l) : St_ l s := comeAt_all hl _ s h
theorem comeL_few (hl : LW l) : (comeL l).length ≤ 1200 := comeAt_few hl _
end
def runsOut (l : Loop) : List (List Int) := if (loopFault l).1 ≠ 0 then [] else comeL l
def nextFault (l : Loop) (s : List Int) : Int × Int :=
  if (loopFault l).1 ≠ 0 then loopFault l else if (s.length : Int) ≠ l.Low.length then (9, -4) else if insideB l s = true then (0, 0) else (3, -4)
def nextOut (l : Loop) (s : List Int) : List (List Int) := if (nextFault l s).1 ≠ 0 then [] else nextL l s
/-! ### How the lists are made -/
def allPre (l : Loop) (i k m : Nat) : List (List Int) := ((allTo l i).take k).flatMap (fun s => (rngL l i).map fun x => s ++ [x]) ++ ((rngL l i).take m).map fun x => nth (allTo l i) k ++ [x]
section
variable {l : Loop} {i k m : Nat}
theorem rngL_nth (hm : m < (facI l i).toNat) : nth (rngL l i) m = nth l.Low i + (m : Int) := by rw [rngL, nth_range' hm]
theorem allPre_next (hm : m < (facI l i).toNat) : allPre l i k (m + 1) = allPre l i k m ++ [nth (allTo l i) k ++ [nth l.Low i + (m : Int)]] := by
  rw [allPre, allPre, take_succ_nth (by rw [rngL_len]; exact hm), List.map_append, rngL_nth hm, List.append_assoc]; rfl
theorem allPre_row (hk : k < (allTo l i).length) (hm : ¬ m < (facI l i).toNat) : allPre l i k m = allPre l i (k + 1) 0 := by
  rw [allPre, allPre, List.take_of_length_le (l := rngL l i) (by rw [rngL_len]; omega), take_succ_nth hk, List.flatMap_append]; simp
theorem allPre_all (hk : ¬ k < (allTo l i).length) : allPre l i k 0 = allTo l (i + 1) := by
  rw [allPre, List.take_of_length_le (by omega), allTo]; simp
theorem allPre_len (hk : k ≤ (allTo l i).length) : (allPre l i k m).length ≤ k * (facI l i).toNat + (facI l i).toNat := by
  rw [allPre, List.length_append, List.length_map, flatMap_len (c := (facI l i).toNat) (fun s _ => by rw [List.length_map, rngL_len]), List.length_take, List.length_take, rngL_len]
  have : min k (allTo l i).length = k := by omega
  rw [this]; omega
theorem allPre_few (hl : LW l) (hi : i < l.Low.length) (hk : k < (allTo l i).length) : (allPre l i k m).length ≤ 2402001201 := by
  have h1 := allPre_len (m := m) (Nat.le_of_lt hk)
  have h2 := hl.fac hi
  have h3 := allTo_le hl (Nat.le_of_lt hi)
  have h4 : k * (facI l i).toNat ≤ 1200 * 2000001 := Nat.mul_le_mul (by omega) (by omega)
  omega
theorem allTo_at (hl : LW l) (hi : i ≤ l.Low.length) (hk : k < (allTo l i).length) : (nth (allTo l i) k).length = i := (allTo_mem hl i hi _ (nth_mem hk)).1
def statesPre (l : Loop) (n : Nat) (had : List Int) (m : Nat) : List (List Int) := ((rngL l had.length).take m).flatMap fun x => statesF l n (had ++ [x])
theorem statesPre_next {n : Nat} {had : List Int} (hm : m < (facI l had.length).toNat) : statesPre l n had (m + 1) = statesPre l n had m ++ statesF l n (had ++ [nth l.Low had.length + (m : Int)]) := by
  rw [statesPre, take_succ_nth (by rw [rngL_len]; exact hm), List.flatMap_append, rngL_nth hm]; simp [statesPre]
theorem statesPre_all {n : Nat} {had : List Int} (hm : ¬ m < (facI l had.length).toNat) : statesPre l n had m = statesF l (n + 1) had := by
  rw [statesPre, List.take_of_length_le (by rw [rngL_len]; omega), statesF]
theorem statesPre_len {n : Nat} {had : List Int} : (statesPre l n had m).length ≤ (statesF l (n + 1) had).length := by
  rw [statesPre, statesF]
  conv => rhs; rw [← List.take_append_drop m (rngL l had.length), List.flatMap_append, List.length_append]
  omega
theorem statesPre_few (hl : LW l) {had : List Int} (h : had.length < l.Low.length) (hm : m < (facI l had.length).toNat) :
    (statesPre l (l.Low.length - had.length - 1) had m).length + (statesF l (l.Low.length - (had ++ [nth l.Low had.length + (m : Int)]).length) (had ++ [nth l.Low had.length + (m : Int)])).length ≤ 1200 := by
  have h1 := statesPre_len (l := l) (m := m + 1) (n := l.Low.length - had.length - 1) (had := had)
  rw [statesPre_next hm, List.length_append, show l.Low.length - had.length - 1 + 1 = l.Low.length - had.length by omega] at h1
  have h2 := statesF_le hl (Nat.le_of_lt h)
  rw [List.length_append]
  exact Nat.le_trans h1 h2
theorem filter_yes {p : List Int → Bool} {L : List (List Int)} (h : i < L.length) (hp : p (nth L i) = true) : (L.take (i + 1)).filter p = (L.take i).filter p ++ [nth L i] := by
  rw [take_succ_nth h, List.filter_append]; simp [hp]
theorem filter_no {p : List Int → Bool} {L : List (List Int)} (h : i < L.length) (hp : p (nth L i) = false) : (L.take (i + 1)).filter p = (L.take i).filter p := by
  rw [take_succ_nth h, List.filter_append]; simp [hp]
theorem filter_few {p : List Int → Bool} {L : List (List Int)} : ((L.take i).filter p).length ≤ L.length :=
  Nat.le_trans (List.length_filter_le _ _) (by rw [List.length_take]; omega)
theorem any_mem {L : List (List Int)} {s : List Int} : (L.any fun x => decide (x = s)) = decide (s ∈ L) := by
  rw [Bool.eq_iff_iff, List.any_eq_true, decide_eq_true_iff]
  constructor
  · rintro ⟨x, hx, h⟩; rw [← of_decide_eq_true h]; exact hx
  · intro h; exact ⟨s, h, decide_eq_true rfl⟩
/-- What rows need that are asked of a state. -/
structure HoldOk (l : List LRow) (s : List Int) : Prop where
  len : ∀ k, k < l.length → (nth l k).Of.length ≤ s.length
  mul : ∀ k, k < l.length → ∀ i, i < (nth l k).Of.length → In64 (nth (nth l k).Of i * nth s i)
  sum : ∀ k, k < l.length → In64 (dotL (nth l k).Of s)
  kind : ∀ k, k < l.length → 1 ≤ (nth l k).Kind ∧ (nth l k).Kind ≤ 3
theorem HoldOk.of {l : List LRow} {s : List Int} {N : Int} (h : rowsFault l N = 0) (hN : N ≤ 8) (hs : Small s) (hl : N ≤ s.length) : HoldOk l s where
  len k hk := by have := rowFault_zero ((rowsFault_zero h).2 k hk); omega
  mul k hk i hi := by have := dot_bound ((rowsFault_zero h).2 k hk) hN hs hl hi; constructor <;> omega
  sum k hk := by have := dotS_bound ((rowsFault_zero h).2 k hk) hN hs hl (Nat.le_refl _); unfold dotL; constructor <;> omega
  kind k hk := (rowFault_zero ((rowsFault_zero h).2 k hk)).1
end
/-- A slice that a callee made and hands over. -/
theorem St.gotRow {α : Type} [GoT α] {H0 H H' : Heap} {M S0 : Nat → Prop} {L : List Ent} {t : TypeId} {v : Value} {x : List α} (h : St H0 M S0 L H) (hx : Ext NoB H H') (hok : ∀ e ∈ [rowE t v x], e.ok (SL (fun b => SL S0 L b ∧ b < H.size) [rowE t v x]) H')
    (hge : ∀ b, own [rowE t v x] b → H.size ≤ b) : St H0 M S0 (rowE t v x :: L) H' := St.got (A' := [rowE t v x]) h hx hok hge pw1
theorem q_addW {P : Program} {o : Oper} {U : Nat → Prop} {f : Fr} {H : Heap} {t u : TypeId} {x y : Operand} {a b : Int} (ho : o.op = .binOp .add t x y u) (hx : ev f x = I a) (hy : ev f y = I b) : Quiet P o U f H (I (wrapI (a + b))) := by
  intro w _; simp [execOp, ho, hx, hy, eqGuard, binOp, Op.intArith, wrapI]
end Go.Um
