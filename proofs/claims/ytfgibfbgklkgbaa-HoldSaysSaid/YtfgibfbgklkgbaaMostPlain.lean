/- The most rows that are kept. No program is in sight. -/
import Derived.Test.YtfgibfbgklkgbaaHoldRun
import Derived.Test.YtfgibfbgklkgbaaUmTrunc
namespace Go.Um
/-! ### Rows by their places -/
def pickR (r : List LRow) (left : List Int) : List LRow := left.map fun i => nth r i.toNat
def InR (r : List LRow) (left : List Int) : Prop := ∀ x ∈ left, 0 ≤ x ∧ x < (r.length : Int)
section
variable {l : Loop} {r : List LRow} {left : List Int} {s : List Int} {i k n : Nat}
theorem pickR_len : (pickR r left).length = left.length := by simp [pickR]
theorem pickR_nth (hk : k < left.length) : nth (pickR r left) k = nth r (nth left k).toNat := by
  rw [nth_eq (by simpa [pickR] using hk), nth_eq hk]; simp [pickR]
theorem pickR_app {x : Int} : pickR r (left ++ [x]) = pickR r left ++ [nth r x.toNat] := by simp [pickR]
theorem pickR_take (hk : k < left.length) : pickR r (left.take (k + 1)) = pickR r (left.take k) ++ [nth r (nth left k).toNat] := by
  rw [take_succ_nth hk, pickR_app]
theorem holdB_iff : holdB r s = true ↔ ∀ k, k < r.length → ¬ rowOut (nth r k) (dotL (nth r k).Of s) := by unfold holdB; exact decide_eq_true_iff
theorem hold_one {x : LRow} : holdB [x] s = true ↔ ¬ rowOut x (dotL x.Of s) := by
  rw [holdB_iff]
  constructor
  · intro h; exact h 0 (by simp)
  · intro h k hk
    have : k = 0 := by simpa using hk
    subst this; exact h
theorem hold_pick : holdB (pickR r left) s = true ↔ ∀ i ∈ left, holdB [nth r i.toNat] s = true := by
  rw [holdB_iff]
  constructor
  · intro h i hi
    obtain ⟨k, hk, rfl⟩ := nth_of_mem hi
    rw [hold_one, ← pickR_nth hk]
    exact h k (by rw [pickR_len]; exact hk)
  · intro h k hk
    rw [pickR_len] at hk
    rw [pickR_nth hk, ← hold_one]
    exact h _ (nth_mem hk)
/-! ### One round -/
def strayAt (l : Loop) (r : List LRow) (some_ : List LRow) (s : List Int) (i : Int) : Bool :=
  (holdB l.Start s && !holdB [nth r i.toNat] s) || (holdB some_ s && (nextL l s).any fun t => !holdB [nth r i.toNat] t)
def strayIn (l : Loop) (r : List LRow) (left : List Int) (i : Int) : Bool := (statesL l).any fun s => strayAt l r (pickR r left) s i
def dropBad (l : Loop) (r : List LRow) (left : List Int) : List Int := left.filter fun i => !strayIn l r left i
def holdMostF (l : Loop) (r : List LRow) : Nat → List Int → List Int
  | 0, left => left
  | n + 1, left => holdMostF l r n (dropBad l r left)
def rangeI (n : Nat) : List Int := (List.range n).map fun (i : Nat) => (i : Int)
def holdMost (l : Loop) (r : List LRow) : List Int := if (chkFault l r).1 ≠ 0 then [] else holdMostF l r (r.length + 1) (rangeI r.length)
theorem rangeI_len : (rangeI n).length = n := by simp [rangeI]
theorem rangeI_nth (h : i < n) : nth (rangeI n) i = i := nth_range' h
theorem rangeI_next : rangeI (n + 1) = rangeI n ++ [(n : Int)] := by simp [rangeI, List.range_succ]
theorem rangeI_mem {x : Int} : x ∈ rangeI n ↔ 0 ≤ x ∧ x < (n : Int) := by
  simp only [rangeI, List.mem_map, List.mem_range]
  constructor
  · rintro ⟨a, ha, rfl⟩; omega
  · rintro ⟨h1, h2⟩; exact ⟨x.toNat, by omega, by omega⟩
theorem inR_range : InR r (rangeI r.length) := fun _ hx => rangeI_mem.1 hx
theorem InR.drop (h : InR r left) : InR r (dropBad l r left) := fun x hx => h x (List.mem_filter.1 hx).1
theorem dropBad_len : (dropBad l r left).length ≤ left.length := List.length_filter_le ..
theorem filter_len_eq {α : Type} {p : α → Bool} : ∀ {xs : List α}, (xs.filter p).length = xs.length → xs.filter p = xs
  | [], _ => rfl
  | x :: xs, h => by
    rw [List.filter_cons] at h ⊢
    cases hp : p x with
    | true => simp only [hp, if_true, List.length_cons] at h ⊢; rw [filter_len_eq (by omega)]
    | false =>
      simp only [hp] at h
      have := List.length_filter_le p xs
      simp only [List.length_cons] at h
      exact absurd h (by simp only [Bool.false_eq_true, if_false]; omega)
theorem dropBad_fix (h : (dropBad l r left).length = left.length) : dropBad l r left = left := filter_len_eq h
theorem mostF_fix (h : dropBad l r left = left) : ∀ n, holdMostF l r n left = left
  | 0 => rfl
  | n + 1 => by rw [holdMostF, h]; exact mostF_fix h n
/-- So many rounds are enough. -/
theorem mostF_end : ∀ (n : Nat) (left : List Int), left.length < n → dropBad l r (holdMostF l r n left) = holdMostF l r n left
  | 0, _, h => by omega
  | n + 1, left, h => by
    rw [holdMostF]
    by_cases hf : (dropBad l r left).length = left.length
    · have h2 := dropBad_fix hf
      rw [h2, mostF_fix h2]; exact h2
    · have := dropBad_len (l := l) (r := r) (left := left)
      exact mostF_end n _ (by omega)
theorem mostF_more : ∀ (n : Nat) (left : List Int), left.length < n → ∀ m, n ≤ m → holdMostF l r m left = holdMostF l r n left
  | 0, _, h => by omega
  | n + 1, left, h => by
    intro m hm
    obtain ⟨m, rfl⟩ : ∃ m', m = m' + 1 := ⟨m - 1, by omega⟩
    rw [holdMostF, holdMostF]
    by_cases hf : (dropBad l r left).length = left.length
    · have h2 := dropBad_fix hf
      rw [h2, mostF_fix h2, mostF_fix h2]
    · have := dropBad_len (l := l) (r := r) (left := left)
      exact mostF_more n _ (by omega) m (by omega)
theorem mostF_sub : ∀ (n : Nat) (left : List Int), (holdMostF l r n left).Sublist left
  | 0, _ => List.Sublist.refl _
  | n + 1, left => by rw [holdMostF]; exact (mostF_sub n _).trans List.filter_sublist
/-- What is left where a round takes none is the answer. -/
theorem most_at {n : Nat} (h : holdMostF l r (r.length + 1) (rangeI r.length) = holdMostF l r n left) (h2 : dropBad l r left = left) : holdMostF l r (r.length + 1) (rangeI r.length) = left := by rw [h, mostF_fix h2]
theorem inR_sub {some_ : List Int} (h : InR r left) (hs : ∀ x ∈ some_, x ∈ left) : InR r some_ := fun x hx => h x (hs x hx)
/-! ### What the answer is -/
theorem most_fix (hc : ¬ (chkFault l r).1 ≠ 0) : dropBad l r (holdMost l r) = holdMost l r ∧ (holdMost l r).Sublist (rangeI r.length) := by
  rw [holdMost, if_neg hc]
  exact ⟨mostF_end _ _ (by rw [rangeI_len]; omega), mostF_sub _ _⟩
theorem bad_no (h : dropBad l r left = left) : ∀ i ∈ left, strayIn l r left i = false := fun i hi => by
  rw [← h] at hi
  have := (List.mem_filter.1 hi).2
  simpa using this
theorem strayAt_no {some_ : List LRow} {i : Int} (h : strayAt l r some_ s i = false) : (holdB l.Start s = true → holdB [nth r i.toNat] s = true) ∧ (holdB some_ s = true → ∀ t ∈ nextL l s, holdB [nth r i.toNat] t = true) := by
  rw [strayAt, Bool.or_eq_false_iff] at h
  constructor
  · intro h1
    have := h.1
    rw [h1] at this
    simpa using this
  · intro h1 t ht
    have := h.2
    rw [h1, Bool.true_and, List.any_eq_false] at this
    have := this t ht
    simpa using this
/-- A round takes none: the rows are kept. -/
theorem lost_fix (h : dropBad l r left = left) : lostS l (pickR r left) = none := by
  refine lostS_no (fun j hj => lost1_no ?_) (fun j hj => lost2_no ?_)
  · rintro ⟨h1, h2⟩
    have : holdB (pickR r left) (nth (statesL l) j) = true := hold_pick.2 fun i hi => by
      have hb := bad_no h i hi
      rw [strayIn, List.any_eq_false] at hb
      have := hb _ (nth_mem hj)
      exact (strayAt_no (Bool.eq_false_iff.2 this)).1 h1
    rw [this] at h2; cases h2
  · rintro ⟨h1, h2⟩
    rw [leaveB, List.any_eq_true] at h2
    obtain ⟨t, ht, h3⟩ := h2
    have : holdB (pickR r left) t = true := hold_pick.2 fun i hi => by
      have hb := bad_no h i hi
      rw [strayIn, List.any_eq_false] at hb
      have := hb _ (nth_mem hj)
      exact (strayAt_no (Bool.eq_false_iff.2 this)).2 h1 t ht
    rw [this] at h3; cases h3
/-- What is kept is in the most. -/
theorem kept_sub {some_ : List Int} (hs : InR r some_) (h : lostS l (pickR r some_) = none) : ∀ n left, (∀ x ∈ some_, x ∈ left) → ∀ x ∈ some_, x ∈ holdMostF l r n left
  | 0, _, hl, x, hx => hl x hx
  | n + 1, left, hl, x, hx => by
    rw [holdMostF]
    refine kept_sub hs h n _ (fun y hy => ?_) x hx
    refine List.mem_filter.2 ⟨hl y hy, ?_⟩
    have : strayIn l r left y = false := by
      rw [strayIn, List.any_eq_false]
      intro s hss hb
      obtain ⟨h1, h2⟩ := lostS_none h hss
      rw [strayAt, Bool.or_eq_true] at hb
      rcases hb with hb | hb
      · rw [Bool.and_eq_true] at hb
        rw [lost1, hb.1, Bool.true_and] at h1
        have h3 : holdB (pickR r some_) s = true := by simpa using h1
        have := hold_pick.1 h3 y hy
        rw [this] at hb
        exact absurd hb.2 (by decide)
      · rw [Bool.and_eq_true] at hb
        have h3 : holdB (pickR r some_) s = true := hold_pick.2 fun i hi => hold_pick.1 hb.1 i (hl i hi)
        rw [lost2, h3, Bool.true_and, leaveB, List.any_eq_false] at h2
        obtain ⟨t, ht, h4⟩ := List.any_eq_true.1 hb.2
        have h5 := h2 t ht
        have h6 : holdB (pickR r some_) t = true := by simpa using h5
        rw [hold_pick.1 h6 y hy] at h4
        cases h4
    rw [this]; rfl
theorem pick_fault {n : Int} (hl : left.length ≤ 40) (h : rowsFault r n = 0) (hin : InR r left) : rowsFault (pickR r left) n = 0 :=
  rowsFault_no (by rw [pickR_len]; omega) fun j hj => by
    rw [pickR_len] at hj
    have := hin _ (nth_mem hj)
    rw [pickR_nth hj]; exact (rowsFault_zero h).2 _ (by omega)
end

/-! ### Marks in a map -/
def Marks (m : List (Int × Bool)) (left : List Int) (g : Int → Bool) : Prop := ∀ i, mget m i = if i ∈ left ∧ g i = true then some true else none
section
variable {m : List (Int × Bool)} {left : List Int} {g : Int → Bool} {i : Int} {k : Nat}
theorem Marks.nil : Marks [] left fun _ => false := fun i => by simp [mget]
theorem Marks.congr {g' : Int → Bool} (h : Marks m left g) (hg : ∀ i ∈ left, g i = g' i) : Marks m left g' := fun i => by
  rw [h i]
  by_cases hi : i ∈ left
  · simp [hi, hg i hi]
  · simp [hi]
theorem Marks.set (h : Marks m left g) (hi : i ∈ left) : Marks (mset m i true) left fun j => g j || decide (j = i) := fun j => by
  rw [mget_mset]
  by_cases hj : i = j
  · subst hj; simp [hi]
  · rw [if_neg hj, h j]
    have : ¬ j = i := fun e => hj e.symm
    simp [this]
theorem Marks.getD (h : Marks m left g) (hi : i ∈ left) : (mget m i).getD false = g i := by
  rw [h i]
  cases hg : g i <;> simp [hi]
theorem Marks.none (h : Marks m left g) (hm : (m.length : Int) = 0) : ∀ i ∈ left, g i = false := fun i hi => by
  have e : m = [] := List.eq_nil_of_length_eq_zero (by omega)
  have := h.getD hi
  rw [← this, e]; rfl
theorem Marks.some (h : Marks m left g) (hm : (m.length : Int) ≠ 0) : ∃ i ∈ left, g i = true := by
  match m, hm with
  | (i, b) :: m, _ =>
    have := h i
    rw [mget, if_pos rfl] at this
    by_cases hc : i ∈ left ∧ g i = true
    · exact ⟨i, hc.1, hc.2⟩
    · rw [if_neg hc] at this; cases this
end
section
variable {m mk : List (Int × Bool)} {left : List Int} {gq b : Int → Bool} {k : Nat}
theorem note_yes (h : Marks mk left fun i => gq i || (decide (i ∈ left.take k) && b i)) (hk : k < left.length) (hb : b (nth left k) = true) : Marks (mset mk (nth left k) true) left fun i => gq i || (decide (i ∈ left.take (k + 1)) && b i) := by
  refine (h.set (nth_mem hk)).congr fun i _ => ?_
  rw [take_succ_nth hk]
  by_cases hi : i = nth left k
  · subst hi; simp [hb]
  · simp [hi]
theorem note_no (h : Marks mk left fun i => gq i || (decide (i ∈ left.take k) && b i)) (hk : k < left.length) (hb : b (nth left k) = false) : Marks mk left fun i => gq i || (decide (i ∈ left.take (k + 1)) && b i) := by
  refine h.congr fun i _ => ?_
  rw [take_succ_nth hk]
  by_cases hi : i = nth left k
  · subst hi; simp [hb]
  · simp [hi]
theorem note_end (h : Marks mk left fun i => gq i || (decide (i ∈ left.take k) && b i)) (hk : left.length ≤ k) : Marks mk left fun i => gq i || b i := h.congr fun i hi => by
  rw [List.take_of_length_le hk]; simp [hi]
theorem note_start (h : Marks m left gq) : Marks m left fun i => gq i || (decide (i ∈ left.take 0) && b i) := h.congr fun i _ => by simp
end
theorem slice_one {α : Type} [Inhabited α] {l : List α} {a : Int} (h : 0 ≤ a ∧ a < (l.length : Int)) : (l.take (a + 1).toNat).drop a.toNat = [nth l a.toNat] := by
  have e : (a + 1).toNat = a.toNat + 1 := by omega
  rw [e, take_succ_nth (by omega), List.drop_append_of_le_length (by rw [List.length_take]; omega), List.drop_of_length_le (by rw [List.length_take]; omega)]; rfl
theorem HoldOk.one {r : List LRow} {s : List Int} (h : HoldOk r s) {k : Nat} (hk : k < r.length) : HoldOk [nth r k] s where
  len j hj := by
    have : j = 0 := by simpa using hj
    subst this; exact h.len k hk
  mul j hj := by
    have : j = 0 := by simpa using hj
    subst this; exact h.mul k hk
  sum j hj := by
    have : j = 0 := by simpa using hj
    subst this; exact h.sum k hk
  kind j hj := by
    have : j = 0 := by simpa using hj
    subst this; exact h.kind k hk
theorem HoldOk.pick {r : List LRow} {s : List Int} {left : List Int} (h : HoldOk r s) (hin : InR r left) : HoldOk (pickR r left) s where
  len j hj := by
    rw [pickR_len] at hj; have := hin _ (nth_mem hj)
    rw [pickR_nth hj]; exact h.len _ (by omega)
  mul j hj := by
    rw [pickR_len] at hj; have := hin _ (nth_mem hj)
    rw [pickR_nth hj]; exact h.mul _ (by omega)
  sum j hj := by
    rw [pickR_len] at hj; have := hin _ (nth_mem hj)
    rw [pickR_nth hj]; exact h.sum _ (by omega)
  kind j hj := by
    rw [pickR_len] at hj; have := hin _ (nth_mem hj)
    rw [pickR_nth hj]; exact h.kind _ (by omega)
section
variable {l : Loop} {r : List LRow} {left s : List Int} {m : List (Int × Bool)} {g1 : Int → Bool} {j q : Nat}
theorem stray_start (hs : holdB l.Start s = true) (h : Marks m left fun i => g1 i || !holdB [nth r i.toNat] s) : Marks m left fun i => g1 i || (holdB l.Start s && !holdB [nth r i.toNat] s) := h.congr fun i _ => by rw [hs, Bool.true_and]
theorem stray_start0 (hs : holdB l.Start s = false) (h : Marks m left g1) : Marks m left fun i => g1 i || (holdB l.Start s && !holdB [nth r i.toNat] s) := h.congr fun i _ => by rw [hs, Bool.false_and, Bool.or_false]
theorem stray_next (hq : q < (nextL l s).length) (h : Marks m left fun i => (g1 i || ((nextL l s).take q).any fun t => !holdB [nth r i.toNat] t) || !holdB [nth r i.toNat] (nth (nextL l s) q)) : Marks m left fun i => g1 i || ((nextL l s).take (q + 1)).any fun t => !holdB [nth r i.toNat] t := h.congr fun i _ => by
  rw [take_succ_nth hq, List.any_append, List.any_cons, List.any_nil, Bool.or_false, Bool.or_assoc]
theorem stray_end (hj : j < (statesL l).length) (hs : holdB (pickR r left) (nth (statesL l) j) = true) (hq : (nextL l (nth (statesL l) j)).length ≤ q)
    (h : Marks m left fun i => ((((statesL l).take j).any fun s => strayAt l r (pickR r left) s i) || (holdB l.Start (nth (statesL l) j) && !holdB [nth r i.toNat] (nth (statesL l) j))) || ((nextL l (nth (statesL l) j)).take q).any fun t => !holdB [nth r i.toNat] t) :
    Marks m left fun i => ((statesL l).take (j + 1)).any fun s => strayAt l r (pickR r left) s i := h.congr fun i _ => by
  rw [take_succ_nth hj, List.any_append, List.any_cons, List.any_nil, Bool.or_false, strayAt, hs, Bool.true_and, List.take_of_length_le hq, Bool.or_assoc]
theorem stray_end0 (hj : j < (statesL l).length) (hs : holdB (pickR r left) (nth (statesL l) j) = false)
    (h : Marks m left fun i => (((statesL l).take j).any fun s => strayAt l r (pickR r left) s i) || (holdB l.Start (nth (statesL l) j) && !holdB [nth r i.toNat] (nth (statesL l) j))) :
    Marks m left fun i => ((statesL l).take (j + 1)).any fun s => strayAt l r (pickR r left) s i := h.congr fun i _ => by
  rw [take_succ_nth hj, List.any_append, List.any_cons, List.any_nil, Bool.or_false, strayAt, hs, Bool.false_and, Bool.or_false]
theorem stray_all (hj : (statesL l).length ≤ j) (h : Marks m left fun i => ((statesL l).take j).any fun s => strayAt l r (pickR r left) s i) : Marks m left (strayIn l r left) := h.congr fun i _ => by
  rw [List.take_of_length_le hj]; rfl
theorem drop_is (h : Marks m left (strayIn l r left)) : left.filter (fun x => !(mget m x).getD false) = dropBad l r left := by
  unfold dropBad
  exact List.filter_congr fun x hx => by rw [h.getD hx]
theorem drop_less (h : Marks m left (strayIn l r left)) (hm : (m.length : Int) ≠ 0) : (dropBad l r left).length < left.length := by
  obtain ⟨i, hi, hb⟩ := h.some hm
  refine Nat.lt_of_le_of_ne dropBad_len fun e => ?_
  have := bad_no (dropBad_fix e) i hi
  rw [hb] at this; cases this
theorem drop_none (h : Marks m left (strayIn l r left)) (hm : (m.length : Int) = 0) : dropBad l r left = left := by
  unfold dropBad
  rw [List.filter_eq_self]
  intro i hi
  rw [h.none hm i hi]; rfl
theorem most_step {X : List Int} (h : ∃ n, X = holdMostF l r n left ∧ left.length < n) (h2 : (dropBad l r left).length < left.length) : ∃ n, X = holdMostF l r n (dropBad l r left) ∧ (dropBad l r left).length < n := by
  obtain ⟨n, h1, h3⟩ := h
  obtain ⟨n, rfl⟩ : ∃ n', n = n' + 1 := ⟨n - 1, by omega⟩
  exact ⟨n, h1, by omega⟩
theorem most_done {X : List Int} (h : ∃ n, X = holdMostF l r n left ∧ left.length < n) (h2 : dropBad l r left = left) : X = left := by
  obtain ⟨n, h1, h3⟩ := h
  rw [h1, mostF_fix h2]
end
/-! ### Elements taken out -/
section
variable {xs C : List Int} {gp : Int → Bool} {i j : Nat}
theorem del_keep (hi : i < j) (hj : j < xs.length) (hC : C.length = xs.length) (ht : C.take i = (xs.take j).filter fun x => !gp x) (hr : ∀ m, j ≤ m → m < xs.length → nth C m = nth xs m) (hg : (!gp (nth C j)) = true) :
    (C.set i (nth C j)).take (i + 1) = (xs.take (j + 1)).filter fun x => !gp x := by
  rw [take_succ_nth (l := xs) hj, List.filter_append, ← ht, take_succ_nth (l := C.set i (nth C j)) (by rw [List.length_set]; omega), List.take_set_of_le (Nat.le_refl i), nth_set' (by omega), if_pos rfl]
  rw [hr j (Nat.le_refl _) hj] at hg ⊢
  rw [List.filter_cons, if_pos hg]; rfl
theorem del_keepr (hi : i < j) (hC : C.length = xs.length) (hr : ∀ m, j ≤ m → m < xs.length → nth C m = nth xs m) : ∀ m, j + 1 ≤ m → m < xs.length → nth (C.set i (nth C j)) m = nth xs m := fun m h1 h2 => by
  rw [nth_set' (by omega), if_neg (by omega)]; exact hr m (by omega) h2
theorem del_drop (hj : j < xs.length) (ht : C.take i = (xs.take j).filter fun x => !gp x) (hr : ∀ m, j ≤ m → m < xs.length → nth C m = nth xs m) (hg : ¬ (!gp (nth C j)) = true) :
    C.take i = (xs.take (j + 1)).filter fun x => !gp x := by
  rw [hr j (Nat.le_refl _) hj] at hg
  rw [take_succ_nth (l := xs) hj, List.filter_append, ← ht, List.filter_cons, if_neg hg]; simp
theorem del_start (h : ∀ k, k < i → gp (nth xs k) = false) (hi : i < xs.length) (hg : gp (nth xs i) = true) : xs.take i = (xs.take (i + 1)).filter fun x => !gp x := by
  rw [take_succ_nth hi, List.filter_append, List.filter_cons, hg]
  simp only [Bool.not_true, Bool.false_eq_true, if_false, List.filter_nil, List.append_nil]
  rw [List.filter_eq_self.2]
  intro x hx
  obtain ⟨k, hk, rfl⟩ := nth_of_mem hx
  rw [List.length_take] at hk
  have e : nth (xs.take i) k = nth xs k := by rw [nth_eq (by rw [List.length_take]; omega), List.getElem_take, ← nth_eq]
  rw [e, h k (by omega)]; rfl
theorem del_none (h : idxOf gp xs = -1) : xs.filter (fun x => !gp x) = xs := by
  rw [List.filter_eq_self]
  intro x hx
  rcases first_or gp xs with h1 | ⟨k, hk, h1, h2⟩
  · obtain ⟨k, hk, rfl⟩ := nth_of_mem hx
    rw [h1 k hk]; rfl
  · rw [idxOf_at hk h1 h2] at h; omega
theorem del_first (h : ¬ idxOf gp xs = -1) : ∃ k : Nat, idxOf gp xs = (k : Int) ∧ k < xs.length ∧ (∀ j, j < k → gp (nth xs j) = false) ∧ gp (nth xs k) = true := by
  rcases first_or gp xs with h1 | ⟨k, hk, h1, h2⟩
  · exact absurd (idxOf_no h1) h
  · exact ⟨k, idxOf_at hk h1 h2, hk, h1, h2⟩
theorem del_end (hC : C.length = xs.length) (hi : i ≤ C.length) (ht : C.take i = (xs.take j).filter fun x => !gp x) (hj : xs.length ≤ j) : (C.take i ++ List.replicate (C.length - i) 0).take i = xs.filter fun x => !gp x := by
  rw [List.take_append_of_le_length (by rw [List.length_take]; omega), List.take_of_length_le (by rw [List.length_take]; omega), ht, List.take_of_length_le hj]
end
theorem row_sub {α : Type} [GoT α] {t : TypeId} {v : Value} {xs : List α} {S : Nat → Prop} {H : Heap} {s k m b : Nat} (h : (rowE t v xs).ok S H) (hb : rowB (sliceV s v k m) b) : rowB v b := by
  obtain ⟨_, cl, _, hr⟩ := h
  exact sliceV_rowB hr hb
theorem pw_swap {e e' : Ent} {A : List Ent} (hb : ∀ b, e'.blocks b → e.blocks b) (h : (e :: A).Pairwise fun e e' => ∀ b, e.blocks b → ¬ e'.blocks b) : (e' :: A).Pairwise fun e e' => ∀ b, e.blocks b → ¬ e'.blocks b :=
  List.pairwise_cons.2 ⟨fun a ha b h1 => (List.pairwise_cons.1 h).1 a ha b (hb b h1), (List.pairwise_cons.1 h).2⟩
theorem own_swap {e e' : Ent} {A : List Ent} (hb : ∀ b, e'.blocks b → e.blocks b) {b : Nat} (h : own (e' :: A) b) : own (e :: A) b := by
  obtain ⟨a, ha, h1⟩ := h
  rcases List.mem_cons.1 ha with rfl | ha
  · exact ⟨e, List.mem_cons_self .., hb b h1⟩
  · exact ⟨a, List.mem_cons_of_mem _ ha, h1⟩
end Go.Um
