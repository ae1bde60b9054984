/- In which round each fact comes. No program is in sight. -/
import Derived.Test.YtpdcejallbbncaaActPlain
namespace Go.Um

def markL (L : List Int) (n : Int) (p : Nat → Bool) : List Int := (List.range L.length).map fun f => if nth L f < 0 ∧ p f = true then n else nth L f
def Chg (L : List Int) (p : Nat → Bool) : Prop := ∃ f, f < L.length ∧ nth L f < 0 ∧ p f = true
section
variable {L : List Int} {n : Int} {p p' : Nat → Bool} {f : Nat}
theorem markL_len : (markL L n p).length = L.length := by simp [markL]
theorem markL_nth (hf : f < L.length) : nth (markL L n p) f = if nth L f < 0 ∧ p f = true then n else nth L f := nth_range hf
theorem markL_none : markL L n (fun _ => false) = L := by
  refine nth_ext markL_len fun k hk => ?_
  rw [markL_nth (by simpa [markL] using hk), if_neg (fun h => by cases h.2)]
theorem markL_same (h : ¬ Chg L p) : markL L n p = L := by
  refine nth_ext markL_len fun k hk => ?_
  rw [markL_len] at hk
  rw [markL_nth hk, if_neg (fun hh => h ⟨k, hk, hh⟩)]
theorem markL_set (hp : ∀ g, p' g = true ↔ p g = true ∨ g = f) (hf : f < L.length) (hneg : nth (markL L n p) f < 0) (hn : 0 ≤ n) : (markL L n p).set f n = markL L n p' := by
  have h0 : nth L f < 0 := by
    rw [markL_nth hf] at hneg
    split at hneg
    · omega
    · exact hneg
  refine nth_ext (by simp [markL]) fun k hk => ?_
  rw [List.length_set, markL_len] at hk
  rw [markL_nth hk]
  have hs : nth ((markL L n p).set f n) k = if f = k then n else nth (markL L n p) k := by
    rw [nth_eq (by rw [List.length_set, markL_len]; exact hk), List.getElem_set, nth_eq (by rw [markL_len]; exact hk)]
  rw [hs, markL_nth hk]
  by_cases hkf : f = k
  · subst hkf; rw [if_pos rfl, if_pos ⟨h0, (hp f).2 (.inr rfl)⟩]
  · rw [if_neg hkf]
    by_cases h1 : nth L k < 0 ∧ p k = true
    · rw [if_pos h1, if_pos ⟨h1.1, (hp k).2 (.inl h1.2)⟩]
    · rw [if_neg h1, if_neg fun h => h1 ⟨h.1, ((hp k).1 h.2).resolve_right fun e => hkf e.symm⟩]
theorem markL_keep (hp : ∀ g, p' g = true ↔ p g = true ∨ g = f) (hf : f < L.length) (hneg : ¬ nth (markL L n p) f < 0) : markL L n p' = markL L n p ∧ (Chg L p' ↔ Chg L p) := by
  have h0 : ∀ k, k < L.length → (nth L k < 0 ∧ p' k = true ↔ nth L k < 0 ∧ p k = true) := fun k hk => by
    constructor
    · rintro ⟨h1, h2⟩
      refine ⟨h1, ((hp k).1 h2).elim id fun e => ?_⟩
      subst e
      rw [markL_nth hf] at hneg
      split at hneg
      · rename_i h3; exact h3.2
      · exact absurd h1 hneg
    · rintro ⟨h1, h2⟩; exact ⟨h1, (hp k).2 (.inl h2)⟩
  refine ⟨?_, ?_⟩
  · refine nth_ext (by simp [markL]) fun k hk => ?_
    rw [markL_len] at hk
    rw [markL_nth hk, markL_nth hk]
    by_cases h1 : nth L k < 0 ∧ p k = true
    · rw [if_pos h1, if_pos ((h0 k hk).2 h1)]
    · rw [if_neg h1, if_neg fun h => h1 ((h0 k hk).1 h)]
  · constructor
    · rintro ⟨k, hk, h1⟩; exact ⟨k, hk, (h0 k hk).1 h1⟩
    · rintro ⟨k, hk, h1⟩; exact ⟨k, hk, (h0 k hk).2 h1⟩
theorem Chg.set (hp : ∀ g, p' g = true ↔ p g = true ∨ g = f) (hf : f < L.length) (hneg : nth (markL L n p) f < 0) (hn : 0 ≤ n) : Chg L p' := by
  refine ⟨f, hf, ?_, (hp f).2 (.inr rfl)⟩
  rw [markL_nth hf] at hneg
  split at hneg
  · omega
  · exact hneg
/-- What a round in its midst shows of the facts that held ahead of it. -/
theorem markL_see (hf : f < L.length) (hL : nth L f < n) : (nth (markL L n p) f < 0 ∨ n ≤ nth (markL L n p) f) ↔ nth L f < 0 := by
  rw [markL_nth hf]
  split
  · rename_i h; exact ⟨fun _ => h.1, fun _ => .inr (Int.le_refl _)⟩
  · constructor
    · rintro (h | h)
      · exact h
      · omega
    · exact .inl
end

def canR (L : List Int) (a : Act) : Bool := a.Need.all fun x => decide (0 ≤ nth L x.toNat)
def comes (q : Quest) (L : List Int) (k : Nat) (f : Nat) : Bool := (List.range k).any fun j => canR L (nth q.Acts j) && hasB (nth q.Acts j).Add f
def lv0 (q : Quest) : List Int := (List.range q.Facts.toNat).map fun f => if hasB q.First (f : Nat) = true then 0 else -1
def roundL (q : Quest) (L : List Int) (n : Int) : List Int := markL L n (comes q L q.Acts.length)
def levelsAt (q : Quest) : Nat → List Int
  | 0 => lv0 q
  | n + 1 => roundL q (levelsAt q n) ((n : Int) + 1)
def levels (q : Quest) : List Int := levelsAt q (q.Facts.toNat + 1)
section
variable {q : Quest} {L : List Int} {k n f : Nat}
theorem comes_zero : comes q L 0 = fun _ => false := rfl
theorem comes_next : comes q L (k + 1) f = (comes q L k f || (canR L (nth q.Acts k) && hasB (nth q.Acts k).Add f)) := by
  simp [comes, List.range_succ, List.any_append]
theorem comes_cant (h : canR L (nth q.Acts k) = false) : comes q L (k + 1) = comes q L k := by
  funext f; rw [comes_next, h]; simp
/-- In the midst of an act's facts. -/
def inAct (q : Quest) (L : List Int) (k i : Nat) (f : Nat) : Bool := comes q L k f || hasB ((nth q.Acts k).Add.take i) f
theorem inAct_zero : inAct q L k 0 = comes q L k := by funext f; simp [inAct, hasB]
theorem inAct_end (h : canR L (nth q.Acts k) = true) {i : Nat} (hi : (nth q.Acts k).Add.length ≤ i) : inAct q L k i = comes q L (k + 1) := by
  funext f; rw [comes_next, h, inAct, List.take_of_length_le hi]; simp
theorem has_take {l : List Int} {i : Nat} (hi : i < l.length) (h0 : 0 ≤ nth l i) (g : Nat) : hasB (l.take (i + 1)) g = true ↔ hasB (l.take i) g = true ∨ g = (nth l i).toNat := by
  rw [take_succ_nth hi, hasB, hasB, decide_eq_true_iff, decide_eq_true_iff, List.mem_append, List.mem_singleton]
  constructor
  · rintro (h | h)
    · exact .inl h
    · exact .inr (by omega)
  · rintro (h | h)
    · exact .inl h
    · exact .inr (by omega)
theorem inAct_step {i : Nat} (hi : i < (nth q.Acts k).Add.length) (h0 : 0 ≤ nth (nth q.Acts k).Add i) (g : Nat) : inAct q L k (i + 1) g = true ↔ inAct q L k i g = true ∨ g = (nth (nth q.Acts k).Add i).toNat := by
  rw [inAct, inAct, Bool.or_eq_true, Bool.or_eq_true, has_take hi h0, or_assoc]
theorem lv0_len : (lv0 q).length = q.Facts.toNat := by simp [lv0]
theorem levelsAt_len : ∀ n, (levelsAt q n).length = q.Facts.toNat
  | 0 => lv0_len
  | n + 1 => by rw [levelsAt, roundL, markL_len, levelsAt_len n]
theorem levelsAt_lt : ∀ n f, f < q.Facts.toNat → -1 ≤ nth (levelsAt q n) f ∧ nth (levelsAt q n) f ≤ (n : Int)
  | 0, f, hf => by rw [levelsAt, lv0, nth_range hf]; split <;> omega
  | n + 1, f, hf => by
    have ih := levelsAt_lt n f hf
    rw [levelsAt, roundL, markL_nth (by rw [levelsAt_len]; exact hf)]
    split <;> omega
/-! The rounds come to an end. -/
def negs (L : List Int) : Nat := (List.range L.length).countP fun f => decide (nth L f < 0)
theorem countP_lt {p r : Nat → Bool} : ∀ {l : List Nat}, (∀ x ∈ l, p x = true → r x = true) → (∃ x ∈ l, r x = true ∧ p x = false) → l.countP p + 1 ≤ l.countP r
  | [], _, ⟨x, hx, _⟩ => by cases hx
  | a :: l, h, ⟨x, hx, h1, h2⟩ => by
    have hle : l.countP p ≤ l.countP r := List.countP_mono_left fun y hy => h y (List.mem_cons_of_mem _ hy)
    rw [List.countP_cons, List.countP_cons]
    rcases List.mem_cons.1 hx with rfl | hx
    · rw [h1, h2]; simp; omega
    · have ih := countP_lt (l := l) (p := p) (r := r) (fun y hy => h y (List.mem_cons_of_mem _ hy)) ⟨x, hx, h1, h2⟩
      cases hp : p a with
      | false => simp; omega
      | true => rw [h a (List.mem_cons_self ..) hp]; simp; omega
theorem negs_lt {p : Nat → Bool} {N : Int} (hN : 0 ≤ N) (h : Chg L p) : negs (markL L N p) + 1 ≤ negs L := by
  unfold negs
  rw [markL_len]
  obtain ⟨f, hf, h1, h2⟩ := h
  refine countP_lt (fun x hx hh => ?_) ⟨f, List.mem_range.2 hf, decide_eq_true h1, ?_⟩
  · have hx' := List.mem_range.1 hx
    have := of_decide_eq_true hh
    rw [markL_nth hx'] at this
    split at this
    · omega
    · exact decide_eq_true this
  · rw [markL_nth hf, if_pos ⟨h1, h2⟩]; exact decide_eq_false (by omega)
theorem negs_le : negs L ≤ L.length := by
  unfold negs
  exact Nat.le_trans (List.countP_le_length) (by simp)
def Quiet_ (q : Quest) (n : Nat) : Prop := ¬ Chg (levelsAt q n) (comes q (levelsAt q n) q.Acts.length)
theorem Quiet_.next (h : Quiet_ q n) : levelsAt q (n + 1) = levelsAt q n := markL_same h
theorem Quiet_.on (h : Quiet_ q n) : ∀ m, n ≤ m → levelsAt q m = levelsAt q n := by
  intro m hm
  induction hm with
  | refl => rfl
  | @step m _ ih =>
    have h2 : Quiet_ q m := by unfold Quiet_; rw [ih]; exact h
    rw [h2.next, ih]
theorem quiet_is : ∃ n, n ≤ q.Facts.toNat ∧ Quiet_ q n := by
  refine Classical.byContradiction fun hno => ?_
  have h : ∀ n, n ≤ q.Facts.toNat + 1 → negs (levelsAt q n) + n ≤ q.Facts.toNat := by
    intro n
    induction n with
    | zero => intro _; have := negs_le (L := levelsAt q 0); rw [levelsAt_len] at this; omega
    | succ n ih =>
      intro hn
      have h1 := ih (by omega)
      have h2 : Chg (levelsAt q n) (comes q (levelsAt q n) q.Acts.length) := Classical.byContradiction fun hc => hno ⟨n, by omega, hc⟩
      have h3 := negs_lt (N := (n : Int) + 1) (by omega) h2
      show negs (markL _ _ _) + (n + 1) ≤ _
      omega
  have := h (q.Facts.toNat + 1) (Nat.le_refl _)
  omega
theorem levels_of (h : Quiet_ q n) (hn : n ≤ q.Facts.toNat + 1) : levels q = levelsAt q n := h.on _ hn
theorem levels_on {m : Nat} (hm : q.Facts.toNat ≤ m) : levelsAt q m = levels q := by
  obtain ⟨n, h1, h2⟩ := quiet_is (q := q)
  rw [h2.on m (by omega), levels_of h2 (by omega)]
/-- What has come stays. -/
theorem levels_stay {f : Nat} (hf : f < q.Facts.toNat) (h : 0 ≤ nth (levelsAt q n) f) : ∀ m, n ≤ m → nth (levelsAt q m) f = nth (levelsAt q n) f := by
  intro m hm
  induction hm with
  | refl => rfl
  | @step m _ ih =>
    rw [levelsAt, roundL, markL_nth (by rw [levelsAt_len]; exact hf), if_neg (by rw [ih]; omega), ih]
theorem levels_eq {f : Nat} (hf : f < q.Facts.toNat) (h : 0 ≤ nth (levelsAt q n) f) : nth (levels q) f = nth (levelsAt q n) f := by
  rw [← levels_on (q := q) (m := n + q.Facts.toNat) (by omega)]
  exact levels_stay hf h _ (by omega)
theorem levels_at {f : Nat} (hf : f < q.Facts.toNat) (h : 0 ≤ nth (levels q) f) (hn : nth (levels q) f ≤ (n : Int)) : nth (levelsAt q n) f = nth (levels q) f := by
  by_cases h0 : 0 ≤ nth (levelsAt q n) f
  · exact (levels_eq hf h0).symm
  · exfalso
    have key : ∀ m, n ≤ m → ¬ 0 ≤ nth (levelsAt q m) f ∨ (n : Int) < nth (levelsAt q m) f := by
      intro m hm
      induction hm with
      | refl => exact .inl h0
      | @step m hm ih =>
        rw [levelsAt, roundL, markL_nth (by rw [levelsAt_len]; exact hf)]
        split
        · right; have : n ≤ m := hm; omega
        · exact ih
    have hh := key (n + q.Facts.toNat) (by omega)
    rw [levels_on (by omega)] at hh
    omega
/-- An act whose needs have all come by round n has all its facts come by the next. -/
theorem levels_act (hQ : QW q) (hk : k < q.Acts.length) (h : ∀ x ∈ (nth q.Acts k).Need, 0 ≤ nth (levels q) x.toNat ∧ nth (levels q) x.toNat ≤ (n : Int)) {x : Int} (hx : x ∈ (nth q.Acts k).Add) :
    0 ≤ nth (levels q) x.toNat ∧ nth (levels q) x.toNat ≤ (n : Int) + 1 := by
  have hf := hQ.form k hk
  have hxr := hf.1.2.mem hx
  have hxf : x.toNat < q.Facts.toNat := by omega
  have hc : canR (levelsAt q n) (nth q.Acts k) = true := List.all_eq_true.2 fun y hy => by
    have hy1 := hf.1.1.1.mem hy
    have hy2 := h y hy
    rw [levels_at (by omega) hy2.1 hy2.2]; exact decide_eq_true hy2.1
  have hcm : comes q (levelsAt q n) q.Acts.length x.toNat = true := List.any_eq_true.2 ⟨k, List.mem_range.2 hk, by rw [hc, Bool.true_and, hasB, decide_eq_true_iff, show ((x.toNat : Nat) : Int) = x by omega]; exact hx⟩
  have h1 := levelsAt_lt (q := q) (n + 1) x.toNat hxf
  have h2 : 0 ≤ nth (levelsAt q (n + 1)) x.toNat := by
    rw [levelsAt, roundL, markL_nth (by rw [levelsAt_len]; exact hxf)]
    split
    · omega
    · rename_i hh
      exact Int.not_lt.1 fun hneg => hh ⟨hneg, hcm⟩
  rw [levels_eq hxf h2]
  omega
/-- No fact comes by a plan ahead of its round. -/
theorem levels_walk (hQ : QW q) : ∀ (ps : List Int) (i : Nat) (now : List Bool), now.length = q.Facts.toNat → (∀ f, nth now f = true → 0 ≤ nth (levels q) f ∧ nth (levels q) f ≤ (i : Int)) → (walkR q i ps now).1.1 = 0 →
    ∀ f, nth (walkR q i ps now).2 f = true → 0 ≤ nth (levels q) f ∧ nth (levels q) f ≤ ((i + ps.length : Nat) : Int)
  | [], i, now, _, h, _, f, hf => by simpa using h f hf
  | p :: ps, i, now, hl, h, hw, f, hf => by
    by_cases h1 : 0 ≤ p ∧ p < (q.Acts.length : Int)
    · by_cases h2 : canA (nth q.Acts p.toNat) now = true
      · rw [walkR, if_neg (not_not_intro h1), if_pos h2] at hw hf
        have hfm := hQ.form p.toNat (by omega)
        have := levels_walk hQ ps (i + 1) _ (by rw [afterA_len]; exact hl) (fun g hg => ?_) hw f hf
        · rw [List.length_cons]; rw [show i + (ps.length + 1) = i + 1 + ps.length by omega]; exact this
        · have hgl : g < now.length := by
            refine Decidable.of_not_not fun hn => ?_
            rw [nth_off (by rw [afterA_len]; exact hn)] at hg; cases hg
          rw [afterA, nth_range hgl, decide_eq_true_iff] at hg
          rcases hg with hg | hg
          · have := levels_act (n := i) hQ (by omega) (fun x hx => ?_) (of_decide_eq_true hg)
            · simpa using this
            · have hxr := hfm.1.1.1.mem hx
              apply h
              have hc := of_decide_eq_true h2 x.toNat (by omega)
              cases hn : nth now x.toNat with
              | true => rfl
              | false => exact absurd (.inl ⟨by rw [hasB, decide_eq_true_iff, show ((x.toNat : Nat) : Int) = x by omega]; exact hx, by rw [hn]; rfl⟩) hc
          · have := h g hg.1; omega
      · rw [walkR, if_neg (not_not_intro h1), if_neg h2] at hw; cases hw
    · rw [walkR, if_pos h1] at hw; cases hw
theorem levels_first (hQ : QW q) {f : Nat} (h : nth (firstL q) f = true) : nth (levels q) f = 0 := by
  have hf : f < q.Facts.toNat := by
    refine Decidable.of_not_not fun hn => ?_
    rw [nth_off (by rw [firstL_len]; exact hn)] at h; cases h
  rw [firstL, nth_range hf] at h
  have h0 : nth (levelsAt q 0) f = 0 := by rw [levelsAt, lv0, nth_range hf, if_pos h]
  rw [levels_eq (n := 0) hf (by omega), h0]
end

/-! ### The goal's round -/
def farOk (L G : List Int) : Bool := G.all fun g => decide (0 ≤ nth L g.toNat)
def farTo (L : List Int) (G : List Int) : Int := G.foldl (fun m g => max m (nth L g.toNat)) 0
def farN (L G : List Int) : Int := if farOk L G = true then farTo L G else 0
section
variable {L G : List Int} {i : Nat} {B : Int}
theorem farTo_take (h : i < G.length) : farTo L (G.take (i + 1)) = max (farTo L (G.take i)) (nth L (nth G i).toNat) := by
  rw [take_succ_nth h, farTo, List.foldl_append]; rfl
theorem farOk_take (h : i < G.length) : farOk L (G.take (i + 1)) = (farOk L (G.take i) && decide (0 ≤ nth L (nth G i).toNat)) := by
  rw [take_succ_nth h, farOk, List.all_append]; simp [farOk]
theorem farOk_no (h : i < G.length) (hn : nth L (nth G i).toNat < 0) : farOk L G = false := by
  rw [farOk, List.all_eq_false]
  exact ⟨_, nth_mem h, by simpa using hn⟩
theorem farTo_app {G' : List Int} : farTo L (G ++ G') = G'.foldl (fun m g => max m (nth L g.toNat)) (farTo L G) := by rw [farTo, List.foldl_append]; rfl
theorem foldl_le : ∀ {G : List Int} {m : Int}, m ≤ B → (∀ g ∈ G, nth L g.toNat ≤ B) → G.foldl (fun m g => max m (nth L g.toNat)) m ≤ B
  | [], _, h, _ => h
  | g :: G, m, h, hb => foldl_le (G := G) (Int.max_le.2 ⟨h, hb g (List.mem_cons_self ..)⟩) fun x hx => hb x (List.mem_cons_of_mem _ hx)
theorem farTo_le (h0 : 0 ≤ B) (hb : ∀ g ∈ G, nth L g.toNat ≤ B) : farTo L G ≤ B := foldl_le h0 hb
theorem foldl_ge : ∀ {G : List Int} {m : Int}, m ≤ G.foldl (fun m g => max m (nth L g.toNat)) m
  | [], _ => Int.le_refl _
  | g :: G, m => Int.le_trans (Int.le_max_left ..) (foldl_ge (G := G))
theorem farTo_nonneg : 0 ≤ farTo L G := foldl_ge
end
def levelsOut (q : Quest) : List Int := if (questFault q).1 ≠ 0 then [] else levels q
def farI (q : Quest) : Int := if (questFault q).1 ≠ 0 then 0 else farN (levels q) q.Goal
def farB (q : Quest) : Bool := if (questFault q).1 ≠ 0 then false else farOk (levels q) q.Goal

/-! ### How the lists are made -/
theorem rng_set {n f : Nat} {g g' : Nat → Int} {v : Int} (hv : g' f = v) (h : ∀ k, k < n → k ≠ f → g' k = g k) : ((List.range n).map g).set f v = (List.range n).map g' := by
  apply List.ext_getElem (by simp)
  intro k h1 h2
  rw [List.getElem_set]
  simp only [List.getElem_map, List.getElem_range]
  by_cases hk : f = k
  · rw [if_pos hk, ← hv, hk]
  · rw [if_neg hk, h k (by simpa using h2) fun e => hk e.symm]
def lvFill (n i : Nat) : List Int := (List.range n).map fun f => if f < i then -1 else 0
def lvFirst (q : Quest) (i : Nat) : List Int := (List.range q.Facts.toNat).map fun f => if hasB (q.First.take i) (f : Nat) = true then 0 else -1
def lvInit (q : Quest) (i : Nat) : List Int := (List.range q.Facts.toNat).map fun f => if f < i then (if hasB q.First (f : Nat) = true then 0 else -1) else 0
section
variable {q : Quest} {L : List Int} {n i k : Nat}
theorem lvFill_zero : lvFill n 0 = List.replicate n 0 := by
  apply List.ext_getElem (by simp [lvFill])
  intro k h1 h2; simp [lvFill]
theorem lvFill_len : (lvFill n i).length = n := by simp [lvFill]
theorem lvFirst_len : (lvFirst q i).length = q.Facts.toNat := by simp [lvFirst]
theorem lvInit_len : (lvInit q i).length = q.Facts.toNat := by simp [lvInit]
theorem lvFill_set : (lvFill n i).set i (-1) = lvFill n (i + 1) :=
  rng_set (if_pos (by omega)) fun k _ hk => by
    by_cases h : k < i
    · rw [if_pos h, if_pos (by omega)]
    · rw [if_neg h, if_neg (by omega)]
theorem lvFill_first : lvFill q.Facts.toNat q.Facts.toNat = lvFirst q 0 := by
  apply List.ext_getElem (by simp [lvFill, lvFirst])
  intro k h1 h2
  have : k < q.Facts.toNat := by simpa [lvFill] using h1
  simp [lvFill, lvFirst, hasB, this]
  omega
theorem lvFirst_set (hi : i < q.First.length) (h0 : 0 ≤ nth q.First i) : (lvFirst q i).set (nth q.First i).toNat 0 = lvFirst q (i + 1) :=
  rng_set (if_pos ((has_take hi h0 _).2 (.inr rfl))) fun k _ hk => by
    by_cases h : hasB (q.First.take i) (k : Nat) = true
    · rw [if_pos h, if_pos ((has_take hi h0 _).2 (.inl h))]
    · rw [if_neg h, if_neg fun h2 => ((has_take hi h0 _).1 h2).elim h hk]
theorem lvFirst_all (hi : ¬ i < q.First.length) : lvFirst q i = levelsAt q 0 := by
  rw [lvFirst, List.take_of_length_le (by omega)]; rfl
theorem lvInit_zero : lvInit q 0 = List.replicate q.Facts.toNat 0 := by
  apply List.ext_getElem (by simp [lvInit])
  intro k h1 h2; simp [lvInit]
theorem lvInit_no (h : hasB q.First (i : Nat) = false) : (lvInit q i).set i (-1) = lvInit q (i + 1) :=
  rng_set (by rw [if_pos (by omega), if_neg (by rw [h]; decide)]) fun k _ hk => by
    by_cases h : k < i
    · rw [if_pos h, if_pos (by omega)]
    · rw [if_neg h, if_neg (by omega)]
theorem lvInit_yes (h : hasB q.First (i : Nat) = true) : ((lvInit q i).set i (-1)).set i 0 = lvInit q (i + 1) := by
  rw [List.set_set]
  exact rng_set (by rw [if_pos (by omega), if_pos h]) fun k _ hk => by
    by_cases h : k < i
    · rw [if_pos h, if_pos (by omega)]
    · rw [if_neg h, if_neg (by omega)]
theorem lvInit_all : lvInit q q.Facts.toNat = levelsAt q 0 := by
  apply List.ext_getElem (by rw [lvInit_len, levelsAt_len])
  intro k h1 h2
  have : k < q.Facts.toNat := by simpa [lvInit] using h1
  simp [lvInit, levelsAt, lv0, this]
  omega
def comeL (q : Quest) (L : List Int) (k : Nat) : List Int := (List.range k).flatMap fun j => if canR L (nth q.Acts j) = true then (nth q.Acts j).Add else []
theorem comeL_yes (h : canR L (nth q.Acts k) = true) : comeL q L (k + 1) = comeL q L k ++ (nth q.Acts k).Add := by
  simp [comeL, List.range_succ, List.flatMap_append, h]
theorem comeL_no (h : ¬ canR L (nth q.Acts k) = true) : comeL q L (k + 1) = comeL q L k := by
  simp [comeL, List.range_succ, List.flatMap_append, h]
theorem comeL_has {f : Nat} : hasB (comeL q L k) f = comes q L k f := by
  rw [Bool.eq_iff_iff, hasB, decide_eq_true_iff, comes, List.any_eq_true, comeL, List.mem_flatMap]
  constructor
  · rintro ⟨j, hj, h⟩
    refine ⟨j, hj, ?_⟩
    split at h
    · rename_i hc; rw [hc, Bool.true_and]; exact decide_eq_true h
    · cases h
  · rintro ⟨j, hj, h⟩
    rw [Bool.and_eq_true] at h
    exact ⟨j, hj, by rw [if_pos h.1]; exact of_decide_eq_true h.2⟩
theorem Rising.ge {l : List Int} {N : Int} (h : Rising l N) : ∀ k : Nat, k < l.length → (k : Int) ≤ nth l k
  | 0, hk => (h 0 hk).1.1
  | k + 1, hk => by
    have h1 := Rising.ge h k (by omega)
    have h2 := (h (k + 1) hk).2.resolve_left (by omega)
    rw [Nat.add_sub_cancel] at h2; omega
theorem Rising.len {l : List Int} {N : Int} (h : Rising l N) (hN : 0 ≤ N) : (l.length : Int) ≤ N := by
  by_cases h0 : l.length = 0
  · omega
  · have h1 := h.ge (l.length - 1) (by omega)
    have h2 := (h (l.length - 1) (by omega)).1
    omega
theorem comeL_len (hQ : QW q) : ∀ k, k ≤ q.Acts.length → (comeL q L k).length ≤ k * 16
  | 0, _ => by simp [comeL]
  | k + 1, hk => by
    have ih := comeL_len hQ k (by omega)
    by_cases h : canR L (nth q.Acts k) = true
    · have := (hQ.form k (by omega)).1.2.len (by have := hQ.facts; omega)
      have := hQ.facts
      rw [comeL_yes h, List.length_append]; omega
    · rw [comeL_no h]; omega
theorem comeL_mem (hQ : QW q) (hk : k ≤ q.Acts.length) {x : Int} (hx : x ∈ comeL q L k) : 0 ≤ x ∧ x < q.Facts := by
  obtain ⟨j, hj, h⟩ := List.mem_flatMap.1 hx
  have hj := List.mem_range.1 hj
  split at h
  · exact (hQ.form j (by omega)).1.2.mem h
  · cases h
def inCome (come : List Int) (i : Nat) (f : Nat) : Bool := hasB (come.take i) f
theorem inCome_zero {come : List Int} : inCome come 0 = fun _ => false := by funext f; simp [inCome, hasB]
theorem inCome_all {i : Nat} (h : ¬ i < (comeL q L k).length) : inCome (comeL q L k) i = comes q L k := by
  funext f; rw [inCome, List.take_of_length_le (by omega), comeL_has]
theorem canR_iff {a : Act} {i : Nat} {ok : Bool} (hq : ok = true ↔ ∀ j, j < i → 0 ≤ nth L (nth a.Need j).toNat) (hi : i = a.Need.length) : canR L a = ok := by
  rw [Bool.eq_iff_iff, hq, canR, List.all_eq_true]
  constructor
  · intro h j hj; exact of_decide_eq_true (h _ (nth_mem (by omega)))
  · intro h x hx
    obtain ⟨j, hj, rfl⟩ := nth_of_mem hx
    exact decide_eq_true (h j (by omega))
theorem all_step {ok : Bool} {Q : Nat → Prop} {i : Nat} [Decidable (ok = true ∧ Q i)] (hq : ok = true ↔ ∀ j, j < i → Q j) : (decide (ok = true ∧ Q i) = true) ↔ ∀ j, j < i + 1 → Q j := by
  rw [decide_eq_true_iff, hq]
  exact ⟨fun h => all_succ h.1 h.2, fun h => ⟨fun j hj => h j (by omega), h i (by omega)⟩⟩
theorem any_see {M : List Int} {N : Int} {p : Nat → Bool} {a : Act} {F : Int} (hM : M = markL L N p) (hr : Rising a.Need F) (hF : F ≤ L.length) (hL : ∀ f, f < L.length → nth L f < N) :
    (a.Need.any fun x => decide (nth M x.toNat < 0 ∨ N ≤ nth M x.toNat)) = !canR L a := by
  have key : ∀ x ∈ a.Need, (nth M x.toNat < 0 ∨ N ≤ nth M x.toNat) ↔ nth L x.toNat < 0 := fun x hx => by
    have := hr.mem hx
    rw [hM, markL_see (by omega) (hL _ (by omega))]
  cases hc : canR L a with
  | true =>
    rw [canR, List.all_eq_true] at hc
    rw [Bool.not_true, List.any_eq_false]
    intro x hx h
    have h1 := (key x hx).1 (of_decide_eq_true h)
    have h2 := of_decide_eq_true (hc x hx)
    omega
  | false =>
    rw [canR, List.all_eq_false] at hc
    obtain ⟨x, hx, h⟩ := hc
    rw [Bool.not_false, List.any_eq_true]
    exact ⟨x, hx, decide_eq_true ((key x hx).2 (by simpa using h))⟩
end
/-! ### No plan is shorter -/
theorem questQ_far : farI questQ = 1 ∧ farB questQ = true ∧ questFault questQ = (0, 0) := by decide +kernel
theorem easy_law {q : Quest} {plan : List Int} (h : (questFault q).1 = 0) (hw : (walkFault q plan).1 = 0) :
    (walkNow q plan).length = q.Facts.toNat ∧ (walkOk q plan = true → farB q = true ∧ farI q ≤ (plan.length : Int)) ∧ ∀ i : Nat, nth (walkNow q plan) i = true → 0 ≤ nth (levelsOut q) i ∧ nth (levelsOut q) i ≤ (plan.length : Int) := by
  obtain ⟨hQ, h1, h2, h3, h4, h5⟩ := walkFault_zero hw
  have hlev : levelsOut q = levels q := by rw [levelsOut, if_neg (not_not_intro h)]
  have hlen : (walkNow q plan).length = q.Facts.toNat := by rw [h4, walkR_len h3, firstL_len]
  have hall : ∀ i : Nat, nth (walkNow q plan) i = true → 0 ≤ nth (levels q) i ∧ nth (levels q) i ≤ (plan.length : Int) := fun i hi => by
    rw [h4] at hi
    have := levels_walk hQ plan 0 (firstL q) firstL_len (fun f hf => by rw [levels_first hQ hf]; omega) h3 i hi
    simpa using this
  refine ⟨hlen, fun hg => ?_, by rw [hlev]; exact hall⟩
  rw [h5, ← h4] at hg
  have hgo := of_decide_eq_true hg
  have hmem : ∀ g ∈ q.Goal, 0 ≤ nth (levels q) g.toNat ∧ nth (levels q) g.toNat ≤ (plan.length : Int) := fun g hg => by
    obtain ⟨j, hj, rfl⟩ := nth_of_mem hg
    exact hall _ (hgo j hj)
  have hok : farOk (levels q) q.Goal = true := List.all_eq_true.2 fun g hg => decide_eq_true (hmem g hg).1
  refine ⟨by rw [farB, if_neg (not_not_intro h)]; exact hok, ?_⟩
  rw [farI, if_neg (not_not_intro h), farN, if_pos hok]
  exact farTo_le (by omega) fun g hg => (hmem g hg).2
end Go.Um
