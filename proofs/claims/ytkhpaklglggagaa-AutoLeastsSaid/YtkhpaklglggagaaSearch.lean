/- A search that goes in breadth: states in the order in which they are met. No program is in sight. -/
import Derived.Test.YtkhpaklglggagaaAutoShort
import Derived.Test.YtkhpaklglggagaaUmPair
namespace Go.Um
open GoT (sz ag rdc)
section
variable {α : Type} [DecidableEq α]
def addN (L : List α) (y : α) : List α := if y ∈ L then L else L ++ [y]
theorem addN_len (L : List α) (y : α) : L.length ≤ (addN L y).length := by unfold addN; split <;> simp
theorem addN_mem (L : List α) (y : α) : y ∈ addN L y := by unfold addN; split <;> simp_all
theorem addN_sub {L : List α} {y x : α} (h : x ∈ L) : x ∈ addN L y := by unfold addN; split <;> simp_all
theorem addN_nodup {L : List α} {y : α} (h : L.Nodup) : (addN L y).Nodup := by
  unfold addN; split
  · exact h
  · rename_i hn
    refine List.nodup_append.2 ⟨h, (by simp), fun a ha b hb => ?_⟩
    rw [List.mem_singleton.1 hb]
    exact fun e => hn (e ▸ ha)
theorem addN_all {L : List α} {y : α} {I : α → Prop} (h : ∀ x ∈ L, I x) (hy : I y) : ∀ x ∈ addN L y, I x := by
  unfold addN; split
  · exact h
  · intro x hx
    rcases List.mem_append.1 hx with hx | hx
    · exact h x hx
    · rw [List.mem_singleton.1 hx]; exact hy
def growTo (nx : α → Int → α) (L : List α) (x : α) : Nat → List α
  | 0 => L
  | c + 1 => addN (growTo nx L x c) (nx x c)
variable {nx : α → Int → α} {signs : Nat}
theorem growTo_len (L : List α) (x : α) : ∀ c, L.length ≤ (growTo nx L x c).length
  | 0 => Nat.le_refl _
  | c + 1 => Nat.le_trans (growTo_len L x c) (addN_len _ _)
theorem growTo_nodup {L : List α} {x : α} (h : L.Nodup) : ∀ c, (growTo nx L x c).Nodup
  | 0 => h
  | c + 1 => addN_nodup (growTo_nodup h c)
theorem growTo_sub {L : List α} {x y : α} (h : y ∈ L) : ∀ c, y ∈ growTo nx L x c
  | 0 => h
  | c + 1 => addN_sub (growTo_sub h c)
theorem growTo_mem (L : List α) (x : α) : ∀ {c c' : Nat}, c' < c → nx x c' ∈ growTo nx L x c
  | 0, c', h => absurd h (Nat.not_lt_zero _)
  | c + 1, c', h => by
    by_cases he : c' = c
    · subst he; exact addN_mem _ _
    · exact addN_sub (growTo_mem L x (by omega))
theorem growTo_all {L : List α} {x : α} {I : α → Prop} (h : ∀ y ∈ L, I y) (hx : ∀ c' : Nat, c' < signs → I (nx x c')) : ∀ c, c ≤ signs → ∀ y ∈ growTo nx L x c, I y
  | 0, _ => h
  | c + 1, hc => addN_all (growTo_all h hx c (by omega)) (hx c (by omega))
end
section
variable {α : Type} [DecidableEq α] [Inhabited α]
variable {nx : α → Int → α} {signs : Nat} {start : α}
def bfs (nx : α → Int → α) (signs : Nat) (start : α) : Nat → List α
  | 0 => [start]
  | i + 1 => growTo nx (bfs nx signs start i) (nth (bfs nx signs start i) i) signs

theorem addN_nth {L : List α} {y : α} {j : Nat} (h : j < L.length) : nth (addN L y) j = nth L j := by
  unfold addN; split
  · rfl
  · simp [nth, List.getElem?_append_left h]
theorem growTo_nth {L : List α} {x : α} {j : Nat} (h : j < L.length) : ∀ c, nth (growTo nx L x c) j = nth L j
  | 0 => rfl
  | c + 1 => by rw [growTo, addN_nth (Nat.lt_of_lt_of_le h (growTo_len L x c)), growTo_nth h c]
theorem bfs_nodup : ∀ i, (bfs nx signs start i).Nodup
  | 0 => by simp [bfs]
  | i + 1 => growTo_nodup (bfs_nodup i) _
theorem bfs_len (i : Nat) : (bfs nx signs start i).length ≤ (bfs nx signs start (i + 1)).length := growTo_len _ _ _
theorem bfs_nth {i j : Nat} (h : j < (bfs nx signs start i).length) : nth (bfs nx signs start (i + 1)) j = nth (bfs nx signs start i) j := growTo_nth h _
/-- The search is at its end. -/
def Ended (nx : α → Int → α) (signs : Nat) (start : α) (i : Nat) : Prop := i = (bfs nx signs start i).length ∧ ∀ j, j < i → j < (bfs nx signs start j).length
theorem Ended.one {i i' : Nat} (h : Ended nx signs start i) (h' : Ended nx signs start i') : i = i' := by
  by_cases hlt : i < i'
  · have := h'.2 i hlt; have := h.1; omega
  · by_cases hgt : i' < i
    · have := h.2 i' hgt; have := h'.1; omega
    · omega
end

section
variable {α : Type} [DecidableEq α] [Inhabited α]
/-- Of each state its number. -/
structure Nums (L : List α) (M : α → Option Int) : Prop where
  at_ : ∀ k, k < L.length → M (nth L k) = some (k : Int)
  off : ∀ y, y ∉ L → M y = none
theorem Nums.start {s : α} : Nums [s] (fun q => if s = q then some 0 else none) where
  at_ k hk := by
    have : k = 0 := by simpa using hk
    subst this; simp [nth]
  off y hy := by
    have : s ≠ y := fun e => hy (by simp [e])
    simp [this]
theorem Nums.push {L : List α} {M : α → Option Int} {y : α} (h : Nums L M) (hy : y ∉ L) : Nums (L ++ [y]) (fun q => if y = q then some (L.length : Int) else M q) where
  at_ k hk := by
    by_cases hl : k < L.length
    · rw [nth_app_left hl]
      have : y ≠ nth L k := fun e => hy (e ▸ nth_mem hl)
      simp [this, h.at_ k hl]
    · have : k = L.length := by simp at hk; omega
      subst this; simp [nth_app_last]
  off q hq := by
    have h1 : y ≠ q := fun e => hq (by simp [e])
    have h2 : q ∉ L := fun hm => hq (by simp [hm])
    simp [h1, h.off q h2]
theorem Nums.mem {L : List α} {M : α → Option Int} (h : Nums L M) (y : α) : (M y).isSome = true ↔ y ∈ L := by
  constructor
  · intro hs
    refine Decidable.of_not_not fun hn => ?_
    rw [h.off y hn] at hs; cases hs
  · intro hm
    obtain ⟨j, hj, rfl⟩ := nth_of_mem hm
    rw [h.at_ j hj]; rfl
end
section
variable {α : Type} [DecidableEq α] [Inhabited α] {nx : α → Int → α} {signs : Nat} {start : α} {M : α → Option Int}
theorem growTo_new {B : List α} {x : α} {c : Nat} (h : Nums (growTo nx B x c) M) (hn : (!(M (nx x c)).isSome) = true) : growTo nx B x c ++ [nx x c] = growTo nx B x (c + 1) := by
  have : nx x c ∉ growTo nx B x c := fun hm => by rw [(h.mem _).2 hm] at hn; cases hn
  rw [growTo, addN, if_neg this]
theorem growTo_old {B : List α} {x : α} {c : Nat} (h : Nums (growTo nx B x c) M) (hn : (!(M (nx x c)).isSome) = false) : growTo nx B x (c + 1) = growTo nx B x c := by
  have : nx x c ∈ growTo nx B x c := (h.mem _).1 (by cases hM : (M (nx x c)).isSome with | true => rfl | false => rw [hM] at hn; cases hn)
  rw [growTo, addN, if_pos this]
theorem growTo_push {B : List α} {x : α} {c : Nat} (h : Nums (growTo nx B x c) M) (hn : (!(M (nx x c)).isSome) = true) :
    Nums (growTo nx B x (c + 1)) (fun q => if nx x c = q then some ((growTo nx B x c).length : Int) else M q) := by
  rw [← growTo_new h hn]
  exact h.push fun hm => by rw [(h.mem _).2 hm] at hn; cases hn
theorem bfs_all {I : α → Prop} (h0 : I start) (hI : ∀ x (c : Int), I x → 0 ≤ c → c < signs → I (nx x c)) : ∀ i, (∀ j, j < i → j < (bfs nx signs start j).length) → ∀ x ∈ bfs nx signs start i, I x
  | 0, _, x, hx => by rw [List.mem_singleton.1 hx]; exact h0
  | i + 1, hd, x, hx => by
    have ih := bfs_all h0 hI i (fun j hj => hd j (by omega))
    exact growTo_all ih (fun c' hc' => hI _ _ (ih _ (nth_mem (hd i (by omega)))) (by omega) (by omega)) signs (Nat.le_refl _) x hx
theorem Ended.mk' {i : Nat} (h1 : i ≤ (bfs nx signs start i).length) (h2 : ¬ (i : Int) < ((bfs nx signs start i).length : Int)) (hd : ∀ j, j < i → j < (bfs nx signs start j).length) : Ended nx signs start i := ⟨by omega, hd⟩
theorem Ended.all {i : Nat} {I : α → Prop} (h : Ended nx signs start i) (h0 : I start) (hI : ∀ x (c : Int), I x → 0 ≤ c → c < signs → I (nx x c)) : ∀ x ∈ bfs nx signs start i, I x := bfs_all h0 hI i h.2
/-- What is met once stays where it is. -/
theorem bfs_pre {i j : Nat} (hij : i ≤ j) : ∀ k, k < (bfs nx signs start i).length → nth (bfs nx signs start j) k = nth (bfs nx signs start i) k ∧ (bfs nx signs start i).length ≤ (bfs nx signs start j).length := by
  induction hij with
  | refl => exact fun k _ => ⟨rfl, Nat.le_refl _⟩
  | step hij ih => exact fun k hk => ⟨(bfs_nth (Nat.lt_of_lt_of_le hk (ih k hk).2)).trans (ih k hk).1, Nat.le_trans (ih k hk).2 (bfs_len _)⟩
/-- At the end the list is closed. -/
theorem Ended.closed {i : Nat} (h : Ended nx signs start i) {x : α} (hx : x ∈ bfs nx signs start i) {c : Nat} (hc : c < signs) : nx x c ∈ bfs nx signs start i := by
  obtain ⟨k, hk, rfl⟩ := nth_of_mem hx
  have hki : k < i := by have := h.1; omega
  have hd := h.2 k hki
  have h1 : nx (nth (bfs nx signs start k) k) c ∈ bfs nx signs start (k + 1) := growTo_mem _ _ hc
  obtain ⟨j, hj, he⟩ := nth_of_mem h1
  rw [(bfs_pre (by omega) k hd).1, ← he, ← (bfs_pre (nx := nx) (signs := signs) (start := start) (show k + 1 ≤ i by omega) j hj).1]
  exact nth_mem (Nat.lt_of_lt_of_le hj (bfs_pre (by omega) j hj).2)
theorem Ended.first {i : Nat} (h : Ended nx signs start i) : nth (bfs nx signs start i) 0 = start ∧ 0 < (bfs nx signs start i).length := by
  have h0 := bfs_pre (nx := nx) (signs := signs) (start := start) (show 0 ≤ i by omega) 0 (by simp [bfs])
  exact ⟨h0.1.trans (by simp [bfs, nth]), Nat.lt_of_lt_of_le (by simp [bfs]) h0.2⟩
end
/-- A callee's own blocks come to the caller. -/
theorem St.got {H0 H H' : Heap} {M S0 : Nat → Prop} {A' L : List Ent} (h : St H0 M S0 L H) (hx : Ext NoB H H') (hok : ∀ e ∈ A', e.ok (SL (fun b => SL S0 L b ∧ b < H.size) A') H') (hge : ∀ b, own A' b → H.size ≤ b)
    (hdj : A'.Pairwise fun e e' => ∀ b, e.blocks b → ¬ e'.blocks b) : St H0 M S0 (A' ++ L) H' :=
  St.back (A := []) (L := L) h (Ext.mono hx fun _ hb => hb.elim)
    (fun e he => e.ext (hok e he) (Nat.le_refl _) (fun _ _ _ => rfl) (fun b _ hb => by
      rcases hb with hb | hb
      · exact .inl ⟨hb.1, SL.lt h hb.1⟩
      · exact .inr hb))
    (fun b hb => .inr (hge b hb)) hdj
theorem St.freshA {H0 H' : Heap} {S0 : Nat → Prop} {A' : List Ent} (h : St H0 NoB S0 A' H') : ∀ b, own A' b → H0.size ≤ b := by
  rintro b ⟨e, he, hb⟩
  rcases (h.ge e he b hb).1 with h1 | h1
  · exact h1
  · exact h1.elim
/-! ### Two automata -/
def pairFault (a b : Auto) : Int × Int :=
  if (autoFault a).1 ≠ 0 then autoFault a else if (autoFault b).1 ≠ 0 then autoFault b else if a.Signs ≠ b.Signs then (11, -1) else (0, 0)
theorem pairFault_a {a b : Auto} (h : (autoFault a).1 ≠ 0) : pairFault a b = autoFault a := if_pos h
theorem pairFault_b {a b : Auto} (h : ¬ (autoFault a).1 ≠ 0) (h2 : (autoFault b).1 ≠ 0) : pairFault a b = autoFault b := by rw [pairFault, if_neg h, if_pos h2]
theorem pairFault_s {a b : Auto} (h : ¬ (autoFault a).1 ≠ 0) (h2 : ¬ (autoFault b).1 ≠ 0) (h3 : a.Signs ≠ b.Signs) : pairFault a b = (11, -1) := by rw [pairFault, if_neg h, if_neg h2, if_pos h3]
theorem pairFault_no {a b : Auto} (h : ¬ (autoFault a).1 ≠ 0) (h2 : ¬ (autoFault b).1 ≠ 0) (h3 : ¬ a.Signs ≠ b.Signs) : pairFault a b = (0, 0) := by rw [pairFault, if_neg h, if_neg h2, if_neg h3]
end Go.Um
