/- What a function knows of the heap at a point of its run. -/
import Derived.Test.YtacphjgolmolmaaUmData
namespace Go.Um
open GoT (sz ag rdc)
open Go.RowKit

/-- The blocks that readers avoid: the caller's, and those of the entries. -/
def SL (S0 : Nat → Prop) (L : List Ent) : Nat → Prop := fun b => S0 b ∨ ∃ e ∈ L, e.blocks b

/-- H0: the heap at the entry; M: blocks handed in to be written; S0: blocks that results must avoid; L: what is known. -/
structure St (H0 : Heap) (M S0 : Nat → Prop) (L : List Ent) (H : Heap) : Prop where
  size : H0.size ≤ H.size
  old : ∀ b, b < H0.size → ¬ M b → H[b]? = H0[b]?
  ok : ∀ e ∈ L, e.ok (SL S0 L) H
  ge : ∀ e ∈ L, ∀ b, e.blocks b → (H0.size ≤ b ∨ M b) ∧ ¬ S0 b
  dj : L.Pairwise fun e e' => ∀ b, e.blocks b → ¬ e'.blocks b
  s0 : ∀ b, S0 b → b < H0.size

section
variable {H0 H H' : Heap} {M S0 : Nat → Prop} {L L' : List Ent}

theorem SL.lt (h : St H0 M S0 L H) {b : Nat} (hb : SL S0 L b) : b < H.size := by
  rcases hb with hb | ⟨e, he, hb⟩
  · exact Nat.lt_of_lt_of_le (h.s0 b hb) h.size
  · exact e.lt (h.ok e he) hb

/-- At the entry nothing is owned. -/
theorem St.start (hs0 : ∀ b, S0 b → b < H.size) : St H M S0 [] H :=
  ⟨Nat.le_refl _, fun _ _ _ => rfl, by simp, by simp, List.Pairwise.nil, hs0⟩

/-- The heap grows, nothing is written. -/
theorem St.ext (h : St H0 M S0 L H) (hx : Ext NoB H H') : St H0 M S0 L H' where
  size := Nat.le_trans h.size hx.size
  old b hb hm := (hx.same b (Nat.lt_of_lt_of_le hb h.size) id).trans (h.old b hb hm)
  ok e he := e.ext (h.ok e he) hx.size (fun b hb _ => hx.same b hb id) (fun _ _ hb => hb)
  ge := h.ge
  dj := h.dj
  s0 := h.s0

theorem St.drop (h : St H0 M S0 L H) (hs : L'.Sublist L) : St H0 M S0 L' H where
  size := h.size
  old := h.old
  ok e he := e.ext (h.ok e (hs.subset he)) (Nat.le_refl _) (fun _ _ _ => rfl) (fun b _ hb => by
    rcases hb with hb | ⟨e, he, hb⟩
    · exact .inl hb
    · exact .inr ⟨e, hs.subset he, hb⟩)
  ge e he := h.ge e (hs.subset he)
  dj := h.dj.sublist hs
  s0 := h.s0

theorem St.perm (h : St H0 M S0 L H) (hp : L.Perm L') : St H0 M S0 L' H where
  size := h.size
  old := h.old
  ok e he := e.ext (h.ok e (hp.mem_iff.2 he)) (Nat.le_refl _) (fun _ _ _ => rfl) (fun b _ hb => by
    rcases hb with hb | ⟨e, he, hb⟩
    · exact .inl hb
    · exact .inr ⟨e, hp.mem_iff.2 he, hb⟩)
  ge e he := h.ge e (hp.mem_iff.2 he)
  dj := hp.pairwise h.dj fun {_ _} hxy b h2 h1 => hxy b h1 h2
  s0 := h.s0

/-- One more entry without blocks. -/
theorem St.cons0 (h : St H0 M S0 L H) (e : Ent) (he : ∀ b, ¬ e.blocks b) (hok : e.ok (SL S0 L) H) : St H0 M S0 (e :: L) H := by
  have hsub : ∀ b, SL S0 (e :: L) b → SL S0 L b := by
    rintro b (hb | ⟨e', he', hb⟩)
    · exact .inl hb
    · rcases List.mem_cons.1 he' with rfl | h'
      · exact (he b hb).elim
      · exact .inr ⟨e', h', hb⟩
  refine ⟨h.size, h.old, ?_, ?_, ?_, h.s0⟩
  · intro e' he'
    rcases List.mem_cons.1 he' with rfl | h'
    · exact Ent.ext _ hok (Nat.le_refl _) (fun _ _ _ => rfl) (fun b _ hb => hsub b hb)
    · exact e'.ext (h.ok e' h') (Nat.le_refl _) (fun _ _ _ => rfl) (fun b _ hb => hsub b hb)
  · intro e' he' b hb
    rcases List.mem_cons.1 he' with rfl | h'
    · exact (he b hb).elim
    · exact h.ge e' h' b hb
  · exact List.Pairwise.cons (fun e' _ b hb => (he b hb).elim) h.dj

theorem St.rd {α : Type} [GoT α] (h : St H0 M S0 L H) {v : Value} {x : α} (hr : Rd (SL S0 L) H v x) : St H0 M S0 (rdE v x :: L) H :=
  h.cons0 (rdE v x) (fun _ hb => hb) hr

/-- A new block. -/
theorem St.alloc (h : St H0 M S0 L H) (o : Obj) : St H0 M S0 (blkE H.size o :: L) (H.push o) := by
  have h1 := h.ext (Ext.push NoB H o)
  have hne : ∀ e ∈ L, ∀ b, e.blocks b → b < H.size := fun e he b hb => e.lt (h.ok e he) hb
  refine ⟨h1.size, h1.old, ?_, ?_, ?_, h.s0⟩
  · intro e he
    rcases List.mem_cons.1 he with rfl | h'
    · show (H.push o)[H.size]? = some o
      simp
    · refine e.ext (h.ok e h') (by simp) (fun b hb _ => by rw [Array.getElem?_push, if_neg (by omega)]) ?_
      rintro b hb (h2 | ⟨e', he', h2⟩)
      · exact .inl h2
      · rcases List.mem_cons.1 he' with rfl | h''
        · have : b = H.size := h2
          omega
        · exact .inr ⟨e', h'', h2⟩
  · intro e he b hb
    rcases List.mem_cons.1 he with rfl | h'
    · have : b = H.size := hb
      subst this
      exact ⟨.inl h.size, fun hs => by have := h.s0 _ hs; have := h.size; omega⟩
    · exact h.ge e h' b hb
  · refine List.Pairwise.cons (fun e' he' b hb hb' => ?_) h.dj
    have : b = H.size := hb
    have := hne e' he' b hb'
    omega

/-- The first entry is turned into another: its blocks alone are written, the new entry's blocks are the old one's or new. -/
theorem St.upd0 {e e' : Ent} (h : St H0 M S0 (e :: L) H) (hz : H.size ≤ H'.size) (hsame : ∀ b, b < H.size → ¬ e.blocks b → H'[b]? = H[b]?)
    (hbl : ∀ b, e'.blocks b → e.blocks b ∨ H.size ≤ b) (hok : e'.ok (SL S0 (e' :: L)) H') : St H0 M S0 (e' :: L) H' := by
  have hL : ∀ e2 ∈ L, ∀ b, e2.blocks b → ¬ e.blocks b := fun e2 h2 b hb hb' => (List.pairwise_cons.1 h.dj).1 e2 h2 b hb' hb
  refine ⟨Nat.le_trans h.size hz, ?_, ?_, ?_, ?_, h.s0⟩
  · intro b hb hm
    rw [hsame b (Nat.lt_of_lt_of_le hb h.size) ?_]
    · exact h.old b hb hm
    · intro he
      rcases (h.ge e (by simp) b he).1 with h1 | h1
      · omega
      · exact hm h1
  · intro e2 he2
    rcases List.mem_cons.1 he2 with rfl | h2
    · exact hok
    · refine e2.ext (h.ok e2 (by simp [h2])) hz ?_ ?_
      · rintro b hb (h3 | h3)
        · exact hsame b hb (hL e2 h2 b h3)
        · exact hsame b hb fun he => h3 (.inr ⟨e, by simp, he⟩)
      · rintro b hb (h3 | ⟨e3, he3, h3⟩)
        · exact .inl h3
        · rcases List.mem_cons.1 he3 with rfl | h4
          · rcases hbl b h3 with h5 | h5
            · exact .inr ⟨e, by simp, h5⟩
            · omega
          · exact .inr ⟨e3, by simp [h4], h3⟩
  · intro e2 he2 b hb
    rcases List.mem_cons.1 he2 with rfl | h2
    · rcases hbl b hb with h3 | h3
      · exact h.ge e (by simp) b h3
      · have := h.size
        exact ⟨.inl (by omega), fun hs => by have := h.s0 _ hs; omega⟩
    · exact h.ge e2 (by simp [h2]) b hb
  · refine List.Pairwise.cons (fun e2 h2 b hb hb' => ?_) (List.pairwise_cons.1 h.dj).2
    rcases hbl b hb with h3 | h3
    · exact hL e2 h2 b hb' h3
    · have := e2.lt (h.ok e2 (by simp [h2])) hb'
      omega

/-- What a callee leaves: the old blocks as they were. -/
theorem St.frame (h : St H0 NoB S0 L H) : Ext NoB H0 H := ⟨h.size, fun b hb _ => h.old b hb id⟩

/-- A result: it avoids the caller's blocks. -/
theorem St.result {α : Type} [GoT α] (h : St H0 M S0 L H) {v : Value} {x : α} (hr : Rd (SL S0 L) H v x) : Rd S0 H v x :=
  hr.ext (.refl _ _) fun _ _ hb => .inl hb

theorem St.head {e : Ent} (h : St H0 M S0 (e :: L) H) : e.ok (SL S0 (e :: L)) H := h.ok e (by simp)

theorem St.get {e : Ent} (h : St H0 M S0 L H) (k : Nat) (hk : L[k]? = some e) : e.ok (SL S0 L) H := h.ok e (List.mem_of_getElem? hk)

/-- Entry k to the front. -/
theorem St.front {e : Ent} (h : St H0 M S0 L H) (k : Nat) (hk : L[k]? = some e) : St H0 M S0 (e :: L.eraseIdx k) H := by
  refine h.perm ?_
  obtain ⟨hlt, rfl⟩ := List.getElem?_eq_some_iff.1 hk
  clear h hk
  induction L generalizing k with
  | nil => simp at hlt
  | cons a L ih =>
    cases k with
    | zero => simp
    | succ k =>
      simp only [List.eraseIdx_cons_succ, List.getElem_cons_succ]
      exact (List.Perm.cons a (ih k (by simpa using hlt))).trans (List.Perm.swap _ _ _)

end
end Go.Um
