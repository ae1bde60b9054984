/- Blocks handed to a callee to be written. -/
import Derived.Test.YtacphjgolmolmaaUmMake
namespace Go.Um
open GoT (sz ag rdc)
open KeyT (kv)
open Go.RowKit

/-- The blocks of some entries. -/
def own (A : List Ent) : Nat → Prop := fun b => ∃ e ∈ A, e.blocks b

section
variable {H0 H H' : Heap} {M S0 S : Nat → Prop} {A A' L : List Ent}

theorem own_nil {b : Nat} : ¬ own [] b := by rintro ⟨e, he, _⟩; cases he
theorem own_cons {e : Ent} {b : Nat} : own (e :: A) b ↔ e.blocks b ∨ own A b := by
  constructor
  · rintro ⟨e', he, hb⟩
    rcases List.mem_cons.1 he with rfl | h
    · exact .inl hb
    · exact .inr ⟨e', h, hb⟩
  · rintro (hb | ⟨e', he, hb⟩)
    · exact ⟨e, List.mem_cons_self .., hb⟩
    · exact ⟨e', List.mem_cons_of_mem _ he, hb⟩

theorem SL_app {b : Nat} : SL S0 (A ++ L) b ↔ (S0 b ∨ own A b) ∨ own L b := by
  unfold SL own
  constructor
  · rintro (h | ⟨e, he, hb⟩)
    · exact .inl (.inl h)
    · rcases List.mem_append.1 he with h | h
      · exact .inl (.inr ⟨e, h, hb⟩)
      · exact .inr ⟨e, h, hb⟩
  · rintro ((h | ⟨e, he, hb⟩) | ⟨e, he, hb⟩)
    · exact .inl h
    · exact .inr ⟨e, List.mem_append_left _ he, hb⟩
    · exact .inr ⟨e, List.mem_append_right _ he, hb⟩

theorem St.frameM (h : St H0 M S0 L H) : Ext M H0 H := ⟨h.size, fun b hb hm => h.old b hb hm⟩

/-- The entry of a function that is handed the entries A. -/
theorem St.handed (hA : ∀ e ∈ A, e.ok S H) (hdj : A.Pairwise fun e e' => ∀ b, e.blocks b → ¬ e'.blocks b) (hs : ∀ b, S b → b < H.size) (hin : ∀ b, own A b → S b) :
    St H (own A) (fun b => S b ∧ ¬ own A b) A H where
  size := Nat.le_refl _
  old _ _ _ := rfl
  ok e he := e.ext (hA e he) (Nat.le_refl _) (fun _ _ _ => rfl) (fun b _ hb => by
    rcases hb with hb | hb
    · exact hb.1
    · exact hin b hb)
  ge e he b hb := ⟨.inr ⟨e, he, hb⟩, fun h => h.2 ⟨e, he, hb⟩⟩
  dj := hdj
  s0 b hb := hs b hb.1

/-- What the data avoid that come back in A'. -/
def lv (S : Nat → Prop) (A A' : List Ent) : Nat → Prop := fun b => (S b ∧ ¬ own A b) ∨ own A' b

/-- What a function that was handed A leaves of A'. -/
theorem St.leave (h : St H0 M (fun b => S b ∧ ¬ own A b) A' H) : ∀ e ∈ A', e.ok (lv S A A') H := h.ok

/-- The caller's side: the entries A have been handed on and come back as A'. -/
theorem St.back (h : St H0 M S0 (A ++ L) H) (hx : Ext (own A) H H') (hok : ∀ e ∈ A', e.ok (lv (SL S0 (A ++ L)) A A') H') (hbl : ∀ b, own A' b → own A b ∨ H.size ≤ b)
    (hdj : A'.Pairwise fun e e' => ∀ b, e.blocks b → ¬ e'.blocks b) : St H0 M S0 (A' ++ L) H' := by
  have hAL : ∀ b, own A b → ¬ own L b := by
    rintro b ⟨e, he, hb⟩ ⟨e', he', hb'⟩
    exact (List.pairwise_append.1 h.dj).2.2 e he e' he' b hb hb'
  have hLt : ∀ e ∈ L, ∀ b, e.blocks b → b < H.size := fun e he b hb => e.lt (h.ok e (List.mem_append_right _ he)) hb
  have hA0 : ∀ b, own A b → ¬ S0 b := by rintro b ⟨e, he, hb⟩; exact (h.ge e (List.mem_append_left _ he) b hb).2
  have hlv : ∀ b, SL S0 (A' ++ L) b → lv (SL S0 (A ++ L)) A A' b := by
    intro b hs
    rcases SL_app.1 hs with (h1 | h1) | h1
    · exact .inl ⟨.inl h1, fun ho => hA0 b ho h1⟩
    · exact .inr h1
    · exact .inl ⟨SL_app.2 (.inr h1), fun ho => hAL b ho h1⟩
  have hsl : ∀ b, b < H.size → SL S0 (A' ++ L) b → SL S0 (A ++ L) b := by
    intro b hb hs
    rcases SL_app.1 hs with (h1 | h1) | h1
    · exact SL_app.2 (.inl (.inl h1))
    · rcases hbl b h1 with h2 | h2
      · exact SL_app.2 (.inl (.inr h2))
      · omega
    · exact SL_app.2 (.inr h1)
  refine ⟨Nat.le_trans h.size hx.size, ?_, ?_, ?_, ?_, h.s0⟩
  · intro b hb hm
    rw [hx.same b (Nat.lt_of_lt_of_le hb h.size) ?_]
    · exact h.old b hb hm
    · rintro ⟨e, he, hb'⟩
      rcases (h.ge e (List.mem_append_left _ he) b hb').1 with h1 | h1
      · omega
      · exact hm h1
  · intro e he
    rcases List.mem_append.1 he with h1 | h1
    · exact e.ext (hok e h1) (Nat.le_refl _) (fun _ _ _ => rfl) (fun b _ hs => hlv b hs)
    · refine e.ext (h.ok e (List.mem_append_right _ h1)) hx.size ?_ hsl
      rintro b hb (h2 | h2)
      · exact hx.same b hb fun ho => hAL b ho ⟨e, h1, h2⟩
      · exact hx.same b hb fun ho => h2 (SL_app.2 (.inl (.inr ho)))
  · intro e he b hb
    rcases List.mem_append.1 he with h1 | h1
    · rcases hbl b ⟨e, h1, hb⟩ with ⟨e', he', hb'⟩ | h2
      · exact h.ge e' (List.mem_append_left _ he') b hb'
      · have := h.size
        exact ⟨.inl (by omega), fun hs => by have := h.s0 b hs; omega⟩
    · exact h.ge e (List.mem_append_right _ h1) b hb
  · refine List.pairwise_append.2 ⟨hdj, (List.pairwise_append.1 h.dj).2.1, ?_⟩
    intro e he e' he' b hb hb'
    rcases hbl b ⟨e, he, hb⟩ with h1 | h1
    · exact hAL b h1 ⟨e', he', hb'⟩
    · have := hLt e' he' b hb'
      omega
theorem pw1 {e : Ent} : [e].Pairwise fun e e' => ∀ b, e.blocks b → ¬ e'.blocks b := by simp
theorem pw2 {e e' : Ent} (h : ∀ b, e.blocks b → ¬ e'.blocks b) : [e, e'].Pairwise fun e e' => ∀ b, e.blocks b → ¬ e'.blocks b := by
  simpa using h
theorem handed_sub {b : Nat} (hin : ∀ b, own A b → S b) (h : SL (fun b => S b ∧ ¬ own A b) A b) : S b := by
  rcases h with h | h
  · exact h.1
  · exact hin b h
theorem SL_rd {α : Type} [GoT α] {v : Value} {x : α} {b : Nat} (h : SL S0 (rdE v x :: L) b) : SL S0 L b := by
  rcases h with h | ⟨e, he, hb⟩
  · exact .inl h
  · rcases List.mem_cons.1 he with rfl | h'
    · exact hb.elim
    · exact .inr ⟨e, h', hb⟩
end
end Go.Um
