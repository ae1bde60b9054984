/- An element of a slice of the call's own is read. -/
import Derived.Test.YtkhpaklglggagaaUmClip
namespace Go.Um
open GoT (sz ag rdc)
section
variable {α : Type} [GoT α] {H H0 : Heap} {M S0 : Nat → Prop} {L : List Ent}
theorem RdCs.nth' {S : Nat → Prop} {xs : List α} {k : Nat} (hk : k < xs.length) {cl : List Value} (h : RdCs S H cl xs) : ∃ cs, rdc S H cs (Go.Um.nth xs k) ∧ ∀ j, j < cs.length → cl[k * sz α + j]? = cs[j]? := h.nth hk
theorem St.rowElem {t : TypeId} {v : Value} {l : List α} (h : St H0 M S0 L H) (k : Nat) (hk : L[k]? = some (rowE t v l)) (i : Nat) (hi : i < l.length) :
    ∃ u, Rd (SL S0 L) H u (nth l i) ∧ ∀ (P : Program) (t : TypeId) (U : Nat → Prop), ElT P α t → (∀ b, U b → NoB b) → LoadE P U H t (sz α) v i u := by
  obtain ⟨hb, cl, hcl, hh⟩ := h.get k hk
  rcases hh with ⟨rfl, hn, rfl⟩ | ⟨g, c, cur, rfl, hg, hc1, hc2, hcs, htk⟩
  · omega
  · obtain ⟨cs, hr, hc⟩ := hcl.nth' hi
    have hlen := GoT.len hr
    have hcell : ∀ j, j < cs.length → hcell H g (0 + i * sz α + j) = cs[j]? := by
      intro j hj
      rw [← hc j hj, ← htk, Nat.zero_add]
      have hlt : i * sz α + j < l.length * sz α := by
        have : (i + 1) * sz α ≤ l.length * sz α := Nat.mul_le_mul_right _ (by omega)
        rw [Nat.succ_mul] at this
        omega
      rw [List.getElem?_take, if_pos hlt]
      simp [hcell, hg]
    refine ⟨_, ⟨cs, hr, rfl⟩, fun P t' U hE hU => ⟨g, 0, l.length, c, rfl, ?_⟩⟩
    cases hag : ag α with
    | true =>
      have h1 := loadS_agg (P := P) (U := U) (H := H) (t := t') (b := g) (o := 0 + i * sz α) cs (by rw [← hag]; exact hE.1) (by rw [hlen]; exact hE.2) hcell (fun h => hU g h)
      simpa [valOf] using h1
    | false =>
      have h1 := GoT.one hag
      match cs, hlen, hcell with
      | [], hlen, _ => rw [h1] at hlen; cases hlen
      | c0 :: rest, hlen, hcell =>
        have h0 := hcell 0 (by simp)
        exact loadS_one (by rw [← hag]; exact hE.1) (by simpa [valOf] using h0) (fun h => hU g h)
end
end Go.Um
