/- Slices and blocks of the call's own: made, read, written, grown. -/
import Derived.Test.YtacphjgolmolmaaUmState
namespace Go.Um
open GoT (sz ag rdc)
open Go.RowKit

section
variable {α : Type} [GoT α] {P : Program} {o : Oper} {f : Fr} {H0 H : Heap} {M S0 : Nat → Prop} {L : List Ent} {next : FP}

theorem rowOk.nil {t : TypeId} {S : Nat → Prop} : rowOk t (.slice none 0 0) ([] : List α) S H := ⟨by simp, [], rfl, .inl ⟨rfl, rfl, rfl⟩⟩

/-- var x []T -/
theorem St.row0 (h : St H0 M S0 L H) (t : TypeId) : St H0 M S0 (rowE t (.slice none 0 0) ([] : List α) :: L) H :=
  h.cons0 _ (fun b hb => by simp [rowE, rowB, Value.ownBlock] at hb) rowOk.nil

theorem rowC.rd {size : Nat} {t : TypeId} {v : Value} {n : Nat} {cl : List Value} (h : rowC size t v n cl H) :
    ∃ a c, v = .slice a n c ∧ n ≤ c ∧ c ≤ maxLen ∧ (cl ≠ [] → ∃ g, a = some ⟨g, 0, none⟩ ∧ rowB v g ∧ CellsAt H g 0 cl) := by
  rcases h with ⟨rfl, rfl, rfl⟩ | ⟨g, c, cur, rfl, hg, hc, hm, hz, ht⟩
  · exact ⟨none, 0, rfl, Nat.le_refl _, by simp [maxLen], fun h => (h rfl).elim⟩
  · refine ⟨_, c, rfl, hc, hm, fun _ => ⟨g, rfl, by simp [rowB, Value.ownBlock], ?_⟩⟩
    intro j hj
    rw [← ht] at hj ⊢
    simp only [hcell, hg, Nat.zero_add]
    rw [List.getElem?_take]
    simp only [List.length_take] at hj
    rw [if_pos (by omega)]
    simp

theorem RdCs.ne {S : Nat → Prop} {cl : List Value} {l : List α} (h : RdCs S H cl l) (hl : l ≠ []) : cl ≠ [] := by
  intro h0
  have h1 := h.len
  rw [h0] at h1
  have := Nat.mul_pos (List.length_pos_iff.2 hl) (GoT.pos (α := α))
  simp only [List.length_nil] at h1
  omega

theorem rowOk.rdL {t : TypeId} {v : Value} {xs : List α} {S S' : Nat → Prop} (h : rowOk t v xs S H) (hs : ∀ b, S' b → S b) (hb : ∀ b, rowB v b → ¬ S' b) : RdL S' H v xs := by
  obtain ⟨hby, cl, hcl, hr⟩ := h
  obtain ⟨a, c, hv, hc, hm, hp⟩ := hr.rd
  refine ⟨a, _, c, cl, hv, rfl, hc, hm, hby, hcl.ext (.refl _ _) (fun b _ hb => hs b hb), fun hne => ?_⟩
  obtain ⟨g, rfl, hg, hcells⟩ := hp (hcl.ne hne)
  exact ⟨g, 0, rfl, hb g hg, hcells⟩

/-- No more is written: it is only read from here on. -/
theorem St.fin {t : TypeId} {v : Value} {xs : List α} (h : St H0 M S0 (rowE t v xs :: L) H) : St H0 M S0 (rdE v xs :: L) H := by
  refine h.upd0 (Nat.le_refl _) (fun _ _ _ => rfl) (fun b hb => hb.elim) ?_
  refine Rd.list.2 (rowOk.rdL (h.head) ?_ ?_)
  · rintro b (hb | ⟨e, he, hb⟩)
    · exact .inl hb
    · rcases List.mem_cons.1 he with rfl | h'
      · exact hb.elim
      · exact .inr ⟨e, List.mem_cons_of_mem _ h', hb⟩
  · rintro b hb (hs | ⟨e, he, hb'⟩)
    · exact (h.ge _ (List.mem_cons_self ..) b hb).2 hs
    · rcases List.mem_cons.1 he with rfl | h'
      · exact hb'.elim
      · exact (List.pairwise_cons.1 h.dj).1 e h' b hb hb'

/-- A row handed to a call that only reads it. -/
theorem St.look {t : TypeId} {v : Value} {xs : List α} {k : Nat} (h : St H0 M S0 L H) (hk : L[k]? = some (rowE t v xs)) : Rd NoB H v xs :=
  Rd.list.2 (rowOk.rdL (h.get k hk) (fun _ h => h.elim) (fun _ _ h => h))
theorem St.lookR {v : Value} {x : α} {k : Nat} (h : St H0 M S0 L H) (hk : L[k]? = some (rdE v x)) : Rd (SL S0 L) H v x := h.get k hk
theorem Rd.no {S : Nat → Prop} {v : Value} {x : α} (h : Rd S H v x) : Rd NoB H v x := h.ext (.refl _ _) fun _ _ h => h.elim
theorem Rd.sub {S S' : Nat → Prop} {v : Value} {x : α} (h : Rd S H v x) (hs : ∀ b, S' b → S b) : Rd S' H v x := h.ext (.refl _ _) fun b _ h => hs b h
theorem St.rdLast {v : Value} {x : α} (h : St H0 M S0 L H) {S : Nat → Prop} (hr : Rd S H v x) (hs : ∀ b, SL S0 L b → S b) : St H0 M S0 (rdE v x :: L) H := h.rd (hr.sub hs)

theorem rowB_own {v : Value} {b : Nat} : rowB v b ↔ some b = v.ownBlock := by unfold rowB; exact eq_comm

theorem Ext.ofGrown {w w' : World} {v : Value} (h : w.grownBy w' v.ownBlock) : Ext (rowB v) w.heap w'.heap :=
  ⟨h.size, fun b hb hn => h.block b hb fun he => hn (rowB_own.2 he)⟩

/-- What is known of an element's type. -/
structure ElemOk (P : Program) (α : Type) [GoT α] (e : TypeId) : Prop where
  info : ∃ i z, P.info? e = some i ∧ i.zero = some z ∧ i.size = sz α ∧ i.bytes = GoT.bytes α ∧ z.cells.size = sz α

theorem run_append_zero {t ty e : TypeId} {i : TypeInfo} (w : World) (ht : P.underlying t = some (.slice e)) (hi : P.info? e = some i) (b a : Option Addr) (n c c' : Nat) (hn : n ≤ c) :
    (Builtin.append_ #[t, t] ty #[.slice b n c, .slice a 0 c']).run P w = .ok (.slice b n c) w := by
  cases a <;> cases b <;> simp [Builtin.append_, run_underlying ht, sizeOf, typeInfo, hi, Builtin.lenOf, hn, Builtin.firstCells, loadCells, loadCellsFrom, storeCells]

theorem zeroCells_size (z : Array Value) (n : Nat) : (Builtin.zeroCells z n).size = n * z.size := by simp [Builtin.zeroCells]

theorem run_append_mine {t ty e : TypeId} {v : Value} {n : Nat} {cl : List Value} (w : World) (ht : P.underlying t = some (.slice e)) (hE : ElemOk P α e) (h : rowC (sz α) e v n cl w.heap)
    (hcl : cl.length = n * sz α)
    (a : Option Addr) (m c : Nat) (news : List Value) (hl : news.length = m * sz α) (hnews : m ≠ 0 → ∃ ad, a = some ad ∧ ∀ j u, news[j]? = some u → w.cell? (ad.add j) = some u)
    (h1 : ∀ u ∈ news, u.oneCell' = true) (hb : (n + m) * GoT.bytes α ≤ 140737488355328) (h63 : n + m ≤ maxLen) :
    ∃ v' w', (Builtin.append_ #[t, t] ty #[v, .slice a m c]).run P w = .ok v' w' ∧ rowC (sz α) e v' (n + m) (cl ++ news) w'.heap ∧ w.grownBy w' v.ownBlock ∧
      (∀ b, rowB v' b → rowB v b ∨ w.heap.size ≤ b) := by
  obtain ⟨i, z, hi, hz, hiz, hiby, hzz⟩ := hE.info
  have h63' : n + m ≤ 9223372036854775807 := by simp only [maxLen] at h63; omega
  by_cases hm : m = 0
  · subst hm
    have : news = [] := List.eq_nil_of_length_eq_zero (by simpa using hl)
    subst this
    refine ⟨v, w, ?_, by simpa using h, ⟨rfl, rfl, rfl, Nat.le_refl _, fun _ _ _ => rfl⟩, fun b hb => .inl hb⟩
    rcases h with ⟨rfl, rfl, rfl⟩ | ⟨g, cc, cur, rfl, hg, hc, hm, hz, ht'⟩
    · exact run_append_zero w ht hi none a 0 0 c (Nat.le_refl _)
    · exact run_append_zero w ht hi _ a _ cc c hc
  · obtain ⟨ad, rfl, hn⟩ := hnews hm
    have grown : ∀ old, old < n + m → ∀ row : Option Nat,
        rowC (sz α) e (.slice (some ⟨w.heap.size, 0, none⟩) (n + m) (grownCap w (n + m) old e)) (n + m) (cl ++ news)
          (w.drew.alloc (.cells (cl.toArray ++ news.toArray ++ Builtin.zeroCells z.cells (grownCap w (n + m) old e - (n + m))) e)).heap ∧
        w.grownBy (w.drew.alloc (.cells (cl.toArray ++ news.toArray ++ Builtin.zeroCells z.cells (grownCap w (n + m) old e - (n + m))) e)) row := by
      intro old ho row
      have hge := grownCap_ge w (n + m) old e
      have hcm : grownCap w (n + m) old e ≤ maxLen := grownCap_le_maxLen w (n + m) old e h63
      have hlen : (cl ++ news).length = (n + m) * sz α := by rw [List.length_append, hcl, hl, Nat.add_mul]
      refine ⟨.inr ⟨w.heap.size, _, _, rfl, heap_alloc_new w.drew _, hge, hcm, ?_, ?_⟩, ⟨rfl, rfl, rfl, by simp, fun k hk _ => Below.heap_alloc w.drew _ k hk⟩⟩
      · simp only [Array.size_append, List.size_toArray, zeroCells_size, hzz, hcl, hl, ← Nat.add_mul]
        congr 1
        omega
      · simp only [Array.toList_append, List.append_assoc]
        rw [← List.append_assoc, ← hlen]
        exact List.take_left
    rcases h with ⟨rfl, rfl, rfl⟩ | ⟨g, cap, cur, rfl, hg, hnc, hcm, hcs, htake⟩
    · have hr := run_append_nil (P := P) w t ty e i z ht hi hz ad m c news (by rw [hl, hiz]) hn (by omega) (by omega) (by rw [hiby]; have hb := hb; simp only [Nat.zero_add] at hb; omega)
      have hgr := grown 0 (by omega) (Value.ownBlock (.slice none 0 0))
      simp only [Nat.zero_add, List.nil_append, Array.empty_append] at hgr ⊢
      refine ⟨_, _, hr, hgr.1, hgr.2, fun b hb => ?_⟩
      simp only [rowB, Value.ownBlock, Option.some.injEq] at hb
      subst hb
      exact .inr (Nat.le_refl _)
    · by_cases hroom : n + m ≤ cap
      · have hfit : n * i.size + news.length ≤ cur.size := by rw [hl, hcs, hiz, ← Nat.add_mul]; exact Nat.mul_le_mul_right _ hroom
        have hr := run_append_room (P := P) w t ty e i ht hi g n cap cur hg ad m c news (by rw [hl, hiz]) hn h1 hroom hfit
        refine ⟨_, _, hr, .inr ⟨g, cap, _, rfl, setRow_heap w g cur _ e _ hg, hroom, hcm, ?_, ?_⟩, ⟨rfl, rfl, rfl, by simp, fun k _ hk => setRow_other w g k _ (fun e => hk (by simp [Value.ownBlock, e]))⟩, ?_⟩
        · simp only [List.size_toArray, List.length_append, List.length_take, List.length_drop, Array.length_toList]
          omega
        · rw [hiz, htake]
          have hlen : (cl ++ news).length = (n + m) * sz α := by rw [List.length_append, hcl, hl, Nat.add_mul]
          rw [← hlen]
          exact List.take_left
        · intro b hb
          simp only [rowB, Value.ownBlock] at hb ⊢
          exact .inl hb
      · have holds : ∀ j u, cl[j]? = some u → w.cell? ((⟨g, 0, none⟩ : Addr).add j) = some u := by
          intro j u hu
          rw [add_off, cell_hcell]
          simp only [hcell, hg, Nat.zero_add]
          rw [← htake, List.getElem?_take] at hu
          split at hu
          · simpa using hu
          · cases hu
        have hr := run_append_grow (P := P) w t ty e i z ht hi hz ⟨g, 0, none⟩ n cap cl (by rw [hcl, hiz]) holds ad m c news (by rw [hl, hiz]) hn (by omega) (by omega) (growslice_fits (by omega) (by rw [hiby]; exact hb))
        have hgr := grown cap (by omega) (Value.ownBlock (.slice (some ⟨g, 0, none⟩) n cap))
        refine ⟨_, _, hr, hgr.1, hgr.2, fun b hb => ?_⟩
        simp only [rowB, Value.ownBlock, Option.some.injEq] at hb
        subst hb
        exact .inr (Nat.le_refl _)

theorem SL.upd {e e' : Ent} (_h : St H0 M S0 (e :: L) H) (hbl : ∀ b, e'.blocks b → e.blocks b ∨ H.size ≤ b) {b : Nat} (hb : b < H.size) (hs : SL S0 (e' :: L) b) : SL S0 (e :: L) b := by
  rcases hs with hs | ⟨e2, he2, hs⟩
  · exact .inl hs
  · rcases List.mem_cons.1 he2 with rfl | h2
    · rcases hbl b hs with h3 | h3
      · exact .inr ⟨e, List.mem_cons_self .., h3⟩
      · omega
    · exact .inr ⟨e2, List.mem_cons_of_mem _ h2, hs⟩

theorem bytes_pos_len {n : Nat} (hb : n * GoT.bytes α ≤ 140737488355328) (hp : 0 < GoT.bytes α) : n ≤ maxLen := by
  have : n ≤ n * GoT.bytes α := Nat.le_mul_of_pos_right _ hp
  simp only [maxLen]; omega

theorem e_append {s x : Operand} {t e : TypeId} {v sv : Value} {xs ys : List α} {S : Nat → Prop} (ho : o.op = .call { callee := .builtin .append, args := #[s, x], argTypes := #[t, t] })
    (ht : P.underlying t = some (.slice e)) (hE : ElemOk P α e) (hsv : ev f s = v) (hxv : ev f x = sv) (h : St H0 M S0 (rowE e v xs :: L) H)
    (hr : Rd S H sv ys) (hS : ∀ b, SL S0 (rowE e v xs :: L) b → S b) (hb : (xs.length + ys.length) * GoT.bytes α ≤ 140737488355328) (hp : 0 < GoT.bytes α)
    (hK : ∀ v' H', St H0 M S0 (rowE e v' (xs ++ ys) :: L) H' → Ext (rowB v) H H' → next (updO f o.dst v') H') : OpE P o next f H := by
  intro w hw
  subst hw
  obtain ⟨hby0, cl, hcl, hrow⟩ := h.head
  obtain ⟨a, n, c, dl, rfl, hn, hnc, hcm, hby, hdl, hpp⟩ := Rd.list.1 (hr.sub hS)
  subst hn
  obtain ⟨v', w', hrun, hrow', hg, hbl⟩ := run_append_mine (P := P) (ty := o.type) w ht hE hrow hcl.len a ys.length c dl hdl.len (by
    intro hne
    obtain ⟨b, off, rfl, _, hcells⟩ := hpp (fun h0 => hne (by rw [h0]; rfl))
    refine ⟨_, rfl, fun j u hj => ?_⟩
    rw [add_off, cell_hcell]
    have hlt : j < dl.length := by
      rcases Nat.lt_or_ge j dl.length with h | h
      · exact h
      · rw [List.getElem?_eq_none h] at hj; cases hj
    rw [hcells j hlt, hj]) hdl.cell hb (bytes_pos_len hb hp)
  have : (execOp (ev f) o).run P w = .ok (.value v') w' := by
    simp [execOp, ho, resolve, invoke, builtin, hsv, hxv, hrun]
  rw [this]
  refine ⟨⟨hg.os, hg.tape, hg.output⟩, hK _ _ ?_ (.ofGrown hg)⟩
  refine h.upd0 hg.size (fun b hb hn => hg.block b hb fun he => hn (rowB_own.2 he)) hbl ?_
  have hx : Ext (SL S0 (rowE e v xs :: L)) w.heap w'.heap := (Ext.ofGrown hg).mono fun b hb => .inr ⟨_, List.mem_cons_self .., hb⟩
  refine ⟨by rw [List.length_append]; exact hb, cl ++ dl, RdCs.app (hcl.ext hx fun b hb => SL.upd h hbl hb) (hdl.ext hx fun b hb => SL.upd h hbl hb), ?_⟩
  rw [List.length_append]
  exact hrow'

/-- Entries without blocks. -/
def Bl0 (L : List Ent) : Prop := ∀ e ∈ L, ∀ b, ¬ e.blocks b
theorem Bl0.nil : Bl0 [] := by simp [Bl0]
theorem Bl0.cons {v : Value} {x : α} (h : Bl0 L) : Bl0 (rdE v x :: L) := by
  intro e he b hb
  rcases List.mem_cons.1 he with rfl | h'
  · exact hb
  · exact h e h' b hb
theorem St.arg {v : Value} {x : α} {S : Nat → Prop} (h : St H0 M S0 L H) (hn : Bl0 L) (hr : Rd S H v x) (hs : ∀ b, S0 b → S b) : St H0 M S0 (rdE v x :: L) H :=
  h.rdLast hr fun b hb => by
    rcases hb with hb | ⟨e, he, hb⟩
    · exact hs b hb
    · exact (hn e he b hb).elim

/-- A result that avoids the blocks that were there. -/
theorem St.res {v : Value} {x : α} {H' : Heap} (h : St H0 M S0 L H) (hx : Ext NoB H H') (hr : Rd (fun b => SL S0 L b ∧ b < H.size) H' v x) : St H0 M S0 (rdE v x :: L) H' :=
  (h.ext hx).rd (hr.sub fun b hb => ⟨hb, SL.lt h hb⟩)

end
end Go.Um
