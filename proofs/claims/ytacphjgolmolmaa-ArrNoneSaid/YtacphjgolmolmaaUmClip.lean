/- Appending to a slice that has no room left: a new row. -/
import Derived.Test.YtacphjgolmolmaaUmFn
namespace Go.Um
open GoT (sz ag rdc)
open Go.RowKit

/-- A slice whose capacity is its length. -/
def Tight (v : Value) : Prop := ∃ a n, v = .slice a n n

section
variable {α : Type} [GoT α] {P : Program} {H0 H : Heap} {M S0 : Nat → Prop} {L : List Ent} {f : Fr} {next : FP} {o : Oper}

theorem run_append_tight {t ty e : TypeId} {a0 : Option Addr} {n : Nat} {cl : List Value} (w : World) (ht : P.underlying t = some (.slice e)) (hE : ElemOk P α e)
    (hcl : cl.length = n * sz α) (h0 : (n = 0 ∧ a0 = none) ∨ ∃ b0, a0 = some b0 ∧ ∀ j u, cl[j]? = some u → w.cell? (b0.add j) = some u)
    (ad : Addr) (m c : Nat) (news : List Value) (hl : news.length = m * sz α) (hn : ∀ j u, news[j]? = some u → w.cell? (ad.add j) = some u)
    (hm : 0 < m) (hb : (n + m) * GoT.bytes α ≤ 140737488355328) (h63 : n + m ≤ maxLen) :
    ∃ v' w', (Builtin.append_ #[t, t] ty #[.slice a0 n n, .slice (some ad) m c]).run P w = .ok v' w' ∧ rowC (sz α) e v' (n + m) (cl ++ news) w'.heap ∧ w.grownBy w' none ∧ (∀ b, rowB v' b → w.heap.size ≤ b) := by
  obtain ⟨i, z, hi, hz, hiz, hiby, hzz⟩ := hE.info
  have h63' : n + m ≤ 9223372036854775807 := by simp only [maxLen] at h63; omega
  have grown : ∀ old,
      rowC (sz α) e (.slice (some ⟨w.heap.size, 0, none⟩) (n + m) (grownCap w (n + m) old e)) (n + m) (cl ++ news)
        (w.drew.alloc (.cells (cl.toArray ++ news.toArray ++ Builtin.zeroCells z.cells (grownCap w (n + m) old e - (n + m))) e)).heap ∧
      w.grownBy (w.drew.alloc (.cells (cl.toArray ++ news.toArray ++ Builtin.zeroCells z.cells (grownCap w (n + m) old e - (n + m))) e)) none := by
    intro old
    have hge := grownCap_ge w (n + m) old e
    have hcm : grownCap w (n + m) old e ≤ maxLen := grownCap_le_maxLen w (n + m) old e h63
    have hlen : (cl ++ news).length = (n + m) * sz α := by rw [List.length_append, hcl, hl, Nat.add_mul]
    refine ⟨.inr ⟨w.heap.size, _, _, rfl, heap_alloc_new w.drew _, hge, hcm, ?_, ?_⟩, ⟨rfl, rfl, rfl, by simp, fun k hk _ => Below.heap_alloc w.drew _ k hk⟩⟩
    · simp only [Array.size_append, List.size_toArray, zeroCells_size, hzz, hcl, hl, ← Nat.add_mul]
      congr 1
      omega
    · simp only [Array.toList_append, List.append_assoc]
      rw [← List.append_assoc, ← hlen]
      exact List.take_left
  have blk : ∀ cap b, rowB (.slice (some ⟨w.heap.size, 0, none⟩) (n + m) cap) b → w.heap.size ≤ b := by
    intro cap b hb
    simp only [rowB, Value.ownBlock, Option.some.injEq] at hb
    omega
  rcases h0 with ⟨rfl, rfl⟩ | ⟨b0, rfl, holds⟩
  · have hcl0 : cl = [] := List.eq_nil_of_length_eq_zero (by simpa using hcl)
    subst hcl0
    have hr := run_append_nil (P := P) w t ty e i z ht hi hz ad m c news (by rw [hl, hiz]) hn hm (by omega) (by rw [hiby]; have hb := hb; simp only [Nat.zero_add] at hb; omega)
    have hgr := grown 0
    simp only [Nat.zero_add, List.nil_append, Array.empty_append] at hgr blk ⊢
    exact ⟨_, _, hr, hgr.1, hgr.2, blk _⟩
  · have hr := run_append_grow (P := P) w t ty e i z ht hi hz b0 n n cl (by rw [hcl, hiz]) holds ad m c news (by rw [hl, hiz]) hn (by omega) (by omega) (growslice_fits (by omega) (by rw [hiby]; exact hb))
    have hgr := grown n
    exact ⟨_, _, hr, hgr.1, hgr.2, blk _⟩

theorem RdL.holds {S : Nat → Prop} {v : Value} {xs : List α} {w : World} (h : RdL S w.heap v xs) : ∃ a n c cl, v = .slice a n c ∧ n = xs.length ∧ cl.length = n * sz α ∧ RdCs S w.heap cl xs ∧ xs.length * GoT.bytes α ≤ 140737488355328 ∧
    (xs = [] ∨ ∃ b0, a = some b0 ∧ ∀ j u, cl[j]? = some u → w.cell? (b0.add j) = some u) := by
  obtain ⟨a, n, c, cl, rfl, hn, _, _, hby, hcl, hp⟩ := h
  refine ⟨a, n, c, cl, rfl, hn, by rw [hn]; exact hcl.len, hcl, hby, ?_⟩
  by_cases h0 : xs = []
  · exact .inl h0
  · obtain ⟨b, off, rfl, _, hcells⟩ := hp h0
    refine .inr ⟨_, rfl, fun j u hj => ?_⟩
    rw [add_off, cell_hcell]
    have hlt : j < cl.length := by
      rcases Nat.lt_or_ge j cl.length with h | h
      · exact h
      · rw [List.getElem?_eq_none h] at hj; cases hj
    rw [hcells j hlt, hj]

theorem e_appendTight {s x : Operand} {t e : TypeId} {v sv : Value} {xs ys : List α} (ho : o.op = .call { callee := .builtin .append, args := #[s, x], argTypes := #[t, t] })
    (ht : P.underlying t = some (.slice e)) (hE : ElemOk P α e) (hsv : ev f s = v) (hxv : ev f x = sv) (h : St H0 M S0 L H)
    (hv : Rd (SL S0 L) H v xs) (htv : Tight v) (hr : Rd (SL S0 L) H sv ys) (hne : 0 < ys.length) (hb : (xs.length + ys.length) * GoT.bytes α ≤ 140737488355328) (hp : 0 < GoT.bytes α)
    (hK : ∀ v' H', St H0 M S0 (rowE e v' (xs ++ ys) :: L) H' → Ext NoB H H' → next (updO f o.dst v') H') : OpE P o next f H := by
  intro w hw
  subst hw
  obtain ⟨a0, n0, c0, cl, hve, hn0, hcll, hcl, _, hh0⟩ := (Rd.list.1 hv).holds
  obtain ⟨a0', n0', hve'⟩ := htv
  rw [hve] at hve'
  cases hve'
  obtain ⟨a, n, c, dl, rfl, hn, hdll, hdl, _, hh⟩ := (Rd.list.1 hr).holds
  have hys : ys ≠ [] := fun h0 => by rw [h0] at hne; simp at hne
  obtain ⟨ad, rfl, hnews⟩ := hh.resolve_left hys
  have hcase : (n0 = 0 ∧ a0 = none) ∨ ∃ b0, a0 = some b0 ∧ ∀ j u, cl[j]? = some u → w.cell? (b0.add j) = some u := by
    rcases hh0 with h0 | h0
    · subst h0
      have hn00 : n0 = 0 := by simpa using hn0
      cases a0 with
      | none => exact .inl ⟨hn00, rfl⟩
      | some b0 =>
        refine .inr ⟨b0, rfl, fun j u hj => ?_⟩
        have : cl = [] := List.eq_nil_of_length_eq_zero (by rw [hcll, hn00]; simp)
        rw [this] at hj; cases hj
    · exact .inr h0
  obtain ⟨v', w', hrun, hrow', hg, hbl⟩ := run_append_tight (P := P) (ty := o.type) w ht hE hcll hcase ad n c dl hdll hnews (by omega) (by rw [hn0, hn]; exact hb) (bytes_pos_len (by rw [hn0, hn]; exact hb) hp)
  have : (execOp (ev f) o).run P w = .ok (.value v') w' := by
    simp [execOp, ho, resolve, invoke, builtin, hsv, hve, hxv, hrun]
  rw [this]
  have hxx : Ext NoB w.heap w'.heap := ⟨hg.size, fun b hb _ => hg.block b hb (by simp)⟩
  refine ⟨⟨hg.os, hg.tape, hg.output⟩, hK _ _ ?_ hxx⟩
  have h1 := h.row0 (α := α) e
  refine h1.upd0 hg.size (fun b hb _ => hg.block b hb (by simp)) (fun b hb => .inr (hbl b hb)) ?_
  have hsub : ∀ b, b < w.heap.size → SL S0 (rowE e v' (xs ++ ys) :: L) b → SL S0 L b := by
    rintro b hlt (hs | ⟨e2, he2, hs⟩)
    · exact .inl hs
    · rcases List.mem_cons.1 he2 with rfl | h2
      · have := hbl b hs; omega
      · exact .inr ⟨e2, h2, hs⟩
  have hx2 : Ext (SL S0 L) w.heap w'.heap := hxx.mono fun _ h => h.elim
  refine ⟨by rw [List.length_append]; exact hb, cl ++ dl, RdCs.app (hcl.ext hx2 hsub) (hdl.ext hx2 hsub), ?_⟩
  rw [List.length_append, ← hn0, ← hn]
  exact hrow'

def clipV : Value → Value
  | .slice a n _ => .slice a n n
  | v => v
theorem RdL.clip {S : Nat → Prop} {v : Value} {l : List α} (h : RdL S H v l) : RdL S H (clipV v) l := by
  obtain ⟨a, n, c, cl, rfl, hn, hc, hm, hb, hcl, hp⟩ := h
  exact ⟨a, n, n, cl, rfl, hn, Nat.le_refl _, Nat.le_trans hc hm, hb, hcl, hp⟩
theorem RdL.tight {S : Nat → Prop} {v : Value} {l : List α} (h : RdL S H v l) : Tight (clipV v) := by
  obtain ⟨a, n, c, cl, rfl, _⟩ := h
  exact ⟨a, n, rfl⟩
theorem q_clip {S U : Nat → Prop} {t e : TypeId} {x hi mx : Operand} {v : Value} {l : List α} (ho : o.op = .slice t x none (some hi) (some mx)) (ht : P.underlying t = some (.slice e)) (hE : ElT P α e)
    (hx : ev f x = v) (hR : RdL S H v l) (hhi : ev f hi = I (l.length : Int)) (hmx : ev f mx = I (l.length : Int)) : Quiet P o U f H (clipV v) := by
  obtain ⟨a, n, c, cl, rfl, hn, hnc, hcm, hby, hcl, hp⟩ := hR
  subst hn
  intro w _
  have hz := hE.2
  have e1 : (l.length : Int) ≤ (c : Int) := by omega
  simp [execOp, Instr.sliceAt, Instr.slice, Instr.sliceBounds, Instr.sliceBound, asIntOf, run_underlying ht, clipV, *]
  try cases a <;> simp [Addr.add]

/-! fields of a slice's elements -/
def fptr (s : Nat) (v : Value) (k j : Nat) : Value :=
  match v with
  | .slice (some a) _ _ => .pointer (some ⟨a.block, a.off + k * s + j, none⟩)
  | _ => undef
def LoadF (P : Program) (U : Nat → Prop) (H : Heap) (t : TypeId) (s : Nat) (v : Value) (k j : Nat) (u : Value) : Prop :=
  ∃ b off n c, v = .slice (some ⟨b, off, none⟩) n c ∧ LoadS P U H t b (off + k * s + j) u

theorem q_fieldE {U S : Nat → Prop} {t : TypeId} {x : Operand} {k i j : Nat} {v : Value} {l : List α} {fs : Array Field} {fd : Field} {n : Nat} (ho : o.op = .fieldAddr t x i) (ht : P.underlying t = some (.struct fs)) (hf : fs[i]? = some fd)
    (hz : ∀ w, (sizeOf fd.type).run P w = .ok (n + 1) w) (hj : fd.offset = j) (hx : ev f x = eptr (sz α) v k) (hR : RdL S H v l) (hlt : k < l.length) : Quiet P o U f H (fptr (sz α) v k j) := by
  obtain ⟨a, n, c, cl, rfl, hn, hnc, hcm, hby, hcl, hp⟩ := hR
  obtain ⟨b, off, rfl, hsb, hcells⟩ := hp (fun h0 => by rw [h0] at hlt; simp at hlt)
  subst hj
  exact q_fieldAddr ho ht hf hz hx
theorem RdL.cellF {S : Nat → Prop} {v : Value} {l : List α} (hR : RdL S H v l) (k : Nat) (hlt : k < l.length) : ∃ cs, rdc S H cs (nth l k) ∧
    ∀ (j : Nat) (u : Value) (P : Program) (t : TypeId) (U : Nat → Prop), cs[j]? = some u → (∀ w, (isAgg t).run P w = .ok false w) → (∀ b, U b → S b) → LoadF P U H t (sz α) v k j u := by
  obtain ⟨a, n, c, cl, rfl, hn, hnc, hcm, hby, hcl, hp⟩ := hR
  obtain ⟨b, off, rfl, hsb, hcells⟩ := hp (fun h0 => by rw [h0] at hlt; simp at hlt)
  obtain ⟨cs, hr, hc⟩ := hcl.nth hlt
  have hlen := GoT.len hr
  refine ⟨cs, hr, fun j u P t U hu hE hU => ⟨b, off, n, c, rfl, loadS_one hE ?_ (fun h => hsb (hU b h))⟩⟩
  have hj : j < cs.length := (List.getElem?_eq_some_iff.1 hu).1
  rw [← hu, ← hc j hj, Nat.add_assoc]
  refine hcells _ ?_
  rw [hcl.len]
  have : (k + 1) * sz α ≤ l.length * sz α := Nat.mul_le_mul_right _ (by omega)
  rw [Nat.succ_mul] at this
  omega
theorem q_loadF {U : Nat → Prop} {t : TypeId} {x : Operand} {s k j : Nat} {v u : Value} (ho : o.op = .load t x) (hx : ev f x = fptr s v k j) (hl : LoadF P U H t s v k j u) : Quiet P o U f H u := by
  obtain ⟨b, off, n, c, rfl, hl⟩ := hl
  exact q_load ho hx hl
end
theorem cells_rdL {α : Type} [GoT α] {S : Nat → Prop} {H : Heap} {v : Value} {l : List α} (h : RdL S H v l) : v.cells = #[v] := by
  obtain ⟨_, _, _, _, rfl, _⟩ := h; rfl
end Go.Um
