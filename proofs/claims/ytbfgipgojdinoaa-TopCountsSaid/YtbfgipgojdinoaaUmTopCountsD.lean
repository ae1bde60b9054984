import Derived.ArgAppend
import Derived.Sort.Grow
import Derived.Sort.Row
import Derived.Test.YtbfgipgojdinoaaUmTopCountsC
namespace Go.Um
open GoT (sz ag rdc)
open Go.RowKit
def queC (size : Nat) (t : TypeId) (v : Value) (n : Nat) (cl : List Value) (H : Heap) : Prop :=
  ∃ g off c cur, v = .slice (some ⟨g, off, none⟩) n c ∧ H[g]? = some (.cells cur t (0, 0)) ∧ n ≤ c ∧ c ≤ maxLen ∧ off + c * size ≤ cur.size ∧ (cur.toList.drop off).take (n * size) = cl
def queOk {α : Type} [GoT α] (t : TypeId) (v : Value) (l : List α) (S : Nat → Prop) (H : Heap) : Prop :=
  l.length * GoT.bytes α ≤ 140737488355328 ∧ ∃ cl, RdCs S H cl l ∧ queC (sz α) t v l.length cl H
theorem queC.lt {size : Nat} {t : TypeId} {v : Value} {n : Nat} {cl : List Value} {H : Heap} (h : queC size t v n cl H) {b : Nat} (hb : rowB v b) : b < H.size := by
  obtain ⟨g, off, c, cur, rfl, hg, _⟩ := h
  simp only [rowB, Value.ownBlock, Option.some.injEq] at hb
  subst hb
  exact (Array.getElem?_eq_some_iff.1 hg).1
theorem queC.ext {size : Nat} {t : TypeId} {v : Value} {n : Nat} {cl : List Value} {H H' : Heap} (h : queC size t v n cl H) (hs : ∀ b, b < H.size → rowB v b → H'[b]? = H[b]?) : queC size t v n cl H' := by
  obtain ⟨g, off, c, cur, rfl, hg, hh⟩ := h
  refine ⟨g, off, c, cur, rfl, ?_, hh⟩
  rw [hs g (Array.getElem?_eq_some_iff.1 hg).1 (by simp [rowB, Value.ownBlock])]
  exact hg
def queE {α : Type} [GoT α] (t : TypeId) (v : Value) (l : List α) : Ent where
  blocks := rowB v
  ok S H := queOk t v l S H
  lt h hb := by obtain ⟨_, cl, _, h⟩ := h; exact h.lt hb
  ext h hz hs ht := by
    obtain ⟨hb, cl, hcl, hh⟩ := h
    exact ⟨hb, cl, hcl.ext ⟨hz, fun b hb hn => hs b hb (.inr hn)⟩ ht, hh.ext fun b hb hr => hs b hb (.inl hr)⟩
section
variable {α : Type} [GoT α] {P : Program} {o : Oper} {f : Fr} {H0 H : Heap} {M S0 : Nat → Prop} {L : List Ent} {next : FP}
theorem St.que {t : TypeId} {v : Value} {xs : List α} (h : St H0 M S0 (rowE t v xs :: L) H) (hne : xs ≠ []) : St H0 M S0 (queE t v xs :: L) H := by
  refine h.upd0 (Nat.le_refl _) (fun _ _ _ => rfl) (fun b hb => .inl hb) ?_
  obtain ⟨hby, cl, hcl, ⟨rfl, hn, _⟩ | ⟨g, c, cur, rfl, hg, hc, hm, hz, ht⟩⟩ := h.head
  · exact absurd (List.eq_nil_of_length_eq_zero hn) hne
  · exact ⟨hby, cl, hcl.ext (.refl _ _) (fun b _ hb => by
      rcases hb with hb | ⟨e, he, hb⟩
      · exact .inl hb
      · rcases List.mem_cons.1 he with rfl | he
        · exact .inr ⟨_, List.mem_cons_self .., hb⟩
        · exact .inr ⟨e, List.mem_cons_of_mem _ he, hb⟩), g, 0, c, cur, rfl, hg, hc, hm, by rw [hz]; omega, by rw [List.drop_zero]; exact ht⟩
theorem queOk.rdL {t : TypeId} {v : Value} {xs : List α} {S S' : Nat → Prop} (h : queOk t v xs S H) (hs : ∀ b, S' b → S b) (hb : ∀ b, rowB v b → ¬ S' b) : RdL S' H v xs := by
  obtain ⟨hby, cl, hcl, g, off, c, cur, rfl, hg, hc, hm, hz, ht⟩ := h
  refine ⟨_, _, c, cl, rfl, rfl, hc, hm, hby, hcl.ext (.refl _ _) (fun b _ hb => hs b hb), fun _ => ⟨g, off, rfl, hb g (by simp [rowB, Value.ownBlock]), ?_⟩⟩
  intro j hj
  rw [← ht] at hj ⊢
  simp only [hcell, hg]
  rw [List.getElem?_take]
  simp only [List.length_take] at hj
  rw [if_pos (by omega), List.getElem?_drop]
  simp
theorem St.queN {t : TypeId} {v : Value} {xs : List α} (h : St H0 M S0 L H) (k : Nat) (hk : L[k]? = some (queE t v xs)) : RdL NoB H v xs :=
  queOk.rdL (h.get k hk) (fun _ h => h.elim) (fun _ _ h => h)
theorem St.queTail {t : TypeId} {v : Value} {x : α} {xs : List α} (h : St H0 M S0 (queE t v (x :: xs) :: L) H) : St H0 M S0 (queE t (sliceV (sz α) v 1 (x :: xs).length) xs :: L) H := by
  have hh := h.head
  obtain ⟨hby, cl, ⟨c1, c2, e, h1, h2⟩, g, off, c, cur, rfl, hg, hc, hm, hz, ht⟩ := hh
  have hl1 : c1.length = sz α := GoT.len h1
  have hpos : 0 < sz α := GoT.pos
  have hlen : (x :: xs).length = xs.length + 1 := rfl
  rw [hlen] at hby hc ht
  have hv : ∃ off', sliceV (sz α) (.slice (some ⟨g, off, none⟩) (x :: xs).length c) 1 (x :: xs).length = .slice (some ⟨g, off', none⟩) xs.length (c - 1) ∧ off' + (c - 1) * sz α ≤ cur.size ∧ (cur.toList.drop off').take (xs.length * sz α) = c2 := by
    by_cases h1c : c = 1
    · have hx : xs = [] := List.eq_nil_of_length_eq_zero (by omega)
      subst hx
      refine ⟨off, by simp [sliceV, h1c], by rw [h1c] at hz ⊢; omega, ?_⟩
      have : c2 = [] := h2
      rw [this]
      simp
    · refine ⟨off + sz α, ?_, ?_, ?_⟩
      · have : sz α ≠ 0 := by omega
        simp [sliceV, h1c, Addr.add, this]
      · obtain ⟨d, rfl⟩ : ∃ d, c = d + 1 := ⟨c - 1, by omega⟩
        rw [Nat.succ_mul] at hz
        rw [Nat.add_sub_cancel]
        omega
      · have e2 : (cur.toList.drop off).take ((xs.length + 1) * sz α) = c1 ++ c2 := by rw [ht, e]
        have e3 := congrArg (List.drop (sz α)) e2
        rw [← hl1, List.drop_left, hl1, List.drop_take, List.drop_drop] at e3
        rw [← e3]
        congr 1
        rw [Nat.succ_mul, Nat.add_sub_cancel]
  obtain ⟨off', hv, hz', ht'⟩ := hv
  have hblk : ∀ b, rowB (.slice (some ⟨g, off', none⟩) xs.length (c - 1)) b → rowB (.slice (some ⟨g, off, none⟩) (x :: xs).length c) b := fun b hb => by simpa [rowB, Value.ownBlock] using hb
  rw [hv]
  refine h.upd0 (Nat.le_refl _) (fun _ _ _ => rfl) (fun b hb => .inl (hblk b hb)) ?_
  exact ⟨Nat.le_trans (Nat.mul_le_mul_right _ (Nat.le_succ _)) hby, c2, h2.ext (.refl _ _) (fun b _ hb => by
      rcases hb with hb | ⟨e, he, hb⟩
      · exact .inl hb
      · rcases List.mem_cons.1 he with rfl | he
        · exact .inr ⟨_, List.mem_cons_self .., hblk b hb⟩
        · exact .inr ⟨e, List.mem_cons_of_mem _ he, hb⟩), g, off', c - 1, cur, rfl, hg, by omega, by omega, hz', ht'⟩
theorem setCell_row {w : World} {g k : Nat} {cur : Array Value} {e : TypeId} {fr : Nat × Nat} {v : Value} (hg : w.heap[g]? = some (.cells cur e fr)) :
    (w.setCell ⟨g, k, none⟩ v).heap[g]? = some (.cells (cur.setIfInBounds k v) e fr) ∧ (w.setCell ⟨g, k, none⟩ v).heap.size = w.heap.size ∧ ∀ b, b ≠ g → (w.setCell ⟨g, k, none⟩ v).heap[b]? = w.heap[b]? := by
  refine ⟨?_, by simp [World.setCell], fun b hb => ?_⟩
  · unfold World.setCell
    show (w.heap.modify g _)[g]? = _
    rw [Array.getElem?_modify, if_pos rfl, hg]
    rfl
  · unfold World.setCell
    show (w.heap.modify g _)[b]? = _
    rw [Array.getElem?_modify, if_neg (Ne.symm hb)]
theorem e_appendQ {s x : Operand} {t e : TypeId} {v sv : Value} {xs : List Int} {y : Int} {S : Nat → Prop} (ho : o.op = .call { callee := .builtin .append, args := #[s, x], argTypes := #[t, t] })
    (ht : P.underlying t = some (.slice e)) (hE : ElemOk P Int e) (hsv : ev f s = v) (hxv : ev f x = sv) (h : St H0 M S0 (queE e v xs :: L) H)
    (hr : Rd S H sv [y]) (hb : xs.length + 1 ≤ 1000000)
    (hK : ∀ v' H', St H0 M S0 (queE e v' (xs ++ [y]) :: L) H' → Ext (rowB v) H H' → next (updO f o.dst v') H') : OpE P o next f H := by
  intro w hw
  subst hw
  obtain ⟨hby, cl, hcl, g, off, c, cur, rfl, hg, hc, hm, hz, htk⟩ := h.head
  obtain ⟨a, n, c', dl, rfl, hn, hnc, hcm, hby', hdl, hpp⟩ := Rd.list.1 hr
  obtain ⟨b0, off0, rfl, _, hcells⟩ := hpp (by simp)
  subst hn
  obtain ⟨c1, c2, e1, ⟨rfl, h6⟩, rfl⟩ := hdl
  subst e1
  obtain ⟨i, z, hi, hzi, hiz, hiby, hzz⟩ := hE.info
  have hsz : sz Int = 1 := rfl
  have hb8 : GoT.bytes Int = 8 := rfl
  rw [hsz] at hz htk hiz hzz
  rw [hb8] at hiby
  have hcll : cl.length = xs.length := by have := hcl.len; rw [hsz] at this; omega
  have hlt : g < w.heap.size := (Array.getElem?_eq_some_iff.1 hg).1
  have hnews : ∀ j u, ([I y] ++ [] : List Value)[j]? = some u → w.cell? ((⟨b0, off0, none⟩ : Addr).add j) = some u := by
    intro j u hj
    have hj1 : j < ([I y] ++ [] : List Value).length := by
      rcases Nat.lt_or_ge j ([I y] ++ [] : List Value).length with h | h
      · exact h
      · rw [List.getElem?_eq_none h] at hj; cases hj
    rw [add_off, cell_hcell, hcells j hj1, hj]
  have hrow : ∀ k b, rowB (.slice (some ⟨g, off, none⟩) k c) b ↔ b = g := by intro k b; simp [rowB, Value.ownBlock, eq_comm]
  have hsl : ∀ (v' : Value) (ys : List Int), (∀ b, rowB v' b → b = g ∨ w.heap.size ≤ b) → ∀ b, b < w.heap.size → SL S0 (queE e v' ys :: L) b → SL S0 (queE e (.slice (some ⟨g, off, none⟩) xs.length c) xs :: L) b := by
    intro v' ys hv' b hbl hs
    rcases hs with hs | ⟨e', he, hs⟩
    · exact .inl hs
    · rcases List.mem_cons.1 he with rfl | he
      · rcases hv' b hs with rfl | h2
        · exact .inr ⟨_, List.mem_cons_self .., (hrow _ _).2 rfl⟩
        · omega
      · exact .inr ⟨e', List.mem_cons_of_mem _ he, hs⟩
  have hrdy : ∀ (S' : Nat → Prop) (H' : Heap), RdCs S' H' [I y] [y] := fun S' H' => ⟨[I y], [], rfl, ⟨rfl, h6⟩, rfl⟩
  by_cases hroom : xs.length + 1 ≤ c
  · have hfit : off + xs.length < cur.size := by omega
    have hrun := run_append_room_cells (P := P) w t o.type e i ht hi g off xs.length c ⟨b0, off0, none⟩ 1 c' [I y] (by rw [hiz]; rfl) hnews (by intro u hu; rw [List.mem_singleton.1 hu]; rfl) hroom
      (by intro j hj; have hj0 : j = 0 := by simpa using hj
          subst hj0
          rw [hiz, cell_hcell]; simp only [hcell, hg]; rw [Array.getElem?_eq_getElem (by omega)]; rfl)
      (by intro j hj; unfold World.frozen?; simp only [hg]; simp)
    have hw1 : w.setCells g (off + xs.length * i.size) [I y] = w.setCell ⟨g, off + xs.length, none⟩ (I y) := by rw [hiz, Nat.mul_one]; rfl
    rw [hw1] at hrun
    have hrun2 : (execOp (ev f) o).run P w = .ok (.value (.slice (some ⟨g, off, none⟩) (xs.length + 1) c)) (w.setCell ⟨g, off + xs.length, none⟩ (I y)) := by
      simp only [List.length_cons, List.length_nil, Nat.zero_add] at hxv
      simp [execOp, ho, resolve, invoke, builtin, hsv, hxv, hrun]
    rw [hrun2]
    obtain ⟨s1, s2, s3⟩ := setCell_row (k := off + xs.length) (v := I y) hg
    have hx : Ext (rowB (.slice (some ⟨g, off, none⟩) xs.length c)) w.heap (w.setCell ⟨g, off + xs.length, none⟩ (I y)).heap := ⟨by rw [s2]; exact Nat.le_refl _, fun b _ hb => s3 b fun e => hb ((hrow _ _).2 e)⟩
    refine ⟨⟨rfl, rfl, rfl⟩, hK _ _ (h.upd0 (by rw [s2]; exact Nat.le_refl _) (fun b hb hne => s3 b fun e => hne ((hrow _ _).2 e)) (fun b hb => .inl ((hrow _ _).2 ((hrow _ _).1 hb))) ?_) hx⟩
    refine ⟨by rw [List.length_append, hb8]; simp only [List.length_singleton]; omega, cl ++ [I y], RdCs.app (hcl.ext (hx.mono fun b hb => .inr ⟨_, List.mem_cons_self .., hb⟩) fun b hb => hsl _ _ (fun b hb => .inl ((hrow _ _).1 hb)) b hb) (hrdy _ _), g, off, c, cur.setIfInBounds (off + xs.length) (I y), by simp, s1, by simp; exact hroom, hm, by rw [hsz]; simpa using hz, ?_⟩
    rw [hsz]
    apply List.ext_getElem?
    intro j
    rw [List.getElem?_take, List.getElem?_drop, Array.getElem?_toList, Array.getElem?_setIfInBounds]
    have hjc : ∀ j, j < xs.length → cl[j]? = cur[off + j]? := fun j hj => by
      rw [← htk, List.getElem?_take, if_pos (by omega), List.getElem?_drop, Array.getElem?_toList]
    simp only [List.length_append, List.length_singleton, Nat.mul_one]
    by_cases h1 : j < xs.length
    · rw [if_pos (by omega), if_neg (by omega), List.getElem?_append_left (by omega), hjc j h1]
    · by_cases h2 : j = xs.length
      · subst h2
        rw [if_pos (by omega), if_pos rfl, if_pos hfit, List.getElem?_append_right (by omega), hcll, Nat.sub_self]
        rfl
      · rw [if_neg (by omega), List.getElem?_eq_none (by simp; omega)]
  · obtain ⟨v', w', hrun, hown, hgr⟩ := run_append_arg_grows (P := P) w t o.type e i z 1 8 ht hi hzi hiz hiby hzz (by decide) ⟨g, off, none⟩ xs.length c cl (by rw [hcll]; omega)
      (by intro j u hj
          have hj1 : j < cl.length := by
            rcases Nat.lt_or_ge j cl.length with h | h
            · exact h
            · rw [List.getElem?_eq_none h] at hj; cases hj
          rw [add_off, cell_hcell]; simp only [hcell, hg]
          rw [← htk, List.getElem?_take, if_pos (by omega), List.getElem?_drop, Array.getElem?_toList] at hj
          exact hj) ⟨b0, off0, none⟩ 1 c' [I y] rfl hnews (by omega) (by simp only [maxLen]; omega) (by omega)
    have hrun2 : (execOp (ev f) o).run P w = .ok (.value v') w' := by
      simp only [List.length_cons, List.length_nil, Nat.zero_add] at hxv
      simp [execOp, ho, resolve, invoke, builtin, hsv, hxv, hrun]
    rw [hrun2]
    have hx : Ext NoB w.heap w'.heap := ⟨hgr.size, fun b hb _ => hgr.block b hb (by simp)⟩
    refine ⟨⟨hgr.os, hgr.tape, hgr.output⟩, hK _ _ ?_ (hx.mono fun _ h => h.elim)⟩
    rcases hown.2 with ⟨_, h0⟩ | ⟨g', cap, cur', rfl, hge, hg', hn', hm', hz', ht'⟩
    · omega
    refine h.upd0 hgr.size (fun b hb _ => hx.same b hb id) (fun b hb => .inr (by simp only [queE, rowB, Value.ownBlock, Option.some.injEq] at hb; omega)) ?_
    exact ⟨by rw [List.length_append, hb8]; simp only [List.length_singleton]; omega, cl ++ [I y], RdCs.app (hcl.ext (hx.mono fun _ h => h.elim) fun b hb => hsl _ _ (fun b hb => .inr (by simp only [rowB, Value.ownBlock, Option.some.injEq] at hb; omega)) b hb) (hrdy _ _), g', 0, cap, cur', by simp, hg', by simp; exact hn', hm', by rw [hsz]; omega, by rw [hsz, List.drop_zero]; simpa using ht'⟩
end
end Go.Um
namespace Go.Um
open GoT (sz ag rdc)
open Go.RowKit
theorem rd_ints {S : Nat → Prop} {H : Heap} : ∀ {l : List Int} {cl : List Value}, RdCs S H cl l → cl = l.map I ∧ ∀ c ∈ l, In64 c
  | [], cl, h => ⟨h, fun c hc => by cases hc⟩
  | c :: l, cl, ⟨c1, c2, e, ⟨e1, i1⟩, h2⟩ => by
    obtain ⟨e2, h3⟩ := rd_ints h2
    refine ⟨by rw [e, e1, e2]; rfl, fun c' hc' => ?_⟩
    rcases List.mem_cons.1 hc' with rfl | hc'
    · exact i1
    · exact h3 c' hc'
theorem ints_rd {S : Nat → Prop} {H : Heap} : ∀ {l : List Int}, (∀ c ∈ l, In64 c) → RdCs S H (l.map I) l
  | [], _ => rfl
  | c :: l, h => ⟨[I c], l.map I, rfl, ⟨rfl, h c (List.mem_cons_self ..)⟩, ints_rd fun c' hc' => h c' (List.mem_cons_of_mem _ hc')⟩
theorem holds_ints {w : World} {g : Nat} {t : TypeId} {cur : Array Value} {l : List Int} (hg : w.heap[g]? = some (.cells cur t (0, 0))) (ht : cur.toList.take l.length = l.map I) : Go.Sort.Holds (Value.int .i64) w g 0 l.toArray := by
  intro j hj
  have hj' : j < l.length := by simpa using hj
  refine ⟨?_, ?_⟩
  · unfold World.cell?
    rw [hg]
    have : cur[j]? = (l.map I)[j]? := by rw [← ht, List.getElem?_take, if_pos hj', Array.getElem?_toList]
    show cur[0 + j]? = _
    rw [Nat.zero_add, this, List.getElem?_map, List.getElem?_eq_getElem hj', getElem!_pos _ j hj, List.getElem_toArray]
    rfl
  · unfold World.frozen?
    rw [hg]
    simp
section
variable {P : Program} {H0 H : Heap} {M S0 : Nat → Prop} {L : List Ent}
theorem sort_rowI {F : Nat} {t : TypeId} {v : Value} {l : List Int} (hne : l ≠ [])
    (hsome : ∀ (blk cap : Nat) (zs : List Int) (w : World), Go.Sort.Holds (Value.int .i64) w blk 0 zs.toArray → blk < w.heap.size → zs.length < 4611686018427387904 → Calls P F #[.slice (some ⟨blk, 0, none⟩) zs.length cap] w fun e w' =>
      e = .returned (.tuple #[]) ∧ ∃ n os, w' = Go.Sort.grow (Go.Sort.putRow (Value.int .i64) (Go.Sort.ahead w n) blk 0 (zs.mergeSort fun x y => decide (x ≤ y)).toArray) os) (h : St H0 M S0 (rowE t v l :: L) H) :
    CallsH P F #[v] H fun rv H' => Ext (rowB v) H H' ∧ rv = .tuple #[] ∧ ∃ l' : List Int, l'.Perm l ∧ St H0 M S0 (rowE t v l' :: L) H' := by
  intro w hw
  subst hw
  obtain ⟨hby, cl, hcl, ⟨rfl, hn, rfl⟩ | ⟨g, c, cur, rfl, hg, hc, hm, hz, ht⟩⟩ := h.head
  · exact absurd (List.eq_nil_of_length_eq_zero hn) hne
  obtain ⟨rfl, hin⟩ := rd_ints hcl
  have hlt : g < w.heap.size := (Array.getElem?_eq_some_iff.1 hg).1
  have hb : GoT.bytes Int = 8 := rfl
  have hs1 : sz Int = 1 := rfl
  rw [hs1, Nat.mul_one] at hz ht
  have hsz : l.length < 4611686018427387904 := by rw [hb] at hby; omega
  refine (hsome g c l w (holds_ints hg ht) hlt hsz).mono ?_
  rintro e w' ⟨rfl, n, os, rfl⟩
  have hperm : (l.mergeSort fun x y => decide (x ≤ y)).Perm l := List.mergeSort_perm ..
  generalize (l.mergeSort fun x y => decide (x ≤ y)) = l' at hperm
  have hlen : l'.length = l.length := hperm.length_eq
  generalize hw2 : Go.Sort.grow (Go.Sort.putRow (Value.int .i64) (Go.Sort.ahead w n) g 0 l'.toArray) os = w2
  have hat : w2.heap[g]? = some (.cells (Go.Sort.putCells (Value.int .i64) 0 l'.toArray cur) t (0, 0)) := by
    rw [← hw2]
    unfold Go.Sort.putRow Go.Sort.mapBlock Go.Sort.grow
    show ((w.heap.modify g _) ++ os)[g]? = _
    rw [Array.getElem?_append_left (by simpa using hlt), Array.getElem?_modify, if_pos rfl, hg]
    rfl
  have hgr : w.heap.size ≤ w2.heap.size := by rw [← hw2]; simp
  have hsame : ∀ b, b < w.heap.size → b ≠ g → w2.heap[b]? = w.heap[b]? := by
    intro b hb hne
    rw [← hw2]
    unfold Go.Sort.putRow Go.Sort.mapBlock Go.Sort.grow
    show ((w.heap.modify g _) ++ os)[b]? = _
    rw [Array.getElem?_append_left (by simpa using hb), Array.getElem?_modify, if_neg (Ne.symm hne)]
  have hamb : Amb w w2 := by rw [← hw2]; exact ⟨rfl, rfl, rfl⟩
  have hrow : ∀ b, rowB (.slice (some ⟨g, 0, none⟩) l.length c) b ↔ b = g := by intro b; simp [rowB, Value.ownBlock, eq_comm]
  refine ⟨_, rfl, hamb, ⟨hgr, fun b hb hne => hsame b hb fun e => hne ((hrow b).2 e)⟩, rfl, l', hperm, ?_⟩
  refine h.upd0 hgr (fun b hb hne => hsame b hb fun e => hne ((hrow b).2 e)) (fun b hb => .inl hb) ?_
  refine ⟨by rw [hlen]; exact hby, _, ints_rd fun x hx => hin x (hperm.mem_iff.1 hx), .inr ⟨g, c, _, by rw [hlen], hat, by omega, hm, by rw [hs1]; simp [Go.Sort.putCells, hz], ?_⟩⟩
  rw [hs1, Nat.mul_one]
  apply List.ext_getElem?
  intro j
  rw [List.getElem?_take]
  by_cases hj : j < l'.length
  · rw [if_pos hj, Array.getElem?_toList]
    unfold Go.Sort.putCells
    rw [Array.getElem?_mapIdx, Array.getElem?_eq_getElem (show j < cur.size by omega), Option.map_some, if_pos ⟨Nat.zero_le _, by simpa using hj⟩, List.getElem?_map, List.getElem?_eq_getElem hj, Nat.sub_zero, getElem!_pos _ j (by simpa using hj), List.getElem_toArray]
    rfl
  · rw [if_neg hj, List.getElem?_eq_none (by simpa using hj)]
end
end Go.Um
namespace Go.Um
def hasB (l : List Int) (f : Int) : Bool := decide (f ∈ l)
theorem any_has {l : List Int} {n : Int} : (l.any fun x => decide (x = n)) = true ↔ hasB l n = true := by
  rw [List.any_eq_true, hasB, decide_eq_true_iff]
  constructor
  · rintro ⟨x, hx, h⟩; rw [← of_decide_eq_true h]; exact hx
  · intro h; exact ⟨n, h, decide_eq_true rfl⟩
end Go.Um
namespace Go.Um
open GoT (sz ag rdc)
open Go.RowKit
structure Stp where
  Kind : Int
  Lits : List Int
  Nums : List Int
  AK : Int
  AA : Int
  AB : Int
  Of : List Int
  RK : Int
  RTo : Int
  deriving Inhabited, DecidableEq
instance instStp : GoT Stp where
  sz := 9
  bytes := 120
  ag := true
  rdc S H cs x := ∃ v1 v2 v6, cs = [I x.Kind, v1, v2, I x.AK, I x.AA, I x.AB, v6, I x.RK, I x.RTo] ∧ In64 x.Kind ∧ RdL S H v1 x.Lits ∧ RdL S H v2 x.Nums ∧ In64 x.AK ∧ In64 x.AA ∧ In64 x.AB ∧ RdL S H v6 x.Of ∧ In64 x.RK ∧ In64 x.RTo
  pos := by decide
  one h := by cases h
  len h := by obtain ⟨_, _, _, rfl, _⟩ := h; rfl
  cell h := by
    obtain ⟨_, _, _, rfl, _, ⟨_, _, _, _, rfl, _⟩, ⟨_, _, _, _, rfl, _⟩, _, _, _, ⟨_, _, _, _, rfl, _⟩, _, _⟩ := h
    simp [Value.oneCell']
  ext h hx hs := by obtain ⟨v1, v2, v6, rfl, h0, h1, h2, h3, h4, h5, h6, h7, h8⟩ := h; exact ⟨v1, v2, v6, rfl, h0, h1.ext hx hs, h2.ext hx hs, h3, h4, h5, h6.ext hx hs, h7, h8⟩
theorem Rd.stp {S : Nat → Prop} {H : Heap} {v : Value} {a : Stp} :
    Rd S H v a ↔ ∃ v1 v2 v6, v = .agg #[I a.Kind, v1, v2, I a.AK, I a.AA, I a.AB, v6, I a.RK, I a.RTo] ∧ In64 a.Kind ∧ Rd S H v1 a.Lits ∧ Rd S H v2 a.Nums ∧ In64 a.AK ∧ In64 a.AA ∧ In64 a.AB ∧ Rd S H v6 a.Of ∧ In64 a.RK ∧ In64 a.RTo := by
  constructor
  · rintro ⟨cs, ⟨v1, v2, v6, rfl, h0, h1, h2, h3, h4, h5, h6, h7, h8⟩, rfl⟩
    exact ⟨v1, v2, v6, rfl, h0, Rd.list.2 h1, Rd.list.2 h2, h3, h4, h5, Rd.list.2 h6, h7, h8⟩
  · rintro ⟨v1, v2, v6, rfl, h0, h1, h2, h3, h4, h5, h6, h7, h8⟩
    exact ⟨_, ⟨v1, v2, v6, rfl, h0, Rd.list.1 h1, Rd.list.1 h2, h3, h4, h5, Rd.list.1 h6, h7, h8⟩, rfl⟩
instance limStp : LimT Stp := ⟨fun a => LimT.lim a.Lits ∧ LimT.lim a.Nums ∧ LimT.lim a.Of⟩
end Go.Um
namespace Go.Um
def pickR (r : List LRow) (left : List Int) : List LRow := left.map fun i => nth r i.toNat
def InR (r : List LRow) (left : List Int) : Prop := ∀ x ∈ left, 0 ≤ x ∧ x < (r.length : Int)
section
variable {l : Loop} {r : List LRow} {left : List Int} {s : List Int} {i k n : Nat}
theorem pickR_len : (pickR r left).length = left.length := by simp [pickR]
theorem pickR_nth (hk : k < left.length) : nth (pickR r left) k = nth r (nth left k).toNat := by
  rw [nth_eq (by simpa [pickR] using hk), nth_eq hk]; simp [pickR]
def strayAt (l : Loop) (r : List LRow) (some_ : List LRow) (s : List Int) (i : Int) : Bool :=
  (holdB l.Start s && !holdB [nth r i.toNat] s) || (holdB some_ s && (nextL l s).any fun t => !holdB [nth r i.toNat] t)
def strayIn (l : Loop) (r : List LRow) (left : List Int) (i : Int) : Bool := (statesL l).any fun s => strayAt l r (pickR r left) s i
def dropBad (l : Loop) (r : List LRow) (left : List Int) : List Int := left.filter fun i => !strayIn l r left i
theorem InR.drop (h : InR r left) : InR r (dropBad l r left) := fun x hx => h x (List.mem_filter.1 hx).1
end
def Marks (m : List (Int × Bool)) (left : List Int) (g : Int → Bool) : Prop := ∀ i, mget m i = if i ∈ left ∧ g i = true then some true else none
section
variable {m : List (Int × Bool)} {left : List Int} {g : Int → Bool} {i : Int} {k : Nat}
theorem Marks.nil : Marks [] left fun _ => false := fun i => by simp [mget]
theorem Marks.congr {g' : Int → Bool} (h : Marks m left g) (hg : ∀ i ∈ left, g i = g' i) : Marks m left g' := fun i => by
  rw [h i]
  by_cases hi : i ∈ left
  · simp [hi, hg i hi]
  · simp [hi]
theorem Marks.set (h : Marks m left g) (hi : i ∈ left) : Marks (mset m i true) left fun j => g j || decide (j = i) := fun j => by
  rw [mget_mset]
  by_cases hj : i = j
  · subst hj; simp [hi]
  · rw [if_neg hj, h j]
    have : ¬ j = i := fun e => hj e.symm
    simp [this]
theorem Marks.getD (h : Marks m left g) (hi : i ∈ left) : (mget m i).getD false = g i := by
  rw [h i]
  cases hg : g i <;> simp [hi]
theorem Marks.none (h : Marks m left g) (hm : (m.length : Int) = 0) : ∀ i ∈ left, g i = false := fun i hi => by
  have e : m = [] := List.eq_nil_of_length_eq_zero (by omega)
  have := h.getD hi
  rw [← this, e]; rfl
theorem Marks.some (h : Marks m left g) (hm : (m.length : Int) ≠ 0) : ∃ i ∈ left, g i = true := by
  match m, hm with
  | (i, b) :: m, _ =>
    have := h i
    rw [mget, if_pos rfl] at this
    by_cases hc : i ∈ left ∧ g i = true
    · exact ⟨i, hc.1, hc.2⟩
    · rw [if_neg hc] at this; cases this
end
section
variable {m mk : List (Int × Bool)} {left : List Int} {gq b : Int → Bool} {k : Nat}
end
theorem HoldOk.one {r : List LRow} {s : List Int} (h : HoldOk r s) {k : Nat} (hk : k < r.length) : HoldOk [nth r k] s where
  len j hj := by
    have : j = 0 := by simpa using hj
    subst this; exact h.len k hk
  mul j hj := by
    have : j = 0 := by simpa using hj
    subst this; exact h.mul k hk
  sum j hj := by
    have : j = 0 := by simpa using hj
    subst this; exact h.sum k hk
  kind j hj := by
    have : j = 0 := by simpa using hj
    subst this; exact h.kind k hk
theorem HoldOk.pick {r : List LRow} {s : List Int} {left : List Int} (h : HoldOk r s) (hin : InR r left) : HoldOk (pickR r left) s where
  len j hj := by
    rw [pickR_len] at hj; have := hin _ (nth_mem hj)
    rw [pickR_nth hj]; exact h.len _ (by omega)
  mul j hj := by
    rw [pickR_len] at hj; have := hin _ (nth_mem hj)
    rw [pickR_nth hj]; exact h.mul _ (by omega)
  sum j hj := by
    rw [pickR_len] at hj; have := hin _ (nth_mem hj)
    rw [pickR_nth hj]; exact h.sum _ (by omega)
  kind j hj := by
    rw [pickR_len] at hj; have := hin _ (nth_mem hj)
    rw [pickR_nth hj]; exact h.kind _ (by omega)
section
variable {l : Loop} {r : List LRow} {left s : List Int} {m : List (Int × Bool)} {g1 : Int → Bool} {j q : Nat}
end
section
variable {xs C : List Int} {gp : Int → Bool} {i j : Nat}
end
end Go.Um
namespace Go.Um
section
variable {P : Program} {o : Oper} {U : Nat → Prop} {f : Fr} {H : Heap}
theorem q_eqlT {t u : TypeId} {x y : Operand} {a b : Int} (ho : o.op = .binOp .eql t x y u) (hx : ev f x = I a) (hy : ev f y = I b) (h : a = b) : Quiet P o U f H (B true) := by
  have := q_eql (P := P) (U := U) (H := H) ho hx hy
  rwa [decide_eq_true h] at this
end
section
variable {l : Loop} {r : List LRow} {sm : List Int}
end
end Go.Um
