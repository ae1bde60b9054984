/- Reading and writing, as the walks use it. -/
import Derived.Test.YtacphjgolmolmaaUmRow
namespace Go.Um
open GoT (sz ag rdc)
open Go.RowKit

theorem labU_sub {ul : List (List Nat)} {blk : Nat → Nat → Prop} {q : Nat} {S : Nat → Prop} (ls : List Nat) (hu : ul.getD q [] = ls) (h : ∀ l ∈ ls, ∀ b, blk l b → S b) : ∀ b, labU ul blk q b → S b := by
  rintro b ⟨l, hl, hb⟩
  rw [hu] at hl
  exact h l hl b hb
theorem labU_not {ul : List (List Nat)} {blk : Nat → Nat → Prop} {q b : Nat} (ls : List Nat) (hu : ul.getD q [] = ls) (h : ∀ l ∈ ls, ¬ blk l b) : ¬ labU ul blk q b := by
  rintro ⟨l, hl, hb⟩
  rw [hu] at hl
  exact h l hl hb
theorem labS_of {lab : List (Option Nat)} {blk : Nat → Nat → Prop} {i : Nat} {S : Nat → Prop} (l : Nat) (h : lab[i]? = some (some l)) (hs : ∀ b, S b → blk l b) : ∀ b, S b → labS lab blk i b := fun b hb => ⟨l, h, hs b hb⟩

/-- The address of the element k of a slice value. -/
def eptr (s : Nat) (v : Value) (k : Nat) : Value :=
  match v with
  | .slice (some a) _ _ => .pointer (some ⟨a.block, a.off + k * s, none⟩)
  | _ => undef

/-- x[lo:hi] of a slice value, where the lower bound is k, the upper one m. -/
def sliceV (s : Nat) (v : Value) (k m : Nat) : Value :=
  match v with
  | .slice a _ c => .slice (if c = k then a else a.map (·.add (k * s))) (m - k) (c - k)
  | _ => undef

/-- What the element's type is like. -/
structure OneT (P : Program) (t : TypeId) : Prop where
  agg : ∀ w, (isAgg t).run P w = .ok false w
structure AggT (P : Program) (t : TypeId) (n : Nat) : Prop where
  agg : ∀ w, (isAgg t).run P w = .ok true w
  size : ∀ w, (sizeOf t).run P w = .ok n w
def ElT (P : Program) (α : Type) [GoT α] (t : TypeId) : Prop := (∀ w, (isAgg t).run P w = .ok (ag α) w) ∧ ∀ w, (sizeOf t).run P w = .ok (sz α) w

/-- Reads from a value's elements. -/
def LoadE (P : Program) (U : Nat → Prop) (H : Heap) (t : TypeId) (s : Nat) (v : Value) (k : Nat) (u : Value) : Prop :=
  ∃ b off n c, v = .slice (some ⟨b, off, none⟩) n c ∧ LoadS P U H t b (off + k * s) u

section
variable {α : Type} [GoT α] {P : Program} {o : Oper} {U S : Nat → Prop} {f : Fr} {H H0 : Heap} {M S0 : Nat → Prop} {L : List Ent} {next : FP}

theorem St.rdl {v : Value} {l : List α} (h : St H0 M S0 L H) (k : Nat) (hk : L[k]? = some (rdE v l)) : RdL NoB H v l := Rd.list.1 (h.lookR hk).no
theorem St.rowl {t : TypeId} {v : Value} {l : List α} (h : St H0 M S0 L H) (k : Nat) (hk : L[k]? = some (rowE t v l)) : RdL NoB H v l := Rd.list.1 (h.look hk)
theorem St.rdS {v : Value} {x : α} (h : St H0 M S0 L H) (k : Nat) (hk : L[k]? = some (rdE v x)) : Rd (SL S0 L) H v x := h.lookR hk
theorem St.rdN {v : Value} {x : α} (h : St H0 M S0 L H) (k : Nat) (hk : L[k]? = some (rdE v x)) : Rd NoB H v x := (h.lookR hk).no
theorem St.rowN {t : TypeId} {v : Value} {l : List α} (h : St H0 M S0 L H) (k : Nat) (hk : L[k]? = some (rowE t v l)) : Rd NoB H v l := h.look hk
theorem St.blk {g : Nat} {ob : Obj} (h : St H0 M S0 L H) (k : Nat) (hk : L[k]? = some (blkE g ob)) : H[g]? = some ob := h.get k hk

theorem RdL.sub {v : Value} {l : List α} {S' : Nat → Prop} (h : RdL S H v l) (hs : ∀ b, S' b → S b) : RdL S' H v l := h.ext (.refl _ _) fun b _ h => hs b h
theorem RdL.bound {v : Value} {l : List α} (h : RdL S H v l) : l.length * GoT.bytes α ≤ 140737488355328 := by
  obtain ⟨a, n, c, cl, rfl, hn, hc, hm, hb, _⟩ := h; exact hb
theorem RdL.small {v : Value} {l : List α} (h : RdL S H v l) : l.length ≤ 9223372036854775807 := by
  obtain ⟨a, n, c, cl, rfl, hn, hc, hm, hb, _⟩ := h; simp only [maxLen] at hm; omega

theorem q_lenRd {x : Operand} {t e : TypeId} {v : Value} {l : List α} (ho : o.op = .call { callee := .builtin .len, args := #[x], argTypes := #[t] }) (ht : P.underlying t = some (.slice e))
    (hx : ev f x = v) (hR : RdL S H v l) : Quiet P o U f H (I l.length) := by
  obtain ⟨a, n, c, cl, rfl, hn, _⟩ := hR
  subst hn
  exact q_len ho ht hx

theorem q_indexRd {t e : TypeId} {x i : Operand} {v : Value} {l : List α} {z : Int} {k : Nat} (ho : o.op = .indexAddr t x i) (ht : P.underlying t = some (.slice e)) (hE : ElT P α e)
    (hx : ev f x = v) (hi : ev f i = I z) (hR : RdL S H v l) (hk : z = (k : Int)) (hlt : k < l.length) : Quiet P o U f H (eptr (sz α) v k) := by
  obtain ⟨a, n, c, cl, rfl, hn, hnc, hcm, hby, hcl, hp⟩ := hR
  obtain ⟨b, off, rfl, hsb, hcells⟩ := hp (fun h0 => by rw [h0] at hlt; simp at hlt)
  exact q_indexAddr ho ht hE.2 hx hi hk (by omega)

theorem RdL.loadS {v : Value} {l : List α} {k : Nat} (hR : RdL S H v l) (hlt : k < l.length) : ∃ cs, rdc S H cs (nth l k) ∧
    ∀ (P : Program) (t : TypeId) (U : Nat → Prop), ElT P α t → (∀ b, U b → S b) → LoadE P U H t (sz α) v k (valOf (ag α) cs) := by
  obtain ⟨a, n, c, cl, rfl, hn, hnc, hcm, hby, hcl, hp⟩ := hR
  obtain ⟨b, off, rfl, hsb, hcells⟩ := hp (fun h0 => by rw [h0] at hlt; simp at hlt)
  obtain ⟨cs, hr, hc⟩ := hcl.nth hlt
  have hlen := GoT.len hr
  refine ⟨cs, hr, fun P t U hE hU => ⟨b, off, n, c, rfl, ?_⟩⟩
  have hcell : ∀ j, j < cs.length → hcell H b (off + k * sz α + j) = cs[j]? := by
    intro j hj
    rw [← hc j hj, Nat.add_assoc]
    refine hcells _ ?_
    rw [hcl.len]
    have : (k + 1) * sz α ≤ l.length * sz α := Nat.mul_le_mul_right _ (by omega)
    rw [Nat.succ_mul] at this
    omega
  cases hag : ag α with
  | true =>
    have h1 := loadS_agg (P := P) (U := U) (H := H) (t := t) (b := b) (o := off + k * sz α) cs (by rw [← hag]; exact hE.1) (by rw [hlen]; exact hE.2) hcell (fun h => hsb (hU b h))
    simpa [valOf] using h1
  | false =>
    have h1 := GoT.one hag
    match cs, hlen, hcell with
    | [], hlen, _ => rw [h1] at hlen; cases hlen
    | c0 :: rest, hlen, hcell =>
      have h0 := hcell 0 (by simp)
      exact loadS_one (by rw [← hag]; exact hE.1) (by simpa [valOf] using h0) (fun h => hsb (hU b h))

/-- The element k of a slice that is read. -/
theorem RdL.elem {v : Value} {l : List α} (hR : RdL S H v l) (k : Nat) (hlt : k < l.length) : ∃ u, Rd S H u (nth l k) ∧
    ∀ (P : Program) (t : TypeId) (U : Nat → Prop), ElT P α t → (∀ b, U b → S b) → LoadE P U H t (sz α) v k u := by
  obtain ⟨cs, hr, h⟩ := hR.loadS hlt
  exact ⟨_, ⟨cs, hr, rfl⟩, h⟩

theorem q_loadE {t : TypeId} {x : Operand} {s k : Nat} {v u : Value} (ho : o.op = .load t x) (hx : ev f x = eptr s v k) (hl : LoadE P U H t s v k u) : Quiet P o U f H u := by
  obtain ⟨b, off, n, c, rfl, hl⟩ := hl
  exact q_load ho hx hl

theorem q_loadInt {t : TypeId} {x : Operand} {v : Value} {l : List Int} {k : Nat} (ho : o.op = .load t x) (hx : ev f x = eptr 1 v k) (hE : ElT P Int t) (hR : RdL S H v l) (hlt : k < l.length)
    (hU : ∀ b, U b → S b) : Quiet P o U f H (I (nth l k)) := by
  obtain ⟨u, hu, hl⟩ := hR.elem k hlt
  obtain ⟨rfl, _⟩ := Rd.int.1 hu
  exact q_loadE ho hx (hl P t U hE hU)
theorem q_loadBool {t : TypeId} {x : Operand} {v : Value} {l : List Bool} {k : Nat} (ho : o.op = .load t x) (hx : ev f x = eptr 1 v k) (hE : ElT P Bool t) (hR : RdL S H v l) (hlt : k < l.length)
    (hU : ∀ b, U b → S b) : Quiet P o U f H (B (nth l k)) := by
  obtain ⟨u, hu, hl⟩ := hR.elem k hlt
  obtain rfl := Rd.bool.1 hu
  exact q_loadE ho hx (hl P t U hE hU)
theorem RdL.in64 {v : Value} {l : List Int} (hR : RdL S H v l) {k : Nat} (hlt : k < l.length) : In64 (nth l k) := by
  obtain ⟨u, hu, _⟩ := hR.elem k hlt
  exact (Rd.int.1 hu).2

/-- A field, or the whole, of a block of the call's own. -/
theorem q_loadBlk {t t' : TypeId} {x : Operand} {g i : Nat} {cs : Array Value} {fr : Nat × Nat} {v : Value} (ho : o.op = .load t x) (hx : ev f x = PT g i) (hE : ∀ w, (isAgg t).run P w = .ok false w)
    (hb : H[g]? = some (.cells cs t' fr)) (hv : cs[i]? = some v) (hU : ¬ U g) : Quiet P o U f H v :=
  q_load ho hx (loadS_one hE (by simp [hcell, hb, hv]) hU)
theorem q_loadBlkA {t t' : TypeId} {x : Operand} {g n : Nat} {cs : Array Value} {fr : Nat × Nat} (ho : o.op = .load t x) (hx : ev f x = PT g 0) (hE : ∀ w, (isAgg t).run P w = .ok true w)
    (hz : ∀ w, (sizeOf t).run P w = .ok n w) (hn : cs.size = n) (hb : H[g]? = some (.cells cs t' fr)) (hU : ¬ U g) : Quiet P o U f H (.agg cs) := by
  have := loadS_agg (P := P) (U := U) (H := H) (t := t) (b := g) (o := 0) cs.toList hE (by simpa [hn] using hz) (fun j _ => by simp [hcell, hb]) hU
  exact q_load ho hx (by simpa using this)
theorem loadV_blkA {t t' : TypeId} {g n : Nat} {cs : Array Value} {fr : Nat × Nat} (hE : ∀ w, (isAgg t).run P w = .ok true w)
    (hz : ∀ w, (sizeOf t).run P w = .ok n w) (hn : cs.size = n) (hb : H[g]? = some (.cells cs t' fr)) : LoadV P H t ⟨g, 0, none⟩ (.agg cs) := by
  have := loadS_agg (P := P) (U := NoB) (H := H) (t := t) (b := g) (o := 0) cs.toList hE (by simpa [hn] using hz) (fun j _ => by simp [hcell, hb]) (fun h => h)
  simpa using this.now
theorem loadV_blk {t t' : TypeId} {g i : Nat} {cs : Array Value} {fr : Nat × Nat} {v : Value} (hE : ∀ w, (isAgg t).run P w = .ok false w)
    (hb : H[g]? = some (.cells cs t' fr)) (hv : cs[i]? = some v) : LoadV P H t ⟨g, i, none⟩ v :=
  (loadS_one (U := NoB) hE (by simp [hcell, hb, hv]) (fun h => h)).now

theorem sliceV_rd {v : Value} {l : List α} {k m : Nat} (hR : RdL S H v l) (hk : k ≤ m) (hm : m ≤ l.length) : RdL S H (sliceV (sz α) v k m) ((l.take m).drop k) := by
  obtain ⟨a, n, c, cl, rfl, hn, hnc, hcm, hby, hcl, hp⟩ := hR
  refine ⟨_, _, _, (cl.take (m * sz α)).drop (k * sz α), rfl, by simp [List.length_take, Nat.min_eq_left hm], by omega, by omega, ?_, (hcl.take m).drop k, fun hne => ?_⟩
  · refine Nat.le_trans (Nat.mul_le_mul_right _ ?_) hby
    simp only [List.length_drop, List.length_take]; omega
  · have hlt : k < m := by
      rcases Nat.lt_or_ge k m with h | h
      · exact h
      · exact (hne (List.drop_of_length_le (by simp only [List.length_take]; omega))).elim
    obtain ⟨b, off, rfl, hsb, hcells⟩ := hp (fun h0 => by rw [h0] at hm; simp at hm; omega)
    refine ⟨b, off + k * sz α, by rw [if_neg (by omega)]; simp [add_off], hsb, ?_⟩
    intro j hj
    have hl := hcl.len
    simp only [List.length_drop, List.length_take] at hj
    rw [Nat.add_assoc, hcells _ (by omega), List.getElem?_drop, List.getElem?_take, if_pos (by omega)]

theorem sliceV_lo {v : Value} {l : List α} {k : Nat} (hR : RdL S H v l) (hk : k ≤ l.length) : RdL S H (sliceV (sz α) v k l.length) (l.drop k) := by
  have := sliceV_rd (k := k) (m := l.length) hR hk (Nat.le_refl _)
  rwa [List.take_length] at this
theorem sliceV_hi {v : Value} {l : List α} {m : Nat} (hR : RdL S H v l) (hm : m ≤ l.length) : RdL S H (sliceV (sz α) v 0 m) (l.take m) := by
  have := sliceV_rd (k := 0) (m := m) hR (Nat.zero_le _) hm
  rwa [List.drop_zero] at this

theorem q_sliceRd {t e : TypeId} {x : Operand} {lo hi : Option Operand} {v : Value} {l : List α} {k m : Nat} (ho : o.op = .slice t x lo hi none) (ht : P.underlying t = some (.slice e)) (hE : ElT P α e)
    (hx : ev f x = v) (hR : RdL S H v l) (hlo : (lo = none ∧ k = 0) ∨ ∃ y z, lo = some y ∧ ev f y = I z ∧ z = (k : Int)) (hhi : (hi = none ∧ m = l.length) ∨ ∃ y z, hi = some y ∧ ev f y = I z ∧ z = (m : Int))
    (hk : k ≤ m) (hm : m ≤ l.length) : Quiet P o U f H (sliceV (sz α) v k m) := by
  obtain ⟨a, n, c, cl, rfl, hn, hnc, hcm, hby, hcl, hp⟩ := hR
  subst hn
  intro w _
  have hz := hE.2
  have hmc : m ≤ c := by omega
  have e1 : (m : Int) ≤ (c : Int) := by omega
  have e2 : (k : Int) ≤ (m : Int) := by omega
  have e3 : (k : Int) ≤ (l.length : Int) := by omega
  rcases hlo with ⟨rfl, rfl⟩ | ⟨y, z, rfl, hy, rfl⟩ <;> rcases hhi with ⟨rfl, rfl⟩ | ⟨y', z', rfl, hy', rfl⟩ <;>
    simp [execOp, ho, hx, Instr.sliceAt, Instr.slice, Instr.sliceBounds, Instr.sliceBound, asIntOf, run_underlying ht, hz, sliceV, *]

theorem lo0 : ((none : Option Operand) = none ∧ 0 = 0) ∨ ∃ y z, (none : Option Operand) = some y ∧ ev f y = I z ∧ z = ((0 : Nat) : Int) := .inl ⟨rfl, rfl⟩
theorem lo1 {y : Operand} {z : Int} {k n : Nat} (hy : ev f y = I z) (hz : z = (k : Int)) : (some y = none ∧ k = n) ∨ ∃ y' z', some y = some y' ∧ ev f y' = I z' ∧ z' = (k : Int) := .inr ⟨y, z, rfl, hy, hz⟩
theorem hi0 {n : Nat} : ((none : Option Operand) = none ∧ n = n) ∨ ∃ y z, (none : Option Operand) = some y ∧ ev f y = I z ∧ z = (n : Int) := .inl ⟨rfl, rfl⟩

/-! loud operations -/

theorem e_alloc {t : TypeId} {z : Value} (ho : o.op = .alloc t) (hz : ∀ w, (zeroValue t).run P w = .ok z w) (h : St H0 M S0 L H)
    (hK : ∀ g H', St H0 M S0 (blkE g (.cells z.cells t) :: L) H' → Ext NoB H H' → next (updO f o.dst (PT g 0)) H') : OpE P o next f H := by
  intro w hw
  subst hw
  have : (execOp (ev f) o).run P w = .ok (.value (PT w.heap.size 0)) { w with heap := w.heap.push (.cells z.cells t) } := by
    simp [execOp, ho, Instr.alloc, hz, newVar, newRow, newObj, Sem.run]
  rw [this]
  exact ⟨⟨rfl, rfl, rfl⟩, hK _ _ (h.alloc _) (Ext.push _ _ _)⟩

theorem e_box {t : TypeId} {x : Operand} {v : Value} (ho : o.op = .box t x) (hx : ev f x = v) (h : St H0 M S0 L H)
    (hK : ∀ g H', St H0 M S0 (blkE g (.cells v.cells t) :: L) H' → Ext NoB H H' → next (updO f o.dst (PT g 0)) H') : OpE P o next f H := by
  intro w hw
  subst hw
  have : (execOp (ev f) o).run P w = .ok (.value (PT w.heap.size 0)) { w with heap := w.heap.push (.cells v.cells t) } := by
    simp [execOp, ho, hx, Instr.box, newVar, newRow, newObj, Sem.run]
  rw [this]
  exact ⟨⟨rfl, rfl, rfl⟩, hK _ _ (h.alloc _) (Ext.push _ _ _)⟩

theorem setCell_heap {w : World} {g i : Nat} {cs : Array Value} {t : TypeId} {fr : Nat × Nat} {v : Value} (hb : w.heap[g]? = some (.cells cs t fr)) :
    (w.setCell ⟨g, i, none⟩ v).heap[g]? = some (.cells (cs.setIfInBounds i v) t fr) := by
  simp [World.setCell, Array.getElem?_modify, hb]
theorem setCell_other {w : World} {g i b : Nat} {v : Value} (hne : b ≠ g) : (w.setCell ⟨g, i, none⟩ v).heap[b]? = w.heap[b]? := by
  simp only [World.setCell, Array.getElem?_modify]
  rw [if_neg (fun h => hne h.symm)]

/-- A store of one cell into a block of the call's own. -/
theorem e_storeBlk {t t' : TypeId} {x y : Operand} {g i : Nat} {cs : Array Value} {v : Value} (ho : o.op = .store t x y) (hx : ev f x = PT g i) (hy : ev f y = v) (hv : v.oneCell' = true)
    (hz : ∀ w, (sizeOf t).run P w = .ok 1 w) (hi : i < cs.size) (h : St H0 M S0 (blkE g (.cells cs t') :: L) H)
    (hK : ∀ H', St H0 M S0 (blkE g (.cells (cs.setIfInBounds i v) t') :: L) H' → Ext (fun b => b = g) H H' → next (updO f o.dst undef) H') : OpE P o next f H := by
  intro w hw
  subst hw
  have hb : w.heap[g]? = some (.cells cs t' (0, 0)) := h.head
  have hc : w.cell? ⟨g, i, none⟩ = some cs[i] := by rw [cell_hcell]; simp [hcell, hb, Array.getElem?_eq_getElem hi]
  have hf : w.frozen? ⟨g, i, none⟩ = false := by simp [World.frozen?, hb]
  have hvc : v.cells = #[v] := by cases v <;> first | rfl | simp [Value.oneCell'] at hv
  have : (execOp (ev f) o).run P w = .ok .skip (w.setCell ⟨g, i, none⟩ v) := by
    have hadd : (⟨g, i, none⟩ : Addr).add 0 = ⟨g, i, none⟩ := by simp [add_off]
    simp [execOp, ho, hx, hy, Instr.storeAt, Instr.sureAddr, storeVar, hvc, hz, storeCells, hadd, run_store, hc, hf, hv]
  rw [this]
  have hsz : (w.setCell ⟨g, i, none⟩ v).heap.size = w.heap.size := by simp [World.setCell]
  have hsame : ∀ b, b < w.heap.size → ¬ b = g → (w.setCell ⟨g, i, none⟩ v).heap[b]? = w.heap[b]? := fun b _ hne => setCell_other hne
  refine ⟨⟨rfl, rfl, rfl⟩, hK _ (h.upd0 (by rw [hsz]; exact Nat.le_refl _) hsame (fun b hb => .inl hb) (setCell_heap hb)) ⟨by rw [hsz]; exact Nat.le_refl _, hsame⟩⟩

theorem arr0 : (#[] : Array Operand).map (ev f) = #[] := by simp
theorem par0 : (#[] : Array (Nat × Operand)).map (fun (i, x) => (i, ev f x)) = #[] := by simp
theorem arr1 {s0 : Operand} {v0 : Value} (h0 : ev f s0 = v0) : (#[s0] : Array Operand).map (ev f) = #[v0] := by subst h0; simp
theorem par1 {j0 : Nat} {s0 : Operand} {v0 : Value} (h0 : ev f s0 = v0) : (#[(j0, s0)] : Array (Nat × Operand)).map (fun (i, x) => (i, ev f x)) = #[(j0, v0)] := by subst h0; simp
theorem arr2 {s0 s1 : Operand} {v0 v1 : Value} (h0 : ev f s0 = v0) (h1 : ev f s1 = v1) : (#[s0, s1] : Array Operand).map (ev f) = #[v0, v1] := by subst h0 h1; simp
theorem par2 {j0 j1 : Nat} {s0 s1 : Operand} {v0 v1 : Value} (h0 : ev f s0 = v0) (h1 : ev f s1 = v1) : (#[(j0, s0), (j1, s1)] : Array (Nat × Operand)).map (fun (i, x) => (i, ev f x)) = #[(j0, v0), (j1, v1)] := by subst h0 h1; simp
theorem arr3 {s0 s1 s2 : Operand} {v0 v1 v2 : Value} (h0 : ev f s0 = v0) (h1 : ev f s1 = v1) (h2 : ev f s2 = v2) : (#[s0, s1, s2] : Array Operand).map (ev f) = #[v0, v1, v2] := by subst h0 h1 h2; simp
theorem par3 {j0 j1 j2 : Nat} {s0 s1 s2 : Operand} {v0 v1 v2 : Value} (h0 : ev f s0 = v0) (h1 : ev f s1 = v1) (h2 : ev f s2 = v2) : (#[(j0, s0), (j1, s1), (j2, s2)] : Array (Nat × Operand)).map (fun (i, x) => (i, ev f x)) = #[(j0, v0), (j1, v1), (j2, v2)] := by subst h0 h1 h2; simp
theorem arr4 {s0 s1 s2 s3 : Operand} {v0 v1 v2 v3 : Value} (h0 : ev f s0 = v0) (h1 : ev f s1 = v1) (h2 : ev f s2 = v2) (h3 : ev f s3 = v3) : (#[s0, s1, s2, s3] : Array Operand).map (ev f) = #[v0, v1, v2, v3] := by subst h0 h1 h2 h3; simp
theorem par4 {j0 j1 j2 j3 : Nat} {s0 s1 s2 s3 : Operand} {v0 v1 v2 v3 : Value} (h0 : ev f s0 = v0) (h1 : ev f s1 = v1) (h2 : ev f s2 = v2) (h3 : ev f s3 = v3) : (#[(j0, s0), (j1, s1), (j2, s2), (j3, s3)] : Array (Nat × Operand)).map (fun (i, x) => (i, ev f x)) = #[(j0, v0), (j1, v1), (j2, v2), (j3, v3)] := by subst h0 h1 h2 h3; simp
theorem arr5 {s0 s1 s2 s3 s4 : Operand} {v0 v1 v2 v3 v4 : Value} (h0 : ev f s0 = v0) (h1 : ev f s1 = v1) (h2 : ev f s2 = v2) (h3 : ev f s3 = v3) (h4 : ev f s4 = v4) : (#[s0, s1, s2, s3, s4] : Array Operand).map (ev f) = #[v0, v1, v2, v3, v4] := by subst h0 h1 h2 h3 h4; simp
theorem par5 {j0 j1 j2 j3 j4 : Nat} {s0 s1 s2 s3 s4 : Operand} {v0 v1 v2 v3 v4 : Value} (h0 : ev f s0 = v0) (h1 : ev f s1 = v1) (h2 : ev f s2 = v2) (h3 : ev f s3 = v3) (h4 : ev f s4 = v4) : (#[(j0, s0), (j1, s1), (j2, s2), (j3, s3), (j4, s4)] : Array (Nat × Operand)).map (fun (i, x) => (i, ev f x)) = #[(j0, v0), (j1, v1), (j2, v2), (j3, v3), (j4, v4)] := by subst h0 h1 h2 h3 h4; simp
theorem arr6 {s0 s1 s2 s3 s4 s5 : Operand} {v0 v1 v2 v3 v4 v5 : Value} (h0 : ev f s0 = v0) (h1 : ev f s1 = v1) (h2 : ev f s2 = v2) (h3 : ev f s3 = v3) (h4 : ev f s4 = v4) (h5 : ev f s5 = v5) : (#[s0, s1, s2, s3, s4, s5] : Array Operand).map (ev f) = #[v0, v1, v2, v3, v4, v5] := by subst h0 h1 h2 h3 h4 h5; simp
theorem par6 {j0 j1 j2 j3 j4 j5 : Nat} {s0 s1 s2 s3 s4 s5 : Operand} {v0 v1 v2 v3 v4 v5 : Value} (h0 : ev f s0 = v0) (h1 : ev f s1 = v1) (h2 : ev f s2 = v2) (h3 : ev f s3 = v3) (h4 : ev f s4 = v4) (h5 : ev f s5 = v5) : (#[(j0, s0), (j1, s1), (j2, s2), (j3, s3), (j4, s4), (j5, s5)] : Array (Nat × Operand)).map (fun (i, x) => (i, ev f x)) = #[(j0, v0), (j1, v1), (j2, v2), (j3, v3), (j4, v4), (j5, v5)] := by subst h0 h1 h2 h3 h4 h5; simp
theorem arr7 {s0 s1 s2 s3 s4 s5 s6 : Operand} {v0 v1 v2 v3 v4 v5 v6 : Value} (h0 : ev f s0 = v0) (h1 : ev f s1 = v1) (h2 : ev f s2 = v2) (h3 : ev f s3 = v3) (h4 : ev f s4 = v4) (h5 : ev f s5 = v5) (h6 : ev f s6 = v6) : (#[s0, s1, s2, s3, s4, s5, s6] : Array Operand).map (ev f) = #[v0, v1, v2, v3, v4, v5, v6] := by subst h0 h1 h2 h3 h4 h5 h6; simp
theorem par7 {j0 j1 j2 j3 j4 j5 j6 : Nat} {s0 s1 s2 s3 s4 s5 s6 : Operand} {v0 v1 v2 v3 v4 v5 v6 : Value} (h0 : ev f s0 = v0) (h1 : ev f s1 = v1) (h2 : ev f s2 = v2) (h3 : ev f s3 = v3) (h4 : ev f s4 = v4) (h5 : ev f s5 = v5) (h6 : ev f s6 = v6) : (#[(j0, s0), (j1, s1), (j2, s2), (j3, s3), (j4, s4), (j5, s5), (j6, s6)] : Array (Nat × Operand)).map (fun (i, x) => (i, ev f x)) = #[(j0, v0), (j1, v1), (j2, v2), (j3, v3), (j4, v4), (j5, v5), (j6, v6)] := by subst h0 h1 h2 h3 h4 h5 h6; simp
theorem arr8 {s0 s1 s2 s3 s4 s5 s6 s7 : Operand} {v0 v1 v2 v3 v4 v5 v6 v7 : Value} (h0 : ev f s0 = v0) (h1 : ev f s1 = v1) (h2 : ev f s2 = v2) (h3 : ev f s3 = v3) (h4 : ev f s4 = v4) (h5 : ev f s5 = v5) (h6 : ev f s6 = v6) (h7 : ev f s7 = v7) : (#[s0, s1, s2, s3, s4, s5, s6, s7] : Array Operand).map (ev f) = #[v0, v1, v2, v3, v4, v5, v6, v7] := by subst h0 h1 h2 h3 h4 h5 h6 h7; simp
theorem par8 {j0 j1 j2 j3 j4 j5 j6 j7 : Nat} {s0 s1 s2 s3 s4 s5 s6 s7 : Operand} {v0 v1 v2 v3 v4 v5 v6 v7 : Value} (h0 : ev f s0 = v0) (h1 : ev f s1 = v1) (h2 : ev f s2 = v2) (h3 : ev f s3 = v3) (h4 : ev f s4 = v4) (h5 : ev f s5 = v5) (h6 : ev f s6 = v6) (h7 : ev f s7 = v7) : (#[(j0, s0), (j1, s1), (j2, s2), (j3, s3), (j4, s4), (j5, s5), (j6, s6), (j7, s7)] : Array (Nat × Operand)).map (fun (i, x) => (i, ev f x)) = #[(j0, v0), (j1, v1), (j2, v2), (j3, v3), (j4, v4), (j5, v5), (j6, v6), (j7, v7)] := by subst h0 h1 h2 h3 h4 h5 h6 h7; simp

theorem q_max {x y : Operand} {ts : Array TypeId} {a b : Int} (ho : o.op = .call { callee := .builtin .max, args := #[x, y], argTypes := ts }) (hx : ev f x = I a) (hy : ev f y = I b) : Quiet P o U f H (I (max a b)) := by
  intro w _
  have : (if b > a then b else a) = max a b := by split <;> omega
  simp [execOp, ho, hx, hy, resolve, invoke, builtin, Builtin.max_, Builtin.max2, this]

theorem oneCell_rdL {v : Value} {l : List α} (h : RdL S H v l) : v.oneCell' = true := by
  obtain ⟨a, n, c, cl, rfl, _⟩ := h; rfl

/-- A store of a whole struct into a block of the call's own. -/
theorem e_storeBlkA {t t' : TypeId} {x y : Operand} {g n : Nat} {cs cs' : Array Value} (ho : o.op = .store t x y) (hx : ev f x = PT g 0) (hy : ev f y = .agg cs')
    (hz : ∀ w, (sizeOf t).run P w = .ok n w) (hn : cs'.size = n) (hn2 : cs.size = n) (hv : ∀ v ∈ cs'.toList, v.oneCell' = true) (h : St H0 M S0 (blkE g (.cells cs t') :: L) H)
    (hK : ∀ H', St H0 M S0 (blkE g (.cells cs' t') :: L) H' → Ext (fun b => b = g) H H' → next (updO f o.dst undef) H') : OpE P o next f H := by
  intro w hw
  subst hw
  have hb : w.heap[g]? = some (.cells cs t' (0, 0)) := h.head
  have hst := run_storeCells_at P g 0 t' cs'.toList 0 cs w hb (by simp [hn, hn2]) hv
  have hset : cs.toList.take (0 + 0) ++ cs'.toList ++ cs.toList.drop (0 + 0 + cs'.toList.length) = cs'.toList := by
    simp [hn, ← hn2]
  have hrun : (execOp (ev f) o).run P w = .ok .skip (w.setRow g cs') := by
    simp only [hset, Array.toArray_toList] at hst
    have hcells : (Value.agg cs').cells = cs' := rfl
    have hst' : (storeCells ⟨g, 0, none⟩ cs'.toList).run P w = .ok () (w.setRow g cs') := by simpa using hst
    simp [execOp, ho, hx, hy, Instr.storeAt, Instr.sureAddr, storeVar, hcells, hz, hn, hst']
  rw [hrun]
  have hsz : (w.setRow g cs').heap.size = w.heap.size := by simp [World.setRow]
  have hsame : ∀ b, b < w.heap.size → ¬ b = g → (w.setRow g cs').heap[b]? = w.heap[b]? := fun b _ hne => setRow_other w g b _ hne
  refine ⟨⟨rfl, rfl, rfl⟩, hK _ (h.upd0 (by rw [hsz]; exact Nat.le_refl _) hsame (fun b hb => .inl hb) (setRow_heap w g cs cs' t' _ hb)) ⟨by rw [hsz]; exact Nat.le_refl _, hsame⟩⟩

theorem St.dis {e e' : Ent} (h : St H0 M S0 L H) (i j : Nat) (hij : i < j) (hi : L[i]? = some e) (hj : L[j]? = some e') : ∀ b, e.blocks b → ¬ e'.blocks b := by
  obtain ⟨h1, rfl⟩ := List.getElem?_eq_some_iff.1 hi
  obtain ⟨h2, rfl⟩ := List.getElem?_eq_some_iff.1 hj
  exact List.pairwise_iff_getElem.1 h.dj i j h1 h2 hij
theorem St.inSL {e : Ent} (i : Nat) (hi : L[i]? = some e) {b : Nat} (hb : e.blocks b) : SL S0 L b := .inr ⟨e, List.mem_of_getElem? hi, hb⟩
theorem RdL.slc {v : Value} {l : List α} (h : RdL S H v l) (F : Value → Prop) (hF : ∀ a n c, F (.slice a n c)) : F v := by
  obtain ⟨a, n, c, cl, rfl, _⟩ := h; exact hF a n c
end
end Go.Um
