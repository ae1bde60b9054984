/- Slices made; elements stored. -/
import Derived.Test.YtacphjgolmolmaaUmMap
namespace Go.Um
open GoT (sz ag rdc)
open KeyT (kv)
open Go.RowKit

theorem map_range0 {γ : Type} (g : Nat → γ) : (Array.range 0).map g = #[] := by apply Array.ext'; simp

/-- Values with their places. -/
def enumV (k : Nat) : List Value → List (Nat × Value)
  | [] => []
  | v :: vs => (k, v) :: enumV (k + 1) vs

theorem foldl_set (cs : List Value) : ∀ (n : Nat) (pre post : List Value), pre.length = n → cs.length ≤ post.length →
    (cs.zipIdx).foldl (fun (a : Array Value) (c, j) => a.setIfInBounds (n + j) c) (pre ++ post).toArray = (pre ++ cs ++ post.drop cs.length).toArray := by
  suffices h : ∀ (cs : List Value) (m n : Nat) (pre post : List Value), pre.length = n + m → cs.length ≤ post.length →
      (cs.zipIdx m).foldl (fun (a : Array Value) (c, j) => a.setIfInBounds (n + j) c) (pre ++ post).toArray = (pre ++ cs ++ post.drop cs.length).toArray by
    intro n pre post h1 h2; exact h cs 0 n pre post (by simpa using h1) h2
  intro cs
  induction cs with
  | nil => intro m n pre post _ _; simp
  | cons c cs ih =>
    intro m n pre post h1 h2
    cases post with
    | nil => simp at h2
    | cons p post =>
      simp only [List.zipIdx_cons, List.foldl_cons]
      have : (pre ++ p :: post).toArray.setIfInBounds (n + m) c = ((pre ++ [c]) ++ post).toArray := by
        simp [← h1]
      rw [this, ih (m + 1) n (pre ++ [c]) post (by simp [h1]; omega) (by simpa using h2)]
      simp

theorem fill_enum (size : Nat) : ∀ (vs : List Value) (k : Nat) (pre post : List Value), (∀ v ∈ vs, v.cells.size = size) → pre.length = k * size → post.length = vs.length * size →
    Instr.fill (fun i => some (i * size, size)) (pre ++ post).toArray (enumV k vs) = some (pre ++ vs.flatMap (·.cells.toList)).toArray := by
  intro vs
  induction vs with
  | nil => intro k pre post _ _ h; simp at h; simp [enumV, Instr.fill, h]
  | cons v vs ih =>
    intro k pre post hv h1 h2
    have hs := hv v (by simp)
    have hp : size ≤ post.length := by rw [h2, List.length_cons, Nat.succ_mul]; omega
    simp only [enumV, Instr.fill]
    have e1 : (pre ++ post).toArray.size = k * size + post.length := by simp [h1]
    rw [if_neg (by simp only [hs, e1, ne_eq, not_true_eq_false, decide_false, Bool.false_or, decide_eq_true_eq]; omega)]
    have hz : v.cells.zipIdx.foldl (fun cs (x : Value × Nat) => cs.setIfInBounds (k * size + x.2) x.1) (pre ++ post).toArray = (pre ++ v.cells.toList ++ post.drop v.cells.toList.length).toArray := by
      rw [← Array.foldl_toList, Array.toList_zipIdx]
      exact foldl_set v.cells.toList (k * size) pre post h1 (by simpa [hs] using hp)
    rw [hz, ih (k + 1) (pre ++ v.cells.toList) _ (fun u hu => hv u (by simp [hu])) (by simp [h1, hs, Nat.succ_mul]) (by simp [h2, hs, Nat.succ_mul])]
    simp

section
variable {α : Type} [GoT α] {P : Program} {o : Oper} {f : Fr} {H0 H : Heap} {M S0 S : Nat → Prop} {L : List Ent} {next : FP}

theorem rd_cells {v : Value} {x : α} (h : Rd S H v x) : v.cells.size = sz α ∧ rdc S H v.cells.toList x := by
  obtain ⟨cs, hr, rfl⟩ := h
  have hl := GoT.len hr
  cases hag : ag α with
  | true => simp [valOf, Value.cells, hl, hr]
  | false =>
    have h1 := GoT.one hag
    match cs, hl with
    | [], hl => rw [h1] at hl; cases hl
    | [c], hl =>
      have hc := GoT.cell hr c (by simp)
      have : (valOf false [c]).cells = #[c] := by
        simp only [valOf, List.headD_cons]
        cases c <;> first | rfl | simp [Value.oneCell'] at hc
      rw [this]
      exact ⟨by simp [h1], hr⟩
    | _ :: _ :: _, hl => rw [h1] at hl; simp at hl

/-- Values that read as a list, one each. -/
inductive RdVs (S : Nat → Prop) (H : Heap) : List Value → List α → Prop
  | nil : RdVs S H [] []
  | cons {v vs x xs} : Rd S H v x → RdVs S H vs xs → RdVs S H (v :: vs) (x :: xs)

theorem RdVs.len {vs : List Value} {xs : List α} (h : RdVs S H vs xs) : vs.length = xs.length := by induction h <;> simp [*]
theorem RdVs.cells {vs : List Value} {xs : List α} (h : RdVs S H vs xs) : RdCs S H (vs.flatMap (·.cells.toList)) xs := by
  induction h with
  | nil => rfl
  | cons hr _ ih => exact ⟨_, _, by simp, (rd_cells hr).2, ih⟩
theorem RdVs.sizes {vs : List Value} {xs : List α} (h : RdVs S H vs xs) : ∀ v ∈ vs, v.cells.size = sz α := by
  induction h with
  | nil => simp
  | cons hr _ ih => intro u hu; rcases List.mem_cons.1 hu with rfl | hu; exact (rd_cells hr).1; exact ih u hu

/-- A new row, all of it used. -/
theorem St.newRow {e : TypeId} {cl : List Value} {xs : List α} (h : St H0 M S0 L H) (hr : RdCs (SL S0 L) H cl xs) (hb : xs.length * GoT.bytes α ≤ 140737488355328) (hm : xs.length ≤ maxLen) :
    St H0 M S0 (rowE e (.slice (some ⟨H.size, 0, none⟩) xs.length xs.length) xs :: L) (H.push (.cells cl.toArray e)) := by
  have h1 := h.alloc (.cells cl.toArray e)
  have hlt : ∀ b, b < H.size → SL S0 (rowE e (.slice (some ⟨H.size, 0, none⟩) xs.length xs.length) xs :: L) b → SL S0 L b := by
    rintro b hb (hs | ⟨e', he, hs⟩)
    · exact .inl hs
    · rcases List.mem_cons.1 he with rfl | h'
      · have : some H.size = some b := hs
        cases this; omega
      · exact .inr ⟨e', h', hs⟩
  refine h1.upd0 (Nat.le_refl _) (fun _ _ _ => rfl) ?_ ⟨hb, cl, hr.ext (Ext.push _ _ _) hlt, .inr ⟨H.size, xs.length, cl.toArray, rfl, h1.head, Nat.le_refl _, hm, by simp [hr.len], by simp [← hr.len]⟩⟩
  intro b hb'
  left
  have : some H.size = some b := hb'
  cases this
  rfl

theorem e_buildSlice {t e : TypeId} {n : Nat} {ps : Array (Nat × Operand)} {vs : List Value} {xs : List α} {z : Value} (ho : o.op = .buildSlice t n ps) (ht : P.underlying t = some (.slice e))
    (hz : ∀ w, (zeroValue e).run P w = .ok z w) (hzz : z.cells.size = sz α) (hs : ∀ w, (sizeOf e).run P w = .ok (sz α) w) (hp : (ps.map fun (i, x) => (i, ev f x)) = (enumV 0 vs).toArray) (hn : vs.length = n)
    (h : St H0 M S0 L H) (hr : RdVs (SL S0 L) H vs xs) (hb : n * sz α ≤ 16777216) (hbb : n * GoT.bytes α ≤ 140737488355328)
    (hK : ∀ v H', St H0 M S0 (rowE e v xs :: L) H' → Ext NoB H H' → (v = .slice (some ⟨H.size, 0, none⟩) n n) → next (updO f o.dst v) H') : OpE P o next f H := by
  intro w hw
  subst hw
  have hnx : n = xs.length := by rw [← hn, hr.len]
  have hzero : ∀ c : Array Value, c.size = sz α → ∃ l : List Value, (Array.range (n * sz α)).map (fun i => c[i % c.size]!) = l.toArray ∧ l.length = n * sz α := fun c _ => ⟨((Array.range (n * sz α)).map (fun i => c[i % c.size]!)).toList, by rw [Array.toArray_toList], by simp⟩
  have hrun : (execOp (ev f) o).run P w = .ok (.value (.slice (some ⟨w.heap.size, 0, none⟩) n n)) { w with heap := w.heap.push (.cells (vs.flatMap (·.cells.toList)).toArray e) } := by
    have h24 : ¬ (16777216 < n * sz α) := by omega
    simp only [execOp, ho]
    rw [hp]
    by_cases h0 : n * sz α = 0
    · have hn0 : n = 0 := by
        rcases Nat.mul_eq_zero.1 h0 with h | h
        · exact h
        · have := GoT.pos (α := α); omega
      have hv : vs = [] := List.eq_nil_of_length_eq_zero (by omega)
      subst hv
      subst hn0
      simp [Instr.buildSlice, run_underlying ht, hs, enumV, Instr.fill, newRow, newObj, Sem.run]
      exact congrArg (fun c => w.alloc (Obj.cells c e)) (map_range0 _)
    · obtain ⟨l, hl, hll⟩ := hzero z.cells hzz
      have hf := fill_enum (sz α) vs 0 [] l hr.sizes (by simp) (by rw [hll, hn])
      simp only [List.nil_append] at hf
      simp [Instr.buildSlice, run_underlying ht, hs, h24, h0, hz, hl, hf, newRow, newObj, Sem.run]
  rw [hrun]
  subst hnx
  refine ⟨⟨rfl, rfl, rfl⟩, hK _ _ (h.newRow (hr.cells) hbb ?_) (Ext.push _ _ _) rfl⟩
  have : 0 < sz α := GoT.pos
  have : xs.length ≤ xs.length * sz α := Nat.le_mul_of_pos_right _ this
  simp only [maxLen]; omega

theorem rdCs_rep {cs : List Value} {x : α} (h : rdc S H cs x) : ∀ n, RdCs S H (List.replicate n cs).flatten (List.replicate n x) := by
  intro n
  induction n with
  | zero => rfl
  | succ n ih => exact ⟨cs, _, by simp [List.replicate_succ], h, ih⟩

theorem rep_map (c : Array Value) (n : Nat) (h : 0 < c.size) : ((Array.range (n * c.size)).map fun i => c[i % c.size]!) = (List.replicate n c.toList).flatten.toArray := by
  apply Array.ext'
  simp only [Array.toList_map, Array.toList_range]
  induction n with
  | zero => simp
  | succ n ih =>
    rw [Nat.succ_mul, List.range_add, List.map_append, ih, List.replicate_succ', List.flatten_append]
    congr 1
    simp only [List.map_map, List.flatten_cons, List.flatten_nil, List.append_nil]
    apply List.ext_getElem
    · simp
    · intro i h1 h2
      simp only [List.length_map, List.length_range] at h1
      simp [Nat.mod_eq_of_lt h1, h1]

theorem e_makeSlice {t e : TypeId} {xl xc : Operand} {n : Nat} {zl : Int} {z : Value} {x0 : α} (ho : o.op = .makeSlice t xl xc) (ht : P.underlying t = some (.slice e))
    (hz : ∀ w, (zeroValue e).run P w = .ok z w) (hE : ElemOk P α e) (hs : ∀ w, (sizeOf e).run P w = .ok (sz α) w) (hl : ev f xl = I zl) (hc : ev f xc = I zl) (hzl : zl = (n : Int)) (hzr : ∀ S H, Rd S H z x0)
    (h : St H0 M S0 L H) (hb : n * GoT.bytes α ≤ 140737488355328) (hn : n ≤ 9223372036854775807)
    (hK : ∀ v H', St H0 M S0 (rowE e v (List.replicate n x0) :: L) H' → Ext NoB H H' → next (updO f o.dst v) H') : OpE P o next f H := by
  intro w hw
  subst hw
  subst hzl
  obtain ⟨i, z', hi, hz', hiz, hiby, hzz⟩ := hE.info
  have hwr : IntKind.i64.wrap (n : Int) = n := wrap_in ⟨by omega, by omega⟩
  have hti : ∀ w, (typeInfo e).run P w = .ok i w := fun w => by simp [typeInfo, hi]
  have hb1 : ¬ (281474976710656 < (i.bytes : Int) * (n : Int)) := by
    rw [hiby]
    have : ((GoT.bytes α : Nat) : Int) * (n : Int) = ((n * GoT.bytes α : Nat) : Int) := by rw [Int.natCast_mul, Int.mul_comm]
    rw [this]; omega
  have hroom : ∀ w : World, (askRoom (n * i.bytes)).run P w = .ok () w := by
    intro w; unfold askRoom roomBytes; rw [if_neg (by rw [hiby]; omega)]; simp
  have hcells := rd_cells (hzr NoB w.heap)
  have hrun : (execOp (ev f) o).run P w = .ok (.value (.slice (some ⟨w.heap.size, 0, none⟩) n n)) { w with heap := w.heap.push (.cells (List.replicate n z.cells.toList).flatten.toArray e) } := by
    by_cases h0 : n * sz α = 0
    · have hn0 : n = 0 := by
        rcases Nat.mul_eq_zero.1 h0 with h | h
        · exact h
        · have := GoT.pos (α := α); omega
      subst hn0
      simp only [execOp, ho, hl, hc, Instr.makeSlice, Sem.run_bind, run_underlying ht, Result.andThen_ok, asInt, asIntOf, Sem.run_pure, hti]
      simp [wrap_in (n := 0) ⟨by omega, by omega⟩, hs, newRow, newObj, Sem.run, askRoom]
      exact congrArg (fun c => w.alloc (Obj.cells c e)) (map_range0 _)
    · have hrep := rep_map z.cells n (by rw [hcells.1]; exact GoT.pos)
      rw [hcells.1] at hrep
      simp only [execOp, ho, hl, hc, Instr.makeSlice, Sem.run_bind, run_underlying ht, Result.andThen_ok, asInt, asIntOf, Sem.run_pure, hti]
      simp only [hwr, Int.toNat_natCast]
      have hneg : ¬ ((n : Int) < 0) := by omega
      simp [hb1, hroom, hs, h0, hz, hcells.1, hrep, hneg, newRow, newObj, Sem.run]
  rw [hrun]
  have hst := h.newRow (e := e) (cl := (List.replicate n z.cells.toList).flatten) (xs := List.replicate n x0) (rdCs_rep (rd_cells (hzr _ _)).2 n) (by simpa using hb) (by simp [maxLen]; omega)
  simp only [List.length_replicate] at hst
  exact ⟨⟨rfl, rfl, rfl⟩, hK _ _ hst (Ext.push _ _ _)⟩

theorem RdCs.set {xs : List α} {k : Nat} {y : α} {cs : List Value} (hy : rdc S H cs y) : ∀ {cl : List Value}, RdCs S H cl xs → k < xs.length →
    RdCs S H (cl.take (k * sz α) ++ cs ++ cl.drop (k * sz α + cs.length)) (xs.set k y) := by
  induction xs generalizing k with
  | nil => intro cl _ h; simp at h
  | cons x xs ih =>
    rintro cl ⟨c1, c2, rfl, h1, h2⟩ hk
    have hl1 := GoT.len h1
    have hly := GoT.len hy
    cases k with
    | zero => exact ⟨cs, c2, by simp [hl1, hly], hy, h2⟩
    | succ k =>
      refine ⟨c1, c2.take (k * sz α) ++ cs ++ c2.drop (k * sz α + cs.length), ?_, h1, ih h2 (by simpa using hk)⟩
      rw [Nat.succ_mul, List.take_append, List.take_of_length_le (by omega), List.drop_append, List.drop_of_length_le (by omega)]
      simp only [List.append_assoc, List.nil_append]
      congr 3
      · congr 1; omega
      · congr 1; congr 1; omega

/-- s[k] = x, of one cell. -/
theorem e_rowSet {t e : TypeId} {x y : Operand} {v u : Value} {xs : List α} {k : Nat} {y0 : α} (ho : o.op = .store t x y) (hx : ev f x = eptr (sz α) v k) (hy : ev f y = u) (hag : ag α = false)
    (hz : ∀ w, (sizeOf t).run P w = .ok 1 w) (hlt : k < xs.length) (h : St H0 M S0 (rowE e v xs :: L) H) (hr : Rd (SL S0 (rowE e v xs :: L)) H u y0)
    (hK : ∀ H', St H0 M S0 (rowE e v (xs.set k y0) :: L) H' → Ext (rowB v) H H' → next (updO f o.dst undef) H') : OpE P o next f H := by
  intro w hw
  subst hw
  obtain ⟨hby, cl, hcl, ⟨rfl, hn, _⟩ | ⟨g, c, cur, rfl, hg, hc, hm, hzc, ht⟩⟩ := h.head
  · omega
  have hsz1 := GoT.one hag
  have hlen := hcl.len
  obtain ⟨hcu, hru⟩ := rd_cells hr
  rw [hsz1] at hcu
  have hu1 : u.cells = #[u] ∧ u.oneCell' = true := by
    obtain ⟨cs, hrc, rfl⟩ := hr
    have hl := GoT.len hrc
    rw [hsz1] at hl
    match cs, hl with
    | [c0], _ =>
      have h1 := GoT.cell hrc c0 (by simp)
      simp only [valOf, hag, Bool.false_eq_true, if_false, List.headD_cons]
      refine ⟨?_, h1⟩
      cases c0 <;> first | rfl | simp [Value.oneCell'] at h1
  have hk : k < cur.size := by rw [hzc, hsz1]; omega
  have hpt : ev f x = PT g k := by rw [hx]; simp [eptr, hsz1]
  have hcell : w.cell? ⟨g, k, none⟩ = some cur[k] := by rw [cell_hcell]; simp [hcell, hg, Array.getElem?_eq_getElem hk]
  have hf : w.frozen? ⟨g, k, none⟩ = false := by simp [World.frozen?, hg]
  have : (execOp (ev f) o).run P w = .ok .skip (w.setCell ⟨g, k, none⟩ u) := by
    have hadd : (⟨g, k, none⟩ : Addr).add 0 = ⟨g, k, none⟩ := by simp [add_off]
    simp [execOp, ho, hpt, hy, Instr.storeAt, Instr.sureAddr, storeVar, hu1.1, hz, storeCells, hadd, run_store, hcell, hf, hu1.2]
  rw [this]
  have hsz : (w.setCell ⟨g, k, none⟩ u).heap.size = w.heap.size := by simp [World.setCell]
  have hrow : ∀ b, rowB (.slice (some ⟨g, 0, none⟩) xs.length c) b ↔ b = g := by intro b; simp [rowB, Value.ownBlock, eq_comm]
  have hsame : ∀ b, b < w.heap.size → ¬ rowB (.slice (some ⟨g, 0, none⟩) xs.length c) b → (w.setCell ⟨g, k, none⟩ u).heap[b]? = w.heap[b]? := fun b _ hne => setCell_other fun e => hne ((hrow b).2 e)
  have hx' : Ext (rowB (.slice (some ⟨g, 0, none⟩) xs.length c)) w.heap (w.setCell ⟨g, k, none⟩ u).heap := ⟨by rw [hsz]; exact Nat.le_refl _, hsame⟩
  have hsl : ∀ b, SL S0 (rowE e (.slice (some ⟨g, 0, none⟩) xs.length c) (xs.set k y0) :: L) b → SL S0 (rowE e (.slice (some ⟨g, 0, none⟩) xs.length c) xs :: L) b := by
    rintro b (hs | ⟨e', he, hs⟩)
    · exact .inl hs
    · rcases List.mem_cons.1 he with rfl | h'
      · exact .inr ⟨_, List.mem_cons_self .., hs⟩
      · exact .inr ⟨e', List.mem_cons_of_mem _ h', hs⟩
  refine ⟨⟨rfl, rfl, rfl⟩, hK _ (h.upd0 (by rw [hsz]; exact Nat.le_refl _) hsame (fun b hb => .inl hb) ?_) hx'⟩
  have hu : rdc (SL S0 (rowE e (.slice (some ⟨g, 0, none⟩) xs.length c) xs :: L)) w.heap [u] y0 := by rw [hu1.1] at hru; exact hru
  have hset := RdCs.set (k := k) hu hcl hlt
  refine ⟨by simpa using hby, _, hset.ext (hx'.mono fun b hb => .inr ⟨_, List.mem_cons_self .., hb⟩) (fun b _ hb => hsl b hb), .inr ⟨g, c, cur.setIfInBounds k u, by simp, setCell_heap hg, by simpa using hc, hm, by simpa using hzc, ?_⟩⟩
  rw [← ht]
  simp only [hsz1, Nat.mul_one, List.length_set, List.length_singleton, Array.toList_setIfInBounds]
  rw [List.take_take, Nat.min_eq_left (by omega)]
  apply List.ext_getElem?
  intro j
  have hcur : xs.length ≤ cur.toList.length := by have h1 : cur.toList.length = c * 1 := by rw [← hsz1, ← hzc]; simp
                                                  rw [h1]; omega
  have hkc : k < cur.toList.length := by omega
  rw [List.getElem?_take, List.getElem?_set, List.append_assoc]
  rcases Nat.lt_trichotomy j k with hj | hj | hj
  · have hjl : (List.take k cur.toList).length = k := by rw [List.length_take]; omega
    rw [if_pos (by omega), if_neg (by omega), List.getElem?_append_left (by rw [hjl]; exact hj), List.getElem?_take, if_pos hj]
  · subst hj
    have hjl : (List.take j cur.toList).length = j := by rw [List.length_take]; omega
    rw [if_pos hlt, if_pos rfl, if_pos hkc, List.getElem?_append_right (by rw [hjl]; exact Nat.le_refl _), hjl, Nat.sub_self]
    rfl
  · have hjl : (List.take k cur.toList).length = k := by rw [List.length_take]; omega
    rw [if_neg (by omega : ¬ k = j), List.getElem?_append_right (by rw [hjl]; omega), hjl]
    rw [List.getElem?_append_right (by simp; omega)]
    simp only [List.length_singleton, List.getElem?_drop]
    rw [show k + 1 + (j - k - 1) = j from by omega, List.getElem?_take]

end
end Go.Um
