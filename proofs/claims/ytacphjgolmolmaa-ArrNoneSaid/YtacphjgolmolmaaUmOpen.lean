/- From a statement's own words (readings of the arguments) to data, and back. -/
import Derived.Test.YtacphjgolmolmaaUmData
import Derived.ProofKit
import Derived.SizedLaws
namespace Go.Um
open GoT (sz ag rdc)
open Go.RowKit Go.ChangeShapes Go.WideShapes Go.ChangeAt

/-- How great an argument's parts are at most. -/
class LimT (α : Type) where
  lim : α → Prop
open LimT (lim)
instance limInt : LimT Int := ⟨fun _ => True⟩
instance limBool : LimT Bool := ⟨fun _ => True⟩
instance limList {α : Type} [GoT α] [LimT α] : LimT (List α) := ⟨fun l => l.length * GoT.bytes α ≤ 140737488351232 ∧ ∀ x ∈ l, lim x⟩

/-- What reads as the statement says is data of the Lean type. -/
structure OpT (P : Program) (t : TypeId) (α : Type) [GoT α] [LimT α] : Prop where
  go : ∀ {H : Type} {enc : TypeId × Value → H} {w : World} {base : Nat} {spare : Nat → Bool} {held : Bool} {fuel : Nat} {cs : List Value} {x : DataW H × List MemPlace},
    DataW.trod enc P w base spare held fuel t cs = some x → (x.1.weights P t).all (· ≤ reachBytes) = true → ∃ y : α, rdc NoB w.heap cs y ∧ lim y
  val : ∀ {w : World} {base : Nat} {v : Value}, Value.okWide P w .any base t v → v = valOf (ag α) v.cells.toList

theorem opInt {P : Program} {t : TypeId} (ht : P.underlying t = some (.int .i64)) : OpT P t Int where
  go h _ := by
    obtain ⟨n, hn, _, hw⟩ := DataW.trod_int ht h
    refine ⟨n, ⟨hn, ?_⟩, trivial⟩
    simp only [Lit.wf, Bool.and_eq_true, decide_eq_true_eq] at hw
    simpa [IntKind.min, IntKind.max, IntKind.bits, IntKind.signed, In64] using hw
  val h := by
    simp only [Value.okWide, ht, Cell.okWide, Cell.ok] at h
    split at h <;> simp_all [valOf, Value.cells, ag]
theorem opBool {P : Program} {t : TypeId} (ht : P.underlying t = some .bool) : OpT P t Bool where
  go h _ := by
    rename_i fuel cs x _
    cases fuel with
    | zero => simp [DataW.trod] at h
    | succ n =>
      unfold DataW.trod at h
      rw [ht] at h
      split at h
      all_goals first | exact ⟨_, rfl, trivial⟩ | simp_all
  val h := by
    simp only [Value.okWide, ht, Cell.okWide, Cell.ok] at h
    split at h <;> simp_all [valOf, Value.cells, ag]

theorem hcell_add {w : World} {a : Addr} {n : Nat} {v : Value} (h : w.cell? (a.add n) = some v) : hcell w.heap a.block (a.off + n) = some v := by
  have h2 : w.cell? ⟨a.block, a.off + n, none⟩ = some v := by
    by_cases hn : n = 0
    · subst hn
      simp only [Addr.add, if_true] at h
      unfold World.cell? at h ⊢
      split at h
      · rename_i hb
        split at h
        · cases h
        · rw [hb]; simpa using h
      · cases h
    · simpa [Addr.add, hn] using h
  rw [← cell_hcell]; exact h2
theorem spot_add {w : World} {a : Addr} {v : Value} (h : w.cell? (a.add 0) = some v) : a.spot = none := by
  simp only [Addr.add, if_true] at h
  unfold World.cell? at h
  split at h
  · split at h
    · cases h
    · rename_i h1; simpa using h1
  · cases h

theorem weightsAll_mem {H : Type} {P : Program} {e : TypeId} {d : DataW H} : ∀ {ds : List (DataW H)}, d ∈ ds → ∀ n ∈ d.weights P e, n ∈ DataW.weightsAll P e ds
  | d0 :: ds, hd, n, hn => by
    simp only [DataW.weightsAll, List.mem_append]
    rcases List.mem_cons.1 hd with rfl | hd
    · exact .inl hn
    · exact .inr (weightsAll_mem hd n hn)

theorem opList {P : Program} {t e : TypeId} {α : Type} [GoT α] [LimT α] (ht : P.underlying t = some (.slice e)) (he : OpT P e α) (hs : P.cellsOf e = sz α) (hb : P.bytesOf e = GoT.bytes α) : OpT P t (List α) where
  go h hw := by
    rename_i H enc w base spare held fuel cs x
    rcases DataW.trod_slice ht h with ⟨rfl, rfl⟩ | ⟨a, len, cap, elems, rest, n, _, rfl, rfl, hb0, hl, hm, hlen, hel, _, _⟩
    · exact ⟨[], ⟨_, rfl, none, 0, 0, [], rfl, rfl, Nat.le_refl _, Nat.zero_le _, by simp, rfl, fun h => absurd rfl h⟩, by simp, fun x hx => by cases hx⟩
    · have hw' : ∀ m ∈ ((elems.length + rest.length) * P.bytesOf e) :: (DataW.weightsAll P e (elems.map (·.1)) ++ DataW.weightsAll P e (rest.map (·.1))), m ≤ reachBytes := by
        intro m hm'
        have := List.all_eq_true.1 hw m (by simpa [DataW.weights, ht] using hm')
        simpa using this
      have key : ∀ m, m ≤ len → ∃ (xs : List α) (cl : List Value), xs.length = m ∧ RdCs NoB w.heap cl xs ∧ CellsAt w.heap a.block a.off cl ∧ (0 < m → a.spot = none) ∧ ∀ x ∈ xs, lim x := by
        intro m
        induction m with
        | zero => intro _; exact ⟨[], [], rfl, rfl, fun j hj => absurd hj (by simp), fun h => absurd h (by simp), fun x hx => by cases hx⟩
        | succ m ih =>
          intro hm1
          obtain ⟨xs, cl, h1, h2, h3, h4, h5⟩ := ih (by omega)
          have hi := hel m (by omega)
          obtain ⟨y, hy⟩ : ∃ y, elems[m]? = some y := ⟨elems[m]'(by omega), List.getElem?_eq_getElem (by omega)⟩
          rw [hy, Option.bind_eq_some_iff] at hi
          obtain ⟨cs', hcs, hty⟩ := hi
          obtain ⟨_, hcl, hc⟩ := World.cells?_some hcs
          obtain ⟨x', hx', hlx⟩ := he.go hty (by
            rw [List.all_eq_true]
            intro k hk
            refine decide_eq_true (hw' k ?_)
            refine List.mem_cons_of_mem _ (List.mem_append_left _ (weightsAll_mem (d := y.1) ?_ k hk))
            exact List.mem_map.2 ⟨y, List.mem_of_getElem? hy, rfl⟩)
          have hlc := h2.len
          have hcell : ∀ i, i < cs'.length → hcell w.heap a.block (a.off + m * sz α + i) = cs'[i]? := by
            intro i hi
            have := hc i (by omega)
            rw [List.getElem?_eq_getElem hi] at this ⊢
            have := hcell_add this
            by_cases h0 : m * P.cellsOf e = 0
            · rw [h0] at this; rw [← hs, h0]; simpa [Addr.add] using this
            · rw [← hs]; simpa [Addr.add, h0] using this
          refine ⟨xs ++ [x'], cl ++ cs', by simp [h1], h2.app (RdCs.one hx'), ?_, ?_, fun x hx => by
            rcases List.mem_append.1 hx with hx | hx
            · exact h5 x hx
            · rw [List.mem_singleton.1 hx]; exact hlx⟩
          · intro j hj
            by_cases hjl : j < cl.length
            · rw [List.getElem?_append_left hjl]; exact h3 j hjl
            · rw [List.getElem?_append_right (by omega)]
              rw [List.length_append] at hj
              have := hcell (j - cl.length) (by omega)
              rw [← this, show a.off + m * sz α + (j - cl.length) = a.off + j from by rw [hlc, h1] at hjl ⊢; omega]
          · intro _
            by_cases hm0 : 0 < m
            · exact h4 hm0
            · have hm00 : m = 0 := by omega
              subst hm00
              have hp : 0 < cs'.length := by rw [hcl, hs]; exact GoT.pos
              have := hc 0 (by omega)
              rw [List.getElem?_eq_getElem hp, Nat.zero_mul] at this
              exact spot_add (by simpa [Addr.add] using this)
      obtain ⟨xs, cl, h1, h2, h3, h4, hlim⟩ := key len (Nat.le_refl _)
      have hbnd : xs.length * GoT.bytes α ≤ 140737488351232 := by
        have := hw' _ (List.mem_cons_self ..)
        rw [hb] at this
        have h5 : xs.length * GoT.bytes α ≤ (elems.length + rest.length) * GoT.bytes α := Nat.mul_le_mul_right _ (by omega)
        have h6 : reachBytes ≤ 140737488351232 := by decide
        omega
      refine ⟨xs, ⟨_, rfl, some a, len, cap, cl, rfl, h1.symm, hl, hm, ?_, h2, fun hne => ?_⟩, hbnd, hlim⟩
      · have := hw' _ (List.mem_cons_self ..)
        rw [hb] at this
        have h5 : xs.length * GoT.bytes α ≤ (elems.length + rest.length) * GoT.bytes α := Nat.mul_le_mul_right _ (by omega)
        have h6 : reachBytes ≤ 140737488355328 := by decide
        omega
      · have hp : 0 < len := by rw [← h1]; exact List.length_pos_iff.2 hne
        obtain ⟨b, o, s⟩ := a
        have hs' : s = none := h4 hp
        subst hs'
        exact ⟨b, o, rfl, fun h => h, h3⟩
  val h := by
    simp only [Value.okWide, ht, Cell.okWide, Cell.ok] at h
    split at h <;> simp_all [valOf, Value.cells, ag]

/-- An argument that reads as the statement says. -/
theorem OpT.rd {P : Program} {t : TypeId} {α : Type} [GoT α] [LimT α] (ho : OpT P t α) {H : Type} {enc : TypeId × Value → H} {W : World} {base b0 : Nat} {spare : Nat → Bool} {held : Bool} {v : Value} {d : DataW H} {p : List MemPlace}
    (hv : Value.okWide P W .any b0 t v) (h : DataW.Trod enc P W base spare held t v d p) (hw : (d.weights P t).all (· ≤ reachBytes) = true) : ∃ y : α, Rd NoB W.heap v y ∧ lim y := by
  obtain ⟨fuel, hf⟩ := h
  obtain ⟨y, hy, hl⟩ := ho.go hf hw
  exact ⟨y, ⟨_, hy, ho.val hv⟩, hl⟩

theorem trodAll_stays {P : Program} (hl : laidOutB P = true) {H : Type} {enc : TypeId × Value → H} {W W' : World} {sp : Nat → Bool} :
    ∀ {ts : List TypeId} {vs : List Value} {ds : List (DataW H)} {ps : List MemPlace}, (∀ t ∈ ts, P.readableRec t = true ∧ t < P.types.size) →
      DataW.TrodAll enc P W 0 (fun _ => true) true ts vs ds ps → (∀ p ∈ ps, W.sameAt W' p) → (∀ p ∈ ps, sp p.block = true) → DataW.TrodAll enc P W' 0 sp true ts vs ds ps := by
  intro ts
  induction ts with
  | nil => intro vs ds ps _ h _ _; cases vs <;> cases ds <;> simp_all [DataW.TrodAll]
  | cons t ts ih =>
    intro vs ds ps hr h hs hp
    cases vs with
    | nil => simp [DataW.TrodAll] at h
    | cons v vs =>
      cases ds with
      | nil => simp [DataW.TrodAll] at h
      | cons d ds =>
        obtain ⟨p, q, h1, h2, rfl⟩ := h
        refine ⟨p, q, ?_, ?_, rfl⟩
        · obtain ⟨hr1, hr2⟩ := hr t (List.mem_cons_self ..)
          exact WideElems.Trod_stays hl hr1 hr2 h1 (fun x hx => hs x (List.mem_append_left _ hx)) (fun x hx => hp x (List.mem_append_left _ hx))
        · exact ih (fun t ht => hr t (List.mem_cons_of_mem _ ht)) h2 (fun x hx => hs x (List.mem_append_right _ hx)) (fun x hx => hp x (List.mem_append_right _ hx))

theorem below_of {W W' : World} (ha : Amb W W') (hx : Ext NoB W.heap W'.heap) : Below W.heap.size W W' :=
  ⟨ha.os, ha.tape, ha.output, hx.size, fun k hk => hx.same k hk (fun h => h)⟩

/-- A law's promise: the answer is true, and what it was handed reads as it did. -/
theorem post_law {P : Program} {H : Type} {enc : TypeId × Value → H} {f : Func} {s : ChangeSpec} {W W' : World} {args : Array Value} {ds : List (DataW H)} {before : List MemPlace} {tb : TypeId} {apart : Bool}
    (hl : laidOutB P = true) (hW : DataW.Whole enc P f.params.toList s.vars apart W args.toList ds [] before) (hv : s.vars = [])
    (hr : ∀ t ∈ f.params.toList, P.readableRec t = true ∧ t < P.types.size) (hrt : f.resultTypes = #[tb]) (hub : P.underlying tb = some .bool)
    (hres : (s.fn H (ds ++ [])).results = [.lit (.bool true)]) (hargs : (s.fn H (ds ++ [])).args = ds) (hvars : (s.fn H (ds ++ [])).vars = [])
    (ha : Amb W W') (hx : Ext NoB W.heap W'.heap) : s.post enc P f apart true false false W args (B true) W' := by
  have hb := below_of ha hx
  obtain ⟨p, q, h1, h2, rfl, h3, h4⟩ := id hW
  rw [hv] at h2
  obtain ⟨_, rfl⟩ := trodVars_none h2
  have hlt := hW.lt
  refine ⟨ds, [], _, [], p, [], hW, ?_, ?_, ?_, hb.frame _, fun h => by cases h⟩
  · rw [hres, hrt]
    exact ⟨[], [], ⟨1, by simp [Value.cells, DataW.trod, hub]⟩, rfl, rfl⟩
  · rw [hargs]
    exact trodAll_stays hl hr h1 (fun x hx => hb.same (hlt x (by simpa using hx))) (fun x hx => by simpa using hlt x (by simpa using hx))
  · rw [hvars, hv]; rfl

theorem weights_cut {H : Type} {P : Program} {ts : List TypeId} {ds : List (DataW H)} (h : (DataW.weightsEach P ts ds).all (· ≤ reachBytes) = true) {j : Nat} {t : TypeId} {d : DataW H} (ht : ts[j]? = some t) (hd : ds[j]? = some d) :
    (d.weights P t).all (· ≤ reachBytes) = true := by
  rw [List.all_eq_true] at h ⊢
  exact fun n hn => h n (DataW.weights_mem_each ht hd n hn)

end Go.Um
