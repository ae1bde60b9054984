/- Maps of the call's own. -/
import Derived.Test.YtacphjgolmolmaaUmMem
namespace Go.Um
open GoT (sz ag rdc)
open Go.RowKit

section lists
variable {κ β : Type} [DecidableEq κ]
def mget : List (κ × β) → κ → Option β
  | [], _ => none
  | (a, b) :: m, k => if a = k then some b else mget m k
def mset : List (κ × β) → κ → β → List (κ × β)
  | [], k, x => [(k, x)]
  | (a, b) :: m, k, x => if a = k then (k, x) :: m else (a, b) :: mset m k x
def mdel : List (κ × β) → κ → List (κ × β)
  | [], _ => []
  | (a, b) :: m, k => if a = k then m else (a, b) :: mdel m k
/-- Where a key is. -/
def midx : List (κ × β) → κ → Option Nat
  | [], _ => none
  | (a, _) :: m, k => if a = k then some 0 else (midx m k).map (· + 1)
def mnd (m : List (κ × β)) : Prop := (m.map (·.1)).Nodup

theorem mget_mset (m : List (κ × β)) (k k' : κ) (x : β) : mget (mset m k x) k' = if k = k' then some x else mget m k' := by
  induction m with
  | nil => simp [mset, mget]
  | cons p m ih =>
    obtain ⟨a, b⟩ := p
    simp only [mset]
    by_cases h : a = k
    · subst h
      rw [if_pos rfl]
      simp only [mget]
      split <;> rfl
    · rw [if_neg h]
      simp only [mget, ih]
      by_cases h2 : a = k'
      · subst h2; rw [if_pos rfl, if_pos rfl, if_neg (fun e => h e.symm)]
      · rw [if_neg h2, if_neg h2]
theorem mget_none {m : List (κ × β)} {k : κ} : mget m k = none ↔ k ∉ m.map (·.1) := by
  induction m with
  | nil => simp [mget]
  | cons p m ih =>
    obtain ⟨a, b⟩ := p
    simp only [mget, List.map_cons, List.mem_cons, not_or]
    by_cases h : a = k
    · rw [if_pos h]; subst h; simp
    · rw [if_neg h, ih]; exact ⟨fun hh => ⟨fun e => h e.symm, hh⟩, fun hh => hh.2⟩
theorem mget_mdel {m : List (κ × β)} (hn : mnd m) (k k' : κ) : mget (mdel m k) k' = if k = k' then none else mget m k' := by
  induction m with
  | nil => simp [mdel, mget]
  | cons p m ih =>
    obtain ⟨a, b⟩ := p
    have hn2 : mnd m := (List.nodup_cons.1 hn).2
    have ha : a ∉ m.map (·.1) := (List.nodup_cons.1 hn).1
    simp only [mdel]
    by_cases h : a = k
    · subst h
      rw [if_pos rfl]
      by_cases h2 : a = k'
      · subst h2; rw [if_pos rfl]; exact mget_none.2 ha
      · simp [mget, h2]
    · rw [if_neg h]
      simp only [mget, ih hn2]
      by_cases h2 : a = k'
      · subst h2; rw [if_pos rfl, if_pos rfl, if_neg (fun e => h e.symm)]
      · rw [if_neg h2, if_neg h2]
theorem mset_keys (m : List (κ × β)) (k : κ) (x : β) : (mset m k x).map (·.1) = if k ∈ m.map (·.1) then m.map (·.1) else m.map (·.1) ++ [k] := by
  induction m with
  | nil => simp [mset]
  | cons p m ih =>
    obtain ⟨a, b⟩ := p
    simp only [mset]
    by_cases h : a = k
    · subst h; simp
    · rw [if_neg h]
      simp only [List.map_cons, ih, List.mem_cons]
      by_cases h2 : k ∈ m.map (·.1)
      · rw [if_pos h2, if_pos (.inr h2)]
      · rw [if_neg h2, if_neg (by rintro (h3 | h3); exact h h3.symm; exact h2 h3)]; rfl
theorem mnd_mset {m : List (κ × β)} (hn : mnd m) (k : κ) (x : β) : mnd (mset m k x) := by
  unfold mnd at *
  rw [mset_keys]
  split
  · exact hn
  · rename_i h
    refine List.nodup_append.2 ⟨hn, by simp, ?_⟩
    intro a ha b hb
    simp only [List.mem_singleton] at hb
    subst hb
    intro e
    subst e
    exact h ha
theorem mdel_keys_sub (m : List (κ × β)) (k : κ) : (mdel m k).Sublist m := by
  induction m with
  | nil => simp [mdel]
  | cons p m ih =>
    obtain ⟨a, b⟩ := p
    simp only [mdel]
    split
    · exact List.sublist_cons_self _ _
    · exact ih.cons_cons _
theorem mnd_mdel {m : List (κ × β)} (hn : mnd m) (k : κ) : mnd (mdel m k) := List.Nodup.sublist ((mdel_keys_sub m k).map _) hn
theorem mset_length (m : List (κ × β)) (k : κ) (x : β) : (mset m k x).length = if (mget m k).isSome then m.length else m.length + 1 := by
  induction m with
  | nil => simp [mset, mget]
  | cons p m ih =>
    obtain ⟨a, b⟩ := p
    by_cases h : a = k
    · simp [mset, mget, h]
    · simp only [mset, mget, h, if_false, List.length_cons, ih]; split <;> rfl
theorem midx_map (m : List (κ × β)) (k : κ) : midx ((m.map (·.1)).map fun a => (a, ())) k = midx m k := by
  induction m with
  | nil => rfl
  | cons p m ih => obtain ⟨a, b⟩ := p; simp only [List.map_cons, midx, ih]

theorem mdel_none {m : List (κ × β)} {k : κ} (h : midx m k = none) : mdel m k = m := by
  induction m with
  | nil => rfl
  | cons p m ih =>
    obtain ⟨a, b⟩ := p
    simp only [midx] at h
    simp only [mdel]
    by_cases hak : a = k
    · rw [if_pos hak] at h; cases h
    · rw [if_neg hak] at h ⊢
      rw [ih (by cases hmi : midx m k with | none => rfl | some j => rw [hmi] at h; cases h)]

theorem midx_keys {γ : Type} (kv : κ → γ) : ∀ (m : List (κ × β)) (k : κ) (j : Nat), midx m k = some j → ((m.map (·.1)).map kv)[j]? = some (kv k) := by
  intro m k
  induction m with
  | nil => intro j h1; cases h1
  | cons p m ih =>
    intro j h1
    obtain ⟨a, b⟩ := p
    simp only [midx] at h1
    by_cases hak : a = k
    · rw [if_pos hak] at h1; cases h1; simp [hak]
    · rw [if_neg hak] at h1
      cases hmi : midx m k with
      | none => rw [hmi] at h1; cases h1
      | some j' => rw [hmi] at h1; cases h1; simpa using ih j' hmi
theorem mget_dom {m : List (κ × β)} {k : κ} (h : (mget m k).isSome = true) : ∃ x, mget m k = some x := Option.isSome_iff_exists.1 h
theorem mget_nil : (mget ([] : List (κ × β))) = fun _ => none := by funext q; rfl
end lists

/-- Keys: their values, and how the machine finds them. -/
class KeyT (κ : Type) [DecidableEq κ] where
  kv : κ → Value
  inj : ∀ {a b}, kv a = kv b → a = b
  bits : ∀ a, Instr.sameBits 10000 (kv a) (kv a) = true
open KeyT (kv)

def MapRd {κ β : Type} [DecidableEq κ] [KeyT κ] [GoT β] (S : Nat → Prop) (H : Heap) : List MapEntry → List (κ × β) → Prop
  | [], m => m = []
  | e :: es, m => ∃ k x m', m = (k, x) :: m' ∧ e.key = kv k ∧ Rd S H e.val x ∧ MapRd S H es m'

/-- How the keys of type t are found. -/
structure KeyLaw (P : Program) (t : TypeId) (κ : Type) [DecidableEq κ] [KeyT κ] : Prop where
  check : ∀ (b : Bool) (k : κ) (w : World), (Instr.checkKey b 10000 t (kv k)).run P w = .ok () w
  find : ∀ (k : κ) (es : List MapEntry) (ks : List κ) (w : World), es.map (·.key) = ks.map kv →
    (Instr.findKey t (kv k) es).run P w = .ok ((midx (ks.map fun a => (a, ())) k).bind fun i => (es[i]?).map fun e => (i, e.val)) w

section
variable {κ β : Type} [DecidableEq κ] [KeyT κ] [GoT β] {S S' : Nat → Prop} {H H' H0 : Heap} {M S0 : Nat → Prop} {L : List Ent} {P : Program} {o : Oper} {f : Fr} {next : FP}

theorem MapRd.ext {es : List MapEntry} : ∀ {m : List (κ × β)}, MapRd S H es m → Ext S H H' → (∀ b, b < H.size → S' b → S b) → MapRd S' H' es m := by
  induction es with
  | nil => intro m h _ _; exact h
  | cons e es ih =>
    rintro m ⟨k, x, m', rfl, hk, hr, h⟩ hx hs
    exact ⟨k, x, m', rfl, hk, hr.ext hx hs, ih h hx hs⟩
theorem MapRd.keys {es : List MapEntry} : ∀ {m : List (κ × β)}, MapRd S H es m → es.map (·.key) = (m.map (·.1)).map kv := by
  induction es with
  | nil => intro m h; cases h; rfl
  | cons e es ih => rintro m ⟨k, x, m', rfl, hk, hr, h⟩; simp [ih h, hk]
theorem MapRd.length {es : List MapEntry} {m : List (κ × β)} (h : MapRd S H es m) : es.length = m.length := by
  have := congrArg List.length h.keys
  simpa using this

def mapE (r : Nat) (m : List (κ × β)) : Ent where
  blocks b := b = r
  ok S H := ∃ es c, H[r]? = some (.map es c) ∧ MapRd S H es.toList m ∧ mnd m
  lt h hb := by obtain ⟨es, c, hr, _⟩ := h; subst hb; exact (Array.getElem?_eq_some_iff.1 hr).1
  ext h hz hs ht := by
    obtain ⟨es, c, hr, hm, hn⟩ := h
    exact ⟨es, c, by rw [hs r (Array.getElem?_eq_some_iff.1 hr).1 (.inl rfl)]; exact hr, hm.ext ⟨hz, fun b hb hn => hs b hb (.inr hn)⟩ ht, hn⟩

theorem MapRd.find {es : List MapEntry} : ∀ {m : List (κ × β)}, MapRd S H es m → ∀ k : κ,
    (mget m k = none ∧ midx m k = none) ∨ ∃ i e x, midx m k = some i ∧ es[i]? = some e ∧ mget m k = some x ∧ Rd S H e.val x := by
  induction es with
  | nil => intro m h k; cases h; exact .inl ⟨rfl, rfl⟩
  | cons e es ih =>
    rintro m ⟨a, x, m', rfl, hk, hr, h⟩ k
    simp only [mget, midx]
    by_cases hak : a = k
    · rw [if_pos hak, if_pos hak]; exact .inr ⟨0, e, x, rfl, rfl, rfl, hr⟩
    · rw [if_neg hak, if_neg hak]
      rcases ih h k with ⟨h1, h2⟩ | ⟨i, e', x', h1, h2, h3, h4⟩
      · exact .inl ⟨h1, by rw [h2]; rfl⟩
      · exact .inr ⟨i + 1, e', x', by rw [h1]; rfl, by simpa using h2, h3, h4⟩

/-- m[k] and m[k] with ok. -/
theorem q_lookup {U : Nat → Prop} {t kt e : TypeId} {x i : Operand} {ok : Bool} {r : Nat} {m : List (κ × β)} {k : κ} {z : Value} (ho : o.op = .lookup t x i ok) (ht : P.underlying t = some (.map kt e))
    (hl : KeyLaw P kt κ) (hz : ∀ w, (zeroValue e).run P w = .ok z w) (hx : ev f x = .map (some r)) (hi : ev f i = kv k) (h : (mapE r m).ok S H) (hU : ¬ U r) :
    ∃ v, Quiet P o U f H (if ok then .tuple #[v, .bool (mget m k).isSome] else v) ∧ (mget m k = none → v = z) ∧ ∀ y, mget m k = some y → Rd S H v y := by
  obtain ⟨es, c, hr, hm, hn⟩ := h
  have hlt := (Array.getElem?_eq_some_iff.1 hr).1
  have go : ∀ w : World, Ext U H w.heap → (execOp (ev f) o).run P w = .ok (.value (match midx m k with
      | some j => match es.toList[j]? with
        | some en => if ok then .tuple #[en.val, .bool true] else en.val
        | none => if ok then .tuple #[z, .bool false] else z
      | none => if ok then .tuple #[z, .bool false] else z)) w := by
    intro w hw
    have hr' : w.heap[r]? = some (.map es c) := by rw [hw.same r hlt hU]; exact hr
    have hf := hl.find k es.toList (m.map (·.1)) w hm.keys
    rw [midx_map] at hf
    have hg : (getObj r).run P w = .ok (.map es c) w := by simp [getObj, Sem.run, hr']
    simp only [execOp, ho, hx, hi, Instr.lookup, Sem.run_bind, run_underlying ht, Result.andThen_ok, hg, Sem.run_pure, hl.check, hf]
    cases hmi : midx m k with
    | none => simp [hz]
    | some j =>
      simp only [Option.bind_some]
      cases he : es.toList[j]? with
      | none => simp [hz]
      | some en => simp
  rcases hm.find k with ⟨h1, h2⟩ | ⟨j, en, y, h1, h2, h3, h4⟩
  · refine ⟨z, fun w hw => ?_, fun _ => rfl, fun y hy => by rw [h1] at hy; cases hy⟩
    rw [go w hw, h2, h1]
    rfl
  · refine ⟨en.val, fun w hw => ?_, (fun hn => by rw [h3] at hn; cases hn), fun y' hy => by rw [h3] at hy; cases hy; exact h4⟩
    rw [go w hw, h1]
    simp only [h2, h3]
    rfl

theorem e_makeMap {t : TypeId} (ho : o.op = .makeMap t none) (h : St H0 M S0 L H)
    (hK : ∀ r H', St H0 M S0 (mapE r ([] : List (κ × β)) :: L) H' → Ext NoB H H' → next (updO f o.dst (.map (some r))) H') : OpE P o next f H := by
  intro w hw
  subst hw
  have : (execOp (ev f) o).run P w = .ok (.value (.map (some w.heap.size))) { w with heap := w.heap.push (.map #[] 0) } := by
    simp [execOp, ho, Instr.makeMap, newObj, Sem.run]
  rw [this]
  refine ⟨⟨rfl, rfl, rfl⟩, hK _ _ ?_ (Ext.push _ _ _)⟩
  have h1 := h.alloc (.map #[] 0)
  refine h1.upd0 (Nat.le_refl _) (fun _ _ _ => rfl) (fun b hb => .inl hb) ⟨#[], 0, h1.head, rfl, by simp [mnd]⟩

theorem setObj_run {w : World} {r : Nat} {es es' : Array MapEntry} {c c' : Nat} (hr : w.heap[r]? = some (.map es c)) :
    (setObj r (.map es' c')).run P w = .ok () { w with heap := w.heap.setIfInBounds r (.map es' c') } := by
  simp [setObj, Sem.run, hr]

theorem MapRd.set {es : List MapEntry} {v : Value} {x : β} {key : Value} (hv : Rd S H v x) : ∀ {m : List (κ × β)} {k : κ} {i : Nat}, MapRd S H es m → midx m k = some i → key = kv k →
    MapRd S H (es.modify i fun e => { e with key, val := v }) (mset m k x) := by
  induction es with
  | nil => intro m k i h hi; cases h; cases hi
  | cons e es ih =>
    rintro m k i ⟨a, y, m', rfl, hk, hr, h⟩ hi hkey
    simp only [midx] at hi
    simp only [mset]
    by_cases hak : a = k
    · rw [if_pos hak] at hi ⊢; cases hi
      exact ⟨k, x, m', rfl, hkey, hv, h⟩
    · rw [if_neg hak] at hi ⊢
      cases hmi : midx m' k with
      | none => rw [hmi] at hi; cases hi
      | some j =>
        rw [hmi] at hi; cases hi
        exact ⟨a, y, _, rfl, hk, hr, ih h hmi hkey⟩
theorem MapRd.push {es : List MapEntry} {en : MapEntry} {x : β} {k : κ} (hk : en.key = kv k) (hv : Rd S H en.val x) : ∀ {m : List (κ × β)}, MapRd S H es m → midx m k = none → MapRd S H (es ++ [en]) (mset m k x) := by
  induction es with
  | nil => intro m h _; cases h; exact ⟨k, x, [], rfl, hk, hv, rfl⟩
  | cons e es ih =>
    rintro m ⟨a, y, m', rfl, hk', hr, h⟩ hi
    simp only [midx] at hi
    simp only [mset]
    by_cases hak : a = k
    · rw [if_pos hak] at hi; cases hi
    · rw [if_neg hak] at hi ⊢
      refine ⟨a, y, _, rfl, hk', hr, ih h ?_⟩
      cases hmi : midx m' k with
      | none => rfl
      | some j => rw [hmi] at hi; cases hi
theorem MapRd.erase {es : List MapEntry} : ∀ {m : List (κ × β)} {k : κ} {i : Nat}, MapRd S H es m → midx m k = some i → MapRd S H (es.eraseIdx i) (mdel m k) := by
  induction es with
  | nil => intro m k i h hi; cases h; cases hi
  | cons e es ih =>
    rintro m k i ⟨a, y, m', rfl, hk, hr, h⟩ hi
    simp only [midx] at hi
    simp only [mdel]
    by_cases hak : a = k
    · rw [if_pos hak] at hi ⊢; cases hi; exact h
    · rw [if_neg hak] at hi ⊢
      cases hmi : midx m' k with
      | none => rw [hmi] at hi; cases hi
      | some j => rw [hmi] at hi; cases hi; exact ⟨a, y, _, rfl, hk, hr, ih h hmi⟩
theorem set_heap_same {H : Heap} {r b : Nat} {ob : Obj} (hne : ¬ b = r) : (H.setIfInBounds r ob)[b]? = H[b]? := by
  rw [Array.getElem?_setIfInBounds_ne (fun e => hne e.symm)]
theorem set_heap_at {H : Heap} {r : Nat} {ob ob' : Obj} (hr : H[r]? = some ob') : (H.setIfInBounds r ob)[r]? = some ob := by
  have := (Array.getElem?_eq_some_iff.1 hr).1
  simp [this]

/-- A map written: what it holds behind. -/
theorem St.mapSet {r : Nat} {m m' : List (κ × β)} {es' : Array MapEntry} {c' : Nat} (h : St H0 M S0 (mapE r m :: L) H) (hm : MapRd (SL S0 (mapE r m :: L)) H es'.toList m') (hn : mnd m') :
    St H0 M S0 (mapE r m' :: L) (H.setIfInBounds r (.map es' c')) ∧ Ext (fun b => b = r) H (H.setIfInBounds r (.map es' c')) := by
  obtain ⟨es, c, hr, hm0, hn0⟩ := h.head
  have hx : Ext (fun b => b = r) H (H.setIfInBounds r (.map es' c')) := ⟨by simp, fun b _ hb => set_heap_same hb⟩
  refine ⟨h.upd0 (by simp) (fun b _ hb => set_heap_same hb) (fun b hb => .inl hb) ⟨es', c', set_heap_at hr, ?_, hn⟩, hx⟩
  refine hm.ext (hx.mono fun b hb => .inr ⟨_, List.mem_cons_self .., hb⟩) ?_
  rintro b _ (hs | ⟨e, he, hs⟩)
  · exact .inl hs
  · rcases List.mem_cons.1 he with rfl | h'
    · exact .inr ⟨_, List.mem_cons_self .., hs⟩
    · exact .inr ⟨e, List.mem_cons_of_mem _ h', hs⟩

theorem keyStays {k : κ} (w : World) (old : Value) (h : old = kv k) : (Instr.keyThatStays old (kv k)).run P w = .ok (kv k) w := by
  subst h
  unfold Instr.keyThatStays
  rw [if_pos (KeyT.bits k)]
  rfl

theorem e_mapUpdate {t kt e : TypeId} {xm xk xv : Operand} {r : Nat} {m : List (κ × β)} {k : κ} {v : Value} {y : β} (ho : o.op = .mapUpdate t xm xk xv ∨ o.op = .insert t xm xk xv) (ht : P.underlying t = some (.map kt e))
    (hl : KeyLaw P kt κ) (hx : ev f xm = .map (some r)) (hi : ev f xk = kv k) (hv : ev f xv = v) (h : St H0 M S0 (mapE r m :: L) H) (hr : Rd (SL S0 (mapE r m :: L)) H v y)
    (hK : ∀ H', St H0 M S0 (mapE r (mset m k y) :: L) H' → Ext (fun b => b = r) H H' → next (updO f o.dst undef) H') : OpE P o next f H := by
  intro w hw
  subst hw
  obtain ⟨es, c, hrr, hm, hn⟩ := h.head
  have hf := hl.find k es.toList (m.map (·.1)) w hm.keys
  rw [midx_map] at hf
  have hg : (getObj r).run P w = .ok (.map es c) w := by simp [getObj, Sem.run, hrr]
  rcases hm.find k with ⟨h1, h2⟩ | ⟨j, en, y0, h1, h2, h3, h4⟩
  · have hrun : (execOp (ev f) o).run P w = .ok .skip { w with heap := w.heap.setIfInBounds r (.map (es.push { key := kv k, val := v, born := c }) (c + 1)) } := by
      rw [h2] at hf
      rcases ho with ho | ho <;>
        simp [execOp, ho, hx, hi, hv, Instr.mapUpdate, run_underlying ht, hg, hl.check, hf, setObj_run hrr]
    rw [hrun]
    have hs := h.mapSet (es' := es.push { key := kv k, val := v, born := c }) (c' := c + 1) (m' := mset m k y) (by simpa using MapRd.push (en := { key := kv k, val := v, born := c }) rfl hr hm h2) (mnd_mset hn k y)
    exact ⟨⟨rfl, rfl, rfl⟩, hK _ hs.1 hs.2⟩
  · have hkey : (es[j]?).map (·.key) = some (kv k) := by
      have h5 := hm.keys
      have h6 : (es.toList.map (·.key))[j]? = some en.key := by simp [h2]
      rw [h5] at h6
      have h7 := midx_keys (kv (κ := κ)) m k j h1
      rw [h7] at h6
      have h8 : es[j]? = some en := by simpa using h2
      rw [h8]
      simp only [Option.map_some]
      exact h6.symm
    have hrun : (execOp (ev f) o).run P w = .ok .skip { w with heap := w.heap.setIfInBounds r (.map (es.modify j fun e => { e with key := kv k, val := v }) c) } := by
      rw [h1] at hf
      simp only [Option.bind_some, h2, Option.map_some] at hf
      have hks : (Instr.keyThatStays (((es[j]?).map (·.key)).getD (kv k)) (kv k)).run P w = .ok (kv k) w := by rw [hkey]; exact keyStays w _ rfl
      rcases ho with ho | ho <;>
        simp [execOp, ho, hx, hi, hv, Instr.mapUpdate, run_underlying ht, hg, hl.check, hf, setObj_run hrr, -Option.getD_map, hks]
    rw [hrun]
    have hs := h.mapSet (es' := es.modify j fun e => { e with key := kv k, val := v }) (c' := c) (m' := mset m k y) (by simpa using MapRd.set (key := kv k) hr hm h1 rfl) (mnd_mset hn k y)
    exact ⟨⟨rfl, rfl, rfl⟩, hK _ hs.1 hs.2⟩

theorem e_delete {t kt e : TypeId} {xm xk : Operand} {r : Nat} {m : List (κ × β)} {k : κ} (ho : o.op = .call { callee := .builtin .delete, args := #[xm, xk], argTypes := #[t, kt] }) (ht : P.underlying t = some (.map kt e))
    (hl : KeyLaw P kt κ) (hx : ev f xm = .map (some r)) (hi : ev f xk = kv k) (h : St H0 M S0 (mapE r m :: L) H)
    (hK : ∀ H', St H0 M S0 (mapE r (mdel m k) :: L) H' → Ext (fun b => b = r) H H' → next (updO f o.dst undef) H') : OpE P o next f H := by
  intro w hw
  subst hw
  obtain ⟨es, c, hrr, hm, hn⟩ := h.head
  have hf := hl.find k es.toList (m.map (·.1)) w hm.keys
  rw [midx_map] at hf
  have hg : (getObj r).run P w = .ok (.map es c) w := by simp [getObj, Sem.run, hrr]
  rcases hm.find k with ⟨h1, h2⟩ | ⟨j, en, y0, h1, h2, h3, h4⟩
  · have hrun : (execOp (ev f) o).run P w = .ok (.value (.tuple #[])) { w with heap := w.heap.setIfInBounds r (.map es c) } := by
      rw [h2] at hf
      simp [execOp, ho, hx, hi, resolve, invoke, builtin, Builtin.delete_, run_underlying ht, hg, hl.check, hf, setObj_run hrr]
    rw [hrun]
    have hs := h.mapSet (es' := es) (c' := c) (m' := mdel m k) (by rw [mdel_none h2]; exact hm) (mnd_mdel hn k)
    exact ⟨⟨rfl, rfl, rfl⟩, hK _ hs.1 hs.2⟩
  · have hrun : (execOp (ev f) o).run P w = .ok (.value (.tuple #[])) { w with heap := w.heap.setIfInBounds r (.map (es.eraseIdxIfInBounds j) c) } := by
      rw [h1] at hf
      simp only [Option.bind_some, h2, Option.map_some] at hf
      simp [execOp, ho, hx, hi, resolve, invoke, builtin, Builtin.delete_, run_underlying ht, hg, hl.check, hf, setObj_run hrr]
    rw [hrun]
    have hlt : j < es.size := by
      have := (List.getElem?_eq_some_iff.1 h2).1
      simpa using this
    have hs := h.mapSet (es' := es.eraseIdxIfInBounds j) (c' := c) (m' := mdel m k) (by rw [Array.eraseIdxIfInBounds, dif_pos hlt]; simpa using MapRd.erase hm h1) (mnd_mdel hn k)
    exact ⟨⟨rfl, rfl, rfl⟩, hK _ hs.1 hs.2⟩

end

/-! ### ints as keys -/
instance instKeyInt : KeyT Int where
  kv := I
  inj h := by cases h; rfl
  bits a := by simp [Instr.sameBits]

theorem findNow_int (kd : IntKind) (k : Int) : ∀ (es : List MapEntry) (ks : List Int) (i : Nat), es.map (·.key) = ks.map kv →
    Instr.findNow (.int kd) (I k) es i = some ((midx (ks.map fun a => (a, ())) k).bind fun j => (es[j]?).map fun e => (i + j, e.val)) := by
  intro es
  induction es with
  | nil => intro ks i h; cases ks with | nil => rfl | cons a ks => simp at h
  | cons e es ih =>
    intro ks i h
    cases ks with
    | nil => simp at h
    | cons a ks =>
      simp only [List.map_cons, List.cons.injEq] at h
      have hk : e.key = I a := h.1
      simp only [Instr.findNow, hk, Instr.sameNow, if_true, List.map_cons, midx]
      by_cases hak : a = k
      · subst hak; simp
      · have : (k == a) = false := by simpa using fun e => hak e.symm
        rw [this, if_neg hak]
        simp only
        rw [ih ks (i + 1) h.2]
        cases midx (ks.map fun a => (a, ())) k with
        | none => rfl
        | some j => simp [Nat.add_comm 1 j, Nat.add_assoc]

theorem keyLaw_int {P : Program} {t : TypeId} {kd : IntKind} (ht : P.underlying t = some (.int kd)) : KeyLaw P t Int where
  check b k w := by unfold Instr.checkKey; rw [run_bind_ok (run_underlying ht w)]; rfl
  find k es ks w h := by
    have := findNow_int kd k es ks 0 h
    simp only [Nat.zero_add] at this
    simp [Instr.findKey, run_underlying ht, kv, this]

end Go.Um
