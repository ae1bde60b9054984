import Derived.WalkSpells
import Derived.ChangeKeysEq
import Derived.Test.YtbfgipgojdinoaaUmTopCountsA
namespace Go.Um
open GoT (sz ag rdc)
open Go.RowKit
section lists
variable {κ β : Type} [DecidableEq κ]
def mget : List (κ × β) → κ → Option β
  | [], _ => none
  | (a, b) :: m, k => if a = k then some b else mget m k
def mset : List (κ × β) → κ → β → List (κ × β)
  | [], k, x => [(k, x)]
  | (a, b) :: m, k, x => if a = k then (k, x) :: m else (a, b) :: mset m k x
def midx : List (κ × β) → κ → Option Nat
  | [], _ => none
  | (a, _) :: m, k => if a = k then some 0 else (midx m k).map (· + 1)
def mnd (m : List (κ × β)) : Prop := (m.map (·.1)).Nodup
theorem mget_mset (m : List (κ × β)) (k k' : κ) (x : β) : mget (mset m k x) k' = if k = k' then some x else mget m k' := by
  induction m with
  | nil => simp [mset, mget]
  | cons p m ih =>
    obtain ⟨a, b⟩ := p
    simp only [mset]
    by_cases h : a = k
    · subst h
      rw [if_pos rfl]
      simp only [mget]
      split <;> rfl
    · rw [if_neg h]
      simp only [mget, ih]
      by_cases h2 : a = k'
      · subst h2; rw [if_pos rfl, if_pos rfl, if_neg (fun e => h e.symm)]
      · rw [if_neg h2, if_neg h2]
theorem mset_keys (m : List (κ × β)) (k : κ) (x : β) : (mset m k x).map (·.1) = if k ∈ m.map (·.1) then m.map (·.1) else m.map (·.1) ++ [k] := by
  induction m with
  | nil => simp [mset]
  | cons p m ih =>
    obtain ⟨a, b⟩ := p
    simp only [mset]
    by_cases h : a = k
    · subst h; simp
    · rw [if_neg h]
      simp only [List.map_cons, ih, List.mem_cons]
      by_cases h2 : k ∈ m.map (·.1)
      · rw [if_pos h2, if_pos (.inr h2)]
      · rw [if_neg h2, if_neg (by rintro (h3 | h3); exact h h3.symm; exact h2 h3)]; rfl
theorem mnd_mset {m : List (κ × β)} (hn : mnd m) (k : κ) (x : β) : mnd (mset m k x) := by
  unfold mnd at *
  rw [mset_keys]
  split
  · exact hn
  · rename_i h
    refine List.nodup_append.2 ⟨hn, by simp, ?_⟩
    intro a ha b hb
    simp only [List.mem_singleton] at hb
    subst hb
    intro e
    subst e
    exact h ha
theorem midx_map (m : List (κ × β)) (k : κ) : midx ((m.map (·.1)).map fun a => (a, ())) k = midx m k := by
  induction m with
  | nil => rfl
  | cons p m ih => obtain ⟨a, b⟩ := p; simp only [List.map_cons, midx, ih]
theorem midx_keys {γ : Type} (kv : κ → γ) : ∀ (m : List (κ × β)) (k : κ) (j : Nat), midx m k = some j → ((m.map (·.1)).map kv)[j]? = some (kv k) := by
  intro m k
  induction m with
  | nil => intro j h1; cases h1
  | cons p m ih =>
    intro j h1
    obtain ⟨a, b⟩ := p
    simp only [midx] at h1
    by_cases hak : a = k
    · rw [if_pos hak] at h1; cases h1; simp [hak]
    · rw [if_neg hak] at h1
      cases hmi : midx m k with
      | none => rw [hmi] at h1; cases h1
      | some j' => rw [hmi] at h1; cases h1; simpa using ih j' hmi
end lists
class KeyT (κ : Type) [DecidableEq κ] where
  kv : κ → Value
  inj : ∀ {a b}, kv a = kv b → a = b
  bits : ∀ a, Instr.sameBits 10000 (kv a) (kv a) = true
open KeyT (kv)
def MapRd {κ β : Type} [DecidableEq κ] [KeyT κ] [GoT β] (S : Nat → Prop) (H : Heap) : List MapEntry → List (κ × β) → Prop
  | [], m => m = []
  | e :: es, m => ∃ k x m', m = (k, x) :: m' ∧ e.key = kv k ∧ Rd S H e.val x ∧ MapRd S H es m'
structure KeyLaw (P : Program) (t : TypeId) (κ : Type) [DecidableEq κ] [KeyT κ] : Prop where
  check : ∀ (b : Bool) (k : κ) (w : World), (Instr.checkKey b 10000 t (kv k)).run P w = .ok () w
  find : ∀ (k : κ) (es : List MapEntry) (ks : List κ) (w : World), es.map (·.key) = ks.map kv →
    (Instr.findKey t (kv k) es).run P w = .ok ((midx (ks.map fun a => (a, ())) k).bind fun i => (es[i]?).map fun e => (i, e.val)) w
section
variable {κ β : Type} [DecidableEq κ] [KeyT κ] [GoT β] {S S' : Nat → Prop} {H H' H0 : Heap} {M S0 : Nat → Prop} {L : List Ent} {P : Program} {o : Oper} {f : Fr} {next : FP}
theorem MapRd.ext {es : List MapEntry} : ∀ {m : List (κ × β)}, MapRd S H es m → Ext S H H' → (∀ b, b < H.size → S' b → S b) → MapRd S' H' es m := by
  induction es with
  | nil => intro m h _ _; exact h
  | cons e es ih =>
    rintro m ⟨k, x, m', rfl, hk, hr, h⟩ hx hs
    exact ⟨k, x, m', rfl, hk, hr.ext hx hs, ih h hx hs⟩
theorem MapRd.keys {es : List MapEntry} : ∀ {m : List (κ × β)}, MapRd S H es m → es.map (·.key) = (m.map (·.1)).map kv := by
  induction es with
  | nil => intro m h; cases h; rfl
  | cons e es ih => rintro m ⟨k, x, m', rfl, hk, hr, h⟩; simp [ih h, hk]
theorem MapRd.length {es : List MapEntry} {m : List (κ × β)} (h : MapRd S H es m) : es.length = m.length := by
  have := congrArg List.length h.keys
  simpa using this
def mapE (r : Nat) (m : List (κ × β)) : Ent where
  blocks b := b = r
  ok S H := ∃ es c, H[r]? = some (.map es c) ∧ MapRd S H es.toList m ∧ mnd m
  lt h hb := by obtain ⟨es, c, hr, _⟩ := h; subst hb; exact (Array.getElem?_eq_some_iff.1 hr).1
  ext h hz hs ht := by
    obtain ⟨es, c, hr, hm, hn⟩ := h
    exact ⟨es, c, by rw [hs r (Array.getElem?_eq_some_iff.1 hr).1 (.inl rfl)]; exact hr, hm.ext ⟨hz, fun b hb hn => hs b hb (.inr hn)⟩ ht, hn⟩
theorem MapRd.find {es : List MapEntry} : ∀ {m : List (κ × β)}, MapRd S H es m → ∀ k : κ,
    (mget m k = none ∧ midx m k = none) ∨ ∃ i e x, midx m k = some i ∧ es[i]? = some e ∧ mget m k = some x ∧ Rd S H e.val x := by
  induction es with
  | nil => intro m h k; cases h; exact .inl ⟨rfl, rfl⟩
  | cons e es ih =>
    rintro m ⟨a, x, m', rfl, hk, hr, h⟩ k
    simp only [mget, midx]
    by_cases hak : a = k
    · rw [if_pos hak, if_pos hak]; exact .inr ⟨0, e, x, rfl, rfl, rfl, hr⟩
    · rw [if_neg hak, if_neg hak]
      rcases ih h k with ⟨h1, h2⟩ | ⟨i, e', x', h1, h2, h3, h4⟩
      · exact .inl ⟨h1, by rw [h2]; rfl⟩
      · exact .inr ⟨i + 1, e', x', by rw [h1]; rfl, by simpa using h2, h3, h4⟩
theorem e_makeMap {t : TypeId} (ho : o.op = .makeMap t none) (h : St H0 M S0 L H)
    (hK : ∀ r H', St H0 M S0 (mapE r ([] : List (κ × β)) :: L) H' → Ext NoB H H' → next (updO f o.dst (.map (some r))) H') : OpE P o next f H := by
  intro w hw
  subst hw
  have : (execOp (ev f) o).run P w = .ok (.value (.map (some w.heap.size))) { w with heap := w.heap.push (.map #[] 0) } := by
    simp [execOp, ho, Instr.makeMap, newObj, Sem.run]
  rw [this]
  refine ⟨⟨rfl, rfl, rfl⟩, hK _ _ ?_ (Ext.push _ _ _)⟩
  have h1 := h.alloc (.map #[] 0)
  refine h1.upd0 (Nat.le_refl _) (fun _ _ _ => rfl) (fun b hb => .inl hb) ⟨#[], 0, h1.head, rfl, by simp [mnd]⟩
theorem setObj_run {w : World} {r : Nat} {es es' : Array MapEntry} {c c' : Nat} (hr : w.heap[r]? = some (.map es c)) :
    (setObj r (.map es' c')).run P w = .ok () { w with heap := w.heap.setIfInBounds r (.map es' c') } := by
  simp [setObj, Sem.run, hr]
theorem MapRd.set {es : List MapEntry} {v : Value} {x : β} {key : Value} (hv : Rd S H v x) : ∀ {m : List (κ × β)} {k : κ} {i : Nat}, MapRd S H es m → midx m k = some i → key = kv k →
    MapRd S H (es.modify i fun e => { e with key, val := v }) (mset m k x) := by
  induction es with
  | nil => intro m k i h hi; cases h; cases hi
  | cons e es ih =>
    rintro m k i ⟨a, y, m', rfl, hk, hr, h⟩ hi hkey
    simp only [midx] at hi
    simp only [mset]
    by_cases hak : a = k
    · rw [if_pos hak] at hi ⊢; cases hi
      exact ⟨k, x, m', rfl, hkey, hv, h⟩
    · rw [if_neg hak] at hi ⊢
      cases hmi : midx m' k with
      | none => rw [hmi] at hi; cases hi
      | some j =>
        rw [hmi] at hi; cases hi
        exact ⟨a, y, _, rfl, hk, hr, ih h hmi hkey⟩
theorem MapRd.push {es : List MapEntry} {en : MapEntry} {x : β} {k : κ} (hk : en.key = kv k) (hv : Rd S H en.val x) : ∀ {m : List (κ × β)}, MapRd S H es m → midx m k = none → MapRd S H (es ++ [en]) (mset m k x) := by
  induction es with
  | nil => intro m h _; cases h; exact ⟨k, x, [], rfl, hk, hv, rfl⟩
  | cons e es ih =>
    rintro m ⟨a, y, m', rfl, hk', hr, h⟩ hi
    simp only [midx] at hi
    simp only [mset]
    by_cases hak : a = k
    · rw [if_pos hak] at hi; cases hi
    · rw [if_neg hak] at hi ⊢
      refine ⟨a, y, _, rfl, hk', hr, ih h ?_⟩
      cases hmi : midx m' k with
      | none => rfl
      | some j => rw [hmi] at hi; cases hi
theorem set_heap_same {H : Heap} {r b : Nat} {ob : Obj} (hne : ¬ b = r) : (H.setIfInBounds r ob)[b]? = H[b]? := by
  rw [Array.getElem?_setIfInBounds_ne (fun e => hne e.symm)]
theorem set_heap_at {H : Heap} {r : Nat} {ob ob' : Obj} (hr : H[r]? = some ob') : (H.setIfInBounds r ob)[r]? = some ob := by
  have := (Array.getElem?_eq_some_iff.1 hr).1
  simp [this]
theorem St.mapSet {r : Nat} {m m' : List (κ × β)} {es' : Array MapEntry} {c' : Nat} (h : St H0 M S0 (mapE r m :: L) H) (hm : MapRd (SL S0 (mapE r m :: L)) H es'.toList m') (hn : mnd m') :
    St H0 M S0 (mapE r m' :: L) (H.setIfInBounds r (.map es' c')) ∧ Ext (fun b => b = r) H (H.setIfInBounds r (.map es' c')) := by
  obtain ⟨es, c, hr, hm0, hn0⟩ := h.head
  have hx : Ext (fun b => b = r) H (H.setIfInBounds r (.map es' c')) := ⟨by simp, fun b _ hb => set_heap_same hb⟩
  refine ⟨h.upd0 (by simp) (fun b _ hb => set_heap_same hb) (fun b hb => .inl hb) ⟨es', c', set_heap_at hr, ?_, hn⟩, hx⟩
  refine hm.ext (hx.mono fun b hb => .inr ⟨_, List.mem_cons_self .., hb⟩) ?_
  rintro b _ (hs | ⟨e, he, hs⟩)
  · exact .inl hs
  · rcases List.mem_cons.1 he with rfl | h'
    · exact .inr ⟨_, List.mem_cons_self .., hs⟩
    · exact .inr ⟨e, List.mem_cons_of_mem _ h', hs⟩
theorem keyStays {k : κ} (w : World) (old : Value) (h : old = kv k) : (Instr.keyThatStays old (kv k)).run P w = .ok (kv k) w := by
  subst h
  unfold Instr.keyThatStays
  rw [if_pos (KeyT.bits k)]
  rfl
theorem e_mapUpdate {t kt e : TypeId} {xm xk xv : Operand} {r : Nat} {m : List (κ × β)} {k : κ} {v : Value} {y : β} (ho : o.op = .mapUpdate t xm xk xv ∨ o.op = .insert t xm xk xv) (ht : P.underlying t = some (.map kt e))
    (hl : KeyLaw P kt κ) (hx : ev f xm = .map (some r)) (hi : ev f xk = kv k) (hv : ev f xv = v) (h : St H0 M S0 (mapE r m :: L) H) (hr : Rd (SL S0 (mapE r m :: L)) H v y)
    (hK : ∀ H', St H0 M S0 (mapE r (mset m k y) :: L) H' → Ext (fun b => b = r) H H' → next (updO f o.dst undef) H') : OpE P o next f H := by
  intro w hw
  subst hw
  obtain ⟨es, c, hrr, hm, hn⟩ := h.head
  have hf := hl.find k es.toList (m.map (·.1)) w hm.keys
  rw [midx_map] at hf
  have hg : (getObj r).run P w = .ok (.map es c) w := by simp [getObj, Sem.run, hrr]
  rcases hm.find k with ⟨h1, h2⟩ | ⟨j, en, y0, h1, h2, h3, h4⟩
  · have hrun : (execOp (ev f) o).run P w = .ok .skip { w with heap := w.heap.setIfInBounds r (.map (es.push { key := kv k, val := v, born := c }) (c + 1)) } := by
      rw [h2] at hf
      rcases ho with ho | ho <;>
        simp [execOp, ho, hx, hi, hv, Instr.mapUpdate, run_underlying ht, hg, hl.check, hf, setObj_run hrr]
    rw [hrun]
    have hs := h.mapSet (es' := es.push { key := kv k, val := v, born := c }) (c' := c + 1) (m' := mset m k y) (by simpa using MapRd.push (en := { key := kv k, val := v, born := c }) rfl hr hm h2) (mnd_mset hn k y)
    exact ⟨⟨rfl, rfl, rfl⟩, hK _ hs.1 hs.2⟩
  · have hkey : (es[j]?).map (·.key) = some (kv k) := by
      have h5 := hm.keys
      have h6 : (es.toList.map (·.key))[j]? = some en.key := by simp [h2]
      rw [h5] at h6
      have h7 := midx_keys (kv (κ := κ)) m k j h1
      rw [h7] at h6
      have h8 : es[j]? = some en := by simpa using h2
      rw [h8]
      simp only [Option.map_some]
      exact h6.symm
    have hrun : (execOp (ev f) o).run P w = .ok .skip { w with heap := w.heap.setIfInBounds r (.map (es.modify j fun e => { e with key := kv k, val := v }) c) } := by
      rw [h1] at hf
      simp only [Option.bind_some, h2, Option.map_some] at hf
      have hks : (Instr.keyThatStays (((es[j]?).map (·.key)).getD (kv k)) (kv k)).run P w = .ok (kv k) w := by rw [hkey]; exact keyStays w _ rfl
      rcases ho with ho | ho <;>
        simp [execOp, ho, hx, hi, hv, Instr.mapUpdate, run_underlying ht, hg, hl.check, hf, setObj_run hrr, -Option.getD_map, hks]
    rw [hrun]
    have hs := h.mapSet (es' := es.modify j fun e => { e with key := kv k, val := v }) (c' := c) (m' := mset m k y) (by simpa using MapRd.set (key := kv k) hr hm h1 rfl) (mnd_mset hn k y)
    exact ⟨⟨rfl, rfl, rfl⟩, hK _ hs.1 hs.2⟩
end
instance instKeyInt : KeyT Int where
  kv := I
  inj h := by cases h; rfl
  bits a := by simp [Instr.sameBits]
theorem findNow_int (kd : IntKind) (k : Int) : ∀ (es : List MapEntry) (ks : List Int) (i : Nat), es.map (·.key) = ks.map kv →
    Instr.findNow (.int kd) (I k) es i = some ((midx (ks.map fun a => (a, ())) k).bind fun j => (es[j]?).map fun e => (i + j, e.val)) := by
  intro es
  induction es with
  | nil => intro ks i h; cases ks with | nil => rfl | cons a ks => simp at h
  | cons e es ih =>
    intro ks i h
    cases ks with
    | nil => simp at h
    | cons a ks =>
      simp only [List.map_cons, List.cons.injEq] at h
      have hk : e.key = I a := h.1
      simp only [Instr.findNow, hk, Instr.sameNow, if_true, List.map_cons, midx]
      by_cases hak : a = k
      · subst hak; simp
      · have : (k == a) = false := by simpa using fun e => hak e.symm
        rw [this, if_neg hak]
        simp only
        rw [ih ks (i + 1) h.2]
        cases midx (ks.map fun a => (a, ())) k with
        | none => rfl
        | some j => simp [Nat.add_comm 1 j, Nat.add_assoc]
theorem keyLaw_int {P : Program} {t : TypeId} {kd : IntKind} (ht : P.underlying t = some (.int kd)) : KeyLaw P t Int where
  check b k w := by unfold Instr.checkKey; rw [run_bind_ok (run_underlying ht w)]; rfl
  find k es ks w h := by
    have := findNow_int kd k es ks 0 h
    simp only [Nat.zero_add] at this
    simp [Instr.findKey, run_underlying ht, kv, this]
end Go.Um
namespace Go.Um
open GoT (sz ag rdc)
open KeyT (kv)
open Go.RowKit
theorem map_range0 {γ : Type} (g : Nat → γ) : (Array.range 0).map g = #[] := by apply Array.ext'; simp
def enumV (k : Nat) : List Value → List (Nat × Value)
  | [] => []
  | v :: vs => (k, v) :: enumV (k + 1) vs
theorem foldl_set (cs : List Value) : ∀ (n : Nat) (pre post : List Value), pre.length = n → cs.length ≤ post.length →
    (cs.zipIdx).foldl (fun (a : Array Value) (c, j) => a.setIfInBounds (n + j) c) (pre ++ post).toArray = (pre ++ cs ++ post.drop cs.length).toArray := by
  suffices h : ∀ (cs : List Value) (m n : Nat) (pre post : List Value), pre.length = n + m → cs.length ≤ post.length →
      (cs.zipIdx m).foldl (fun (a : Array Value) (c, j) => a.setIfInBounds (n + j) c) (pre ++ post).toArray = (pre ++ cs ++ post.drop cs.length).toArray by
    intro n pre post h1 h2; exact h cs 0 n pre post (by simpa using h1) h2
  intro cs
  induction cs with
  | nil => intro m n pre post _ _; simp
  | cons c cs ih =>
    intro m n pre post h1 h2
    cases post with
    | nil => simp at h2
    | cons p post =>
      simp only [List.zipIdx_cons, List.foldl_cons]
      have : (pre ++ p :: post).toArray.setIfInBounds (n + m) c = ((pre ++ [c]) ++ post).toArray := by
        simp [← h1]
      rw [this, ih (m + 1) n (pre ++ [c]) post (by simp [h1]; omega) (by simpa using h2)]
      simp
theorem fill_enum (size : Nat) : ∀ (vs : List Value) (k : Nat) (pre post : List Value), (∀ v ∈ vs, v.cells.size = size) → pre.length = k * size → post.length = vs.length * size →
    Instr.fill (fun i => some (i * size, size)) (pre ++ post).toArray (enumV k vs) = some (pre ++ vs.flatMap (·.cells.toList)).toArray := by
  intro vs
  induction vs with
  | nil => intro k pre post _ _ h; simp at h; simp [enumV, Instr.fill, h]
  | cons v vs ih =>
    intro k pre post hv h1 h2
    have hs := hv v (by simp)
    have hp : size ≤ post.length := by rw [h2, List.length_cons, Nat.succ_mul]; omega
    simp only [enumV, Instr.fill]
    have e1 : (pre ++ post).toArray.size = k * size + post.length := by simp [h1]
    rw [if_neg (by simp only [hs, e1, ne_eq, not_true_eq_false, decide_false, Bool.false_or, decide_eq_true_eq]; omega)]
    have hz : v.cells.zipIdx.foldl (fun cs (x : Value × Nat) => cs.setIfInBounds (k * size + x.2) x.1) (pre ++ post).toArray = (pre ++ v.cells.toList ++ post.drop v.cells.toList.length).toArray := by
      rw [← Array.foldl_toList, Array.toList_zipIdx]
      exact foldl_set v.cells.toList (k * size) pre post h1 (by simpa [hs] using hp)
    rw [hz, ih (k + 1) (pre ++ v.cells.toList) _ (fun u hu => hv u (by simp [hu])) (by simp [h1, hs, Nat.succ_mul]) (by simp [h2, hs, Nat.succ_mul])]
    simp
section
variable {α : Type} [GoT α] {P : Program} {o : Oper} {f : Fr} {H0 H : Heap} {M S0 S : Nat → Prop} {L : List Ent} {next : FP}
theorem rd_cells {v : Value} {x : α} (h : Rd S H v x) : v.cells.size = sz α ∧ rdc S H v.cells.toList x := by
  obtain ⟨cs, hr, rfl⟩ := h
  have hl := GoT.len hr
  cases hag : ag α with
  | true => simp [valOf, Value.cells, hl, hr]
  | false =>
    have h1 := GoT.one hag
    match cs, hl with
    | [], hl => rw [h1] at hl; cases hl
    | [c], hl =>
      have hc := GoT.cell hr c (by simp)
      have : (valOf false [c]).cells = #[c] := by
        simp only [valOf, List.headD_cons]
        cases c <;> first | rfl | simp [Value.oneCell'] at hc
      rw [this]
      exact ⟨by simp [h1], hr⟩
    | _ :: _ :: _, hl => rw [h1] at hl; simp at hl
inductive RdVs (S : Nat → Prop) (H : Heap) : List Value → List α → Prop
  | nil : RdVs S H [] []
  | cons {v vs x xs} : Rd S H v x → RdVs S H vs xs → RdVs S H (v :: vs) (x :: xs)
theorem RdVs.len {vs : List Value} {xs : List α} (h : RdVs S H vs xs) : vs.length = xs.length := by induction h <;> simp [*]
theorem RdVs.cells {vs : List Value} {xs : List α} (h : RdVs S H vs xs) : RdCs S H (vs.flatMap (·.cells.toList)) xs := by
  induction h with
  | nil => rfl
  | cons hr _ ih => exact ⟨_, _, by simp, (rd_cells hr).2, ih⟩
theorem RdVs.sizes {vs : List Value} {xs : List α} (h : RdVs S H vs xs) : ∀ v ∈ vs, v.cells.size = sz α := by
  induction h with
  | nil => simp
  | cons hr _ ih => intro u hu; rcases List.mem_cons.1 hu with rfl | hu; exact (rd_cells hr).1; exact ih u hu
theorem St.newRow {e : TypeId} {cl : List Value} {xs : List α} (h : St H0 M S0 L H) (hr : RdCs (SL S0 L) H cl xs) (hb : xs.length * GoT.bytes α ≤ 140737488355328) (hm : xs.length ≤ maxLen) :
    St H0 M S0 (rowE e (.slice (some ⟨H.size, 0, none⟩) xs.length xs.length) xs :: L) (H.push (.cells cl.toArray e)) := by
  have h1 := h.alloc (.cells cl.toArray e)
  have hlt : ∀ b, b < H.size → SL S0 (rowE e (.slice (some ⟨H.size, 0, none⟩) xs.length xs.length) xs :: L) b → SL S0 L b := by
    rintro b hb (hs | ⟨e', he, hs⟩)
    · exact .inl hs
    · rcases List.mem_cons.1 he with rfl | h'
      · have : some H.size = some b := hs
        cases this; omega
      · exact .inr ⟨e', h', hs⟩
  refine h1.upd0 (Nat.le_refl _) (fun _ _ _ => rfl) ?_ ⟨hb, cl, hr.ext (Ext.push _ _ _) hlt, .inr ⟨H.size, xs.length, cl.toArray, rfl, h1.head, Nat.le_refl _, hm, by simp [hr.len], by simp [← hr.len]⟩⟩
  intro b hb'
  left
  have : some H.size = some b := hb'
  cases this
  rfl
theorem e_buildSlice {t e : TypeId} {n : Nat} {ps : Array (Nat × Operand)} {vs : List Value} {xs : List α} {z : Value} (ho : o.op = .buildSlice t n ps) (ht : P.underlying t = some (.slice e))
    (hz : ∀ w, (zeroValue e).run P w = .ok z w) (hzz : z.cells.size = sz α) (hs : ∀ w, (sizeOf e).run P w = .ok (sz α) w) (hp : (ps.map fun (i, x) => (i, ev f x)) = (enumV 0 vs).toArray) (hn : vs.length = n)
    (h : St H0 M S0 L H) (hr : RdVs (SL S0 L) H vs xs) (hb : n * sz α ≤ 16777216) (hbb : n * GoT.bytes α ≤ 140737488355328)
    (hK : ∀ v H', St H0 M S0 (rowE e v xs :: L) H' → Ext NoB H H' → (v = .slice (some ⟨H.size, 0, none⟩) n n) → next (updO f o.dst v) H') : OpE P o next f H := by
  intro w hw
  subst hw
  have hnx : n = xs.length := by rw [← hn, hr.len]
  have hzero : ∀ c : Array Value, c.size = sz α → ∃ l : List Value, (Array.range (n * sz α)).map (fun i => c[i % c.size]!) = l.toArray ∧ l.length = n * sz α := fun c _ => ⟨((Array.range (n * sz α)).map (fun i => c[i % c.size]!)).toList, by rw [Array.toArray_toList], by simp⟩
  have hrun : (execOp (ev f) o).run P w = .ok (.value (.slice (some ⟨w.heap.size, 0, none⟩) n n)) { w with heap := w.heap.push (.cells (vs.flatMap (·.cells.toList)).toArray e) } := by
    have h24 : ¬ (16777216 < n * sz α) := by omega
    simp only [execOp, ho]
    rw [hp]
    by_cases h0 : n * sz α = 0
    · have hn0 : n = 0 := by
        rcases Nat.mul_eq_zero.1 h0 with h | h
        · exact h
        · have := GoT.pos (α := α); omega
      have hv : vs = [] := List.eq_nil_of_length_eq_zero (by omega)
      subst hv
      subst hn0
      simp [Instr.buildSlice, run_underlying ht, hs, enumV, Instr.fill, newRow, newObj, Sem.run]
      exact congrArg (fun c => w.alloc (Obj.cells c e)) (map_range0 _)
    · obtain ⟨l, hl, hll⟩ := hzero z.cells hzz
      have hf := fill_enum (sz α) vs 0 [] l hr.sizes (by simp) (by rw [hll, hn])
      simp only [List.nil_append] at hf
      simp [Instr.buildSlice, run_underlying ht, hs, h24, h0, hz, hl, hf, newRow, newObj, Sem.run]
  rw [hrun]
  subst hnx
  refine ⟨⟨rfl, rfl, rfl⟩, hK _ _ (h.newRow (hr.cells) hbb ?_) (Ext.push _ _ _) rfl⟩
  have : 0 < sz α := GoT.pos
  have : xs.length ≤ xs.length * sz α := Nat.le_mul_of_pos_right _ this
  simp only [maxLen]; omega
theorem rdCs_rep {cs : List Value} {x : α} (h : rdc S H cs x) : ∀ n, RdCs S H (List.replicate n cs).flatten (List.replicate n x) := by
  intro n
  induction n with
  | zero => rfl
  | succ n ih => exact ⟨cs, _, by simp [List.replicate_succ], h, ih⟩
theorem rep_map (c : Array Value) (n : Nat) (h : 0 < c.size) : ((Array.range (n * c.size)).map fun i => c[i % c.size]!) = (List.replicate n c.toList).flatten.toArray := by
  apply Array.ext'
  simp only [Array.toList_map, Array.toList_range]
  induction n with
  | zero => simp
  | succ n ih =>
    rw [Nat.succ_mul, List.range_add, List.map_append, ih, List.replicate_succ', List.flatten_append]
    congr 1
    simp only [List.map_map, List.flatten_cons, List.flatten_nil, List.append_nil]
    apply List.ext_getElem
    · simp
    · intro i h1 h2
      simp only [List.length_map, List.length_range] at h1
      simp [Nat.mod_eq_of_lt h1, h1]
theorem e_makeSlice {t e : TypeId} {xl xc : Operand} {n : Nat} {zl : Int} {z : Value} {x0 : α} (ho : o.op = .makeSlice t xl xc) (ht : P.underlying t = some (.slice e))
    (hz : ∀ w, (zeroValue e).run P w = .ok z w) (hE : ElemOk P α e) (hs : ∀ w, (sizeOf e).run P w = .ok (sz α) w) (hl : ev f xl = I zl) (hc : ev f xc = I zl) (hzl : zl = (n : Int)) (hzr : ∀ S H, Rd S H z x0)
    (h : St H0 M S0 L H) (hb : n * GoT.bytes α ≤ 140737488355328) (hn : n ≤ 9223372036854775807)
    (hK : ∀ v H', St H0 M S0 (rowE e v (List.replicate n x0) :: L) H' → Ext NoB H H' → next (updO f o.dst v) H') : OpE P o next f H := by
  intro w hw
  subst hw
  subst hzl
  obtain ⟨i, z', hi, hz', hiz, hiby, hzz⟩ := hE.info
  have hwr : IntKind.i64.wrap (n : Int) = n := wrap_in ⟨by omega, by omega⟩
  have hti : ∀ w, (typeInfo e).run P w = .ok i w := fun w => by simp [typeInfo, hi]
  have hb1 : ¬ (281474976710656 < (i.bytes : Int) * (n : Int)) := by
    rw [hiby]
    have : ((GoT.bytes α : Nat) : Int) * (n : Int) = ((n * GoT.bytes α : Nat) : Int) := by rw [Int.natCast_mul, Int.mul_comm]
    rw [this]; omega
  have hroom : ∀ w : World, (askRoom (n * i.bytes)).run P w = .ok () w := by
    intro w; unfold askRoom roomBytes; rw [if_neg (by rw [hiby]; omega)]; simp
  have hcells := rd_cells (hzr NoB w.heap)
  have hrun : (execOp (ev f) o).run P w = .ok (.value (.slice (some ⟨w.heap.size, 0, none⟩) n n)) { w with heap := w.heap.push (.cells (List.replicate n z.cells.toList).flatten.toArray e) } := by
    by_cases h0 : n * sz α = 0
    · have hn0 : n = 0 := by
        rcases Nat.mul_eq_zero.1 h0 with h | h
        · exact h
        · have := GoT.pos (α := α); omega
      subst hn0
      simp only [execOp, ho, hl, hc, Instr.makeSlice, Sem.run_bind, run_underlying ht, Result.andThen_ok, asInt, asIntOf, Sem.run_pure, hti]
      simp [wrap_in (n := 0) ⟨by omega, by omega⟩, hs, newRow, newObj, Sem.run, askRoom]
      exact congrArg (fun c => w.alloc (Obj.cells c e)) (map_range0 _)
    · have hrep := rep_map z.cells n (by rw [hcells.1]; exact GoT.pos)
      rw [hcells.1] at hrep
      simp only [execOp, ho, hl, hc, Instr.makeSlice, Sem.run_bind, run_underlying ht, Result.andThen_ok, asInt, asIntOf, Sem.run_pure, hti]
      simp only [hwr, Int.toNat_natCast]
      have hneg : ¬ ((n : Int) < 0) := by omega
      simp [hb1, hroom, hs, h0, hz, hcells.1, hrep, hneg, newRow, newObj, Sem.run]
  rw [hrun]
  have hst := h.newRow (e := e) (cl := (List.replicate n z.cells.toList).flatten) (xs := List.replicate n x0) (rdCs_rep (rd_cells (hzr _ _)).2 n) (by simpa using hb) (by simp [maxLen]; omega)
  simp only [List.length_replicate] at hst
  exact ⟨⟨rfl, rfl, rfl⟩, hK _ _ hst (Ext.push _ _ _)⟩
theorem RdCs.set {xs : List α} {k : Nat} {y : α} {cs : List Value} (hy : rdc S H cs y) : ∀ {cl : List Value}, RdCs S H cl xs → k < xs.length →
    RdCs S H (cl.take (k * sz α) ++ cs ++ cl.drop (k * sz α + cs.length)) (xs.set k y) := by
  induction xs generalizing k with
  | nil => intro cl _ h; simp at h
  | cons x xs ih =>
    rintro cl ⟨c1, c2, rfl, h1, h2⟩ hk
    have hl1 := GoT.len h1
    have hly := GoT.len hy
    cases k with
    | zero => exact ⟨cs, c2, by simp [hl1, hly], hy, h2⟩
    | succ k =>
      refine ⟨c1, c2.take (k * sz α) ++ cs ++ c2.drop (k * sz α + cs.length), ?_, h1, ih h2 (by simpa using hk)⟩
      rw [Nat.succ_mul, List.take_append, List.take_of_length_le (by omega), List.drop_append, List.drop_of_length_le (by omega)]
      simp only [List.append_assoc, List.nil_append]
      congr 3
      · congr 1; omega
      · congr 1; congr 1; omega
theorem e_rowSet {t e : TypeId} {x y : Operand} {v u : Value} {xs : List α} {k : Nat} {y0 : α} (ho : o.op = .store t x y) (hx : ev f x = eptr (sz α) v k) (hy : ev f y = u) (hag : ag α = false)
    (hz : ∀ w, (sizeOf t).run P w = .ok 1 w) (hlt : k < xs.length) (h : St H0 M S0 (rowE e v xs :: L) H) (hr : Rd (SL S0 (rowE e v xs :: L)) H u y0)
    (hK : ∀ H', St H0 M S0 (rowE e v (xs.set k y0) :: L) H' → Ext (rowB v) H H' → next (updO f o.dst undef) H') : OpE P o next f H := by
  intro w hw
  subst hw
  obtain ⟨hby, cl, hcl, ⟨rfl, hn, _⟩ | ⟨g, c, cur, rfl, hg, hc, hm, hzc, ht⟩⟩ := h.head
  · omega
  have hsz1 := GoT.one hag
  have hlen := hcl.len
  obtain ⟨hcu, hru⟩ := rd_cells hr
  rw [hsz1] at hcu
  have hu1 : u.cells = #[u] ∧ u.oneCell' = true := by
    obtain ⟨cs, hrc, rfl⟩ := hr
    have hl := GoT.len hrc
    rw [hsz1] at hl
    match cs, hl with
    | [c0], _ =>
      have h1 := GoT.cell hrc c0 (by simp)
      simp only [valOf, hag, Bool.false_eq_true, if_false, List.headD_cons]
      refine ⟨?_, h1⟩
      cases c0 <;> first | rfl | simp [Value.oneCell'] at h1
  have hk : k < cur.size := by rw [hzc, hsz1]; omega
  have hpt : ev f x = PT g k := by rw [hx]; simp [eptr, hsz1]
  have hcell : w.cell? ⟨g, k, none⟩ = some cur[k] := by rw [cell_hcell]; simp [hcell, hg, Array.getElem?_eq_getElem hk]
  have hf : w.frozen? ⟨g, k, none⟩ = false := by simp [World.frozen?, hg]
  have : (execOp (ev f) o).run P w = .ok .skip (w.setCell ⟨g, k, none⟩ u) := by
    have hadd : (⟨g, k, none⟩ : Addr).add 0 = ⟨g, k, none⟩ := by simp [add_off]
    simp [execOp, ho, hpt, hy, Instr.storeAt, Instr.sureAddr, storeVar, hu1.1, hz, storeCells, hadd, run_store, hcell, hf, hu1.2]
  rw [this]
  have hsz : (w.setCell ⟨g, k, none⟩ u).heap.size = w.heap.size := by simp [World.setCell]
  have hrow : ∀ b, rowB (.slice (some ⟨g, 0, none⟩) xs.length c) b ↔ b = g := by intro b; simp [rowB, Value.ownBlock, eq_comm]
  have hsame : ∀ b, b < w.heap.size → ¬ rowB (.slice (some ⟨g, 0, none⟩) xs.length c) b → (w.setCell ⟨g, k, none⟩ u).heap[b]? = w.heap[b]? := fun b _ hne => setCell_other fun e => hne ((hrow b).2 e)
  have hx' : Ext (rowB (.slice (some ⟨g, 0, none⟩) xs.length c)) w.heap (w.setCell ⟨g, k, none⟩ u).heap := ⟨by rw [hsz]; exact Nat.le_refl _, hsame⟩
  have hsl : ∀ b, SL S0 (rowE e (.slice (some ⟨g, 0, none⟩) xs.length c) (xs.set k y0) :: L) b → SL S0 (rowE e (.slice (some ⟨g, 0, none⟩) xs.length c) xs :: L) b := by
    rintro b (hs | ⟨e', he, hs⟩)
    · exact .inl hs
    · rcases List.mem_cons.1 he with rfl | h'
      · exact .inr ⟨_, List.mem_cons_self .., hs⟩
      · exact .inr ⟨e', List.mem_cons_of_mem _ h', hs⟩
  refine ⟨⟨rfl, rfl, rfl⟩, hK _ (h.upd0 (by rw [hsz]; exact Nat.le_refl _) hsame (fun b hb => .inl hb) ?_) hx'⟩
  have hu : rdc (SL S0 (rowE e (.slice (some ⟨g, 0, none⟩) xs.length c) xs :: L)) w.heap [u] y0 := by rw [hu1.1] at hru; exact hru
  have hset := RdCs.set (k := k) hu hcl hlt
  refine ⟨by simpa using hby, _, hset.ext (hx'.mono fun b hb => .inr ⟨_, List.mem_cons_self .., hb⟩) (fun b _ hb => hsl b hb), .inr ⟨g, c, cur.setIfInBounds k u, by simp, setCell_heap hg, by simpa using hc, hm, by simpa using hzc, ?_⟩⟩
  rw [← ht]
  simp only [hsz1, Nat.mul_one, List.length_set, List.length_singleton, Array.toList_setIfInBounds]
  rw [List.take_take, Nat.min_eq_left (by omega)]
  apply List.ext_getElem?
  intro j
  have hcur : xs.length ≤ cur.toList.length := by have h1 : cur.toList.length = c * 1 := by rw [← hsz1, ← hzc]; simp
                                                  rw [h1]; omega
  have hkc : k < cur.toList.length := by omega
  rw [List.getElem?_take, List.getElem?_set, List.append_assoc]
  rcases Nat.lt_trichotomy j k with hj | hj | hj
  · have hjl : (List.take k cur.toList).length = k := by rw [List.length_take]; omega
    rw [if_pos (by omega), if_neg (by omega), List.getElem?_append_left (by rw [hjl]; exact hj), List.getElem?_take, if_pos hj]
  · subst hj
    have hjl : (List.take j cur.toList).length = j := by rw [List.length_take]; omega
    rw [if_pos hlt, if_pos rfl, if_pos hkc, List.getElem?_append_right (by rw [hjl]; exact Nat.le_refl _), hjl, Nat.sub_self]
    rfl
  · have hjl : (List.take k cur.toList).length = k := by rw [List.length_take]; omega
    rw [if_neg (by omega : ¬ k = j), List.getElem?_append_right (by rw [hjl]; omega), hjl]
    rw [List.getElem?_append_right (by simp; omega)]
    simp only [List.length_singleton, List.getElem?_drop]
    rw [show k + 1 + (j - k - 1) = j from by omega, List.getElem?_take]
end
end Go.Um
namespace Go.Um
open GoT (sz ag rdc)
open KeyT (kv)
open Go.RowKit
def own (A : List Ent) : Nat → Prop := fun b => ∃ e ∈ A, e.blocks b
section
variable {H0 H H' : Heap} {M S0 S : Nat → Prop} {A A' L : List Ent}
theorem SL_app {b : Nat} : SL S0 (A ++ L) b ↔ (S0 b ∨ own A b) ∨ own L b := by
  unfold SL own
  constructor
  · rintro (h | ⟨e, he, hb⟩)
    · exact .inl (.inl h)
    · rcases List.mem_append.1 he with h | h
      · exact .inl (.inr ⟨e, h, hb⟩)
      · exact .inr ⟨e, h, hb⟩
  · rintro ((h | ⟨e, he, hb⟩) | ⟨e, he, hb⟩)
    · exact .inl h
    · exact .inr ⟨e, List.mem_append_left _ he, hb⟩
    · exact .inr ⟨e, List.mem_append_right _ he, hb⟩
theorem St.frameM (h : St H0 M S0 L H) : Ext M H0 H := ⟨h.size, fun b hb hm => h.old b hb hm⟩
theorem St.handed (hA : ∀ e ∈ A, e.ok S H) (hdj : A.Pairwise fun e e' => ∀ b, e.blocks b → ¬ e'.blocks b) (hs : ∀ b, S b → b < H.size) (hin : ∀ b, own A b → S b) :
    St H (own A) (fun b => S b ∧ ¬ own A b) A H where
  size := Nat.le_refl _
  old _ _ _ := rfl
  ok e he := e.ext (hA e he) (Nat.le_refl _) (fun _ _ _ => rfl) (fun b _ hb => by
    rcases hb with hb | hb
    · exact hb.1
    · exact hin b hb)
  ge e he b hb := ⟨.inr ⟨e, he, hb⟩, fun h => h.2 ⟨e, he, hb⟩⟩
  dj := hdj
  s0 b hb := hs b hb.1
def lv (S : Nat → Prop) (A A' : List Ent) : Nat → Prop := fun b => (S b ∧ ¬ own A b) ∨ own A' b
theorem St.back (h : St H0 M S0 (A ++ L) H) (hx : Ext (own A) H H') (hok : ∀ e ∈ A', e.ok (lv (SL S0 (A ++ L)) A A') H') (hbl : ∀ b, own A' b → own A b ∨ H.size ≤ b)
    (hdj : A'.Pairwise fun e e' => ∀ b, e.blocks b → ¬ e'.blocks b) : St H0 M S0 (A' ++ L) H' := by
  have hAL : ∀ b, own A b → ¬ own L b := by
    rintro b ⟨e, he, hb⟩ ⟨e', he', hb'⟩
    exact (List.pairwise_append.1 h.dj).2.2 e he e' he' b hb hb'
  have hLt : ∀ e ∈ L, ∀ b, e.blocks b → b < H.size := fun e he b hb => e.lt (h.ok e (List.mem_append_right _ he)) hb
  have hA0 : ∀ b, own A b → ¬ S0 b := by rintro b ⟨e, he, hb⟩; exact (h.ge e (List.mem_append_left _ he) b hb).2
  have hlv : ∀ b, SL S0 (A' ++ L) b → lv (SL S0 (A ++ L)) A A' b := by
    intro b hs
    rcases SL_app.1 hs with (h1 | h1) | h1
    · exact .inl ⟨.inl h1, fun ho => hA0 b ho h1⟩
    · exact .inr h1
    · exact .inl ⟨SL_app.2 (.inr h1), fun ho => hAL b ho h1⟩
  have hsl : ∀ b, b < H.size → SL S0 (A' ++ L) b → SL S0 (A ++ L) b := by
    intro b hb hs
    rcases SL_app.1 hs with (h1 | h1) | h1
    · exact SL_app.2 (.inl (.inl h1))
    · rcases hbl b h1 with h2 | h2
      · exact SL_app.2 (.inl (.inr h2))
      · omega
    · exact SL_app.2 (.inr h1)
  refine ⟨Nat.le_trans h.size hx.size, ?_, ?_, ?_, ?_, h.s0⟩
  · intro b hb hm
    rw [hx.same b (Nat.lt_of_lt_of_le hb h.size) ?_]
    · exact h.old b hb hm
    · rintro ⟨e, he, hb'⟩
      rcases (h.ge e (List.mem_append_left _ he) b hb').1 with h1 | h1
      · omega
      · exact hm h1
  · intro e he
    rcases List.mem_append.1 he with h1 | h1
    · exact e.ext (hok e h1) (Nat.le_refl _) (fun _ _ _ => rfl) (fun b _ hs => hlv b hs)
    · refine e.ext (h.ok e (List.mem_append_right _ h1)) hx.size ?_ hsl
      rintro b hb (h2 | h2)
      · exact hx.same b hb fun ho => hAL b ho ⟨e, h1, h2⟩
      · exact hx.same b hb fun ho => h2 (SL_app.2 (.inl (.inr ho)))
  · intro e he b hb
    rcases List.mem_append.1 he with h1 | h1
    · rcases hbl b ⟨e, h1, hb⟩ with ⟨e', he', hb'⟩ | h2
      · exact h.ge e' (List.mem_append_left _ he') b hb'
      · have := h.size
        exact ⟨.inl (by omega), fun hs => by have := h.s0 b hs; omega⟩
    · exact h.ge e (List.mem_append_right _ h1) b hb
  · refine List.pairwise_append.2 ⟨hdj, (List.pairwise_append.1 h.dj).2.1, ?_⟩
    intro e he e' he' b hb hb'
    rcases hbl b ⟨e, he, hb⟩ with h1 | h1
    · exact hAL b h1 ⟨e', he', hb'⟩
    · have := hLt e' he' b hb'
      omega
theorem handed_sub {b : Nat} (hin : ∀ b, own A b → S b) (h : SL (fun b => S b ∧ ¬ own A b) A b) : S b := by
  rcases h with h | h
  · exact h.1
  · exact hin b h
theorem SL_rd {α : Type} [GoT α] {v : Value} {x : α} {b : Nat} (h : SL S0 (rdE v x :: L) b) : SL S0 L b := by
  rcases h with h | ⟨e, he, hb⟩
  · exact .inl h
  · rcases List.mem_cons.1 he with rfl | h'
    · exact hb.elim
    · exact .inr ⟨e, h', hb⟩
end
end Go.Um
namespace Go.Um
open GoT (sz ag rdc)
open KeyT (kv)
open Go.RowKit
section
variable {κ β : Type} [DecidableEq κ] [KeyT κ] [GoT β] {S S' : Nat → Prop} {H H' H0 : Heap} {P : Program} {o : Oper} {f : Fr} {U : Nat → Prop}
theorem lookD {t kt e : TypeId} {r : Nat} {m : List (κ × β)} {z : Value} {d : β} (ht : P.underlying t = some (.map kt e)) (hl : KeyLaw P kt κ) (hz : ∀ w, (zeroValue e).run P w = .ok z w)
    (hd : ∀ S H, Rd S H z d) (k : κ) (h : (mapE r m).ok S H) :
    ∃ u, (∀ U : Nat → Prop, ¬ U r → ∀ w : World, Ext U H w.heap → (Instr.lookup t (.map (some r)) (kv k) true).run P w = .ok (.tuple #[u, .bool (mget m k).isSome]) w ∧
      (Instr.lookup t (.map (some r)) (kv k) false).run P w = .ok u w) ∧ Rd S H u ((mget m k).getD d) := by
  obtain ⟨es, c, hr, hm, hn⟩ := h
  have hlt := (Array.getElem?_eq_some_iff.1 hr).1
  have key : ∀ (ok : Bool) (U : Nat → Prop), ¬ U r → ∀ w : World, Ext U H w.heap → (Instr.lookup t (.map (some r)) (kv k) ok).run P w = .ok (match midx m k with
      | some j => match es.toList[j]? with
        | some en => if ok then .tuple #[en.val, .bool true] else en.val
        | none => if ok then .tuple #[z, .bool false] else z
      | none => if ok then .tuple #[z, .bool false] else z) w := by
    intro ok U hU w hw
    have hr' : w.heap[r]? = some (.map es c) := by rw [hw.same r hlt hU]; exact hr
    have hf := hl.find k es.toList (m.map (·.1)) w hm.keys
    rw [midx_map] at hf
    have hg : (getObj r).run P w = .ok (.map es c) w := by simp [getObj, Sem.run, hr']
    simp only [Instr.lookup, Sem.run_bind, run_underlying ht, Result.andThen_ok, hg, Sem.run_pure, hl.check, hf]
    cases hmi : midx m k with
    | none => simp [hz]
    | some j =>
      simp only [Option.bind_some]
      cases he : es.toList[j]? with
      | none => simp [hz]
      | some en => simp
  rcases hm.find k with ⟨h1, h2⟩ | ⟨j, en, y, h1, h2, h3, h4⟩
  · refine ⟨z, fun U hU w hw => ⟨?_, ?_⟩, ?_⟩
    · rw [key true U hU w hw, h2, h1]; rfl
    · rw [key false U hU w hw, h2]; rfl
    · rw [h1]; exact hd S H
  · refine ⟨en.val, fun U hU w hw => ⟨?_, ?_⟩, ?_⟩
    · rw [key true U hU w hw, h1]; simp only [h2, h3]; rfl
    · rw [key false U hU w hw, h1]; simp only [h2]; rfl
    · rw [h3]; exact h4
theorem q_lookup1 {t : TypeId} {x i : Operand} {k : κ} {mv u v : Value} (ho : o.op = .lookup t x i true) (hx : ev f x = mv) (hi : ev f i = kv k)
    (hl : ∀ w : World, Ext U H w.heap → (Instr.lookup t mv (kv k) true).run P w = .ok u w ∧ (Instr.lookup t mv (kv k) false).run P w = .ok v w) : Quiet P o U f H u := by
  intro w hw; simp [execOp, ho, hx, hi, (hl w hw).1]
theorem q_lookup0 {t : TypeId} {x i : Operand} {k : κ} {mv u v : Value} (ho : o.op = .lookup t x i false) (hx : ev f x = mv) (hi : ev f i = kv k)
    (hl : ∀ w : World, Ext U H w.heap → (Instr.lookup t mv (kv k) true).run P w = .ok u w ∧ (Instr.lookup t mv (kv k) false).run P w = .ok v w) : Quiet P o U f H v := by
  intro w hw; simp [execOp, ho, hx, hi, (hl w hw).2]
end
theorem rdNil {α : Type} [GoT α] {S : Nat → Prop} {H : Heap} : Rd S H (.slice none 0 0) ([] : List α) :=
  Rd.list.2 ⟨none, 0, 0, [], rfl, rfl, Nat.le_refl _, by simp [maxLen], by simp, rfl, fun h => (h rfl).elim⟩
section
variable {α : Type} [GoT α] {S : Nat → Prop} {H : Heap} {P : Program} {o : Oper} {f : Fr} {U : Nat → Prop}
end
end Go.Um
namespace Go.Um
open GoT (sz ag rdc)
section
variable {α : Type}
theorem nth_eq [Inhabited α] {l : List α} {k : Nat} (h : k < l.length) : nth l k = l[k] := by simp [nth, h]
theorem take_succ_nth [Inhabited α] {l : List α} {k : Nat} (h : k < l.length) : l.take (k + 1) = l.take k ++ [nth l k] := by
  rw [List.take_succ_eq_append_getElem h, nth_eq h]
theorem drop_nth [Inhabited α] {l : List α} {k : Nat} (h : k < l.length) : l.drop k = nth l k :: l.drop (k + 1) := by
  rw [List.drop_eq_getElem_cons h, nth_eq h]
theorem take_same [Inhabited α] {a b : List α} {k : Nat} (h : a.take k = b.take k) (ha : k < a.length) (hb : k < b.length) (hn : nth a k = nth b k) : a.take (k + 1) = b.take (k + 1) := by
  rw [take_succ_nth ha, take_succ_nth hb, h, hn]
theorem nth_mem [Inhabited α] {l : List α} {k : Nat} (h : k < l.length) : nth l k ∈ l := by rw [nth_eq h]; exact List.getElem_mem h
end
def fst1 {β : Type} (g : Nat → Option β) (i : Nat) : Nat → Option β
  | 0 => none
  | n + 1 => match g i with
    | some y => some y
    | none => fst1 g (i + 1) n
theorem fst1_none {β : Type} {g : Nat → Option β} : ∀ {n i : Nat}, (∀ j, i ≤ j → j < i + n → g j = none) → fst1 g i n = none := by
  intro n
  induction n with
  | zero => intro i _; rfl
  | succ n ih => intro i h; simp only [fst1, h i (Nat.le_refl _) (by omega)]; exact ih fun j h1 h2 => h j (by omega) (by omega)
theorem fst1_some {β : Type} {g : Nat → Option β} {k : Nat} {y : β} (hk : g k = some y) : ∀ {n i : Nat}, i ≤ k → k < i + n → (∀ j, i ≤ j → j < k → g j = none) → fst1 g i n = some y := by
  intro n
  induction n with
  | zero => intro i h1 h2 _; omega
  | succ n ih =>
    intro i h1 h2 h
    by_cases hik : i = k
    · subst hik; simp only [fst1, hk]
    · simp only [fst1, h i (Nat.le_refl _) (by omega)]
      exact ih (by omega) (by omega) fun j h3 h4 => h j (by omega) h4
def badAt (lo hi : Int) (l : List Int) : Option Nat := fst1 (fun k => if lo ≤ nth l k ∧ nth l k ≤ hi then none else some k) 0 l.length
theorem badAt_none {lo hi : Int} {l : List Int} (h : ∀ j, j < l.length → lo ≤ nth l j ∧ nth l j ≤ hi) : badAt lo hi l = none :=
  fst1_none fun j _ hj => by rw [if_pos (h j (by omega))]
theorem badAt_some {lo hi : Int} {l : List Int} {k : Nat} (hk : k < l.length) (h : ∀ j, j < k → lo ≤ nth l j ∧ nth l j ≤ hi) (hb : ¬ (lo ≤ nth l k ∧ nth l k ≤ hi)) : badAt lo hi l = some k :=
  fst1_some (by rw [if_neg hb]) (Nat.zero_le _) (by omega) fun j _ hj => by rw [if_pos (h j hj)]
end Go.Um
namespace Go.Um
open GoT (sz ag rdc)
def fixE (g : Nat) (o : Obj) : Ent where
  blocks _ := False
  ok S H := ¬ S g ∧ H[g]? = some o
  lt _ h := h.elim
  ext h _ hs ht := by
    have hl := (Array.getElem?_eq_some_iff.1 h.2).1
    exact ⟨fun h' => h.1 (ht g hl h'), by rw [hs g hl (.inr h.1)]; exact h.2⟩
section
variable {H0 H : Heap} {M S0 : Nat → Prop} {L : List Ent} {P : Program}
theorem St.argFix {g : Nat} {ob : Obj} (h : St H0 M S0 L H) (hn : Bl0 L) (hb : H[g]? = some ob) (hs : ¬ S0 g) : St H0 M S0 (fixE g ob :: L) H where
  size := h.size
  old := h.old
  ok e he := by
    have hsl : ∀ b, SL S0 (fixE g ob :: L) b → SL S0 L b := by
      rintro b (hb | ⟨e, he, hb⟩)
      · exact .inl hb
      · rcases List.mem_cons.1 he with rfl | he
        · exact hb.elim
        · exact .inr ⟨e, he, hb⟩
    rcases List.mem_cons.1 he with rfl | he
    · refine ⟨fun h' => ?_, hb⟩
      rcases hsl g h' with h1 | ⟨e, he, h1⟩
      · exact hs h1
      · exact hn e he g h1
    · exact e.ext (h.ok e he) (Nat.le_refl _) (fun _ _ _ => rfl) fun b _ hb => hsl b hb
  ge e he b hb := by
    rcases List.mem_cons.1 he with rfl | he
    · exact hb.elim
    · exact h.ge e he b hb
  dj := List.pairwise_cons.2 ⟨fun _ _ _ hb => hb.elim, h.dj⟩
  s0 := h.s0
theorem Bl0.consF {g : Nat} {ob : Obj} (h : Bl0 L) : Bl0 (fixE g ob :: L) := by
  intro e he b hb
  rcases List.mem_cons.1 he with rfl | h'
  · exact hb
  · exact h e h' b hb
theorem St.fixd {g : Nat} {ob : Obj} (h : St H0 M S0 L H) (k : Nat) (hk : L[k]? = some (fixE g ob)) : H[g]? = some ob := (h.get k hk).2
def FnH (P : Program) (fv : Value) (args : Array Value) (H : Heap) (R : Value → Heap → Prop) : Prop :=
  ∃ k ca, fv = .func (.func k) #[] ca ∧ (∀ args w, (callFunc k args).run P w = .ok (.enter k args) w) ∧ CallsH P k (args ++ ca) H R
theorem e_callF {o : Oper} {f : Fr} {next : FP} {fv : Value} {fo : Operand} {xs : Array Operand} {ts : Array TypeId} {args : Array Value} {R : Value → Heap → Prop}
    (ho : o.op = .call { callee := .value fo, args := xs, argTypes := ts }) (hf : ev f fo = fv) (hx : xs.map (ev f) = args) (hC : FnH P fv args H R)
    (h : ∀ v H', R v H' → next (updO f o.dst v) H') : OpE P o next f H := by
  obtain ⟨k, ca, rfl, hc, hC⟩ := hC
  exact e_callV ho hf hc hx hC h
theorem Ext.blk {g : Nat} {ob : Obj} {H H' : Heap} (hx : Ext NoB H H') (hb : H[g]? = some ob) : H'[g]? = some ob := by
  rw [hx.same g (Array.getElem?_eq_some_iff.1 hb).1 (fun h => h)]; exact hb
theorem Rd.extN {α : Type} [GoT α] {v : Value} {x : α} {H H' : Heap} (h : Rd NoB H v x) (hx : Ext NoB H H') : Rd NoB H' v x := h.ext hx (fun _ _ h => h)
end
def idxOf {α : Type} [Inhabited α] (g : α → Bool) (l : List α) : Int := (fst1 (fun k => if g (nth l k) then some (k : Int) else none) 0 l.length).getD (-1)
section
variable {α : Type} [Inhabited α] {g : α → Bool} {l : List α} {k : Nat}
theorem idxOf_at (hk : k < l.length) (h : ∀ j, j < k → g (nth l j) = false) (hg : g (nth l k) = true) : idxOf g l = k := by
  rw [idxOf, fst1_some (k := k) (y := (k : Int)) (by simp [hg]) (Nat.zero_le _) (by omega) fun j _ hj => by simp [h j hj]]; rfl
theorem idxOf_no (h : ∀ j, j < l.length → g (nth l j) = false) : idxOf g l = -1 := by
  rw [idxOf, fst1_none fun j _ hj => by simp [h j (by omega)]]; rfl
theorem nth_of_mem {x : α} (h : x ∈ l) : ∃ j, j < l.length ∧ nth l j = x := by
  obtain ⟨j, hj, rfl⟩ := List.mem_iff_getElem.1 h
  exact ⟨j, hj, nth_eq hj⟩
theorem first_or (g : α → Bool) (l : List α) : (∀ j, j < l.length → g (nth l j) = false) ∨ ∃ k, k < l.length ∧ (∀ j, j < k → g (nth l j) = false) ∧ g (nth l k) = true := by
  suffices h : ∀ n, n ≤ l.length → (∀ j, j < n → g (nth l j) = false) ∨ ∃ k, k < n ∧ (∀ j, j < k → g (nth l j) = false) ∧ g (nth l k) = true by
    exact h _ (Nat.le_refl _)
  intro n
  induction n with
  | zero => intro _; exact .inl fun j hj => absurd hj (Nat.not_lt_zero j)
  | succ n ih =>
    intro hn
    rcases ih (by omega) with h | ⟨k, h1, h2, h3⟩
    · cases hg : g (nth l n)
      · exact .inl fun j hj => by
          by_cases h0 : j = n
          · rw [h0]; exact hg
          · exact h j (by omega)
      · exact .inr ⟨n, by omega, h, hg⟩
    · exact .inr ⟨k, by omega, h2, h3⟩
theorem idxOf_any : (0 ≤ idxOf g l) ↔ l.any g = true := by
  rcases first_or g l with h | ⟨k, hk, h, hg⟩
  · rw [idxOf_no h]
    constructor
    · intro h; omega
    · intro h'
      obtain ⟨x, hx, hg⟩ := List.any_eq_true.1 h'
      obtain ⟨j, hj, rfl⟩ := nth_of_mem hx
      rw [h j hj] at hg; cases hg
  · rw [idxOf_at hk h hg]
    exact ⟨fun _ => List.any_eq_true.2 ⟨_, nth_mem hk, hg⟩, fun _ => by omega⟩
end
end Go.Um
namespace Go.Um
open GoT (sz ag rdc)
open Go.RowKit
section
variable {α : Type} [GoT α] {P : Program} {H0 H : Heap} {M S0 : Nat → Prop} {L : List Ent} {f : Fr} {next : FP} {o : Oper}
theorem RdL.holds {S : Nat → Prop} {v : Value} {xs : List α} {w : World} (h : RdL S w.heap v xs) : ∃ a n c cl, v = .slice a n c ∧ n = xs.length ∧ cl.length = n * sz α ∧ RdCs S w.heap cl xs ∧ xs.length * GoT.bytes α ≤ 140737488355328 ∧
    (xs = [] ∨ ∃ b0, a = some b0 ∧ ∀ j u, cl[j]? = some u → w.cell? (b0.add j) = some u) := by
  obtain ⟨a, n, c, cl, rfl, hn, _, _, hby, hcl, hp⟩ := h
  refine ⟨a, n, c, cl, rfl, hn, by rw [hn]; exact hcl.len, hcl, hby, ?_⟩
  by_cases h0 : xs = []
  · exact .inl h0
  · obtain ⟨b, off, rfl, _, hcells⟩ := hp h0
    refine .inr ⟨_, rfl, fun j u hj => ?_⟩
    rw [add_off, cell_hcell]
    have hlt : j < cl.length := by
      rcases Nat.lt_or_ge j cl.length with h | h
      · exact h
      · rw [List.getElem?_eq_none h] at hj; cases hj
    rw [hcells j hlt, hj]
def fptr (s : Nat) (v : Value) (k j : Nat) : Value :=
  match v with
  | .slice (some a) _ _ => .pointer (some ⟨a.block, a.off + k * s + j, none⟩)
  | _ => undef
def LoadF (P : Program) (U : Nat → Prop) (H : Heap) (t : TypeId) (s : Nat) (v : Value) (k j : Nat) (u : Value) : Prop :=
  ∃ b off n c, v = .slice (some ⟨b, off, none⟩) n c ∧ LoadS P U H t b (off + k * s + j) u
theorem q_fieldE {U S : Nat → Prop} {t : TypeId} {x : Operand} {k i j : Nat} {v : Value} {l : List α} {fs : Array Field} {fd : Field} {n : Nat} (ho : o.op = .fieldAddr t x i) (ht : P.underlying t = some (.struct fs)) (hf : fs[i]? = some fd)
    (hz : ∀ w, (sizeOf fd.type).run P w = .ok (n + 1) w) (hj : fd.offset = j) (hx : ev f x = eptr (sz α) v k) (hR : RdL S H v l) (hlt : k < l.length) : Quiet P o U f H (fptr (sz α) v k j) := by
  obtain ⟨a, n, c, cl, rfl, hn, hnc, hcm, hby, hcl, hp⟩ := hR
  obtain ⟨b, off, rfl, hsb, hcells⟩ := hp (fun h0 => by rw [h0] at hlt; simp at hlt)
  subst hj
  exact q_fieldAddr ho ht hf hz hx
theorem RdL.cellF {S : Nat → Prop} {v : Value} {l : List α} (hR : RdL S H v l) (k : Nat) (hlt : k < l.length) : ∃ cs, rdc S H cs (nth l k) ∧
    ∀ (j : Nat) (u : Value) (P : Program) (t : TypeId) (U : Nat → Prop), cs[j]? = some u → (∀ w, (isAgg t).run P w = .ok false w) → (∀ b, U b → S b) → LoadF P U H t (sz α) v k j u := by
  obtain ⟨a, n, c, cl, rfl, hn, hnc, hcm, hby, hcl, hp⟩ := hR
  obtain ⟨b, off, rfl, hsb, hcells⟩ := hp (fun h0 => by rw [h0] at hlt; simp at hlt)
  obtain ⟨cs, hr, hc⟩ := hcl.nth hlt
  have hlen := GoT.len hr
  refine ⟨cs, hr, fun j u P t U hu hE hU => ⟨b, off, n, c, rfl, loadS_one hE ?_ (fun h => hsb (hU b h))⟩⟩
  have hj : j < cs.length := (List.getElem?_eq_some_iff.1 hu).1
  rw [← hu, ← hc j hj, Nat.add_assoc]
  refine hcells _ ?_
  rw [hcl.len]
  have : (k + 1) * sz α ≤ l.length * sz α := Nat.mul_le_mul_right _ (by omega)
  rw [Nat.succ_mul] at this
  omega
theorem q_loadF {U : Nat → Prop} {t : TypeId} {x : Operand} {s k j : Nat} {v u : Value} (ho : o.op = .load t x) (hx : ev f x = fptr s v k j) (hl : LoadF P U H t s v k j u) : Quiet P o U f H u := by
  obtain ⟨b, off, n, c, rfl, hl⟩ := hl
  exact q_load ho hx hl
end
theorem cells_rdL {α : Type} [GoT α] {S : Nat → Prop} {H : Heap} {v : Value} {l : List α} (h : RdL S H v l) : v.cells = #[v] := by
  obtain ⟨_, _, _, _, rfl, _⟩ := h; rfl
end Go.Um
namespace Go.Um
open Go
end Go.Um
namespace Go.Um
section
variable {P : Program} {o : Oper} {U : Nat → Prop} {f : Fr} {H : Heap}
theorem tdiv_in {a n : Int} (ha : In64 a) (hn : 1 ≤ n) : In64 (a.tdiv n) := by
  obtain ⟨h1, h2⟩ := ha
  rcases Int.le_total 0 a with h0 | h0
  · have h3 := Int.tdiv_nonneg h0 (show (0 : Int) ≤ n by omega)
    have h4 : a.tdiv n ≤ a := by
      rw [Int.tdiv_eq_ediv_of_nonneg h0]; exact Int.ediv_le_self n h0
    constructor <;> omega
  · have e : a.tdiv n = -((-a).tdiv n) := by rw [Int.neg_tdiv]; omega
    have h3 := Int.tdiv_nonneg (show (0 : Int) ≤ -a by omega) (show (0 : Int) ≤ n by omega)
    have h4 : (-a).tdiv n ≤ -a := by
      rw [Int.tdiv_eq_ediv_of_nonneg (by omega)]; exact Int.ediv_le_self n (by omega)
    rw [e]
    constructor <;> omega
theorem tmod_rng {a n : Int} (hn : 1 ≤ n) : -n < a.tmod n ∧ a.tmod n < n := by
  have h1 := Int.tmod_lt_of_pos a (show 0 < n by omega)
  refine ⟨?_, h1⟩
  rcases Int.le_total 0 a with h0 | h0
  · have := Int.tmod_nonneg n h0; omega
  · have h3 := Int.tmod_lt_of_pos (-a) (show 0 < n by omega)
    rw [Int.neg_tmod] at h3; omega
theorem q_quo {t u : TypeId} {x y : Operand} {a b : Int} (ho : o.op = .binOp .quo t x y u) (hx : ev f x = I a) (hy : ev f y = I b) (ha : In64 a) (hb : 1 ≤ b) : Quiet P o U f H (I (a.tdiv b)) := by
  have hne : b ≠ 0 := by omega
  intro w _; simp [execOp, ho, hx, hy, eqGuard, binOp, Op.intArith, Op.intDiv, hne, wrap_in (tdiv_in ha hb)]
theorem q_rem {t u : TypeId} {x y : Operand} {a b : Int} (ho : o.op = .binOp .rem t x y u) (hx : ev f x = I a) (hy : ev f y = I b) (hb : 1 ≤ b ∧ b ≤ 9223372036854775807) : Quiet P o U f H (I (a.tmod b)) := by
  have hne : b ≠ 0 := by omega
  have hin : In64 (a.tmod b) := by have := tmod_rng (a := a) hb.1; constructor <;> omega
  intro w _; simp [execOp, ho, hx, hy, eqGuard, binOp, Op.intArith, Op.intDiv, hne, wrap_in hin]
end
end Go.Um
namespace Go.Um
open GoT (sz ag rdc)
open Go.RowKit
structure LRow where
  Of : List Int
  Kind : Int
  To : Int
  deriving Inhabited, DecidableEq
instance instLRow : GoT LRow where
  sz := 3
  bytes := 40
  ag := true
  rdc S H cs x := ∃ v0, cs = [v0, I x.Kind, I x.To] ∧ RdL S H v0 x.Of ∧ In64 x.Kind ∧ In64 x.To
  pos := by decide
  one h := by cases h
  len h := by obtain ⟨_, rfl, _⟩ := h; rfl
  cell h := by
    obtain ⟨_, rfl, ⟨_, _, _, _, rfl, _⟩, _, _⟩ := h
    simp [Value.oneCell']
  ext h hx hs := by obtain ⟨v0, rfl, h0, h1, h2⟩ := h; exact ⟨v0, rfl, h0.ext hx hs, h1, h2⟩
instance limLRow : LimT LRow := ⟨fun a => LimT.lim a.Of⟩
structure Jump where
  When : List LRow
  To : List (List Int)
  deriving Inhabited, DecidableEq
instance instJump : GoT Jump where
  sz := 2
  bytes := 48
  ag := true
  rdc S H cs x := ∃ v0 v1, cs = [v0, v1] ∧ RdL S H v0 x.When ∧ RdL S H v1 x.To
  pos := by decide
  one h := by cases h
  len h := by obtain ⟨_, _, rfl, _⟩ := h; rfl
  cell h := by
    obtain ⟨_, _, rfl, ⟨_, _, _, _, rfl, _⟩, ⟨_, _, _, _, rfl, _⟩⟩ := h
    simp [Value.oneCell']
  ext h hx hs := by obtain ⟨v0, v1, rfl, h0, h1⟩ := h; exact ⟨v0, v1, rfl, h0.ext hx hs, h1.ext hx hs⟩
theorem Rd.jump {S : Nat → Prop} {H : Heap} {v : Value} {a : Jump} :
    Rd S H v a ↔ ∃ v0 v1, v = .agg #[v0, v1] ∧ Rd S H v0 a.When ∧ Rd S H v1 a.To := by
  constructor
  · rintro ⟨cs, ⟨v0, v1, rfl, h0, h1⟩, rfl⟩
    exact ⟨v0, v1, rfl, Rd.list.2 h0, Rd.list.2 h1⟩
  · rintro ⟨v0, v1, rfl, h0, h1⟩
    exact ⟨_, ⟨v0, v1, rfl, Rd.list.1 h0, Rd.list.1 h1⟩, rfl⟩
instance limJump : LimT Jump := ⟨fun a => LimT.lim a.When ∧ LimT.lim a.To⟩
structure Loop where
  Low : List Int
  High : List Int
  Start : List LRow
  Jumps : List Jump
  Bad : List LRow
  deriving Inhabited, DecidableEq
instance instLoop : GoT Loop where
  sz := 5
  bytes := 120
  ag := true
  rdc S H cs x := ∃ v0 v1 v2 v3 v4, cs = [v0, v1, v2, v3, v4] ∧ RdL S H v0 x.Low ∧ RdL S H v1 x.High ∧ RdL S H v2 x.Start ∧ RdL S H v3 x.Jumps ∧ RdL S H v4 x.Bad
  pos := by decide
  one h := by cases h
  len h := by obtain ⟨_, _, _, _, _, rfl, _⟩ := h; rfl
  cell h := by
    obtain ⟨_, _, _, _, _, rfl, ⟨_, _, _, _, rfl, _⟩, ⟨_, _, _, _, rfl, _⟩, ⟨_, _, _, _, rfl, _⟩, ⟨_, _, _, _, rfl, _⟩, ⟨_, _, _, _, rfl, _⟩⟩ := h
    simp [Value.oneCell']
  ext h hx hs := by obtain ⟨v0, v1, v2, v3, v4, rfl, h0, h1, h2, h3, h4⟩ := h; exact ⟨v0, v1, v2, v3, v4, rfl, h0.ext hx hs, h1.ext hx hs, h2.ext hx hs, h3.ext hx hs, h4.ext hx hs⟩
theorem Rd.loop {S : Nat → Prop} {H : Heap} {v : Value} {a : Loop} :
    Rd S H v a ↔ ∃ v0 v1 v2 v3 v4, v = .agg #[v0, v1, v2, v3, v4] ∧ Rd S H v0 a.Low ∧ Rd S H v1 a.High ∧ Rd S H v2 a.Start ∧ Rd S H v3 a.Jumps ∧ Rd S H v4 a.Bad := by
  constructor
  · rintro ⟨cs, ⟨v0, v1, v2, v3, v4, rfl, h0, h1, h2, h3, h4⟩, rfl⟩
    exact ⟨v0, v1, v2, v3, v4, rfl, Rd.list.2 h0, Rd.list.2 h1, Rd.list.2 h2, Rd.list.2 h3, Rd.list.2 h4⟩
  · rintro ⟨v0, v1, v2, v3, v4, rfl, h0, h1, h2, h3, h4⟩
    exact ⟨_, ⟨v0, v1, v2, v3, v4, rfl, Rd.list.1 h0, Rd.list.1 h1, Rd.list.1 h2, Rd.list.1 h3, Rd.list.1 h4⟩, rfl⟩
instance limLoop : LimT Loop := ⟨fun a => LimT.lim a.Low ∧ LimT.lim a.High ∧ LimT.lim a.Start ∧ LimT.lim a.Jumps ∧ LimT.lim a.Bad⟩
end Go.Um
namespace Go.Um
open GoT (sz ag rdc)
abbrev Subst := Int → Option (List Int)
def put (σ : Subst) (p : Int) (w : List Int) : Subst := fun q => if p = q then some w else σ q
structure Alike (m : Nat) (σ : Subst) (is : List (List Int)) (told : List Bool) : Prop where
  li : is.length = m
  lt : told.length = m
  at_ : ∀ k, k < m → σ (-(k : Int) - 1) = if nth told k = true then some (nth is k) else none
  un : ∀ k, k < m → nth told k = false → nth is k = []
theorem nth_set_same {α : Type} [Inhabited α] {l : List α} {k : Nat} {x : α} (h : k < l.length) : nth (l.set k x) k = x := by
  simp [nth, h]
theorem nth_set_ne {α : Type} [Inhabited α] {l : List α} {k j : Nat} {x : α} (h : k ≠ j) : nth (l.set k x) j = nth l j := by
  simp [nth, List.getElem?_set_ne h]
theorem Alike.put {m : Nat} {σ : Subst} {is : List (List Int)} {told : List Bool} (h : Alike m σ is told) {p : Int} {w : List Int} (hp : p < 0) :
    Alike m (put σ p w) (is.set (-p - 1).toNat w) (told.set (-p - 1).toNat true) where
  li := by simpa using h.li
  lt := by simpa using h.lt
  at_ k hk := by
    by_cases hkp : (-p - 1).toNat = k
    · have e : p = -(k : Int) - 1 := by omega
      rw [hkp, nth_set_same (by rw [h.lt]; exact hk), nth_set_same (by rw [h.li]; exact hk)]
      simp [Um.put, e]
    · rw [nth_set_ne hkp, nth_set_ne hkp]
      have : ¬ p = -(k : Int) - 1 := by omega
      simp only [Um.put, this, if_false]
      exact h.at_ k hk
  un k hk hf := by
    by_cases hkp : (-p - 1).toNat = k
    · rw [hkp, nth_set_same (by rw [h.lt]; exact hk)] at hf; cases hf
    · rw [nth_set_ne hkp] at hf ⊢
      exact h.un k hk hf
def mostL (l : List Int) : Int := l.foldl (fun m x => max m (-x)) 0
theorem mostL_le {l : List Int} {m : Int} (hm : 0 ≤ m) (h : ∀ p ∈ l, -p ≤ m) : mostL l ≤ m := by
  have : ∀ (l : List Int) (a : Int), a ≤ m → (∀ p ∈ l, -p ≤ m) → l.foldl (fun m x => max m (-x)) a ≤ m := by
    intro l
    induction l with
    | nil => intro a h _; exact h
    | cons x l ih =>
      intro a h1 h2
      have := h2 x (List.mem_cons_self ..)
      exact ih _ (by show max a (-x) ≤ m; omega) fun p hp => h2 p (List.mem_cons_of_mem _ hp)
  exact this l 0 hm h
def fitFault (p t : List Int) : Int × Int :=
  if 8 < p.length ∨ 30 < t.length then (2, 0)
  else match badAt (-3) 11 p with
    | some i => (3, i)
    | none => match badAt 0 11 t with
      | some i => (3, (p.length : Int) + i)
      | none => (0, 0)
section
variable {ps t : List Int} {σ : Subst} {n : Nat} {y : Subst}
theorem all_succ {p : Nat → Prop} (h : ∀ j, j < n → p j) (hn : p n) : ∀ j, j < n + 1 → p j := fun j hj => by
  rcases Nat.lt_succ_iff_lt_or_eq.1 hj with h1 | h1
  · exact h j h1
  · subst h1; exact hn
end
section
variable {p t : List Int} {k : Nat}
theorem fitFault_p (h : ¬ (8 < (p.length : Int) ∨ 30 < (t.length : Int))) (hg : ∀ j, j < k → -3 ≤ nth p j ∧ nth p j ≤ 11) (hk : k < p.length) (hb : nth p k < -3 ∨ 11 < nth p k) : fitFault p t = (3, (k : Int)) := by
  rw [fitFault, if_neg (by omega), badAt_some hk hg (by omega)]
theorem fitFault_t (h : ¬ (8 < (p.length : Int) ∨ 30 < (t.length : Int))) (hp : ∀ j, j < p.length → -3 ≤ nth p j ∧ nth p j ≤ 11) (hg : ∀ j, j < k → 0 ≤ nth t j ∧ nth t j ≤ 11) (hk : k < t.length) (hb : nth t k < 0 ∨ 11 < nth t k) :
    fitFault p t = (3, (p.length : Int) + k) := by
  rw [fitFault, if_neg (by omega), badAt_none hp, badAt_some hk hg (by omega)]
theorem fitFault_no (h : ¬ (8 < (p.length : Int) ∨ 30 < (t.length : Int))) (hp : ∀ j, j < p.length → -3 ≤ nth p j ∧ nth p j ≤ 11) (hg : ∀ j, j < t.length → 0 ≤ nth t j ∧ nth t j ≤ 11) :
    fitFault p t = (0, 0) := by
  rw [fitFault, if_neg (by omega), badAt_none hp, badAt_none hg]
theorem mostL_3 (hp : ∀ j, j < p.length → -3 ≤ nth p j ∧ nth p j ≤ 11) : mostL p ≤ 3 := by
  refine mostL_le (by omega) fun q hq => ?_
  obtain ⟨j, hj, rfl⟩ := List.getElem_of_mem hq
  have := hp j hj
  rw [nth_eq hj] at this
  omega
end
section
variable {p t : List Int} {is : List (List Int)} {told : List Bool} {n : Nat} {y : List (List Int)}
end
section
variable {p t : List Int} {k : Nat} {c a q : Int}
def FitA (p t : List Int) (k : Nat) (c a q : Int) : Prop :=
  (c = 0 ∧ a = 0 ∧ ¬ (8 < (p.length : Int) ∨ 30 < (t.length : Int)) ∧ (∀ j, j < k → -3 ≤ nth p j ∧ nth p j ≤ 11) ∧ q = mostL (p.take k)) ∨ (c ≠ 0 ∧ fitFault p t = (c, a))
def FitB (p t : List Int) (k : Nat) (c a q : Int) : Prop :=
  (c = 0 ∧ a = 0 ∧ ¬ (8 < (p.length : Int) ∨ 30 < (t.length : Int)) ∧ (∀ j, j < p.length → -3 ≤ nth p j ∧ nth p j ≤ 11) ∧ q = mostL p ∧ (∀ j, j < k → 0 ≤ nth t j ∧ nth t j ≤ 11)) ∨ (c ≠ 0 ∧ fitFault p t = (c, a))
theorem FitA.bad (h : FitA p t k 0 a q) (hk : k < p.length) (hb : ¬ (-3 ≤ nth p k ∧ nth p k ≤ 11)) (q' : Int) : FitA p t (k + 1) 3 k q' := by
  rcases h with ⟨_, _, h1, h2, _⟩ | ⟨h, _⟩
  · exact .inr ⟨by decide, fitFault_p h1 h2 hk (by omega)⟩
  · exact (h rfl).elim
theorem FitA.done (h : FitA p t k c a q) (hk : k ≤ p.length) (hx : ¬ ((k : Int) < p.length ∧ c = 0)) : FitB p t 0 c a q := by
  rcases h with ⟨h0, h1, h2, h3, h4⟩ | h
  · have : k = p.length := by omega
    subst this
    exact .inl ⟨h0, h1, h2, h3, by rw [h4, List.take_length], fun j hj => absurd hj (Nat.not_lt_zero j)⟩
  · exact .inr h
theorem FitB.bad (h : FitB p t k 0 a q) (hk : k < t.length) (hb : ¬ (0 ≤ nth t k ∧ nth t k ≤ 11)) : FitB p t (k + 1) 3 ((p.length : Int) + k) q := by
  rcases h with ⟨_, _, h1, h2, _, h3⟩ | ⟨h, _⟩
  · exact .inr ⟨by decide, fitFault_t h1 h2 h3 hk (by omega)⟩
  · exact (h rfl).elim
theorem FitB.done (h : FitB p t k c a q) (hk : k ≤ t.length) (hx : ¬ ((k : Int) < t.length ∧ c = 0)) : fitFault p t = (c, a) ∧ (c = 0 → q = mostL p ∧ mostL p ≤ 3 ∧ a = 0) := by
  rcases h with ⟨h0, h1, h2, h3, h4, h5⟩ | h
  · have : k = t.length := by omega
    subst this
    exact ⟨by rw [h0, h1]; exact fitFault_no h2 h3 h5, fun _ => ⟨h4, mostL_3 h3, h1⟩⟩
  · exact ⟨h.2, fun h0 => (h.1 h0).elim⟩
end
end Go.Um
namespace Go.Um
def fstN (g : Nat → Int) (n : Nat) : Int := (fst1 (fun k => if g k ≠ 0 then some (g k) else none) 0 n).getD 0
section
variable {g : Nat → Int} {n k : Nat}
theorem fstN_at (hk : k < n) (hp : ∀ j, j < k → g j = 0) (h : g k ≠ 0) : fstN g n = g k := by
  rw [fstN, fst1_some (g := fun k => if g k ≠ 0 then some (g k) else none) (k := k) (y := g k) (if_pos h) (Nat.zero_le _) (by omega) fun j _ hj => if_neg (not_not_intro (hp j hj))]; rfl
theorem fstN_no (hp : ∀ j, j < n → g j = 0) : fstN g n = 0 := by
  rw [fstN, fst1_none fun j _ hj => if_neg (not_not_intro (hp j (by omega)))]; rfl
theorem fstN_zero (h : fstN g n = 0) : ∀ j, j < n → g j = 0 := by
  suffices hs : ∀ m, m ≤ n → (∀ j, j < m → g j = 0) from hs n (Nat.le_refl _)
  intro m
  induction m with
  | zero => intro _ j hj; exact absurd hj (Nat.not_lt_zero j)
  | succ m ih =>
    intro hm j hj
    by_cases hjm : j = m
    · subst hjm
      refine Decidable.of_not_not fun hne => ?_
      rw [fstN_at (by omega) (ih (by omega)) hne] at h
      exact hne h
    · exact ih (by omega) j (by omega)
end
def whole (x : Int) : Bool := decide (-1000000 ≤ x ∧ x ≤ 1000000)
def outs (l : List Int) : Bool := l.any fun x => !whole x
theorem outs_at {l : List Int} {k : Nat} (hk : k < l.length) (h : ¬ (-1000000 ≤ nth l k ∧ nth l k ≤ 1000000)) : outs l = true :=
  List.any_eq_true.2 ⟨_, nth_mem hk, by simp [whole, h]⟩
theorem outs_false {l : List Int} (h : outs l = false) {k : Nat} (hk : k < l.length) : -1000000 ≤ nth l k ∧ nth l k ≤ 1000000 := by
  refine Decidable.of_not_not fun hn => ?_
  rw [outs_at hk hn] at h; cases h
def rowFault (n : Int) (r : LRow) : Int :=
  if ¬ (1 ≤ r.Kind ∧ r.Kind ≤ 3) then 4 else if n < (r.Of.length : Int) then 9 else if outs r.Of = true ∨ ¬ (-1000000 ≤ r.To ∧ r.To ≤ 1000000) then 3 else 0
def rowsFault (l : List LRow) (n : Int) : Int := if 40 < (l.length : Int) then 2 else fstN (fun k => rowFault n (nth l k)) l.length
section
variable {n : Int} {r : LRow} {l : List LRow} {k : Nat}
theorem rowFault_zero (h : rowFault n r = 0) : (1 ≤ r.Kind ∧ r.Kind ≤ 3) ∧ (r.Of.length : Int) ≤ n ∧ outs r.Of = false ∧ -1000000 ≤ r.To ∧ r.To ≤ 1000000 := by
  unfold rowFault at h
  split at h
  · cases h
  · rename_i h1
    split at h
    · cases h
    · split at h
      · cases h
      · rename_i h3
        have h4 := not_or.1 h3
        exact ⟨Decidable.of_not_not h1, by omega, Bool.eq_false_iff.2 h4.1, Decidable.of_not_not h4.2⟩
theorem rowsFault_zero (h : rowsFault l n = 0) : l.length ≤ 40 ∧ ∀ j, j < l.length → rowFault n (nth l j) = 0 := by
  unfold rowsFault at h
  split at h
  · cases h
  · exact ⟨by omega, fstN_zero h⟩
end
def toFault (n : Int) (l : List Int) : Int := if (l.length : Int) ≠ n + 1 then 9 else if outs l = true then 3 else 0
def jumpFault (j : Jump) (n : Int) : Int :=
  if rowsFault j.When n ≠ 0 then rowsFault j.When n else if (j.To.length : Int) ≠ n then 9 else fstN (fun k => toFault n (nth j.To k)) j.To.length
section
variable {n : Int} {j : Jump} {k : Nat} {l : List Int}
theorem toFault_no (h : ¬ (l.length : Int) ≠ n + 1) (h2 : outs l = false) : toFault n l = 0 := by rw [toFault, if_neg h, if_neg (by rw [h2]; decide)]
theorem toFault_zero (h : toFault n l = 0) : (l.length : Int) = n + 1 ∧ outs l = false := by
  unfold toFault at h
  split at h
  · cases h
  · split at h
    · cases h
    · rename_i h1 h2
      exact ⟨by omega, Bool.eq_false_iff.2 h2⟩
theorem jumpFault_no (h : ¬ rowsFault j.When n ≠ 0) (h2 : ¬ (j.To.length : Int) ≠ n) (hp : ∀ i, i < j.To.length → toFault n (nth j.To i) = 0) : jumpFault j n = 0 := by
  rw [jumpFault, if_neg h, if_neg h2, fstN_no hp]
structure JW (j : Jump) (n : Int) : Prop where
  when_ : rowsFault j.When n = 0
  len : (j.To.length : Int) = n
  to : ∀ i, i < j.To.length → ((nth j.To i).length : Int) = n + 1 ∧ outs (nth j.To i) = false
theorem JW.of (h : jumpFault j n = 0) : JW j n := by
  unfold jumpFault at h
  split at h
  · rename_i h1; exact absurd h h1
  · split at h
    · cases h
    · rename_i h1 h2
      exact ⟨Decidable.of_not_not h1, Decidable.of_not_not h2, fun i hi => toFault_zero (fstN_zero h i hi)⟩
theorem JW.at_ (h : JW j n) {i v : Nat} (hi : i < j.To.length) (hv : (v : Int) ≤ n) : v < (nth j.To i).length ∧ -1000000 ≤ nth (nth j.To i) v ∧ nth (nth j.To i) v ≤ 1000000 := by
  have h1 := h.to i hi
  exact ⟨by omega, outs_false h1.2 (by omega)⟩
end
def sumTo (g : Nat → Int) : Nat → Int
  | 0 => 0
  | n + 1 => sumTo g n + g n
theorem sumTo_bound {g : Nat → Int} {b : Int} : ∀ {n : Nat}, (∀ i, i < n → -b ≤ g i ∧ g i ≤ b) → -(n * b) ≤ sumTo g n ∧ sumTo g n ≤ n * b
  | 0, _ => by simp [sumTo]
  | n + 1, h => by
    have ih := sumTo_bound (n := n) fun i hi => h i (by omega)
    have h1 := h n (by omega)
    have e : ((n + 1 : Nat) : Int) * b = n * b + b := by rw [Int.natCast_add, Int.add_mul]; simp
    rw [e, sumTo]
    omega
theorem mul_whole {a b : Int} (ha : -1000000 ≤ a ∧ a ≤ 1000000) (hb : -1000000 ≤ b ∧ b ≤ 1000000) : -1000000000000 ≤ a * b ∧ a * b ≤ 1000000000000 := by
  have h1 : (a * b).natAbs ≤ 1000000 * 1000000 := by
    rw [Int.natAbs_mul]
    exact Nat.mul_le_mul (by omega) (by omega)
  omega
def wantG (j : Jump) (r : LRow) (v : Nat) (i : Nat) : Int := nth r.Of i * nth (nth j.To i) v
def wantT (j : Jump) (r : LRow) (n : Nat) : Nat → Int
  | 0 => r.To
  | i + 1 => wantT j r n i - wantG j r n i
def wantTo (j : Jump) (r : LRow) : Int := wantT j r j.To.length r.Of.length
def wantOf (j : Jump) (r : LRow) (m : Nat) : List Int := (List.range m).map fun v => sumTo (wantG j r v) r.Of.length
def wantRow (j : Jump) (r : LRow) : LRow := ⟨wantOf j r j.To.length, r.Kind, wantTo j r⟩
section
variable {j : Jump} {r : LRow} {m n i v : Nat}
end
def wantBad (j : Jump) (r : LRow) : Prop := outs (wantRow j r).Of = true ∨ ¬ (-1000000 ≤ (wantRow j r).To ∧ (wantRow j r).To ≤ 1000000)
instance {j : Jump} {r : LRow} : Decidable (wantBad j r) := by unfold wantBad; infer_instance
def wantHead (j : Jump) (l : List LRow) : Int × Int :=
  if (j.To.length : Int) < 1 ∨ 8 < (j.To.length : Int) then (2, -1) else if jumpFault j j.To.length ≠ 0 then (jumpFault j j.To.length, -1) else (rowsFault l j.To.length, if rowsFault l j.To.length ≠ 0 then -2 else 0)
def wantFault (j : Jump) (l : List LRow) : Int × Int :=
  if (wantHead j l).1 ≠ 0 then wantHead j l else (fst1 (fun k => if wantBad j (nth l k) then some (10, (k : Int)) else none) 0 l.length).getD (0, 0)
section
variable {j : Jump} {l : List LRow} {k : Nat}
theorem wantFault_head {x : Int × Int} (h : wantHead j l = x) (h0 : x.1 ≠ 0) : wantFault j l = x := by rw [wantFault, h, if_pos h0]
theorem wantFault_at (h : wantHead j l = (0, 0)) (hk : k < l.length) (hp : ∀ i, i < k → ¬ wantBad j (nth l i)) (hb : wantBad j (nth l k)) : wantFault j l = (10, (k : Int)) := by
  rw [wantFault, h, if_neg (by decide), fst1_some (g := fun k => if wantBad j (nth l k) then some (10, (k : Int)) else none) (k := k) (y := (10, (k : Int))) (if_pos hb) (Nat.zero_le _) (by omega) fun i _ hi => if_neg (hp i hi)]; rfl
theorem wantFault_no (h : wantHead j l = (0, 0)) (hp : ∀ i, i < l.length → ¬ wantBad j (nth l i)) : wantFault j l = (0, 0) := by
  rw [wantFault, h, if_neg (by decide), fst1_none fun i _ hi => if_neg (hp i (by omega))]; rfl
def WantA (j : Jump) (l : List LRow) (k : Nat) (c a : Int) : Prop :=
  (c ≠ 0 ∧ wantFault j l = (c, a)) ∨ (c = 0 ∧ a = 0 ∧ wantHead j l = (0, 0) ∧ ∀ i, i < k → ¬ wantBad j (nth l i))
theorem WantA.start {x : Int × Int} (h : wantHead j l = x) (hx : x.1 = 0 → x.2 = 0) : WantA j l 0 x.1 x.2 := by
  by_cases h0 : x.1 = 0
  · exact .inr ⟨h0, hx h0, by rw [h]; exact Prod.ext h0 (hx h0), fun i hi => absurd hi (Nat.not_lt_zero i)⟩
  · exact .inl ⟨h0, wantFault_head h h0⟩
theorem WantA.ok {c a : Int} (h : WantA j l k c a) (hc : c = 0) : a = 0 ∧ wantHead j l = (0, 0) ∧ ∀ i, i < k → ¬ wantBad j (nth l i) := by
  rcases h with h | h
  · exact absurd hc h.1
  · exact h.2
theorem WantA.bad {c a : Int} (h : WantA j l k c a) (hc : c = 0) (hk : k < l.length) (hb : wantBad j (nth l k)) : WantA j l (k + 1) 10 k :=
  .inl ⟨by decide, wantFault_at (h.ok hc).2.1 hk (h.ok hc).2.2 hb⟩
theorem WantA.done {c a : Int} (h : WantA j l k c a) (hk : k ≤ l.length) (hn : ¬ ((k : Int) < l.length ∧ c = 0)) : wantFault j l = (c, a) := by
  rcases h with h | h
  · exact h.2
  · obtain ⟨rfl, rfl, h2, h3⟩ := h
    exact wantFault_no h2 fun i hi => h3 i (by omega)
end
end Go.Um
namespace Go.Um
open GoT (sz ag rdc)
open Go.RowKit
structure Auto where
  Signs : Int
  Next : List (List Int)
  Takes : List Bool
  deriving Inhabited
instance instAuto : GoT Auto where
  sz := 3
  bytes := 56
  ag := true
  rdc S H cs x := ∃ vn vt, cs = [I x.Signs, vn, vt] ∧ In64 x.Signs ∧ RdL S H vn x.Next ∧ RdL S H vt x.Takes
  pos := by decide
  one h := by cases h
  len h := by obtain ⟨_, _, rfl, _⟩ := h; rfl
  cell h := by
    obtain ⟨_, _, rfl, _, ⟨_, _, _, _, rfl, _⟩, ⟨_, _, _, _, rfl, _⟩⟩ := h
    simp [Value.oneCell']
  ext h hx hs := by obtain ⟨vn, vt, rfl, h1, h2, h3⟩ := h; exact ⟨vn, vt, rfl, h1, h2.ext hx hs, h3.ext hx hs⟩
instance limAuto : LimT Auto := ⟨fun a => LimT.lim a.Next ∧ LimT.lim a.Takes⟩
def rowBad (a : Auto) (k : Nat) : Option (Int × Int) :=
  if ((nth a.Next k).length : Int) ≠ a.Signs then some (9, k)
  else if (nth a.Next k).any (fun s => decide (s < 0 ∨ (a.Next.length : Int) ≤ s)) = true then some (3, k) else none
def autoFault (a : Auto) : Int × Int :=
  if a.Signs < 1 ∨ 12 < a.Signs then (3, -1)
  else if (a.Next.length : Int) < 1 ∨ 40 < (a.Next.length : Int) then (2, 0)
  else if (a.Takes.length : Int) ≠ a.Next.length then (9, -1)
  else (fst1 (rowBad a) 0 a.Next.length).getD (0, 0)
structure WF (a : Auto) : Prop where
  signs : 1 ≤ a.Signs ∧ a.Signs ≤ 12
  many : 1 ≤ a.Next.length ∧ a.Next.length ≤ 40
  takes : a.Takes.length = a.Next.length
  rows : ∀ k, k < a.Next.length → ((nth a.Next k).length : Int) = a.Signs
  to : ∀ k, k < a.Next.length → ∀ s ∈ nth a.Next k, 0 ≤ s ∧ s < (a.Next.length : Int)
section
variable {a : Auto}
theorem autoFault_ok (h : ¬ (a.Signs < 1 ∨ 12 < a.Signs)) (h2 : ¬ ((a.Next.length : Int) < 1 ∨ 40 < (a.Next.length : Int))) (h3 : ¬ (a.Takes.length : Int) ≠ a.Next.length)
    (hp : ∀ j, j < a.Next.length → rowBad a j = none) : autoFault a = (0, 0) := by
  rw [autoFault, if_neg h, if_neg h2, if_neg h3, fst1_none fun j _ hj => hp j (by omega)]; rfl
theorem rowBad_no {k : Nat} (h : ¬ ((nth a.Next k).length : Int) ≠ a.Signs) (hi : ∀ i, i < (nth a.Next k).length → 0 ≤ nth (nth a.Next k) i ∧ nth (nth a.Next k) i < (a.Next.length : Int)) : rowBad a k = none := by
  rw [rowBad, if_neg h, if_neg]
  intro hc
  obtain ⟨x, hx, hg⟩ := List.any_eq_true.1 hc
  obtain ⟨j, hj, rfl⟩ := nth_of_mem hx
  have := hi j hj
  simp at hg
  omega
theorem fst1_neg {β : Type} {g : Nat → Option β} {n i : Nat} (h : fst1 g i n = none) : ∀ j, i ≤ j → j < i + n → g j = none := by
  induction n generalizing i with
  | zero => intro j h1 h2; omega
  | succ n ih =>
    intro j h1 h2
    simp only [fst1] at h
    split at h
    · cases h
    · rename_i h0
      by_cases hj : j = i
      · rw [hj]; exact h0
      · exact ih h j (by omega) (by omega)
theorem rowBad_code {k : Nat} {x : Int × Int} (h : rowBad a k = some x) : x.1 ≠ 0 := by
  unfold rowBad at h
  split at h
  · cases h; simp
  · split at h <;> cases h; simp
theorem fst1_is {β : Type} {g : Nat → Option β} {n i : Nat} {y : β} (h : fst1 g i n = some y) : ∃ j, g j = some y := by
  induction n generalizing i with
  | zero => cases h
  | succ n ih =>
    simp only [fst1] at h
    split at h
    · cases h; exact ⟨i, by assumption⟩
    · exact ih h
theorem WF.of (h : (autoFault a).1 = 0) : WF a := by
  unfold autoFault at h
  split at h
  · cases h
  · split at h
    · cases h
    · split at h
      · cases h
      · rename_i h1 h2 h3
        have hn : fst1 (rowBad a) 0 a.Next.length = none := by
          cases hf : fst1 (rowBad a) 0 a.Next.length with
          | none => rfl
          | some y =>
            obtain ⟨j, hj⟩ := fst1_is hf
            rw [hf] at h
            exact (rowBad_code hj h).elim
        have hr : ∀ k, k < a.Next.length → rowBad a k = none := fun k hk => fst1_neg hn k (Nat.zero_le _) (by omega)
        refine ⟨by omega, by omega, by omega, fun k hk => ?_, fun k hk s hs => ?_⟩
        · have := hr k hk
          unfold rowBad at this
          split at this
          · cases this
          · rename_i h4; exact Decidable.of_not_not h4
        · have := hr k hk
          unfold rowBad at this
          split at this
          · cases this
          · split at this
            · cases this
            · rename_i h5
              refine Decidable.of_not_not fun hc => h5 (List.any_eq_true.2 ⟨s, hs, ?_⟩)
              simp; omega
theorem WF.fault (h : WF a) : autoFault a = (0, 0) := by
  obtain ⟨h1, h2, h3, h4, h5⟩ := h
  exact autoFault_ok (by omega) (by omega) (by omega) fun j hj => rowBad_no (by simpa using h4 j hj) fun i hi => h5 j hj _ (nth_mem hi)
theorem WF.code (h : (autoFault a).1 = 0) : autoFault a = (0, 0) := (WF.of h).fault
end
def stepA (a : Auto) (s c : Int) : Int := nth (nth a.Next s.toNat) c.toNat
def runA (a : Auto) (s : Int) (l : List Int) : Int := l.foldl (stepA a) s
def takesA (a : Auto) (s : Int) (l : List Int) : Bool := nth a.Takes (runA a s l).toNat
theorem WF.step {a : Auto} (h : WF a) {s c : Int} (hs : 0 ≤ s ∧ s < (a.Next.length : Int)) (hc : 0 ≤ c ∧ c < a.Signs) : 0 ≤ stepA a s c ∧ stepA a s c < (a.Next.length : Int) := by
  have h1 : s.toNat < a.Next.length := by omega
  exact h.to _ h1 _ (nth_mem (by have := h.rows _ h1; omega))
theorem WF.run {a : Auto} (h : WF a) {l : List Int} (hl : ∀ c ∈ l, 0 ≤ c ∧ c < a.Signs) : ∀ {s : Int}, 0 ≤ s ∧ s < (a.Next.length : Int) → 0 ≤ runA a s l ∧ runA a s l < (a.Next.length : Int) := by
  induction l with
  | nil => intro s hs; exact hs
  | cons c l ih => intro s hs; exact ih (fun c hc => hl c (List.mem_cons_of_mem _ hc)) (h.step hs (hl c (List.mem_cons_self ..)))
end Go.Um
namespace Go.Um
open GoT (sz ag rdc)
def lessL : List Int → List Int → Bool
  | [], b => !b.isEmpty
  | _ :: _, [] => false
  | x :: a, y :: b => if x ≠ y then decide (x < y) else lessL a b
def slt (a b : List Int) : Prop := a.length < b.length ∨ (a.length = b.length ∧ lessL a b = true)
theorem lessL_tri : ∀ {a b : List Int}, a.length = b.length → a ≠ b → lessL a b = false → lessL b a = true
  | [], [], _, h, _ => (h rfl).elim
  | [], _ :: _, h, _, _ => by simp at h
  | _ :: _, [], h, _, _ => by simp at h
  | x :: a, y :: b, hl, hne, h => by
    simp only [lessL] at h ⊢
    by_cases hxy : x = y
    · subst hxy; simp at h ⊢
      exact lessL_tri (by simpa using hl) (fun e => hne (by rw [e])) h
    · have : y ≠ x := fun e => hxy e.symm
      simp [hxy] at h; simp [this]; omega
theorem lessL_snoc : ∀ {a b : List Int} {x y : Int}, a.length = b.length → lessL a b = true → lessL (a ++ [x]) (b ++ [y]) = true
  | [], [], _, _, _, h => by simp [lessL] at h
  | [], _ :: _, _, _, h, _ => by simp at h
  | _ :: _, [], _, _, h, _ => by simp at h
  | u :: a, v :: b, x, y, hl, h => by
    simp only [List.cons_append, lessL] at h ⊢
    by_cases huv : u = v
    · subst huv; simp at h ⊢; exact lessL_snoc (by simpa using hl) h
    · simp [huv] at h ⊢; exact h
theorem lessL_last : ∀ (a : List Int) {x y : Int}, x < y → lessL (a ++ [x]) (a ++ [y]) = true
  | [], x, y, h => by have : x ≠ y := by omega
                      simp [lessL, this, h]
  | u :: a, x, y, h => by simp [lessL, lessL_last a h]
theorem slt_tri {a b : List Int} (h : ¬ slt a b) (hne : a ≠ b) : slt b a := by
  unfold slt at h ⊢
  by_cases hl : a.length = b.length
  · have : lessL a b = false := by
      cases hc : lessL a b
      · rfl
      · exact (h (.inr ⟨hl, hc⟩)).elim
    exact .inr ⟨hl.symm, lessL_tri hl hne this⟩
  · exact .inl (by
      have : ¬ a.length < b.length := fun h' => h (.inl h')
      omega)
theorem slt_snoc {a b : List Int} {x y : Int} (h : slt a b) : slt (a ++ [x]) (b ++ [y]) := by
  rcases h with h | ⟨h1, h2⟩
  · exact .inl (by simp; omega)
  · exact .inr ⟨by simp; omega, lessL_snoc h1 h2⟩
theorem slt_last (a : List Int) {x y : Int} (h : x < y) : slt (a ++ [x]) (a ++ [y]) := .inr ⟨by simp, lessL_last a h⟩
def sle (a b : List Int) : Prop := a = b ∨ slt a b
section
variable {α : Type} [Inhabited α]
theorem nth_app_left {l : List α} {x : α} {j : Nat} (h : j < l.length) : nth (l ++ [x]) j = nth l j := by
  simp [nth, List.getElem?_append_left h]
theorem nth_app_last {l : List α} {x : α} : nth (l ++ [x]) l.length = x := by simp [nth]
end
def Valid (a : Auto) (l : List Int) : Prop := ∀ c ∈ l, 0 ≤ c ∧ c < a.Signs
structure Bfs (a : Auto) (L : List Int) (W : Int → Option (List Int)) (i c : Nat) : Prop where
  len : 0 < L.length
  head : nth L 0 = 0
  word : W 0 = some []
  dom : ∀ s, (W s).isSome = true ↔ s ∈ L
  rng : ∀ s ∈ L, 0 ≤ s ∧ s < (a.Next.length : Int)
  run : ∀ s ∈ L, runA a 0 ((W s).getD []) = s ∧ Valid a ((W s).getD [])
  mono : ∀ j k, j < k → k < L.length → slt ((W (nth L j)).getD []) ((W (nth L k)).getD [])
  form : ∀ k, 0 < k → k < L.length → ∃ (j c' : Nat), (j < i ∨ (j = i ∧ c' < c)) ∧ j < k ∧ (W (nth L k)).getD [] = (W (nth L j)).getD [] ++ [(c' : Int)]
  clos : ∀ j c' : Nat, (j < i ∨ (j = i ∧ c' < c)) → j < L.length → (c' : Int) < a.Signs → stepA a (nth L j) c' ∈ L ∧ sle ((W (stepA a (nth L j) c')).getD []) ((W (nth L j)).getD [] ++ [(c' : Int)])
theorem runA_snoc {a : Auto} {s : Int} {l : List Int} {c : Int} : runA a s (l ++ [c]) = stepA a (runA a s l) c := by
  rw [runA, List.foldl_append]; rfl
theorem Bfs.start {a : Auto} (h : WF a) : Bfs a [0] (fun q => if 0 = q then some [] else none) 0 0 where
  len := by simp
  head := rfl
  word := by simp
  dom s := by simp only [List.mem_singleton]; split <;> simp <;> omega
  rng s hs := by have := h.many; simp at hs; omega
  run s hs := by simp at hs; subst hs; simp [runA, Valid]
  mono j k h1 h2 := by simp at h2; omega
  form k h1 h2 := by simp at h2; omega
  clos j c' h1 h2 h3 := by omega
section
variable {a : Auto} {L : List Int} {W : Int → Option (List Int)} {i c : Nat}
theorem Bfs.ahead (h : Bfs a L W i c) (hi : i < L.length) (k : Nat) (hk : k < L.length) : slt ((W (nth L k)).getD []) ((W (nth L i)).getD [] ++ [(c : Int)]) := by
  by_cases h0 : k = 0
  · subst h0
    rw [h.head, h.word]
    exact .inl (by simp)
  · obtain ⟨j, c', hj, _, he⟩ := h.form k (by omega) hk
    rw [he]
    rcases hj with hj | ⟨rfl, hc⟩
    · exact slt_snoc (h.mono j i hj hi)
    · exact slt_last _ (by omega)
theorem Bfs.old (h : Bfs a L W i c) (hi : i < L.length) (hs : (W (stepA a (nth L i) c)).isSome = true) : Bfs a L W i (c + 1) := by
  obtain ⟨h1, h2, h3, h4, h5, h6, h7, h8, h9⟩ := id h
  refine ⟨h1, h2, h3, h4, h5, h6, h7, fun k hk0 hk => ?_, fun j c' hj hl hc => ?_⟩
  · obtain ⟨j, c', hj, hjk, he⟩ := h8 k hk0 hk
    exact ⟨j, c', by omega, hjk, he⟩
  · by_cases hn : j < i ∨ (j = i ∧ c' < c)
    · exact h9 j c' hn hl hc
    · have hji : j = i := by omega
      have hcc : c' = c := by omega
      subst hji; subst hcc
      refine ⟨(h4 _).1 hs, .inr ?_⟩
      obtain ⟨k, hk, hke⟩ := nth_of_mem ((h4 _).1 hs)
      rw [← hke]
      exact h.ahead hi k hk
theorem Bfs.new (h : Bfs a L W i c) (hW : WF a) (hi : i < L.length) (hc : (c : Int) < a.Signs) (hs : ¬ (W (stepA a (nth L i) c)).isSome = true) {w : List Int} (hw : w = (W (nth L i)).getD [] ++ [(c : Int)]) :
    Bfs a (L ++ [stepA a (nth L i) c]) (fun q => if stepA a (nth L i) c = q then some w else W q) i (c + 1) := by
  obtain ⟨h1, h2, h3, h4, h5, h6, h7, h8, h9⟩ := id h
  subst hw
  generalize hst : stepA a (nth L i) c = s' at hs ⊢
  have hnl : s' ∉ L := fun hm => hs ((h4 s').2 hm)
  have hold : ∀ s ∈ L, (if s' = s then some ((W (nth L i)).getD [] ++ [(c : Int)]) else W s) = W s := fun s hm => if_neg fun (e : s' = s) => hnl (by rw [e]; exact hm)
  have hn : ∀ j, j < L.length → nth (L ++ [s']) j = nth L j := fun j hj => nth_app_left hj
  have hin := nth_mem hi
  refine ⟨by simp, by rw [hn 0 h1]; exact h2, ?_, fun s => ?_, fun s hm => ?_, fun s hm => ?_, fun j k hjk hk => ?_, fun k hk0 hk => ?_, fun j c' hj hl hc' => ?_⟩
  · show (if s' = 0 then _ else W 0) = _
    rw [hold 0 (by have := nth_mem h1; rw [h2] at this; exact this)]; exact h3
  · show (if s' = s then _ else W s).isSome = true ↔ _
    by_cases hss : s' = s
    · subst hss; simp
    · rw [if_neg hss, h4, List.mem_append]
      constructor
      · exact .inl
      · rintro (hm | hm)
        · exact hm
        · exact (hss (List.mem_singleton.1 hm).symm).elim
  · rcases List.mem_append.1 hm with hm | hm
    · exact h5 s hm
    · rw [List.mem_singleton.1 hm, ← hst]
      exact hW.step (h5 _ hin) (by omega)
  · show runA a 0 ((if s' = s then _ else W s).getD []) = s ∧ Valid a ((if s' = s then _ else W s).getD [])
    rcases List.mem_append.1 hm with hm | hm
    · rw [hold s hm]; exact h6 s hm
    · rw [List.mem_singleton.1 hm, if_pos rfl]
      obtain ⟨r1, r2⟩ := h6 _ hin
      refine ⟨by rw [Option.getD_some, runA_snoc, r1, hst], fun x hx => ?_⟩
      rcases List.mem_append.1 hx with hx | hx
      · exact r2 x hx
      · rw [List.mem_singleton.1 hx]; omega
  · rw [List.length_append, List.length_singleton] at hk
    show slt ((if s' = nth (L ++ [s']) j then _ else W (nth (L ++ [s']) j)).getD []) ((if s' = nth (L ++ [s']) k then _ else W (nth (L ++ [s']) k)).getD [])
    have hj : j < L.length := by omega
    rw [hn j hj, hold _ (nth_mem hj)]
    by_cases hkl : k < L.length
    · rw [hn k hkl, hold _ (nth_mem hkl)]; exact h7 j k hjk hkl
    · have : k = L.length := by omega
      rw [this, nth_app_last, if_pos rfl]
      exact h.ahead hi j hj
  · rw [List.length_append, List.length_singleton] at hk
    show ∃ j c', _ ∧ _ ∧ (if s' = nth (L ++ [s']) k then _ else W (nth (L ++ [s']) k)).getD [] = (if s' = nth (L ++ [s']) j then _ else W (nth (L ++ [s']) j)).getD [] ++ _
    by_cases hkl : k < L.length
    · obtain ⟨j, c', hj, hjk, he⟩ := h8 k hk0 hkl
      refine ⟨j, c', by omega, hjk, ?_⟩
      rw [hn k hkl, hold _ (nth_mem hkl), hn j (by omega), hold _ (nth_mem (by omega))]
      exact he
    · have : k = L.length := by omega
      refine ⟨i, c, .inr ⟨rfl, by omega⟩, by omega, ?_⟩
      rw [this, nth_app_last, if_pos rfl, hn i hi, hold _ hin]
      rfl
  · rw [List.length_append, List.length_singleton] at hl
    show stepA a (nth (L ++ [s']) j) c' ∈ _ ∧ sle ((if s' = stepA a (nth (L ++ [s']) j) c' then _ else W (stepA a (nth (L ++ [s']) j) c')).getD []) ((if s' = nth (L ++ [s']) j then _ else W (nth (L ++ [s']) j)).getD [] ++ _)
    have hjl : j < L.length := by omega
    rw [hn j hjl, hold (nth L j) (nth_mem hjl)]
    by_cases hnn : j < i ∨ (j = i ∧ c' < c)
    · obtain ⟨k1, k2⟩ := h9 j c' hnn hjl hc'
      rw [hold _ k1]
      exact ⟨List.mem_append_left _ k1, k2⟩
    · have hji : j = i := by omega
      have hcc : c' = c := by omega
      subst hji; subst hcc
      rw [hst, if_pos rfl]
      exact ⟨by simp, .inl rfl⟩
end
def AnyIs (a : Auto) (m : List Int) (is : Bool) : Prop :=
  (is = true ∧ takesA a 0 m = true ∧ Valid a m ∧ ∀ l, Valid a l → takesA a 0 l = true → ¬ slt l m) ∨ (is = false ∧ m = [] ∧ ∀ l, Valid a l → takesA a 0 l = false)
def AnyOk (a : Auto) (m : List Int) (is : Bool) : Prop := if (autoFault a).1 ≠ 0 then m = [] ∧ is = false else AnyIs a m is
section
variable {a : Auto} {L : List Int} {W : Int → Option (List Int)} {i : Nat}
end
theorem AnyOk.is {a : Auto} {m : List Int} {is : Bool} (h : AnyOk a m is) (hz : (autoFault a).1 = 0) : AnyIs a m is := by
  rwa [AnyOk, if_neg (fun h' => h' hz)] at h
theorem AnyOk.bad {a : Auto} {m : List Int} {is : Bool} (h : AnyOk a m is) (hz : (autoFault a).1 ≠ 0) : m = [] ∧ is = false := by
  rwa [AnyOk, if_pos hz] at h
theorem AnyIs.one {a : Auto} {m m' : List Int} {is is' : Bool} (h : AnyIs a m is) (h' : AnyIs a m' is') : m = m' ∧ is = is' := by
  rcases h with ⟨rfl, h1, h2, h3⟩ | ⟨rfl, rfl, h3⟩ <;> rcases h' with ⟨rfl, k1, k2, k3⟩ | ⟨rfl, rfl, k3⟩
  · refine ⟨?_, rfl⟩
    by_cases he : m = m'
    · exact he
    · exact ((k3 m h2 h1) (slt_tri (h3 m' k2 k1) (fun e => he e.symm))).elim
  · rw [k3 m h2] at h1; cases h1
  · rw [h3 m' k2] at k1; cases k1
  · exact ⟨rfl, rfl⟩
end Go.Um
namespace Go.Um
open GoT (sz ag rdc)
open KeyT (kv)
open Go.RowKit
instance instKeyPair : KeyT (Int × Int) where
  kv p := .agg #[I p.1, I p.2]
  inj h := by
    rename_i a b
    obtain ⟨a1, a2⟩ := a
    obtain ⟨b1, b2⟩ := b
    simp at h
    simp [h]
  bits a := by simp [Instr.sameBits]
instance instPair : GoT (Int × Int) where
  sz := 2
  bytes := 16
  ag := true
  rdc _ _ cs x := cs = [I x.1, I x.2] ∧ In64 x.1 ∧ In64 x.2
  pos := by decide
  one h := by cases h
  len h := by rw [h.1]; rfl
  cell h := by rw [h.1]; simp [Value.oneCell']
  ext h _ _ := h
section
variable {P : Program} {t e : TypeId} {kd : IntKind} {i : TypeInfo}
end
end Go.Um
namespace Go.Um
open GoT (sz ag rdc)
section
variable {α : Type} [DecidableEq α]
def addN (L : List α) (y : α) : List α := if y ∈ L then L else L ++ [y]
theorem addN_len (L : List α) (y : α) : L.length ≤ (addN L y).length := by unfold addN; split <;> simp
theorem addN_all {L : List α} {y : α} {I : α → Prop} (h : ∀ x ∈ L, I x) (hy : I y) : ∀ x ∈ addN L y, I x := by
  unfold addN; split
  · exact h
  · intro x hx
    rcases List.mem_append.1 hx with hx | hx
    · exact h x hx
    · rw [List.mem_singleton.1 hx]; exact hy
def growTo (nx : α → Int → α) (L : List α) (x : α) : Nat → List α
  | 0 => L
  | c + 1 => addN (growTo nx L x c) (nx x c)
variable {nx : α → Int → α} {signs : Nat}
theorem growTo_len (L : List α) (x : α) : ∀ c, L.length ≤ (growTo nx L x c).length
  | 0 => Nat.le_refl _
  | c + 1 => Nat.le_trans (growTo_len L x c) (addN_len _ _)
theorem growTo_all {L : List α} {x : α} {I : α → Prop} (h : ∀ y ∈ L, I y) (hx : ∀ c' : Nat, c' < signs → I (nx x c')) : ∀ c, c ≤ signs → ∀ y ∈ growTo nx L x c, I y
  | 0, _ => h
  | c + 1, hc => addN_all (growTo_all h hx c (by omega)) (hx c (by omega))
end
section
variable {α : Type} [DecidableEq α] [Inhabited α]
variable {nx : α → Int → α} {signs : Nat} {start : α}
def bfs (nx : α → Int → α) (signs : Nat) (start : α) : Nat → List α
  | 0 => [start]
  | i + 1 => growTo nx (bfs nx signs start i) (nth (bfs nx signs start i) i) signs
theorem addN_nth {L : List α} {y : α} {j : Nat} (h : j < L.length) : nth (addN L y) j = nth L j := by
  unfold addN; split
  · rfl
  · simp [nth, List.getElem?_append_left h]
theorem growTo_nth {L : List α} {x : α} {j : Nat} (h : j < L.length) : ∀ c, nth (growTo nx L x c) j = nth L j
  | 0 => rfl
  | c + 1 => by rw [growTo, addN_nth (Nat.lt_of_lt_of_le h (growTo_len L x c)), growTo_nth h c]
theorem bfs_len (i : Nat) : (bfs nx signs start i).length ≤ (bfs nx signs start (i + 1)).length := growTo_len _ _ _
theorem bfs_nth {i j : Nat} (h : j < (bfs nx signs start i).length) : nth (bfs nx signs start (i + 1)) j = nth (bfs nx signs start i) j := growTo_nth h _
def Ended (nx : α → Int → α) (signs : Nat) (start : α) (i : Nat) : Prop := i = (bfs nx signs start i).length ∧ ∀ j, j < i → j < (bfs nx signs start j).length
theorem Ended.one {i i' : Nat} (h : Ended nx signs start i) (h' : Ended nx signs start i') : i = i' := by
  by_cases hlt : i < i'
  · have := h'.2 i hlt; have := h.1; omega
  · by_cases hgt : i' < i
    · have := h.2 i' hgt; have := h'.1; omega
    · omega
end
section
variable {α : Type} [DecidableEq α] [Inhabited α]
structure Nums (L : List α) (M : α → Option Int) : Prop where
  at_ : ∀ k, k < L.length → M (nth L k) = some (k : Int)
  off : ∀ y, y ∉ L → M y = none
theorem Nums.start {s : α} : Nums [s] (fun q => if s = q then some 0 else none) where
  at_ k hk := by
    have : k = 0 := by simpa using hk
    subst this; simp [nth]
  off y hy := by
    have : s ≠ y := fun e => hy (by simp [e])
    simp [this]
theorem Nums.push {L : List α} {M : α → Option Int} {y : α} (h : Nums L M) (hy : y ∉ L) : Nums (L ++ [y]) (fun q => if y = q then some (L.length : Int) else M q) where
  at_ k hk := by
    by_cases hl : k < L.length
    · rw [nth_app_left hl]
      have : y ≠ nth L k := fun e => hy (e ▸ nth_mem hl)
      simp [this, h.at_ k hl]
    · have : k = L.length := by simp at hk; omega
      subst this; simp [nth_app_last]
  off q hq := by
    have h1 : y ≠ q := fun e => hq (by simp [e])
    have h2 : q ∉ L := fun hm => hq (by simp [hm])
    simp [h1, h.off q h2]
end
section
variable {α : Type} [DecidableEq α] [Inhabited α] {nx : α → Int → α} {signs : Nat} {start : α} {M : α → Option Int}
theorem bfs_all {I : α → Prop} (h0 : I start) (hI : ∀ x (c : Int), I x → 0 ≤ c → c < signs → I (nx x c)) : ∀ i, (∀ j, j < i → j < (bfs nx signs start j).length) → ∀ x ∈ bfs nx signs start i, I x
  | 0, _, x, hx => by rw [List.mem_singleton.1 hx]; exact h0
  | i + 1, hd, x, hx => by
    have ih := bfs_all h0 hI i (fun j hj => hd j (by omega))
    exact growTo_all ih (fun c' hc' => hI _ _ (ih _ (nth_mem (hd i (by omega)))) (by omega) (by omega)) signs (Nat.le_refl _) x hx
theorem Ended.all {i : Nat} {I : α → Prop} (h : Ended nx signs start i) (h0 : I start) (hI : ∀ x (c : Int), I x → 0 ≤ c → c < signs → I (nx x c)) : ∀ x ∈ bfs nx signs start i, I x := bfs_all h0 hI i h.2
theorem bfs_pre {i j : Nat} (hij : i ≤ j) : ∀ k, k < (bfs nx signs start i).length → nth (bfs nx signs start j) k = nth (bfs nx signs start i) k ∧ (bfs nx signs start i).length ≤ (bfs nx signs start j).length := by
  induction hij with
  | refl => exact fun k _ => ⟨rfl, Nat.le_refl _⟩
  | step hij ih => exact fun k hk => ⟨(bfs_nth (Nat.lt_of_lt_of_le hk (ih k hk).2)).trans (ih k hk).1, Nat.le_trans (ih k hk).2 (bfs_len _)⟩
theorem Ended.first {i : Nat} (h : Ended nx signs start i) : nth (bfs nx signs start i) 0 = start ∧ 0 < (bfs nx signs start i).length := by
  have h0 := bfs_pre (nx := nx) (signs := signs) (start := start) (show 0 ≤ i by omega) 0 (by simp [bfs])
  exact ⟨h0.1.trans (by simp [bfs, nth]), Nat.lt_of_lt_of_le (by simp [bfs]) h0.2⟩
end
end Go.Um
namespace Go.Um
def dotTo (c s : List Int) : Nat → Int := sumTo fun k => nth c k * nth s k
def dotL (c s : List Int) : Int := dotTo c s c.length
def rowOut (r : LRow) (n : Int) : Prop := (r.Kind = 1 ∧ r.To < n) ∨ (r.Kind = 2 ∧ r.To ≤ n) ∨ (r.Kind = 3 ∧ n ≠ r.To)
instance {r : LRow} {n : Int} : Decidable (rowOut r n) := by unfold rowOut; infer_instance
def holdB (l : List LRow) (s : List Int) : Bool := decide (∀ k, k < l.length → ¬ rowOut (nth l k) (dotL (nth l k).Of s))
def Small (s : List Int) : Prop := ∀ k, k < s.length → -1000000 ≤ nth s k ∧ nth s k ≤ 1000000
theorem dot_bound {r : LRow} {s : List Int} {N : Int} (hr : rowFault N r = 0) (hN : N ≤ 8) (hs : Small s) (hl : N ≤ s.length) {k : Nat} (hk : k < r.Of.length) :
    -1000000000000 ≤ nth r.Of k * nth s k ∧ nth r.Of k * nth s k ≤ 1000000000000 := by
  have h1 := rowFault_zero hr
  exact mul_whole (outs_false h1.2.2.1 hk) (hs k (by omega))
theorem dotS_bound {r : LRow} {s : List Int} {N : Int} (hr : rowFault N r = 0) (hN : N ≤ 8) (hs : Small s) (hl : N ≤ s.length) {k : Nat} (hk : k ≤ r.Of.length) :
    -8000000000000 ≤ dotTo r.Of s k ∧ dotTo r.Of s k ≤ 8000000000000 := by
  have h1 := rowFault_zero hr
  have h2 := sumTo_bound (g := fun k => nth r.Of k * nth s k) (b := 1000000000000) (n := k) fun i hi => dot_bound hr hN hs hl (by omega)
  have h3 : (k : Int) ≤ 8 := by omega
  unfold dotTo
  omega
def facI (l : Loop) (k : Nat) : Int := nth l.High k - nth l.Low k + 1
def boxTo (l : Loop) : Nat → Int
  | 0 => 1
  | k + 1 => boxTo l k * facI l k
def rngBad (l : Loop) (k : Nat) : Prop := (nth l.Low k < -1000000 ∨ 1000000 < nth l.High k) ∨ nth l.High k < nth l.Low k
instance {l : Loop} {k : Nat} : Decidable (rngBad l k) := by unfold rngBad; infer_instance
def boxBad (l : Loop) (k : Nat) : Int := if rngBad l k then 3 else if 1200 < boxTo l (k + 1) then 10 else 0
def jumpsFault (l : Loop) : Nat → Option (Int × Int) := fun k => if jumpFault (nth l.Jumps k) l.Low.length ≠ 0 then some (jumpFault (nth l.Jumps k) l.Low.length, (k : Int)) else none
def loopFault (l : Loop) : Int × Int :=
  if (l.Low.length : Int) < 1 ∨ 8 < (l.Low.length : Int) then (2, -1) else if (l.High.length : Int) ≠ l.Low.length then (9, -1)
  else if fstN (boxBad l) l.Low.length ≠ 0 then (fstN (boxBad l) l.Low.length, -1) else if 6 < (l.Jumps.length : Int) then (2, -1)
  else if rowsFault l.Start l.Low.length ≠ 0 then (rowsFault l.Start l.Low.length, -2)
  else match fst1 (jumpsFault l) 0 l.Jumps.length with
    | some x => x
    | none => if rowsFault l.Bad l.Low.length ≠ 0 then (rowsFault l.Bad l.Low.length, -3) else (0, 0)
structure LW (l : Loop) : Prop where
  many : 1 ≤ (l.Low.length : Int) ∧ (l.Low.length : Int) ≤ 8
  high : l.High.length = l.Low.length
  rng : ∀ k, k < l.Low.length → ¬ rngBad l k
  box : ∀ k, k ≤ l.Low.length → boxTo l k ≤ 1200
  jumps : l.Jumps.length ≤ 6
  start : rowsFault l.Start l.Low.length = 0
  jump : ∀ k, k < l.Jumps.length → JW (nth l.Jumps k) l.Low.length
  bad : rowsFault l.Bad l.Low.length = 0
section
variable {l : Loop} {k : Nat}
def LH1 (l : Loop) : Prop := ¬ ((l.Low.length : Int) < 1 ∨ 8 < (l.Low.length : Int))
def LH2 (l : Loop) : Prop := ¬ (l.High.length : Int) ≠ l.Low.length
theorem boxBad_no (h : ¬ rngBad l k) (h2 : ¬ 1200 < boxTo l (k + 1)) : boxBad l k = 0 := by rw [boxBad, if_neg h, if_neg h2]
def LH3 (l : Loop) : Prop := ∀ j, j < l.Low.length → boxBad l j = 0
theorem loopFault_78 (h : LH1 l) (h2 : LH2 l) (h3 : LH3 l) (h4 : ¬ 6 < (l.Jumps.length : Int)) (h5 : ¬ rowsFault l.Start l.Low.length ≠ 0) (hp : ∀ j, j < l.Jumps.length → jumpFault (nth l.Jumps j) l.Low.length = 0) :
    loopFault l = if rowsFault l.Bad l.Low.length ≠ 0 then (rowsFault l.Bad l.Low.length, -3) else (0, 0) := by
  have hf : fst1 (jumpsFault l) 0 l.Jumps.length = none := fst1_none fun j _ hj => by simp only [jumpsFault]; rw [if_neg (not_not_intro (hp j (by omega)))]
  rw [loopFault, if_neg h, if_neg h2, fstN_no h3, if_neg (by decide), if_neg h4, if_neg h5, hf]
theorem fst1_none_at' {β : Type} {g : Nat → Option β} {n i : Nat} (h : fst1 g i n = none) : ∀ j, i ≤ j → j < i + n → g j = none := by
  induction n generalizing i with
  | zero => intro j h1 h2; omega
  | succ n ih =>
    intro j h1 h2
    simp only [fst1] at h
    split at h
    · cases h
    · rename_i h0
      by_cases hj : j = i
      · rw [hj]; exact h0
      · exact ih h j (by omega) (by omega)
theorem fst1_mem' {β : Type} {g : Nat → Option β} {x : β} {n i : Nat} (h : fst1 g i n = some x) : ∃ j, g j = some x := by
  induction n generalizing i with
  | zero => simp [fst1] at h
  | succ n ih =>
    simp only [fst1] at h
    split at h
    · rename_i y h0; exact ⟨i, by rw [h0, h]⟩
    · exact ih h
theorem LW.of (h : (loopFault l).1 = 0) : LW l := by
  unfold loopFault at h
  split at h
  · cases h
  · split at h
    · cases h
    · split at h
      · rename_i h3; exact absurd h h3
      · split at h
        · cases h
        · split at h
          · rename_i h5; exact absurd h h5
          · rename_i h1 h2 h3 h4 h5
            have hb := fstN_zero (Decidable.of_not_not h3)
            have hb2 : ∀ k, k < l.Low.length → ¬ rngBad l k ∧ ¬ 1200 < boxTo l (k + 1) := fun k hk => by
              have := hb k hk
              unfold boxBad at this
              split at this
              · cases this
              · split at this
                · cases this
                · rename_i h6 h7; exact ⟨h6, h7⟩
            cases hf : fst1 (jumpsFault l) 0 l.Jumps.length with
            | some x =>
              rw [hf] at h
              obtain ⟨j, hj⟩ := fst1_mem' hf
              simp only [jumpsFault] at hj
              split at hj
              · rename_i h6; cases hj; exact absurd h h6
              · cases hj
            | none =>
              rw [hf] at h
              have hj := fst1_none_at' hf
              simp only at h
              split at h
              · rename_i h6; exact absurd h h6
              · rename_i h6
                refine ⟨by omega, by omega, fun k hk => (hb2 k hk).1, fun k hk => ?_, by omega, Decidable.of_not_not h5, fun k hk => JW.of ?_, Decidable.of_not_not h6⟩
                · cases k with
                  | zero => show (1 : Int) ≤ 1200; decide
                  | succ k => have := (hb2 k (by omega)).2; omega
                · have := hj k (Nat.zero_le _) (by omega)
                  simp only [jumpsFault] at this
                  split at this
                  · cases this
                  · rename_i h7; exact Decidable.of_not_not h7
theorem LW.code (h : LW l) : loopFault l = (0, 0) := by
  have h1 : LH1 l := by have := h.many; unfold LH1; omega
  have h2 : LH2 l := by have := h.high; unfold LH2; omega
  have h3 : LH3 l := fun j hj => boxBad_no (h.rng j hj) (by have := h.box (j + 1) (by omega); omega)
  rw [loopFault_78 h1 h2 h3 (by have := h.jumps; omega) (not_not_intro h.start) fun j hj => ?_, if_neg (not_not_intro h.bad)]
  have hj2 := h.jump j hj
  exact jumpFault_no (not_not_intro hj2.when_) (not_not_intro hj2.len) fun i hi => toFault_no (not_not_intro (hj2.to i hi).1) (hj2.to i hi).2
end
def rngL (l : Loop) (i : Nat) : List Int := (List.range (facI l i).toNat).map fun x => nth l.Low i + (x : Nat)
def allTo (l : Loop) : Nat → List (List Int)
  | 0 => [[]]
  | i + 1 => (allTo l i).flatMap fun s => (rngL l i).map fun x => s ++ [x]
def statesL (l : Loop) : List (List Int) := allTo l l.Low.length
section
variable {l : Loop} {i m n : Nat}
def insideB (l : Loop) (s : List Int) : Bool := decide (∀ k, k < s.length → nth l.Low k ≤ nth s k ∧ nth s k ≤ nth l.High k)
end
end Go.Um
namespace Go.Um
def ledTo (j : Jump) (s : List Int) (i : Nat) : Nat → Int
  | 0 => nth (nth j.To i) s.length
  | k + 1 => ledTo j s i k + nth (nth j.To i) k * nth s k
def ledL (j : Jump) (s : List Int) : List Int := (List.range j.To.length).map fun i => ledTo j s i s.length
section
variable {j : Jump} {s : List Int} {i k n : Nat}
end
def nextTo (l : Loop) (s : List Int) : Nat → List (List Int)
  | 0 => []
  | i + 1 => if holdB (nth l.Jumps i).When s = true then
      (if insideB l (ledL (nth l.Jumps i) s) = true ∧ ledL (nth l.Jumps i) s ∉ nextTo l s i then nextTo l s i ++ [ledL (nth l.Jumps i) s] else nextTo l s i)
    else nextTo l s i
def nextL (l : Loop) (s : List Int) : List (List Int) := nextTo l s l.Jumps.length
section
variable {l : Loop} {s : List Int} {i : Nat}
end
section
variable {l : Loop} {i m : Nat} {L ss : List (List Int)}
end
section
variable {l : Loop} {i k m : Nat}
structure HoldOk (l : List LRow) (s : List Int) : Prop where
  len : ∀ k, k < l.length → (nth l k).Of.length ≤ s.length
  mul : ∀ k, k < l.length → ∀ i, i < (nth l k).Of.length → In64 (nth (nth l k).Of i * nth s i)
  sum : ∀ k, k < l.length → In64 (dotL (nth l k).Of s)
  kind : ∀ k, k < l.length → 1 ≤ (nth l k).Kind ∧ (nth l k).Kind ≤ 3
theorem HoldOk.of {l : List LRow} {s : List Int} {N : Int} (h : rowsFault l N = 0) (hN : N ≤ 8) (hs : Small s) (hl : N ≤ s.length) : HoldOk l s where
  len k hk := by have := rowFault_zero ((rowsFault_zero h).2 k hk); omega
  mul k hk i hi := by have := dot_bound ((rowsFault_zero h).2 k hk) hN hs hl hi; constructor <;> omega
  sum k hk := by have := dotS_bound ((rowsFault_zero h).2 k hk) hN hs hl (Nat.le_refl _); unfold dotL; constructor <;> omega
  kind k hk := (rowFault_zero ((rowsFault_zero h).2 k hk)).1
end
end Go.Um
namespace Go.Um
open GoT (sz ag rdc)
section
variable {α : Type} [GoT α] {H H0 : Heap} {M S0 : Nat → Prop} {L : List Ent}
end
end Go.Um
namespace Go.Um
section
variable {g h : Nat → Int} {n m : Nat}
end
section
variable {j : Jump} {r : LRow} {s : List Int} {l : List LRow} {n k : Nat}
end
end Go.Um
namespace Go.Um
section
variable {α : Type} [Inhabited α] {p : α → Bool} {L : List α} {k : Nat}
end
section
variable {l : Loop} {r : List LRow} {s : List Int} {k : Nat}
end
section
variable {α : Type} [Inhabited α] {xs : List α} {i k : Nat}
end
section
variable {l : Loop} {at_ : Nat}
end
end Go.Um
namespace Go.Um
section
variable {l : Loop}
end
def pickI (a n : Int) : Int := if a.tmod n < 0 then a.tmod n + n else a.tmod n
theorem pickI_rng {a n : Int} (hn : 1 ≤ n) : 0 ≤ pickI a n ∧ pickI a n < n := by
  have h1 := Int.tmod_lt_of_pos a (show 0 < n by omega)
  have h2 : -n < a.tmod n := by
    rcases Int.le_total 0 a with h0 | h0
    · have := Int.tmod_nonneg n h0; omega
    · have h3 := Int.tmod_lt_of_pos (-a) (show 0 < n by omega)
      rw [Int.neg_tmod] at h3; omega
  unfold pickI
  split <;> omega
section
variable {l rows : List Int} {n i : Nat} {s : List Int}
end
end Go.Um
namespace Go.Um
theorem pickI_neg {a n : Int} (h : a.tmod n < 0) : pickI a n = a.tmod n + n := if_pos h
theorem pickI_pos {a n : Int} (h : ¬ a.tmod n < 0) : pickI a n = a.tmod n := if_neg h
def HeldOk (r : List LRow) : Prop := ∀ k, k < r.length → (nth r k).Of.length = 1 ∧ (nth (nth r k).Of 0 = 1 ∨ nth (nth r k).Of 0 = -1)
theorem HeldOk.mul {r : List LRow} (h : HeldOk r) {k : Nat} (hk : k < r.length) {n : Int} (hn : -1000000 ≤ n ∧ n ≤ 1000000) : -1000000 ≤ nth (nth r k).Of 0 * n ∧ nth (nth r k).Of 0 * n ≤ 1000000 := by
  rcases (h k hk).2 with h1 | h1 <;> rw [h1] <;> omega
section
variable {raw rows : List Int} {n i : Nat} {w : Bool}
end
end Go.Um
namespace Go.Um
def varA (l : Int) : Int := max l (-l)
def litOk (vars : Int) (l : List Int) (i : Nat) : Prop := ¬ (nth l i = 0) ∧ ¬ (nth l i < -vars) ∧ ¬ (vars < nth l i) ∧ ∀ y ∈ l.take i, ¬ varA y = varA (nth l i)
instance {vars : Int} {l : List Int} {i : Nat} : Decidable (litOk vars l i) := by unfold litOk; infer_instance
def litsOk (vars : Int) (l : List Int) : Prop := ∀ i, i < l.length → litOk vars l i
instance {vars : Int} {l : List Int} : Decidable (litsOk vars l) := by unfold litsOk; infer_instance
def cnfOk (vars : Int) (C : List (List Int)) : Prop := 0 ≤ vars ∧ vars ≤ 120 ∧ C.length ≤ 400 ∧ ∀ c ∈ C, c.length ≤ 24 ∧ litsOk vars c
instance {vars : Int} {C : List (List Int)} : Decidable (cnfOk vars C) := by unfold cnfOk; infer_instance
def negL (l : List Int) : List Int := l.map fun x => -x
def stateF (T : List Int) : List Int → Int → Bool × Int
  | [], o => (decide (o = 0), o)
  | l :: c, o => if -l ∈ T then stateF T c o else if l ∈ T ∨ o ≠ 0 then (false, 0) else stateF T c l
def stateL (T c : List Int) : Bool × Int := stateF T c 0
def scanF (T : List Int) : List (List Int) → Int → Int → Bool × Int
  | [], _, f => (false, f)
  | c :: C, i, f => if (stateL T c).1 then (true, i) else scanF T C (i + 1) (if (stateL T c).2 ≠ 0 ∧ f < 0 then i else f)
def scanL (C : List (List Int)) (T : List Int) : Bool × Int := scanF T C 0 (-1)
def runF (C : List (List Int)) : Nat → List Int → List Int → Option (List Int × List Int × Int)
  | 0, _, _ => none
  | n + 1, T, W => if (scanL C T).1 then some (T, W, (scanL C T).2) else if (scanL C T).2 < 0 then some (T, W, -1) else runF C n (T ++ [(stateL T (nth C (scanL C T).2.toNat)).2]) (W ++ [(scanL C T).2])
def askF (T : List Int) : List Int → Int → Int × Int
  | [], nx => (0, nx)
  | l :: A, nx => if -l ∈ T then (l, 0) else askF T A (if nx = 0 ∧ l ∉ T then l else nx)
def varF (T : List Int) (ph : Bool) : Nat → Int → Int → Int
  | 0, _, nx => nx
  | n + 1, v, nx => if nx ≠ 0 then nx else varF T ph n (v + 1) (if v ∉ T ∧ -v ∉ T then (if ph then v else -v) else 0)
def idxI (T : List Int) (x : Int) : Int := idxOf (fun y => decide (y = x)) T
def moreF (x : Int) : List Int → List Int → List Int → List Int × List Int
  | [], todo, seen => (todo, seen)
  | y :: c, todo, seen => if y ≠ x ∧ -y ∉ seen then moreF x c (todo ++ [-y]) (seen ++ [-y]) else moreF x c todo seen
def coreF (C : List (List Int)) (T W : List Int) : Nat → List Int → List Int → List Int → Option (List Int)
  | 0, _, _, _ => none
  | _ + 1, [], _, out => some out
  | n + 1, x :: todo, seen, out =>
    if idxI T x < 0 ∨ (W.length : Int) ≤ idxI T x then none
    else if nth W (idxI T x).toNat < 0 then coreF C T W n todo seen (if x ∈ out then out else out ++ [x])
    else if (C.length : Int) ≤ nth W (idxI T x).toNat then none
    else coreF C T W n (moreF x (nth C (nth W (idxI T x).toNat).toNat) todo seen).1 (moreF x (nth C (nth W (idxI T x).toNat).toNat) todo seen).2 out
def trailOk (vars : Int) (T : List Int) : Prop := ∀ l ∈ T, ¬ l = 0 ∧ -vars ≤ l ∧ l ≤ vars
instance {vars : Int} {T : List Int} : Decidable (trailOk vars T) := by unfold trailOk; infer_instance
def goF (C : List (List Int)) (A : List Int) (vars : Nat) (ph : Bool) : Nat → List Int → List Int → Int → Option Int
  | 0, _, _, _ => none
  | n + 1, T, W, lv =>
    match runF C 8 T W with
    | none => none
    | some (T', W', b) =>
      if 0 ≤ b then (if lv = 0 then some 2 else none)
      else if trailOk vars T' then
        if (askF T' A 0).1 ≠ 0 then (if (coreF C T' W' 12 [-(askF T' A 0).1] [-(askF T' A 0).1] [(askF T' A 0).1]).isSome then some 2 else none)
        else if varF T' ph vars 1 (askF T' A 0).2 = 0 then some 1
        else goF C A vars ph n (T' ++ [varF T' ph vars 1 (askF T' A 0).2]) (W' ++ [-1]) (lv + 1)
      else none
end Go.Um
namespace Go.Um
def Gone (S : Nat → Prop) (A A' : List Ent) (H H' : Heap) : Prop :=
  (∀ e ∈ A', e.ok (lv S A A') H') ∧ (∀ b, own A' b → own A b ∨ H.size ≤ b) ∧ A'.Pairwise fun e e' => ∀ b, e.blocks b → ¬ e'.blocks b
theorem St.leave3 {H0 H : Heap} {S : Nat → Prop} {A A' : List Ent} (h : St H0 (own A) (fun b => S b ∧ ¬ own A b) A' H) : Gone S A A' H0 H :=
  ⟨h.ok, fun b ⟨e, he, hb⟩ => (h.ge e he b hb).1.symm, h.dj⟩
theorem St.back3 {H0 H H' : Heap} {M S0 : Nat → Prop} {A A' L : List Ent} (h : St H0 M S0 (A ++ L) H) (hx : Ext (own A) H H') (hg : Gone (SL S0 (A ++ L)) A A' H H') : St H0 M S0 (A' ++ L) H' := h.back hx hg.1 hg.2.1 hg.2.2
def nilE : Ent where
  blocks _ := False
  ok _ _ := True
  lt _ h := h.elim
  ext _ _ _ _ := trivial
def whenE (p : Prop) [Decidable p] (e : Ent) : Ent := if p then e else nilE
theorem whenE_no {p : Prop} [Decidable p] {e : Ent} (h : ¬ p) : whenE p e = nilE := if_neg h
def Fresh (S : Nat → Prop) (A' : List Ent) (H H' : Heap) : Prop := (∀ e ∈ A', e.ok (SL (fun b => S b ∧ b < H.size) A') H') ∧ ∀ b, own A' b → H.size ≤ b
theorem Fresh.none {S : Nat → Prop} {p : Prop} [Decidable p] {e : Ent} {H H' : Heap} (h : ¬ p) : Fresh S [whenE p e] H H' := by
  rw [whenE_no h]
  exact ⟨fun e he => by rw [List.mem_singleton.1 he]; exact trivial, fun b hb => by obtain ⟨e, he, hb⟩ := hb; rw [List.mem_singleton.1 he] at hb; exact hb.elim⟩
theorem St.gotF {H0 H H' : Heap} {M S0 : Nat → Prop} {A' L : List Ent} (h : St H0 M S0 L H) (hx : Ext NoB H H') (hf : Fresh (SL S0 L) A' H H') (hdj : A'.Pairwise fun e e' => ∀ b, e.blocks b → ¬ e'.blocks b) : St H0 M S0 (A' ++ L) H' :=
  St.back (A := []) (L := L) h (Ext.mono hx fun _ hb => hb.elim)
    (fun e he => e.ext (hf.1 e he) (Nat.le_refl _) (fun _ _ _ => rfl) (fun b _ hb => by
      rcases hb with hb | hb
      · exact .inl ⟨hb.1, SL.lt h hb.1⟩
      · exact .inr hb))
    (fun b hb => .inr (hf.2 b hb)) hdj
end Go.Um
namespace Go.Um
open GoT (sz ag rdc)
section
variable {α : Type} [GoT α] {P : Program} {o : Oper} {f : Fr} {H H0 H' : Heap} {M S0 : Nat → Prop} {L A : List Ent} {next : FP}
theorem St.pwA (h : St H0 M S0 (A ++ L) H) : A.Pairwise fun e e' => ∀ b, e.blocks b → ¬ e'.blocks b := (List.pairwise_append.1 h.dj).1
theorem St.okA (h : St H0 M S0 (A ++ L) H) : ∀ e ∈ A, e.ok (SL S0 (A ++ L)) H := fun e he => h.ok e (List.mem_append_left _ he)
theorem St.inA (_h : St H0 M S0 (A ++ L) H) : ∀ b, own A b → SL S0 (A ++ L) b := fun _ ⟨e, he, hb⟩ => .inr ⟨e, List.mem_append_left _ he, hb⟩
end
section
variable {κ β : Type} [DecidableEq κ] [KeyT κ] [GoT β] {P : Program} {o : Oper} {f : Fr} {H H0 H' : Heap} {M S0 S : Nat → Prop} {L : List Ent} {U : Nat → Prop}
def fixM (r : Nat) (m : List (κ × β)) : Ent where
  blocks _ := False
  ok S H := ¬ S r ∧ (mapE r m).ok S H
  lt _ h := h.elim
  ext h hz hs ht := by
    have hl := (mapE r m).lt h.2 rfl
    exact ⟨fun h' => h.1 (ht r hl h'), (mapE r m).ext h.2 hz (fun b hb hn => hs b hb (.inr (by rcases hn with rfl | hn; exact h.1; exact hn))) ht⟩
theorem St.argMap {r : Nat} {m : List (κ × β)} (h : St H0 M S0 L H) (hn : Bl0 L) (hm : (mapE r m).ok S H) (hs : ¬ S0 r) (hS : ∀ b, S0 b → S b) : St H0 M S0 (fixM r m :: L) H := by
  have hsl : ∀ b, SL S0 L b → S0 b := by
    rintro b (hb | ⟨e, he, hb⟩)
    · exact hb
    · exact (hn e he b hb).elim
  exact h.cons0 _ (fun b hb => hb) ⟨fun h' => hs (hsl r h'), (mapE r m).ext hm (Nat.le_refl _) (fun _ _ _ => rfl) fun b _ hb => hS b (hsl b hb)⟩
theorem Bl0.consM {r : Nat} {m : List (κ × β)} (h : Bl0 L) : Bl0 (fixM r m :: L) := by
  intro e he b hb
  rcases List.mem_cons.1 he with rfl | h'
  · exact hb
  · exact h e h' b hb
theorem MapOk.no {r : Nat} {m : List (κ × β)} (h : (mapE r m).ok S H) : (mapE r m).ok NoB H := (mapE r m).ext h (Nat.le_refl _) (fun _ _ _ => rfl) fun _ _ hb => hb.elim
theorem MapOk.extN {r : Nat} {m : List (κ × β)} (h : (mapE r m).ok NoB H) (hx : Ext NoB H H') : (mapE r m).ok NoB H' := (mapE r m).ext h hx.size (fun b hb _ => hx.same b hb fun h => h) fun _ _ hb => hb.elim
end
end Go.Um
namespace Go.Um
structure Given (S : Nat → Prop) (A : List Ent) (H : Heap) : Prop where
  ok : ∀ e ∈ A, e.ok S H
  pw : A.Pairwise fun e e' => ∀ b, e.blocks b → ¬ e'.blocks b
  lt : ∀ b, S b → b < H.size
  ins : ∀ b, own A b → S b
section
variable {H0 H : Heap} {M S0 S : Nat → Prop} {A L : List Ent}
theorem St.give (h : St H0 M S0 (A ++ L) H) : Given (SL S0 (A ++ L)) A H := ⟨h.okA, h.pwA, fun _ hb => SL.lt h hb, h.inA⟩
theorem Given.st (h : Given S A H) : St H (own A) (fun b => S b ∧ ¬ own A b) A H := St.handed h.ok h.pw h.lt h.ins
theorem Given.sub (h : Given S A H) {b : Nat} (hb : SL (fun b => S b ∧ ¬ own A b) A b) : S b := handed_sub h.ins hb
theorem St.rdG {α : Type} [GoT α] {v : Value} {x : α} (h : St H0 M S0 L H) (hr : Rd S H v x) (hs : ∀ b, SL S0 L b → S b) : St H0 M S0 (rdE v x :: L) H := h.rd (hr.sub hs)
end
end Go.Um
