import Derived.WalkSpells
import Derived.WalkKit
import Derived.Test.YtacphjgolmolmaaGreatUmArrUpA
namespace Go.Um
open GoT (sz ag rdc)
open Go.RowKit
section lists
variable {κ β : Type} [DecidableEq κ]
def mset : List (κ × β) → κ → β → List (κ × β)
  | [], k, x => [(k, x)]
  | (a, b) :: m, k, x => if a = k then (k, x) :: m else (a, b) :: mset m k x
def midx : List (κ × β) → κ → Option Nat
  | [], _ => none
  | (a, _) :: m, k => if a = k then some 0 else (midx m k).map (· + 1)
def mnd (m : List (κ × β)) : Prop := (m.map (·.1)).Nodup
end lists
class KeyT (κ : Type) [DecidableEq κ] where
  kv : κ → Value
  inj : ∀ {a b}, kv a = kv b → a = b
  bits : ∀ a, Instr.sameBits 10000 (kv a) (kv a) = true
open KeyT (kv)
def MapRd {κ β : Type} [DecidableEq κ] [KeyT κ] [GoT β] (S : Nat → Prop) (H : Heap) : List MapEntry → List (κ × β) → Prop
  | [], m => m = []
  | e :: es, m => ∃ k x m', m = (k, x) :: m' ∧ e.key = kv k ∧ Rd S H e.val x ∧ MapRd S H es m'
section
variable {κ β : Type} [DecidableEq κ] [KeyT κ] [GoT β] {S S' : Nat → Prop} {H H' H0 : Heap} {M S0 : Nat → Prop} {L : List Ent} {P : Program} {o : Oper} {f : Fr} {next : FP}
theorem MapRd.ext {es : List MapEntry} : ∀ {m : List (κ × β)}, MapRd S H es m → Ext S H H' → (∀ b, b < H.size → S' b → S b) → MapRd S' H' es m := by
  induction es with
  | nil => intro m h _ _; exact h
  | cons e es ih =>
    rintro m ⟨k, x, m', rfl, hk, hr, h⟩ hx hs
    exact ⟨k, x, m', rfl, hk, hr.ext hx hs, ih h hx hs⟩
theorem MapRd.keys {es : List MapEntry} : ∀ {m : List (κ × β)}, MapRd S H es m → es.map (·.key) = (m.map (·.1)).map kv := by
  induction es with
  | nil => intro m h; cases h; rfl
  | cons e es ih => rintro m ⟨k, x, m', rfl, hk, hr, h⟩; simp [ih h, hk]
theorem MapRd.length {es : List MapEntry} {m : List (κ × β)} (h : MapRd S H es m) : es.length = m.length := by
  have := congrArg List.length h.keys
  simpa using this
def mapE (r : Nat) (m : List (κ × β)) : Ent where
  blocks b := b = r
  ok S H := ∃ es c, H[r]? = some (.map es c) ∧ MapRd S H es.toList m ∧ mnd m
  lt h hb := by obtain ⟨es, c, hr, _⟩ := h; subst hb; exact (Array.getElem?_eq_some_iff.1 hr).1
  ext h hz hs ht := by
    obtain ⟨es, c, hr, hm, hn⟩ := h
    exact ⟨es, c, by rw [hs r (Array.getElem?_eq_some_iff.1 hr).1 (.inl rfl)]; exact hr, hm.ext ⟨hz, fun b hb hn => hs b hb (.inr hn)⟩ ht, hn⟩
theorem MapRd.set {es : List MapEntry} {v : Value} {x : β} {key : Value} (hv : Rd S H v x) : ∀ {m : List (κ × β)} {k : κ} {i : Nat}, MapRd S H es m → midx m k = some i → key = kv k →
    MapRd S H (es.modify i fun e => { e with key, val := v }) (mset m k x) := by
  induction es with
  | nil => intro m k i h hi; cases h; cases hi
  | cons e es ih =>
    rintro m k i ⟨a, y, m', rfl, hk, hr, h⟩ hi hkey
    simp only [midx] at hi
    simp only [mset]
    by_cases hak : a = k
    · rw [if_pos hak] at hi ⊢; cases hi
      exact ⟨k, x, m', rfl, hkey, hv, h⟩
    · rw [if_neg hak] at hi ⊢
      cases hmi : midx m' k with
      | none => rw [hmi] at hi; cases hi
      | some j =>
        rw [hmi] at hi; cases hi
        exact ⟨a, y, _, rfl, hk, hr, ih h hmi hkey⟩
theorem MapRd.push {es : List MapEntry} {en : MapEntry} {x : β} {k : κ} (hk : en.key = kv k) (hv : Rd S H en.val x) : ∀ {m : List (κ × β)}, MapRd S H es m → midx m k = none → MapRd S H (es ++ [en]) (mset m k x) := by
  induction es with
  | nil => intro m h _; cases h; exact ⟨k, x, [], rfl, hk, hv, rfl⟩
  | cons e es ih =>
    rintro m ⟨a, y, m', rfl, hk', hr, h⟩ hi
    simp only [midx] at hi
    simp only [mset]
    by_cases hak : a = k
    · rw [if_pos hak] at hi; cases hi
    · rw [if_neg hak] at hi ⊢
      refine ⟨a, y, _, rfl, hk', hr, ih h ?_⟩
      cases hmi : midx m' k with
      | none => rfl
      | some j => rw [hmi] at hi; cases hi
end
instance instKeyInt : KeyT Int where
  kv := I
  inj h := by cases h; rfl
  bits a := by simp [Instr.sameBits]
end Go.Um
namespace Go.Um
open GoT (sz ag rdc)
open KeyT (kv)
open Go.RowKit
theorem map_range0 {γ : Type} (g : Nat → γ) : (Array.range 0).map g = #[] := by apply Array.ext'; simp
def enumV (k : Nat) : List Value → List (Nat × Value)
  | [] => []
  | v :: vs => (k, v) :: enumV (k + 1) vs
theorem foldl_set (cs : List Value) : ∀ (n : Nat) (pre post : List Value), pre.length = n → cs.length ≤ post.length →
    (cs.zipIdx).foldl (fun (a : Array Value) (c, j) => a.setIfInBounds (n + j) c) (pre ++ post).toArray = (pre ++ cs ++ post.drop cs.length).toArray := by
  suffices h : ∀ (cs : List Value) (m n : Nat) (pre post : List Value), pre.length = n + m → cs.length ≤ post.length →
      (cs.zipIdx m).foldl (fun (a : Array Value) (c, j) => a.setIfInBounds (n + j) c) (pre ++ post).toArray = (pre ++ cs ++ post.drop cs.length).toArray by
    intro n pre post h1 h2; exact h cs 0 n pre post (by simpa using h1) h2
  intro cs
  induction cs with
  | nil => intro m n pre post _ _; simp
  | cons c cs ih =>
    intro m n pre post h1 h2
    cases post with
    | nil => simp at h2
    | cons p post =>
      simp only [List.zipIdx_cons, List.foldl_cons]
      have : (pre ++ p :: post).toArray.setIfInBounds (n + m) c = ((pre ++ [c]) ++ post).toArray := by
        simp [← h1]
      rw [this, ih (m + 1) n (pre ++ [c]) post (by simp [h1]; omega) (by simpa using h2)]
      simp
theorem fill_enum (size : Nat) : ∀ (vs : List Value) (k : Nat) (pre post : List Value), (∀ v ∈ vs, v.cells.size = size) → pre.length = k * size → post.length = vs.length * size →
    Instr.fill (fun i => some (i * size, size)) (pre ++ post).toArray (enumV k vs) = some (pre ++ vs.flatMap (·.cells.toList)).toArray := by
  intro vs
  induction vs with
  | nil => intro k pre post _ _ h; simp at h; simp [enumV, Instr.fill, h]
  | cons v vs ih =>
    intro k pre post hv h1 h2
    have hs := hv v (by simp)
    have hp : size ≤ post.length := by rw [h2, List.length_cons, Nat.succ_mul]; omega
    simp only [enumV, Instr.fill]
    have e1 : (pre ++ post).toArray.size = k * size + post.length := by simp [h1]
    rw [if_neg (by simp only [hs, e1, ne_eq, not_true_eq_false, decide_false, Bool.false_or, decide_eq_true_eq]; omega)]
    have hz : v.cells.zipIdx.foldl (fun cs (x : Value × Nat) => cs.setIfInBounds (k * size + x.2) x.1) (pre ++ post).toArray = (pre ++ v.cells.toList ++ post.drop v.cells.toList.length).toArray := by
      rw [← Array.foldl_toList, Array.toList_zipIdx]
      exact foldl_set v.cells.toList (k * size) pre post h1 (by simpa [hs] using hp)
    rw [hz, ih (k + 1) (pre ++ v.cells.toList) _ (fun u hu => hv u (by simp [hu])) (by simp [h1, hs, Nat.succ_mul]) (by simp [h2, hs, Nat.succ_mul])]
    simp
section
variable {α : Type} [GoT α] {P : Program} {o : Oper} {f : Fr} {H0 H : Heap} {M S0 S : Nat → Prop} {L : List Ent} {next : FP}
theorem rd_cells {v : Value} {x : α} (h : Rd S H v x) : v.cells.size = sz α ∧ rdc S H v.cells.toList x := by
  obtain ⟨cs, hr, rfl⟩ := h
  have hl := GoT.len hr
  cases hag : ag α with
  | true => simp [valOf, Value.cells, hl, hr]
  | false =>
    have h1 := GoT.one hag
    match cs, hl with
    | [], hl => rw [h1] at hl; cases hl
    | [c], hl =>
      have hc := GoT.cell hr c (by simp)
      have : (valOf false [c]).cells = #[c] := by
        simp only [valOf, List.headD_cons]
        cases c <;> first | rfl | simp [Value.oneCell'] at hc
      rw [this]
      exact ⟨by simp [h1], hr⟩
    | _ :: _ :: _, hl => rw [h1] at hl; simp at hl
inductive RdVs (S : Nat → Prop) (H : Heap) : List Value → List α → Prop
  | nil : RdVs S H [] []
  | cons {v vs x xs} : Rd S H v x → RdVs S H vs xs → RdVs S H (v :: vs) (x :: xs)
theorem RdVs.len {vs : List Value} {xs : List α} (h : RdVs S H vs xs) : vs.length = xs.length := by induction h <;> simp [*]
theorem RdVs.cells {vs : List Value} {xs : List α} (h : RdVs S H vs xs) : RdCs S H (vs.flatMap (·.cells.toList)) xs := by
  induction h with
  | nil => rfl
  | cons hr _ ih => exact ⟨_, _, by simp, (rd_cells hr).2, ih⟩
theorem RdVs.sizes {vs : List Value} {xs : List α} (h : RdVs S H vs xs) : ∀ v ∈ vs, v.cells.size = sz α := by
  induction h with
  | nil => simp
  | cons hr _ ih => intro u hu; rcases List.mem_cons.1 hu with rfl | hu; exact (rd_cells hr).1; exact ih u hu
theorem St.newRow {e : TypeId} {cl : List Value} {xs : List α} (h : St H0 M S0 L H) (hr : RdCs (SL S0 L) H cl xs) (hb : xs.length * GoT.bytes α ≤ 140737488355328) (hm : xs.length ≤ maxLen) :
    St H0 M S0 (rowE e (.slice (some ⟨H.size, 0, none⟩) xs.length xs.length) xs :: L) (H.push (.cells cl.toArray e)) := by
  have h1 := h.alloc (.cells cl.toArray e)
  have hlt : ∀ b, b < H.size → SL S0 (rowE e (.slice (some ⟨H.size, 0, none⟩) xs.length xs.length) xs :: L) b → SL S0 L b := by
    rintro b hb (hs | ⟨e', he, hs⟩)
    · exact .inl hs
    · rcases List.mem_cons.1 he with rfl | h'
      · have : some H.size = some b := hs
        cases this; omega
      · exact .inr ⟨e', h', hs⟩
  refine h1.upd0 (Nat.le_refl _) (fun _ _ _ => rfl) ?_ ⟨hb, cl, hr.ext (Ext.push _ _ _) hlt, .inr ⟨H.size, xs.length, cl.toArray, rfl, h1.head, Nat.le_refl _, hm, by simp [hr.len], by simp [← hr.len]⟩⟩
  intro b hb'
  left
  have : some H.size = some b := hb'
  cases this
  rfl
theorem e_buildSlice {t e : TypeId} {n : Nat} {ps : Array (Nat × Operand)} {vs : List Value} {xs : List α} {z : Value} (ho : o.op = .buildSlice t n ps) (ht : P.underlying t = some (.slice e))
    (hz : ∀ w, (zeroValue e).run P w = .ok z w) (hzz : z.cells.size = sz α) (hs : ∀ w, (sizeOf e).run P w = .ok (sz α) w) (hp : (ps.map fun (i, x) => (i, ev f x)) = (enumV 0 vs).toArray) (hn : vs.length = n)
    (h : St H0 M S0 L H) (hr : RdVs (SL S0 L) H vs xs) (hb : n * sz α ≤ 16777216) (hbb : n * GoT.bytes α ≤ 140737488355328)
    (hK : ∀ v H', St H0 M S0 (rowE e v xs :: L) H' → Ext NoB H H' → (v = .slice (some ⟨H.size, 0, none⟩) n n) → next (updO f o.dst v) H') : OpE P o next f H := by
  intro w hw
  subst hw
  have hnx : n = xs.length := by rw [← hn, hr.len]
  have hzero : ∀ c : Array Value, c.size = sz α → ∃ l : List Value, (Array.range (n * sz α)).map (fun i => c[i % c.size]!) = l.toArray ∧ l.length = n * sz α := fun c _ => ⟨((Array.range (n * sz α)).map (fun i => c[i % c.size]!)).toList, by rw [Array.toArray_toList], by simp⟩
  have hrun : (execOp (ev f) o).run P w = .ok (.value (.slice (some ⟨w.heap.size, 0, none⟩) n n)) { w with heap := w.heap.push (.cells (vs.flatMap (·.cells.toList)).toArray e) } := by
    have h24 : ¬ (16777216 < n * sz α) := by omega
    simp only [execOp, ho]
    rw [hp]
    by_cases h0 : n * sz α = 0
    · have hn0 : n = 0 := by
        rcases Nat.mul_eq_zero.1 h0 with h | h
        · exact h
        · have := GoT.pos (α := α); omega
      have hv : vs = [] := List.eq_nil_of_length_eq_zero (by omega)
      subst hv
      subst hn0
      simp [Instr.buildSlice, run_underlying ht, hs, enumV, Instr.fill, newRow, newObj, Sem.run]
      exact congrArg (fun c => w.alloc (Obj.cells c e)) (map_range0 _)
    · obtain ⟨l, hl, hll⟩ := hzero z.cells hzz
      have hf := fill_enum (sz α) vs 0 [] l hr.sizes (by simp) (by rw [hll, hn])
      simp only [List.nil_append] at hf
      simp [Instr.buildSlice, run_underlying ht, hs, h24, h0, hz, hl, hf, newRow, newObj, Sem.run]
  rw [hrun]
  subst hnx
  refine ⟨⟨rfl, rfl, rfl⟩, hK _ _ (h.newRow (hr.cells) hbb ?_) (Ext.push _ _ _) rfl⟩
  have : 0 < sz α := GoT.pos
  have : xs.length ≤ xs.length * sz α := Nat.le_mul_of_pos_right _ this
  simp only [maxLen]; omega
theorem RdCs.set {xs : List α} {k : Nat} {y : α} {cs : List Value} (hy : rdc S H cs y) : ∀ {cl : List Value}, RdCs S H cl xs → k < xs.length →
    RdCs S H (cl.take (k * sz α) ++ cs ++ cl.drop (k * sz α + cs.length)) (xs.set k y) := by
  induction xs generalizing k with
  | nil => intro cl _ h; simp at h
  | cons x xs ih =>
    rintro cl ⟨c1, c2, rfl, h1, h2⟩ hk
    have hl1 := GoT.len h1
    have hly := GoT.len hy
    cases k with
    | zero => exact ⟨cs, c2, by simp [hl1, hly], hy, h2⟩
    | succ k =>
      refine ⟨c1, c2.take (k * sz α) ++ cs ++ c2.drop (k * sz α + cs.length), ?_, h1, ih h2 (by simpa using hk)⟩
      rw [Nat.succ_mul, List.take_append, List.take_of_length_le (by omega), List.drop_append, List.drop_of_length_le (by omega)]
      simp only [List.append_assoc, List.nil_append]
      congr 3
      · congr 1; omega
      · congr 1; congr 1; omega
end
end Go.Um
namespace Go.Um
open GoT (sz ag rdc)
open KeyT (kv)
open Go.RowKit
def own (A : List Ent) : Nat → Prop := fun b => ∃ e ∈ A, e.blocks b
section
variable {H0 H H' : Heap} {M S0 S : Nat → Prop} {A A' L : List Ent}
theorem SL_app {b : Nat} : SL S0 (A ++ L) b ↔ (S0 b ∨ own A b) ∨ own L b := by
  unfold SL own
  constructor
  · rintro (h | ⟨e, he, hb⟩)
    · exact .inl (.inl h)
    · rcases List.mem_append.1 he with h | h
      · exact .inl (.inr ⟨e, h, hb⟩)
      · exact .inr ⟨e, h, hb⟩
  · rintro ((h | ⟨e, he, hb⟩) | ⟨e, he, hb⟩)
    · exact .inl h
    · exact .inr ⟨e, List.mem_append_left _ he, hb⟩
    · exact .inr ⟨e, List.mem_append_right _ he, hb⟩
theorem St.frameM (h : St H0 M S0 L H) : Ext M H0 H := ⟨h.size, fun b hb hm => h.old b hb hm⟩
theorem St.handed (hA : ∀ e ∈ A, e.ok S H) (hdj : A.Pairwise fun e e' => ∀ b, e.blocks b → ¬ e'.blocks b) (hs : ∀ b, S b → b < H.size) (hin : ∀ b, own A b → S b) :
    St H (own A) (fun b => S b ∧ ¬ own A b) A H where
  size := Nat.le_refl _
  old _ _ _ := rfl
  ok e he := e.ext (hA e he) (Nat.le_refl _) (fun _ _ _ => rfl) (fun b _ hb => by
    rcases hb with hb | hb
    · exact hb.1
    · exact hin b hb)
  ge e he b hb := ⟨.inr ⟨e, he, hb⟩, fun h => h.2 ⟨e, he, hb⟩⟩
  dj := hdj
  s0 b hb := hs b hb.1
def lv (S : Nat → Prop) (A A' : List Ent) : Nat → Prop := fun b => (S b ∧ ¬ own A b) ∨ own A' b
theorem St.back (h : St H0 M S0 (A ++ L) H) (hx : Ext (own A) H H') (hok : ∀ e ∈ A', e.ok (lv (SL S0 (A ++ L)) A A') H') (hbl : ∀ b, own A' b → own A b ∨ H.size ≤ b)
    (hdj : A'.Pairwise fun e e' => ∀ b, e.blocks b → ¬ e'.blocks b) : St H0 M S0 (A' ++ L) H' := by
  have hAL : ∀ b, own A b → ¬ own L b := by
    rintro b ⟨e, he, hb⟩ ⟨e', he', hb'⟩
    exact (List.pairwise_append.1 h.dj).2.2 e he e' he' b hb hb'
  have hLt : ∀ e ∈ L, ∀ b, e.blocks b → b < H.size := fun e he b hb => e.lt (h.ok e (List.mem_append_right _ he)) hb
  have hA0 : ∀ b, own A b → ¬ S0 b := by rintro b ⟨e, he, hb⟩; exact (h.ge e (List.mem_append_left _ he) b hb).2
  have hlv : ∀ b, SL S0 (A' ++ L) b → lv (SL S0 (A ++ L)) A A' b := by
    intro b hs
    rcases SL_app.1 hs with (h1 | h1) | h1
    · exact .inl ⟨.inl h1, fun ho => hA0 b ho h1⟩
    · exact .inr h1
    · exact .inl ⟨SL_app.2 (.inr h1), fun ho => hAL b ho h1⟩
  have hsl : ∀ b, b < H.size → SL S0 (A' ++ L) b → SL S0 (A ++ L) b := by
    intro b hb hs
    rcases SL_app.1 hs with (h1 | h1) | h1
    · exact SL_app.2 (.inl (.inl h1))
    · rcases hbl b h1 with h2 | h2
      · exact SL_app.2 (.inl (.inr h2))
      · omega
    · exact SL_app.2 (.inr h1)
  refine ⟨Nat.le_trans h.size hx.size, ?_, ?_, ?_, ?_, h.s0⟩
  · intro b hb hm
    rw [hx.same b (Nat.lt_of_lt_of_le hb h.size) ?_]
    · exact h.old b hb hm
    · rintro ⟨e, he, hb'⟩
      rcases (h.ge e (List.mem_append_left _ he) b hb').1 with h1 | h1
      · omega
      · exact hm h1
  · intro e he
    rcases List.mem_append.1 he with h1 | h1
    · exact e.ext (hok e h1) (Nat.le_refl _) (fun _ _ _ => rfl) (fun b _ hs => hlv b hs)
    · refine e.ext (h.ok e (List.mem_append_right _ h1)) hx.size ?_ hsl
      rintro b hb (h2 | h2)
      · exact hx.same b hb fun ho => hAL b ho ⟨e, h1, h2⟩
      · exact hx.same b hb fun ho => h2 (SL_app.2 (.inl (.inr ho)))
  · intro e he b hb
    rcases List.mem_append.1 he with h1 | h1
    · rcases hbl b ⟨e, h1, hb⟩ with ⟨e', he', hb'⟩ | h2
      · exact h.ge e' (List.mem_append_left _ he') b hb'
      · have := h.size
        exact ⟨.inl (by omega), fun hs => by have := h.s0 b hs; omega⟩
    · exact h.ge e (List.mem_append_right _ h1) b hb
  · refine List.pairwise_append.2 ⟨hdj, (List.pairwise_append.1 h.dj).2.1, ?_⟩
    intro e he e' he' b hb hb'
    rcases hbl b ⟨e, he, hb⟩ with h1 | h1
    · exact hAL b h1 ⟨e', he', hb'⟩
    · have := hLt e' he' b hb'
      omega
theorem handed_sub {b : Nat} (hin : ∀ b, own A b → S b) (h : SL (fun b => S b ∧ ¬ own A b) A b) : S b := by
  rcases h with h | h
  · exact h.1
  · exact hin b h
theorem SL_rd {α : Type} [GoT α] {v : Value} {x : α} {b : Nat} (h : SL S0 (rdE v x :: L) b) : SL S0 L b := by
  rcases h with h | ⟨e, he, hb⟩
  · exact .inl h
  · rcases List.mem_cons.1 he with rfl | h'
    · exact hb.elim
    · exact .inr ⟨e, h', hb⟩
end
end Go.Um
namespace Go.Um
open GoT (sz ag rdc)
open KeyT (kv)
open Go.RowKit
section
variable {κ β : Type} [DecidableEq κ] [KeyT κ] [GoT β] {S S' : Nat → Prop} {H H' H0 : Heap} {P : Program} {o : Oper} {f : Fr} {U : Nat → Prop}
end
theorem rdNil {α : Type} [GoT α] {S : Nat → Prop} {H : Heap} : Rd S H (.slice none 0 0) ([] : List α) :=
  Rd.list.2 ⟨none, 0, 0, [], rfl, rfl, Nat.le_refl _, by simp [maxLen], by simp, rfl, fun h => (h rfl).elim⟩
def isNil : Value → Bool
  | .slice none _ _ => true
  | _ => false
theorem isNil_len {α : Type} [GoT α] {S : Nat → Prop} {H : Heap} {v : Value} {l : List α} (h : RdL S H v l) (hn : isNil v = true) : l = [] := by
  obtain ⟨a, n, c, cl, rfl, hn', _, _, _, _, hp⟩ := h
  cases a with
  | none =>
    cases l with
    | nil => rfl
    | cons x l => obtain ⟨b, off, h, _⟩ := hp (by simp); cases h
  | some a => cases hn
section
variable {α : Type} [GoT α] {S : Nat → Prop} {H : Heap} {P : Program} {o : Oper} {f : Fr} {U : Nat → Prop}
theorem q_nilS {t e u : TypeId} {x : Operand} {v : Value} {l : List α} (ho : o.op = .binOp .eql t x (.const (.slice none 0 0)) u) (ht : P.underlying t = some (.slice e)) (hx : ev f x = v) (hR : RdL S H v l) :
    Quiet P o U f H (B (isNil v)) := by
  obtain ⟨a, n, c, cl, rfl, _⟩ := hR
  intro w _
  have h := fun w a => Lib.run_eql_slice_nil (P := P) w t e a n c 0 0 ht
  have hev : ev f (.const (.slice none 0 0)) = .slice none 0 0 := rfl
  simp only [execOp, ho, hx, hev]
  cases a <;> simp [eqGuard, isNil, h]
end
end Go.Um
namespace Go.Um
open GoT (sz ag rdc)
section
variable {α : Type}
theorem nth_eq [Inhabited α] {l : List α} {k : Nat} (h : k < l.length) : nth l k = l[k] := by simp [nth, h]
theorem take_succ_nth [Inhabited α] {l : List α} {k : Nat} (h : k < l.length) : l.take (k + 1) = l.take k ++ [nth l k] := by
  rw [List.take_succ_eq_append_getElem h, nth_eq h]
theorem take_same [Inhabited α] {a b : List α} {k : Nat} (h : a.take k = b.take k) (ha : k < a.length) (hb : k < b.length) (hn : nth a k = nth b k) : a.take (k + 1) = b.take (k + 1) := by
  rw [take_succ_nth ha, take_succ_nth hb, h, hn]
theorem take_all {a b : List α} {k : Nat} (h : a.take k = b.take k) (ha : a.length ≤ k) (hb : b.length ≤ k) : a = b := by
  rwa [List.take_of_length_le ha, List.take_of_length_le hb] at h
theorem nth_mem [Inhabited α] {l : List α} {k : Nat} (h : k < l.length) : nth l k ∈ l := by rw [nth_eq h]; exact List.getElem_mem h
end
def fst1 {β : Type} (g : Nat → Option β) (i : Nat) : Nat → Option β
  | 0 => none
  | n + 1 => match g i with
    | some y => some y
    | none => fst1 g (i + 1) n
theorem fst1_none {β : Type} {g : Nat → Option β} : ∀ {n i : Nat}, (∀ j, i ≤ j → j < i + n → g j = none) → fst1 g i n = none := by
  intro n
  induction n with
  | zero => intro i _; rfl
  | succ n ih => intro i h; simp only [fst1, h i (Nat.le_refl _) (by omega)]; exact ih fun j h1 h2 => h j (by omega) (by omega)
theorem fst1_some {β : Type} {g : Nat → Option β} {k : Nat} {y : β} (hk : g k = some y) : ∀ {n i : Nat}, i ≤ k → k < i + n → (∀ j, i ≤ j → j < k → g j = none) → fst1 g i n = some y := by
  intro n
  induction n with
  | zero => intro i h1 h2 _; omega
  | succ n ih =>
    intro i h1 h2 h
    by_cases hik : i = k
    · subst hik; simp only [fst1, hk]
    · simp only [fst1, h i (Nat.le_refl _) (by omega)]
      exact ih (by omega) (by omega) fun j h3 h4 => h j (by omega) h4
end Go.Um
namespace Go.Um
open GoT (sz ag rdc)
def fixE (g : Nat) (o : Obj) : Ent where
  blocks _ := False
  ok S H := ¬ S g ∧ H[g]? = some o
  lt _ h := h.elim
  ext h _ hs ht := by
    have hl := (Array.getElem?_eq_some_iff.1 h.2).1
    exact ⟨fun h' => h.1 (ht g hl h'), by rw [hs g hl (.inr h.1)]; exact h.2⟩
section
variable {H0 H : Heap} {M S0 : Nat → Prop} {L : List Ent} {P : Program}
theorem St.argFix {g : Nat} {ob : Obj} (h : St H0 M S0 L H) (hn : Bl0 L) (hb : H[g]? = some ob) (hs : ¬ S0 g) : St H0 M S0 (fixE g ob :: L) H where
  size := h.size
  old := h.old
  ok e he := by
    have hsl : ∀ b, SL S0 (fixE g ob :: L) b → SL S0 L b := by
      rintro b (hb | ⟨e, he, hb⟩)
      · exact .inl hb
      · rcases List.mem_cons.1 he with rfl | he
        · exact hb.elim
        · exact .inr ⟨e, he, hb⟩
    rcases List.mem_cons.1 he with rfl | he
    · refine ⟨fun h' => ?_, hb⟩
      rcases hsl g h' with h1 | ⟨e, he, h1⟩
      · exact hs h1
      · exact hn e he g h1
    · exact e.ext (h.ok e he) (Nat.le_refl _) (fun _ _ _ => rfl) fun b _ hb => hsl b hb
  ge e he b hb := by
    rcases List.mem_cons.1 he with rfl | he
    · exact hb.elim
    · exact h.ge e he b hb
  dj := List.pairwise_cons.2 ⟨fun _ _ _ hb => hb.elim, h.dj⟩
  s0 := h.s0
theorem St.fixd {g : Nat} {ob : Obj} (h : St H0 M S0 L H) (k : Nat) (hk : L[k]? = some (fixE g ob)) : H[g]? = some ob := (h.get k hk).2
theorem St.res2 {α β : Type} [GoT α] [GoT β] {v u : Value} {x : α} {y : β} {H' : Heap} (h : St H0 M S0 L H) (hx : Ext NoB H H') (hr1 : Rd (fun b => SL S0 L b ∧ b < H.size) H' v x) (hr2 : Rd (fun b => SL S0 L b ∧ b < H.size) H' u y) :
    St H0 M S0 (rdE v x :: rdE u y :: L) H' :=
  ((h.ext hx).rd (hr2.sub fun b hb => ⟨hb, SL.lt h hb⟩)).rd (hr1.sub fun b hb => ⟨SL_rd hb, SL.lt h (SL_rd hb)⟩)
def FnH (P : Program) (fv : Value) (args : Array Value) (H : Heap) (R : Value → Heap → Prop) : Prop :=
  ∃ k ca, fv = .func (.func k) #[] ca ∧ (∀ args w, (callFunc k args).run P w = .ok (.enter k args) w) ∧ CallsH P k (args ++ ca) H R
theorem e_callF {o : Oper} {f : Fr} {next : FP} {fv : Value} {fo : Operand} {xs : Array Operand} {ts : Array TypeId} {args : Array Value} {R : Value → Heap → Prop}
    (ho : o.op = .call { callee := .value fo, args := xs, argTypes := ts }) (hf : ev f fo = fv) (hx : xs.map (ev f) = args) (hC : FnH P fv args H R)
    (h : ∀ v H', R v H' → next (updO f o.dst v) H') : OpE P o next f H := by
  obtain ⟨k, ca, rfl, hc, hC⟩ := hC
  exact e_callV ho hf hc hx hC h
theorem Ext.blk {g : Nat} {ob : Obj} {H H' : Heap} (hx : Ext NoB H H') (hb : H[g]? = some ob) : H'[g]? = some ob := by
  rw [hx.same g (Array.getElem?_eq_some_iff.1 hb).1 (fun h => h)]; exact hb
theorem Rd.extN {α : Type} [GoT α] {v : Value} {x : α} {H H' : Heap} (h : Rd NoB H v x) (hx : Ext NoB H H') : Rd NoB H' v x := h.ext hx (fun _ _ h => h)
end
def idxOf {α : Type} [Inhabited α] (g : α → Bool) (l : List α) : Int := (fst1 (fun k => if g (nth l k) then some (k : Int) else none) 0 l.length).getD (-1)
section
variable {α : Type} [Inhabited α] {g : α → Bool} {l : List α} {k : Nat}
theorem idxOf_at (hk : k < l.length) (h : ∀ j, j < k → g (nth l j) = false) (hg : g (nth l k) = true) : idxOf g l = k := by
  rw [idxOf, fst1_some (k := k) (y := (k : Int)) (by simp [hg]) (Nat.zero_le _) (by omega) fun j _ hj => by simp [h j hj]]; rfl
theorem idxOf_no (h : ∀ j, j < l.length → g (nth l j) = false) : idxOf g l = -1 := by
  rw [idxOf, fst1_none fun j _ hj => by simp [h j (by omega)]]; rfl
theorem nth_of_mem {x : α} (h : x ∈ l) : ∃ j, j < l.length ∧ nth l j = x := by
  obtain ⟨j, hj, rfl⟩ := List.mem_iff_getElem.1 h
  exact ⟨j, hj, nth_eq hj⟩
theorem first_or (g : α → Bool) (l : List α) : (∀ j, j < l.length → g (nth l j) = false) ∨ ∃ k, k < l.length ∧ (∀ j, j < k → g (nth l j) = false) ∧ g (nth l k) = true := by
  suffices h : ∀ n, n ≤ l.length → (∀ j, j < n → g (nth l j) = false) ∨ ∃ k, k < n ∧ (∀ j, j < k → g (nth l j) = false) ∧ g (nth l k) = true by
    exact h _ (Nat.le_refl _)
  intro n
  induction n with
  | zero => intro _; exact .inl fun j hj => absurd hj (Nat.not_lt_zero j)
  | succ n ih =>
    intro hn
    rcases ih (by omega) with h | ⟨k, h1, h2, h3⟩
    · cases hg : g (nth l n)
      · exact .inl fun j hj => by
          by_cases h0 : j = n
          · rw [h0]; exact hg
          · exact h j (by omega)
      · exact .inr ⟨n, by omega, h, hg⟩
    · exact .inr ⟨k, by omega, h2, h3⟩
theorem idxOf_any : (0 ≤ idxOf g l) ↔ l.any g = true := by
  rcases first_or g l with h | ⟨k, hk, h, hg⟩
  · rw [idxOf_no h]
    constructor
    · intro h; omega
    · intro h'
      obtain ⟨x, hx, hg⟩ := List.any_eq_true.1 h'
      obtain ⟨j, hj, rfl⟩ := nth_of_mem hx
      rw [h j hj] at hg; cases hg
  · rw [idxOf_at hk h hg]
    exact ⟨fun _ => List.any_eq_true.2 ⟨_, nth_mem hk, hg⟩, fun _ => by omega⟩
theorem idxOf_lt : idxOf g l < l.length := by
  rcases first_or g l with h | ⟨k, hk, h, hg⟩
  · rw [idxOf_no h]; omega
  · rw [idxOf_at hk h hg]; omega
end
end Go.Um
namespace Go.Um
open Go.RowKit
abbrev Str := ByteArray
abbrev SB (s : Str) : Value := .string s
abbrev U8 (n : Int) : Value := .int .u8 n
abbrev sEq (x y : Str) : Prop := x.toList = y.toList
def bAt (s : Str) (i : Nat) : Int := ((s[i]?).map (fun b => (b.toNat : Int))).getD 0
instance instStr : GoT ByteArray where
  sz := 1
  bytes := 16
  ag := false
  rdc _ _ cs x := cs = [SB x] ∧ x.size ≤ maxLen
  pos := by decide
  one _ := rfl
  len h := by rw [h.1]; rfl
  cell h := by rw [h.1]; simp [Value.oneCell']
  ext h _ _ := h
instance limStr : LimT ByteArray := ⟨fun _ => True⟩
theorem opStr {P : Program} {t : TypeId} (ht : P.underlying t = some .string) : OpT P t ByteArray where
  go h _ := by
    rename_i fuel cs x _
    cases fuel with
    | zero => simp [DataW.trod] at h
    | succ n =>
      unfold DataW.trod at h
      rw [ht] at h
      split at h
      all_goals first
        | (split at h <;> first | exact ⟨_, ⟨rfl, by assumption⟩, trivial⟩ | simp_all)
        | simp_all
  val h := by
    simp only [Value.okWide, ht, Go.Cell.okWide, Go.Cell.ok] at h
    split at h <;> simp_all [valOf, Value.cells, GoT.ag]
theorem beq_eq_decide' {a b : List UInt8} : (a == b) = decide (a = b) := by rw [Bool.eq_iff_iff]; simp
section
variable {P : Program} {o : Oper} {U : Nat → Prop} {f : Fr} {H : Heap}
theorem q_lenStr {x : Operand} {t : TypeId} {s : Str} (ho : o.op = .call { callee := .builtin .len, args := #[x], argTypes := #[t] }) (ht : P.underlying t = some .string) (hx : ev f x = SB s) : Quiet P o U f H (I (s.size : Nat)) := by
  intro w _; simp [execOp, ho, hx, resolve, invoke, builtin, Builtin.len_, run_underlying ht, goInt]
theorem q_indexStr {t : TypeId} {x i : Operand} {s : Str} {z : Int} {k : Nat} (ho : o.op = .index t x i) (ht : P.underlying t = some .string) (hx : ev f x = SB s) (hi : ev f i = I z) (hk : z = (k : Int)) (hlt : k < s.size) : Quiet P o U f H (U8 (bAt s k)) := by
  intro w _
  subst hk
  simp [execOp, ho, hx, hi, Instr.index, asIntOf, run_underlying ht, bAt, hlt]
theorem q_eqlS {t u : TypeId} {x y : Operand} {a b : Str} (ho : o.op = .binOp .eql t x y u) (hx : ev f x = SB a) (hy : ev f y = SB b) : Quiet P o U f H (B (decide (sEq a b))) := by
  intro w _; simp [execOp, ho, hx, hy, eqGuard, binOp, Op.stringOp, sEq, beq_eq_decide']
theorem q_eql8 {t u : TypeId} {x y : Operand} {a b : Int} (ho : o.op = .binOp .eql t x y u) (hx : ev f x = U8 a) (hy : ev f y = U8 b) : Quiet P o U f H (B (decide (a = b))) := by
  intro w _; simp [execOp, ho, hx, hy, eqGuard, binOp, Op.intCmp]; rfl
theorem q_lss8 {t u : TypeId} {x y : Operand} {a b : Int} (ho : o.op = .binOp .lss t x y u) (hx : ev f x = U8 a) (hy : ev f y = U8 b) : Quiet P o U f H (B (decide (a < b))) := by
  intro w _; simp [execOp, ho, hx, hy, eqGuard, binOp, Op.intCmp]
theorem q_leq8 {t u : TypeId} {x y : Operand} {a b : Int} (ho : o.op = .binOp .leq t x y u) (hx : ev f x = U8 a) (hy : ev f y = U8 b) : Quiet P o U f H (B (decide (a ≤ b))) := by
  intro w _; simp [execOp, ho, hx, hy, eqGuard, binOp, Op.intCmp]
theorem q_gtr8 {t u : TypeId} {x y : Operand} {a b : Int} (ho : o.op = .binOp .gtr t x y u) (hx : ev f x = U8 a) (hy : ev f y = U8 b) : Quiet P o U f H (B (decide (b < a))) := by
  intro w _; simp [execOp, ho, hx, hy, eqGuard, binOp, Op.intCmp]
theorem q_geq8 {t u : TypeId} {x y : Operand} {a b : Int} (ho : o.op = .binOp .geq t x y u) (hx : ev f x = U8 a) (hy : ev f y = U8 b) : Quiet P o U f H (B (decide (b ≤ a))) := by
  intro w _; simp [execOp, ho, hx, hy, eqGuard, binOp, Op.intCmp]
end
end Go.Um
namespace Go.Um
open GoT (sz ag rdc)
open Go.RowKit
structure Decl where
  Name : Str
  Args : List Int
  Srt : Int
  deriving Inhabited, DecidableEq
instance instDecl : GoT Decl where
  sz := 3
  bytes := 48
  ag := true
  rdc S H cs x := ∃ v1, cs = [SB x.Name, v1, I x.Srt] ∧ x.Name.size ≤ maxLen ∧ RdL S H v1 x.Args ∧ In64 x.Srt
  pos := by decide
  one h := by cases h
  len h := by obtain ⟨_, rfl, _⟩ := h; rfl
  cell h := by
    obtain ⟨_, rfl, _, ⟨_, _, _, _, rfl, _⟩, _⟩ := h
    simp [Value.oneCell']
  ext h hx hs := by obtain ⟨v1, rfl, h0, h1, h2⟩ := h; exact ⟨v1, rfl, h0, h1.ext hx hs, h2⟩
theorem Rd.decl {S : Nat → Prop} {H : Heap} {v : Value} {a : Decl} :
    Rd S H v a ↔ ∃ v1, v = .agg #[SB a.Name, v1, I a.Srt] ∧ a.Name.size ≤ maxLen ∧ Rd S H v1 a.Args ∧ In64 a.Srt := by
  constructor
  · rintro ⟨cs, ⟨v1, rfl, h0, h1, h2⟩, rfl⟩
    exact ⟨v1, rfl, h0, Rd.list.2 h1, h2⟩
  · rintro ⟨v1, rfl, h0, h1, h2⟩
    exact ⟨_, ⟨v1, rfl, h0, Rd.list.1 h1, h2⟩, rfl⟩
instance limDecl : LimT Decl := ⟨fun a => LimT.lim a.Args⟩
theorem opDecl {P : Program} {t t0 t1 t2 : TypeId} {f0 f1 f2 : Field} (ht : P.underlying t = some (.struct #[f0, f1, f2])) (e0 : f0.type = t0) (e1 : f1.type = t1) (e2 : f2.type = t2)
    (h0 : OpT P t0 Str) (h1 : OpT P t1 (List Int)) (h2 : OpT P t2 Int) (hc : P.cellsOf t = 3) (c0 : P.cellsOf t0 = 1) (c1 : P.cellsOf t1 = 1) (c2 : P.cellsOf t2 = 1)
    (o0 : f0.offset = 0) (o1 : f1.offset = 1) (o2 : f2.offset = 2) : OpT P t Decl where
  go h hw := by
    subst e0 e1 e2
    rename_i fuel cs x
    obtain ⟨xs, n, _, rfl, hl, hlen, hf⟩ := DataW.trod_struct ht h
    match xs, hlen with
    | [y0, y1, y2], _ =>
      rw [hc] at hl
      match cs, hl with
      | [u0, u1, u2], _ =>
        have k0 := hf 0 f0 rfl
        have k1 := hf 1 f1 rfl
        have k2 := hf 2 f2 rfl
        simp only [o0, o1, o2, c0, c1, c2, List.drop_zero, List.drop_succ_cons, List.take_succ_cons, List.take_zero] at k0 k1 k2
        have hw' : (DataW.weightsEach P [f0.type, f1.type, f2.type] [y0.1, y1.1, y2.1]).all (· ≤ reachBytes) = true := by simpa [DataW.weights, ht] using hw
        obtain ⟨a0, ⟨ha0, r0⟩, _⟩ := h0.go k0 (weights_cut hw' (j := 0) rfl rfl)
        obtain ⟨a1, ⟨w1, ha1, r1⟩, l1⟩ := h1.go k1 (weights_cut hw' (j := 1) rfl rfl)
        obtain ⟨a2, ⟨ha2, r2⟩, _⟩ := h2.go k2 (weights_cut hw' (j := 2) rfl rfl)
        cases ha0; cases ha1; cases ha2
        exact ⟨⟨a0, a1, a2⟩, ⟨_, rfl, r0, r1, r2⟩, l1⟩
  val h := by
    simp only [Value.okWide, ht] at h
    obtain ⟨cs, rfl, _, _⟩ := h
    simp [valOf, Value.cells, ag]
structure Node where
  Op : Int
  Kids : List Int
  N : Int
  D : Int
  Name : Str
  deriving Inhabited, DecidableEq
instance instNode : GoT Node where
  sz := 5
  bytes := 64
  ag := true
  rdc S H cs x := ∃ v1, cs = [I x.Op, v1, I x.N, I x.D, SB x.Name] ∧ In64 x.Op ∧ RdL S H v1 x.Kids ∧ In64 x.N ∧ In64 x.D ∧ x.Name.size ≤ maxLen
  pos := by decide
  one h := by cases h
  len h := by obtain ⟨_, rfl, _⟩ := h; rfl
  cell h := by
    obtain ⟨_, rfl, _, ⟨_, _, _, _, rfl, _⟩, _, _, _⟩ := h
    simp [Value.oneCell']
  ext h hx hs := by obtain ⟨v1, rfl, h0, h1, h2, h3, h4⟩ := h; exact ⟨v1, rfl, h0, h1.ext hx hs, h2, h3, h4⟩
theorem Rd.node {S : Nat → Prop} {H : Heap} {v : Value} {a : Node} :
    Rd S H v a ↔ ∃ v1, v = .agg #[I a.Op, v1, I a.N, I a.D, SB a.Name] ∧ In64 a.Op ∧ Rd S H v1 a.Kids ∧ In64 a.N ∧ In64 a.D ∧ a.Name.size ≤ maxLen := by
  constructor
  · rintro ⟨cs, ⟨v1, rfl, h0, h1, h2, h3, h4⟩, rfl⟩
    exact ⟨v1, rfl, h0, Rd.list.2 h1, h2, h3, h4⟩
  · rintro ⟨v1, rfl, h0, h1, h2, h3, h4⟩
    exact ⟨_, ⟨v1, rfl, h0, Rd.list.1 h1, h2, h3, h4⟩, rfl⟩
instance limNode : LimT Node := ⟨fun a => LimT.lim a.Kids⟩
theorem opNode {P : Program} {t t0 t1 t2 t3 t4 : TypeId} {f0 f1 f2 f3 f4 : Field} (ht : P.underlying t = some (.struct #[f0, f1, f2, f3, f4])) (e0 : f0.type = t0) (e1 : f1.type = t1) (e2 : f2.type = t2) (e3 : f3.type = t3) (e4 : f4.type = t4)
    (h0 : OpT P t0 Int) (h1 : OpT P t1 (List Int)) (h2 : OpT P t2 Int) (h3 : OpT P t3 Int) (h4 : OpT P t4 Str) (hc : P.cellsOf t = 5) (c0 : P.cellsOf t0 = 1) (c1 : P.cellsOf t1 = 1) (c2 : P.cellsOf t2 = 1) (c3 : P.cellsOf t3 = 1) (c4 : P.cellsOf t4 = 1)
    (o0 : f0.offset = 0) (o1 : f1.offset = 1) (o2 : f2.offset = 2) (o3 : f3.offset = 3) (o4 : f4.offset = 4) : OpT P t Node where
  go h hw := by
    subst e0 e1 e2 e3 e4
    rename_i fuel cs x
    obtain ⟨xs, n, _, rfl, hl, hlen, hf⟩ := DataW.trod_struct ht h
    match xs, hlen with
    | [y0, y1, y2, y3, y4], _ =>
      rw [hc] at hl
      match cs, hl with
      | [u0, u1, u2, u3, u4], _ =>
        have k0 := hf 0 f0 rfl
        have k1 := hf 1 f1 rfl
        have k2 := hf 2 f2 rfl
        have k3 := hf 3 f3 rfl
        have k4 := hf 4 f4 rfl
        simp only [o0, o1, o2, o3, o4, c0, c1, c2, c3, c4, List.drop_zero, List.drop_succ_cons, List.take_succ_cons, List.take_zero] at k0 k1 k2 k3 k4
        have hw' : (DataW.weightsEach P [f0.type, f1.type, f2.type, f3.type, f4.type] [y0.1, y1.1, y2.1, y3.1, y4.1]).all (· ≤ reachBytes) = true := by simpa [DataW.weights, ht] using hw
        obtain ⟨a0, ⟨ha0, r0⟩, _⟩ := h0.go k0 (weights_cut hw' (j := 0) rfl rfl)
        obtain ⟨a1, ⟨w1, ha1, r1⟩, l1⟩ := h1.go k1 (weights_cut hw' (j := 1) rfl rfl)
        obtain ⟨a2, ⟨ha2, r2⟩, _⟩ := h2.go k2 (weights_cut hw' (j := 2) rfl rfl)
        obtain ⟨a3, ⟨ha3, r3⟩, _⟩ := h3.go k3 (weights_cut hw' (j := 3) rfl rfl)
        obtain ⟨a4, ⟨ha4, r4⟩, _⟩ := h4.go k4 (weights_cut hw' (j := 4) rfl rfl)
        cases ha0; cases ha1; cases ha2; cases ha3; cases ha4
        exact ⟨⟨a0, a1, a2, a3, a4⟩, ⟨_, rfl, r0, r1, r2, r3, r4⟩, l1⟩
  val h := by
    simp only [Value.okWide, ht] at h
    obtain ⟨cs, rfl, _, _⟩ := h
    simp [valOf, Value.cells, ag]
structure Ask where
  Decls : List Decl
  Nodes : List Node
  Hold : List Int
  deriving Inhabited, DecidableEq
instance instAsk : GoT Ask where
  sz := 3
  bytes := 72
  ag := true
  rdc S H cs x := ∃ v0 v1 v2, cs = [v0, v1, v2] ∧ RdL S H v0 x.Decls ∧ RdL S H v1 x.Nodes ∧ RdL S H v2 x.Hold
  pos := by decide
  one h := by cases h
  len h := by obtain ⟨_, _, _, rfl, _⟩ := h; rfl
  cell h := by
    obtain ⟨_, _, _, rfl, ⟨_, _, _, _, rfl, _⟩, ⟨_, _, _, _, rfl, _⟩, ⟨_, _, _, _, rfl, _⟩⟩ := h
    simp [Value.oneCell']
  ext h hx hs := by obtain ⟨v0, v1, v2, rfl, h0, h1, h2⟩ := h; exact ⟨v0, v1, v2, rfl, h0.ext hx hs, h1.ext hx hs, h2.ext hx hs⟩
theorem Rd.ask {S : Nat → Prop} {H : Heap} {v : Value} {a : Ask} :
    Rd S H v a ↔ ∃ v0 v1 v2, v = .agg #[v0, v1, v2] ∧ Rd S H v0 a.Decls ∧ Rd S H v1 a.Nodes ∧ Rd S H v2 a.Hold := by
  constructor
  · rintro ⟨cs, ⟨v0, v1, v2, rfl, h0, h1, h2⟩, rfl⟩
    exact ⟨v0, v1, v2, rfl, Rd.list.2 h0, Rd.list.2 h1, Rd.list.2 h2⟩
  · rintro ⟨v0, v1, v2, rfl, h0, h1, h2⟩
    exact ⟨_, ⟨v0, v1, v2, rfl, Rd.list.1 h0, Rd.list.1 h1, Rd.list.1 h2⟩, rfl⟩
instance limAsk : LimT Ask := ⟨fun a => LimT.lim a.Decls ∧ LimT.lim a.Nodes ∧ LimT.lim a.Hold⟩
theorem opAsk {P : Program} {t t0 t1 t2 : TypeId} {f0 f1 f2 : Field} (ht : P.underlying t = some (.struct #[f0, f1, f2])) (e0 : f0.type = t0) (e1 : f1.type = t1) (e2 : f2.type = t2)
    (h0 : OpT P t0 (List Decl)) (h1 : OpT P t1 (List Node)) (h2 : OpT P t2 (List Int)) (hc : P.cellsOf t = 3) (c0 : P.cellsOf t0 = 1) (c1 : P.cellsOf t1 = 1) (c2 : P.cellsOf t2 = 1)
    (o0 : f0.offset = 0) (o1 : f1.offset = 1) (o2 : f2.offset = 2) : OpT P t Ask where
  go h hw := by
    subst e0 e1 e2
    rename_i fuel cs x
    obtain ⟨xs, n, _, rfl, hl, hlen, hf⟩ := DataW.trod_struct ht h
    match xs, hlen with
    | [y0, y1, y2], _ =>
      rw [hc] at hl
      match cs, hl with
      | [u0, u1, u2], _ =>
        have k0 := hf 0 f0 rfl
        have k1 := hf 1 f1 rfl
        have k2 := hf 2 f2 rfl
        simp only [o0, o1, o2, c0, c1, c2, List.drop_zero, List.drop_succ_cons, List.take_succ_cons, List.take_zero] at k0 k1 k2
        have hw' : (DataW.weightsEach P [f0.type, f1.type, f2.type] [y0.1, y1.1, y2.1]).all (· ≤ reachBytes) = true := by simpa [DataW.weights, ht] using hw
        obtain ⟨a0, ⟨w0, ha0, r0⟩, l0⟩ := h0.go k0 (weights_cut hw' (j := 0) rfl rfl)
        obtain ⟨a1, ⟨w1, ha1, r1⟩, l1⟩ := h1.go k1 (weights_cut hw' (j := 1) rfl rfl)
        obtain ⟨a2, ⟨w2, ha2, r2⟩, l2⟩ := h2.go k2 (weights_cut hw' (j := 2) rfl rfl)
        cases ha0; cases ha1; cases ha2
        exact ⟨⟨a0, a1, a2⟩, ⟨_, _, _, rfl, r0, r1, r2⟩, l0, l1, l2⟩
  val h := by
    simp only [Value.okWide, ht] at h
    obtain ⟨cs, rfl, _, _⟩ := h
    simp [valOf, Value.cells, ag]
structure Turned where
  Nodes : List Node
  To : List Int
  deriving Inhabited, DecidableEq
instance instTurned : GoT Turned where
  sz := 2
  bytes := 48
  ag := true
  rdc S H cs x := ∃ v0 v1, cs = [v0, v1] ∧ RdL S H v0 x.Nodes ∧ RdL S H v1 x.To
  pos := by decide
  one h := by cases h
  len h := by obtain ⟨_, _, rfl, _⟩ := h; rfl
  cell h := by
    obtain ⟨_, _, rfl, ⟨_, _, _, _, rfl, _⟩, ⟨_, _, _, _, rfl, _⟩⟩ := h
    simp [Value.oneCell']
  ext h hx hs := by obtain ⟨v0, v1, rfl, h0, h1⟩ := h; exact ⟨v0, v1, rfl, h0.ext hx hs, h1.ext hx hs⟩
theorem Rd.turned {S : Nat → Prop} {H : Heap} {v : Value} {a : Turned} :
    Rd S H v a ↔ ∃ v0 v1, v = .agg #[v0, v1] ∧ Rd S H v0 a.Nodes ∧ Rd S H v1 a.To := by
  constructor
  · rintro ⟨cs, ⟨v0, v1, rfl, h0, h1⟩, rfl⟩
    exact ⟨v0, v1, rfl, Rd.list.2 h0, Rd.list.2 h1⟩
  · rintro ⟨v0, v1, rfl, h0, h1⟩
    exact ⟨_, ⟨v0, v1, rfl, Rd.list.1 h0, Rd.list.1 h1⟩, rfl⟩
instance limTurned : LimT Turned := ⟨fun a => LimT.lim a.Nodes ∧ LimT.lim a.To⟩
end Go.Um
namespace Go.Um
open GoT (sz ag rdc)
open Go.RowKit
structure Cell where
  At : Int
  It : Int
  deriving Inhabited, DecidableEq
instance instCell : GoT Cell where
  sz := 2
  bytes := 16
  ag := true
  rdc S H cs x := cs = [I x.At, I x.It] ∧ In64 x.At ∧ In64 x.It
  pos := by decide
  one h := by cases h
  len h := by obtain ⟨rfl, _⟩ := h; rfl
  cell h := by
    obtain ⟨rfl, _, _⟩ := h
    simp [Value.oneCell']
  ext h hx hs := by obtain ⟨rfl, h0, h1⟩ := h; exact ⟨rfl, h0, h1⟩
theorem Rd.cell {S : Nat → Prop} {H : Heap} {v : Value} {a : Cell} :
    Rd S H v a ↔ v = .agg #[I a.At, I a.It] ∧ In64 a.At ∧ In64 a.It := by
  constructor
  · rintro ⟨cs, ⟨rfl, h0, h1⟩, rfl⟩
    exact ⟨rfl, h0, h1⟩
  · rintro ⟨rfl, h0, h1⟩
    exact ⟨_, ⟨rfl, h0, h1⟩, rfl⟩
instance limCell : LimT Cell := ⟨fun a => True⟩
theorem opCell {P : Program} {t t0 t1 : TypeId} {f0 f1 : Field} (ht : P.underlying t = some (.struct #[f0, f1])) (e0 : f0.type = t0) (e1 : f1.type = t1)
    (h0 : OpT P t0 Int) (h1 : OpT P t1 Int) (hc : P.cellsOf t = 2) (c0 : P.cellsOf t0 = 1) (c1 : P.cellsOf t1 = 1)
    (o0 : f0.offset = 0) (o1 : f1.offset = 1) : OpT P t Cell where
  go h hw := by
    subst e0 e1
    rename_i fuel cs x
    obtain ⟨xs, n, _, rfl, hl, hlen, hf⟩ := DataW.trod_struct ht h
    match xs, hlen with
    | [y0, y1], _ =>
      rw [hc] at hl
      match cs, hl with
      | [u0, u1], _ =>
        have k0 := hf 0 f0 rfl
        have k1 := hf 1 f1 rfl
        simp only [o0, o1, c0, c1, List.drop_zero, List.drop_succ_cons, List.take_succ_cons, List.take_zero] at k0 k1
        have hw' : (DataW.weightsEach P [f0.type, f1.type] [y0.1, y1.1]).all (· ≤ reachBytes) = true := by simpa [DataW.weights, ht] using hw
        obtain ⟨a0, ⟨ha0, r0⟩, _⟩ := h0.go k0 (weights_cut hw' (j := 0) rfl rfl)
        obtain ⟨a1, ⟨ha1, r1⟩, _⟩ := h1.go k1 (weights_cut hw' (j := 1) rfl rfl)
        cases ha0; cases ha1
        exact ⟨⟨a0, a1⟩, ⟨rfl, r0, r1⟩, trivial⟩
  val h := by
    simp only [Value.okWide, ht] at h
    obtain ⟨cs, rfl, _, _⟩ := h
    simp [valOf, Value.cells, ag]
structure Frac where
  Num : Int
  Den : Int
  deriving Inhabited, DecidableEq
instance instFrac : GoT Frac where
  sz := 2
  bytes := 16
  ag := true
  rdc S H cs x := cs = [I x.Num, I x.Den] ∧ In64 x.Num ∧ In64 x.Den
  pos := by decide
  one h := by cases h
  len h := by obtain ⟨rfl, _⟩ := h; rfl
  cell h := by
    obtain ⟨rfl, _, _⟩ := h
    simp [Value.oneCell']
  ext h hx hs := by obtain ⟨rfl, h0, h1⟩ := h; exact ⟨rfl, h0, h1⟩
theorem Rd.frac {S : Nat → Prop} {H : Heap} {v : Value} {a : Frac} :
    Rd S H v a ↔ v = .agg #[I a.Num, I a.Den] ∧ In64 a.Num ∧ In64 a.Den := by
  constructor
  · rintro ⟨cs, ⟨rfl, h0, h1⟩, rfl⟩
    exact ⟨rfl, h0, h1⟩
  · rintro ⟨rfl, h0, h1⟩
    exact ⟨_, ⟨rfl, h0, h1⟩, rfl⟩
instance limFrac : LimT Frac := ⟨fun a => True⟩
theorem opFrac {P : Program} {t t0 t1 : TypeId} {f0 f1 : Field} (ht : P.underlying t = some (.struct #[f0, f1])) (e0 : f0.type = t0) (e1 : f1.type = t1)
    (h0 : OpT P t0 Int) (h1 : OpT P t1 Int) (hc : P.cellsOf t = 2) (c0 : P.cellsOf t0 = 1) (c1 : P.cellsOf t1 = 1)
    (o0 : f0.offset = 0) (o1 : f1.offset = 1) : OpT P t Frac where
  go h hw := by
    subst e0 e1
    rename_i fuel cs x
    obtain ⟨xs, n, _, rfl, hl, hlen, hf⟩ := DataW.trod_struct ht h
    match xs, hlen with
    | [y0, y1], _ =>
      rw [hc] at hl
      match cs, hl with
      | [u0, u1], _ =>
        have k0 := hf 0 f0 rfl
        have k1 := hf 1 f1 rfl
        simp only [o0, o1, c0, c1, List.drop_zero, List.drop_succ_cons, List.take_succ_cons, List.take_zero] at k0 k1
        have hw' : (DataW.weightsEach P [f0.type, f1.type] [y0.1, y1.1]).all (· ≤ reachBytes) = true := by simpa [DataW.weights, ht] using hw
        obtain ⟨a0, ⟨ha0, r0⟩, _⟩ := h0.go k0 (weights_cut hw' (j := 0) rfl rfl)
        obtain ⟨a1, ⟨ha1, r1⟩, _⟩ := h1.go k1 (weights_cut hw' (j := 1) rfl rfl)
        cases ha0; cases ha1
        exact ⟨⟨a0, a1⟩, ⟨rfl, r0, r1⟩, trivial⟩
  val h := by
    simp only [Value.okWide, ht] at h
    obtain ⟨cs, rfl, _, _⟩ := h
    simp [valOf, Value.cells, ag]
structure Val where
  VNum : Int
  VDen : Int
  Cells : List Cell
  Rest : Int
  deriving Inhabited, DecidableEq
instance instVal : GoT Val where
  sz := 4
  bytes := 48
  ag := true
  rdc S H cs x := ∃ v2, cs = [I x.VNum, I x.VDen, v2, I x.Rest] ∧ In64 x.VNum ∧ In64 x.VDen ∧ RdL S H v2 x.Cells ∧ In64 x.Rest
  pos := by decide
  one h := by cases h
  len h := by obtain ⟨_, rfl, _⟩ := h; rfl
  cell h := by
    obtain ⟨_, rfl, _, _, ⟨_, _, _, _, rfl, _⟩, _⟩ := h
    simp [Value.oneCell']
  ext h hx hs := by obtain ⟨v2, rfl, h0, h1, h2, h3⟩ := h; exact ⟨v2, rfl, h0, h1, h2.ext hx hs, h3⟩
theorem Rd.val {S : Nat → Prop} {H : Heap} {v : Value} {a : Val} :
    Rd S H v a ↔ ∃ v2, v = .agg #[I a.VNum, I a.VDen, v2, I a.Rest] ∧ In64 a.VNum ∧ In64 a.VDen ∧ Rd S H v2 a.Cells ∧ In64 a.Rest := by
  constructor
  · rintro ⟨cs, ⟨v2, rfl, h0, h1, h2, h3⟩, rfl⟩
    exact ⟨v2, rfl, h0, h1, Rd.list.2 h2, h3⟩
  · rintro ⟨v2, rfl, h0, h1, h2, h3⟩
    exact ⟨_, ⟨v2, rfl, h0, h1, Rd.list.1 h2, h3⟩, rfl⟩
instance limVal : LimT Val := ⟨fun a => LimT.lim a.Cells⟩
structure Entry where
  Args : List Int
  ENum : Int
  EDen : Int
  ECells : List Cell
  ERest : Int
  deriving Inhabited, DecidableEq
instance instEntry : GoT Entry where
  sz := 5
  bytes := 72
  ag := true
  rdc S H cs x := ∃ v0 v3, cs = [v0, I x.ENum, I x.EDen, v3, I x.ERest] ∧ RdL S H v0 x.Args ∧ In64 x.ENum ∧ In64 x.EDen ∧ RdL S H v3 x.ECells ∧ In64 x.ERest
  pos := by decide
  one h := by cases h
  len h := by obtain ⟨_, _, rfl, _⟩ := h; rfl
  cell h := by
    obtain ⟨_, _, rfl, ⟨_, _, _, _, rfl, _⟩, _, _, ⟨_, _, _, _, rfl, _⟩, _⟩ := h
    simp [Value.oneCell']
  ext h hx hs := by obtain ⟨v0, v3, rfl, h0, h1, h2, h3, h4⟩ := h; exact ⟨v0, v3, rfl, h0.ext hx hs, h1, h2, h3.ext hx hs, h4⟩
theorem Rd.entry {S : Nat → Prop} {H : Heap} {v : Value} {a : Entry} :
    Rd S H v a ↔ ∃ v0 v3, v = .agg #[v0, I a.ENum, I a.EDen, v3, I a.ERest] ∧ Rd S H v0 a.Args ∧ In64 a.ENum ∧ In64 a.EDen ∧ Rd S H v3 a.ECells ∧ In64 a.ERest := by
  constructor
  · rintro ⟨cs, ⟨v0, v3, rfl, h0, h1, h2, h3, h4⟩, rfl⟩
    exact ⟨v0, v3, rfl, Rd.list.2 h0, h1, h2, Rd.list.2 h3, h4⟩
  · rintro ⟨v0, v3, rfl, h0, h1, h2, h3, h4⟩
    exact ⟨_, ⟨v0, v3, rfl, Rd.list.1 h0, h1, h2, Rd.list.1 h3, h4⟩, rfl⟩
instance limEntry : LimT Entry := ⟨fun a => LimT.lim a.Args ∧ LimT.lim a.ECells⟩
structure Meaning where
  Rows : List Entry
  MNum : Int
  MDen : Int
  MCells : List Cell
  MRest : Int
  deriving Inhabited, DecidableEq
instance instMeaning : GoT Meaning where
  sz := 5
  bytes := 72
  ag := true
  rdc S H cs x := ∃ v0 v3, cs = [v0, I x.MNum, I x.MDen, v3, I x.MRest] ∧ RdL S H v0 x.Rows ∧ In64 x.MNum ∧ In64 x.MDen ∧ RdL S H v3 x.MCells ∧ In64 x.MRest
  pos := by decide
  one h := by cases h
  len h := by obtain ⟨_, _, rfl, _⟩ := h; rfl
  cell h := by
    obtain ⟨_, _, rfl, ⟨_, _, _, _, rfl, _⟩, _, _, ⟨_, _, _, _, rfl, _⟩, _⟩ := h
    simp [Value.oneCell']
  ext h hx hs := by obtain ⟨v0, v3, rfl, h0, h1, h2, h3, h4⟩ := h; exact ⟨v0, v3, rfl, h0.ext hx hs, h1, h2, h3.ext hx hs, h4⟩
theorem Rd.meaning {S : Nat → Prop} {H : Heap} {v : Value} {a : Meaning} :
    Rd S H v a ↔ ∃ v0 v3, v = .agg #[v0, I a.MNum, I a.MDen, v3, I a.MRest] ∧ Rd S H v0 a.Rows ∧ In64 a.MNum ∧ In64 a.MDen ∧ Rd S H v3 a.MCells ∧ In64 a.MRest := by
  constructor
  · rintro ⟨cs, ⟨v0, v3, rfl, h0, h1, h2, h3, h4⟩, rfl⟩
    exact ⟨v0, v3, rfl, Rd.list.2 h0, h1, h2, Rd.list.2 h3, h4⟩
  · rintro ⟨v0, v3, rfl, h0, h1, h2, h3, h4⟩
    exact ⟨_, ⟨v0, v3, rfl, Rd.list.1 h0, h1, h2, Rd.list.1 h3, h4⟩, rfl⟩
instance limMeaning : LimT Meaning := ⟨fun a => LimT.lim a.Rows ∧ LimT.lim a.MCells⟩
structure Wld where
  Means : List Meaning
  deriving Inhabited, DecidableEq
instance instWld : GoT Wld where
  sz := 1
  bytes := 24
  ag := true
  rdc S H cs x := ∃ v0, cs = [v0] ∧ RdL S H v0 x.Means
  pos := by decide
  one h := by cases h
  len h := by obtain ⟨_, rfl, _⟩ := h; rfl
  cell h := by
    obtain ⟨_, rfl, ⟨_, _, _, _, rfl, _⟩⟩ := h
    simp [Value.oneCell']
  ext h hx hs := by obtain ⟨v0, rfl, h0⟩ := h; exact ⟨v0, rfl, h0.ext hx hs⟩
theorem Rd.wld {S : Nat → Prop} {H : Heap} {v : Value} {a : Wld} :
    Rd S H v a ↔ ∃ v0, v = .agg #[v0] ∧ Rd S H v0 a.Means := by
  constructor
  · rintro ⟨cs, ⟨v0, rfl, h0⟩, rfl⟩
    exact ⟨v0, rfl, Rd.list.2 h0⟩
  · rintro ⟨v0, rfl, h0⟩
    exact ⟨_, ⟨v0, rfl, Rd.list.1 h0⟩, rfl⟩
instance limWld : LimT Wld := ⟨fun a => LimT.lim a.Means⟩
theorem opWld {P : Program} {t t0 : TypeId} {f0 : Field} (ht : P.underlying t = some (.struct #[f0])) (e0 : f0.type = t0)
    (h0 : OpT P t0 (List Meaning)) (hc : P.cellsOf t = 1) (c0 : P.cellsOf t0 = 1)
    (o0 : f0.offset = 0) : OpT P t Wld where
  go h hw := by
    subst e0
    rename_i fuel cs x
    obtain ⟨xs, n, _, rfl, hl, hlen, hf⟩ := DataW.trod_struct ht h
    match xs, hlen with
    | [y0], _ =>
      rw [hc] at hl
      match cs, hl with
      | [u0], _ =>
        have k0 := hf 0 f0 rfl
        simp only [o0, c0, List.drop_zero, List.drop_succ_cons, List.take_succ_cons, List.take_zero] at k0
        have hw' : (DataW.weightsEach P [f0.type] [y0.1]).all (· ≤ reachBytes) = true := by simpa [DataW.weights, ht] using hw
        obtain ⟨a0, ⟨w0, ha0, r0⟩, l0⟩ := h0.go k0 (weights_cut hw' (j := 0) rfl rfl)
        cases ha0
        exact ⟨⟨a0⟩, ⟨_, rfl, r0⟩, l0⟩
  val h := by
    simp only [Value.okWide, ht] at h
    obtain ⟨cs, rfl, _, _⟩ := h
    simp [valOf, Value.cells, ag]
theorem opVal {P : Program} {t t0 t1 t2 : TypeId} {f0 f1 f2 : Field} (ht : P.underlying t = some (.struct #[f0, f1, f2])) (e0 : f0.type = t0) (e1 : f1.type = t1) (e2 : f2.type = t2)
    (h0 : OpT P t0 Frac) (h1 : OpT P t1 (List Cell)) (h2 : OpT P t2 Int) (hc : P.cellsOf t = 4) (c0 : P.cellsOf t0 = 2) (c1 : P.cellsOf t1 = 1) (c2 : P.cellsOf t2 = 1)
    (o0 : f0.offset = 0) (o1 : f1.offset = 2) (o2 : f2.offset = 3) : OpT P t Val where
  go h hw := by
    subst e0 e1 e2
    rename_i fuel cs x
    obtain ⟨xs, n, _, rfl, hl, hlen, hf⟩ := DataW.trod_struct ht h
    match xs, hlen with
    | [y0, y1, y2], _ =>
      rw [hc] at hl
      match cs, hl with
      | [u0, u1, u2, u3], _ =>
        have k0 := hf 0 f0 rfl
        have k1 := hf 1 f1 rfl
        have k2 := hf 2 f2 rfl
        simp only [o0, o1, o2, c0, c1, c2, List.drop_zero, List.drop_succ_cons, List.take_succ_cons, List.take_zero] at k0 k1 k2
        have hw' : (DataW.weightsEach P [f0.type, f1.type, f2.type] [y0.1, y1.1, y2.1]).all (· ≤ reachBytes) = true := by simpa [DataW.weights, ht] using hw
        obtain ⟨a0, ⟨ha0, r0, r0'⟩, _⟩ := h0.go k0 (weights_cut hw' (j := 0) rfl rfl)
        obtain ⟨a1, ⟨w1, ha1, r1⟩, l1⟩ := h1.go k1 (weights_cut hw' (j := 1) rfl rfl)
        obtain ⟨a2, ⟨ha2, r2⟩, _⟩ := h2.go k2 (weights_cut hw' (j := 2) rfl rfl)
        cases ha0; cases ha1; cases ha2
        exact ⟨⟨a0.Num, a0.Den, a1, a2⟩, ⟨_, rfl, r0, r0', r1, r2⟩, l1⟩
  val h := by
    simp only [Value.okWide, ht] at h
    obtain ⟨cs, rfl, _, _⟩ := h
    simp [valOf, Value.cells, ag]
theorem opEntry {P : Program} {t t0 t1 : TypeId} {f0 f1 : Field} (ht : P.underlying t = some (.struct #[f0, f1])) (e0 : f0.type = t0) (e1 : f1.type = t1)
    (h0 : OpT P t0 (List Int)) (h1 : OpT P t1 Val) (hc : P.cellsOf t = 5) (c0 : P.cellsOf t0 = 1) (c1 : P.cellsOf t1 = 4) (o0 : f0.offset = 0) (o1 : f1.offset = 1) : OpT P t Entry where
  go h hw := by
    subst e0 e1
    rename_i fuel cs x
    obtain ⟨xs, n, _, rfl, hl, hlen, hf⟩ := DataW.trod_struct ht h
    match xs, hlen with
    | [y0, y1], _ =>
      rw [hc] at hl
      match cs, hl with
      | [u0, u1, u2, u3, u4], _ =>
        have k0 := hf 0 f0 rfl
        have k1 := hf 1 f1 rfl
        simp only [o0, o1, c0, c1, List.drop_zero, List.drop_succ_cons, List.take_succ_cons, List.take_zero] at k0 k1
        have hw' : (DataW.weightsEach P [f0.type, f1.type] [y0.1, y1.1]).all (· ≤ reachBytes) = true := by simpa [DataW.weights, ht] using hw
        obtain ⟨a0, ⟨w0, ha0, r0⟩, l0⟩ := h0.go k0 (weights_cut hw' (j := 0) rfl rfl)
        obtain ⟨a1, ⟨w1, ha1, q1, q2, q3, q4⟩, l1⟩ := h1.go k1 (weights_cut hw' (j := 1) rfl rfl)
        cases ha0; cases ha1
        exact ⟨⟨a0, a1.VNum, a1.VDen, a1.Cells, a1.Rest⟩, ⟨_, _, rfl, r0, q1, q2, q3, q4⟩, l0, l1⟩
  val h := by
    simp only [Value.okWide, ht] at h
    obtain ⟨cs, rfl, _, _⟩ := h
    simp [valOf, Value.cells, ag]
theorem opMeaning {P : Program} {t t0 t1 : TypeId} {f0 f1 : Field} (ht : P.underlying t = some (.struct #[f0, f1])) (e0 : f0.type = t0) (e1 : f1.type = t1)
    (h0 : OpT P t0 (List Entry)) (h1 : OpT P t1 Val) (hc : P.cellsOf t = 5) (c0 : P.cellsOf t0 = 1) (c1 : P.cellsOf t1 = 4) (o0 : f0.offset = 0) (o1 : f1.offset = 1) : OpT P t Meaning where
  go h hw := by
    subst e0 e1
    rename_i fuel cs x
    obtain ⟨xs, n, _, rfl, hl, hlen, hf⟩ := DataW.trod_struct ht h
    match xs, hlen with
    | [y0, y1], _ =>
      rw [hc] at hl
      match cs, hl with
      | [u0, u1, u2, u3, u4], _ =>
        have k0 := hf 0 f0 rfl
        have k1 := hf 1 f1 rfl
        simp only [o0, o1, c0, c1, List.drop_zero, List.drop_succ_cons, List.take_succ_cons, List.take_zero] at k0 k1
        have hw' : (DataW.weightsEach P [f0.type, f1.type] [y0.1, y1.1]).all (· ≤ reachBytes) = true := by simpa [DataW.weights, ht] using hw
        obtain ⟨a0, ⟨w0, ha0, r0⟩, l0⟩ := h0.go k0 (weights_cut hw' (j := 0) rfl rfl)
        obtain ⟨a1, ⟨w1, ha1, q1, q2, q3, q4⟩, l1⟩ := h1.go k1 (weights_cut hw' (j := 1) rfl rfl)
        cases ha0; cases ha1
        exact ⟨⟨a0, a1.VNum, a1.VDen, a1.Cells, a1.Rest⟩, ⟨_, _, rfl, r0, q1, q2, q3, q4⟩, l0, l1⟩
  val h := by
    simp only [Value.okWide, ht] at h
    obtain ⟨cs, rfl, _, _⟩ := h
    simp [valOf, Value.cells, ag]
end Go.Um
namespace Go.Um
open GoT (sz ag rdc)
open Go.RowKit
section
variable {α : Type} [GoT α] {P : Program} {H0 H : Heap} {M S0 : Nat → Prop} {L : List Ent} {f : Fr} {next : FP} {o : Oper}
theorem RdL.holds {S : Nat → Prop} {v : Value} {xs : List α} {w : World} (h : RdL S w.heap v xs) : ∃ a n c cl, v = .slice a n c ∧ n = xs.length ∧ cl.length = n * sz α ∧ RdCs S w.heap cl xs ∧ xs.length * GoT.bytes α ≤ 140737488355328 ∧
    (xs = [] ∨ ∃ b0, a = some b0 ∧ ∀ j u, cl[j]? = some u → w.cell? (b0.add j) = some u) := by
  obtain ⟨a, n, c, cl, rfl, hn, _, _, hby, hcl, hp⟩ := h
  refine ⟨a, n, c, cl, rfl, hn, by rw [hn]; exact hcl.len, hcl, hby, ?_⟩
  by_cases h0 : xs = []
  · exact .inl h0
  · obtain ⟨b, off, rfl, _, hcells⟩ := hp h0
    refine .inr ⟨_, rfl, fun j u hj => ?_⟩
    rw [add_off, cell_hcell]
    have hlt : j < cl.length := by
      rcases Nat.lt_or_ge j cl.length with h | h
      · exact h
      · rw [List.getElem?_eq_none h] at hj; cases hj
    rw [hcells j hlt, hj]
def fptr (s : Nat) (v : Value) (k j : Nat) : Value :=
  match v with
  | .slice (some a) _ _ => .pointer (some ⟨a.block, a.off + k * s + j, none⟩)
  | _ => undef
def LoadF (P : Program) (U : Nat → Prop) (H : Heap) (t : TypeId) (s : Nat) (v : Value) (k j : Nat) (u : Value) : Prop :=
  ∃ b off n c, v = .slice (some ⟨b, off, none⟩) n c ∧ LoadS P U H t b (off + k * s + j) u
theorem q_fieldE {U S : Nat → Prop} {t : TypeId} {x : Operand} {k i j : Nat} {v : Value} {l : List α} {fs : Array Field} {fd : Field} {n : Nat} (ho : o.op = .fieldAddr t x i) (ht : P.underlying t = some (.struct fs)) (hf : fs[i]? = some fd)
    (hz : ∀ w, (sizeOf fd.type).run P w = .ok (n + 1) w) (hj : fd.offset = j) (hx : ev f x = eptr (sz α) v k) (hR : RdL S H v l) (hlt : k < l.length) : Quiet P o U f H (fptr (sz α) v k j) := by
  obtain ⟨a, n, c, cl, rfl, hn, hnc, hcm, hby, hcl, hp⟩ := hR
  obtain ⟨b, off, rfl, hsb, hcells⟩ := hp (fun h0 => by rw [h0] at hlt; simp at hlt)
  subst hj
  exact q_fieldAddr ho ht hf hz hx
theorem RdL.cellF {S : Nat → Prop} {v : Value} {l : List α} (hR : RdL S H v l) (k : Nat) (hlt : k < l.length) : ∃ cs, rdc S H cs (nth l k) ∧
    ∀ (j : Nat) (u : Value) (P : Program) (t : TypeId) (U : Nat → Prop), cs[j]? = some u → (∀ w, (isAgg t).run P w = .ok false w) → (∀ b, U b → S b) → LoadF P U H t (sz α) v k j u := by
  obtain ⟨a, n, c, cl, rfl, hn, hnc, hcm, hby, hcl, hp⟩ := hR
  obtain ⟨b, off, rfl, hsb, hcells⟩ := hp (fun h0 => by rw [h0] at hlt; simp at hlt)
  obtain ⟨cs, hr, hc⟩ := hcl.nth hlt
  have hlen := GoT.len hr
  refine ⟨cs, hr, fun j u P t U hu hE hU => ⟨b, off, n, c, rfl, loadS_one hE ?_ (fun h => hsb (hU b h))⟩⟩
  have hj : j < cs.length := (List.getElem?_eq_some_iff.1 hu).1
  rw [← hu, ← hc j hj, Nat.add_assoc]
  refine hcells _ ?_
  rw [hcl.len]
  have : (k + 1) * sz α ≤ l.length * sz α := Nat.mul_le_mul_right _ (by omega)
  rw [Nat.succ_mul] at this
  omega
theorem q_loadF {U : Nat → Prop} {t : TypeId} {x : Operand} {s k j : Nat} {v u : Value} (ho : o.op = .load t x) (hx : ev f x = fptr s v k j) (hl : LoadF P U H t s v k j u) : Quiet P o U f H u := by
  obtain ⟨b, off, n, c, rfl, hl⟩ := hl
  exact q_load ho hx hl
end
theorem cells_rdL {α : Type} [GoT α] {S : Nat → Prop} {H : Heap} {v : Value} {l : List α} (h : RdL S H v l) : v.cells = #[v] := by
  obtain ⟨_, _, _, _, rfl, _⟩ := h; rfl
end Go.Um
namespace Go.Um
open Go
theorem q_field {P : Program} {o : Oper} {U : Nat → Prop} {f : Fr} {H : Heap} {t : TypeId} {x : Operand} {i : Nat} {cs : Array Value} {v : Value} {fs : Array Field} {fd : Field} (ho : o.op = .field t x i) (ht : P.underlying t = some (.struct fs)) (hf : fs[i]? = some fd)
    (ha : ∀ w, (isAgg fd.type).run P w = .ok false w) (hx : ev f x = .agg cs) (hv : cs[fd.offset]? = some v) : Quiet P o U f H v := by
  intro w _
  simp [execOp, ho, hx, Instr.field, run_underlying ht, hf, part, ha, asAgg, hv]
end Go.Um
namespace Go.Um
end Go.Um
namespace Go.Um
def letter (c : Int) : Prop := (c = 95 ∨ (97 ≤ c ∧ c ≤ 122)) ∨ (65 ≤ c ∧ c ≤ 90)
instance {c : Int} : Decidable (letter c) := by unfold letter; infer_instance
def nameBad (s : Str) (i : Nat) : Prop := ¬ letter (bAt s i) ∧ (((i : Int) = 0 ∨ bAt s i < 48) ∨ 57 < bAt s i)
instance {s : Str} {i : Nat} : Decidable (nameBad s i) := by unfold nameBad; infer_instance
def isName (s : Str) : Prop := (∀ i, i < s.size → ¬ nameBad s i) ∧ (1 ≤ (s.size : Int) ∧ (s.size : Int) ≤ 12)
instance {s : Str} : Decidable (isName s) := by unfold isName; infer_instance
def noText : Str := ByteArray.mk #[]
def wordS (s : Int) : Prop := 10 < s ∧ s ≤ 18
instance {s : Int} : Decidable (wordS s) := by unfold wordS; infer_instance
def isSortS (s : Int) : Prop := (1 ≤ s ∧ s ≤ 5) ∨ wordS s
instance {s : Int} : Decidable (isSortS s) := by unfold isSortS; infer_instance
def sameName (nm : Str) (d : Decl) : Bool := decide (sEq d.Name nm)
def argsBad (d : Decl) : Bool := d.Args.any fun s => decide (s ≠ 4)
def codeD (l : List Decl) (i : Nat) : Int :=
  if ¬ isName (nth l i).Name then 12 else if (l.take i).any (sameName (nth l i).Name) = true then 7 else if 8 < ((nth l i).Args.length : Int) then 9
  else if ¬ isSortS (nth l i).Srt then 4 else if argsBad (nth l i) = true then 4 else if (nth l i).Srt = 5 ∧ 0 < ((nth l i).Args.length : Int) then 4 else 0
def declBad (l : List Decl) (i : Nat) : Option (Int × Int) := if codeD l i ≠ 0 then some (codeD l i, (i : Int)) else none
def declsF (l : List Decl) : Int × Int := if 30 < (l.length : Int) then (2, 0) else (fst1 (declBad l) 0 l.length).getD (0, 0)
def findD (l : List Decl) (nm : Str) : Int := idxOf (sameName nm) l
def kidsN (op : Int) : Int :=
  if op = 1 then 0 else if op = 2 then 0 else if op = 10 then 0 else if op = 15 then 0 else if op = 3 then 1 else if op = 12 then 1 else if op = 16 then 1 else if op = 23 then 1
  else if op = 7 then 3 else if op = 25 then 3 else if op = 4 then -1 else if op = 5 then -1 else if op = 11 then -1 else 2
theorem tmod_natAbs (a b : Int) : (a.tmod b).natAbs = a.natAbs % b.natAbs := by
  rw [Int.natAbs_tmod]
def gcdT (a b : Int) : Int := if b = 0 then max a (-a) else gcdT b (a.tmod b)
termination_by b.natAbs
decreasing_by
  rw [tmod_natAbs]
  exact Nat.mod_lt _ (by omega)
theorem gcdT_zero {a b : Int} (h : b = 0) : gcdT a b = max a (-a) := by rw [gcdT, if_pos h]
theorem gcdT_step {a b : Int} (h : ¬ b = 0) : gcdT a b = gcdT b (a.tmod b) := by rw [gcdT, if_neg h]
theorem tmodR {a b N : Int} (ha : -N ≤ a ∧ a ≤ N) : -N ≤ a.tmod b ∧ a.tmod b ≤ N := by
  have h1 := tmod_natAbs a b
  have h2 := Nat.mod_le a.natAbs b.natAbs
  omega
theorem tmodL {a b : Int} (hb : ¬ b = 0) : (a.tmod b).natAbs < b.natAbs := by
  rw [tmod_natAbs]; exact Nat.mod_lt _ (by omega)
def hasD (op : Int) : Prop := (op = 10 ∨ op = 12) ∨ op = 15
instance {op : Int} : Decidable (hasD op) := by unfold hasD; infer_instance
def formedN (n : Node) : Prop := ((sEq n.Name noText ∨ n.Op = 9) ∧ ((n.N = 0 ∨ hasD n.Op) ∨ n.Op = 23)) ∧ (n.D = 0 ∨ hasD n.Op)
instance {n : Node} : Decidable (formedN n) := by unfold formedN; infer_instance
def fracN (n : Node) : Prop := (((-1000000 ≤ n.N ∧ n.N ≤ 1000000) ∧ 1 ≤ n.D) ∧ n.D ≤ 1000000) ∧ gcdT n.N n.D = 1
instance {n : Node} : Decidable (fracN n) := by unfold fracN; infer_instance
def bitsOk (n : Node) : Prop := ((1 ≤ n.D ∧ n.D ≤ 8) ∧ 0 ≤ n.N) ∧ n.N < ((2 ^ n.D.toNat : Nat) : Int)
instance {n : Node} : Decidable (bitsOk n) := by unfold bitsOk; infer_instance
def numsB (n : Node) : Bool := if n.Op = 10 then decide (fracN n) else if n.Op = 12 then decide (fracN n) else if n.Op = 15 then decide (bitsOk n) else if n.Op = 23 then decide (0 ≤ n.N ∧ n.N ≤ 8) else true
def numS (s : Int) : Prop := s = 2 ∨ s = 3
instance {s : Int} : Decidable (numS s) := by unfold numS; infer_instance
def wholeS (p : Prop) [Decidable p] : Int := if p then 2 else 3
def oneB (s : Int) : Bool := decide (s = 1)
def intB (s : Int) : Bool := decide (s = 2)
def numB' (s : Int) : Bool := decide (numS s)
def sameK (K : List Int) : Prop := (K.length : Int) = 2 ∧ nth K 0 = nth K 1
instance {K : List Int} : Decidable (sameK K) := by unfold sameK; infer_instance
def okS (n : Node) (K : List Int) (d : Decl) : Bool :=
  if n.Op = 1 then true else if n.Op = 2 then true else if n.Op = 3 then K.all oneB else if n.Op = 4 then K.all oneB else if n.Op = 5 then K.all oneB else if n.Op = 6 then K.all oneB
  else if n.Op = 7 then decide ((nth K 0 = 1 ∧ nth K 1 = nth K 2) ∧ nth K 1 ≠ 5)
  else if n.Op = 8 then decide (K.all numB' = true ∨ (sameK K ∧ (nth K 0 = 4 ∨ wordS (nth K 0))))
  else if n.Op = 9 then decide (K = d.Args) else if n.Op = 10 then true else if n.Op = 11 then K.all numB' else if n.Op = 12 then decide (numS (nth K 0))
  else if n.Op = 13 then K.all numB' else if n.Op = 14 then K.all numB' else if n.Op = 15 then true else if n.Op = 16 then decide (wordS (nth K 0)) else if n.Op = 23 then decide (wordS (nth K 0))
  else if n.Op = 17 then decide (sameK K ∧ wordS (nth K 0)) else if n.Op = 18 then decide (sameK K ∧ wordS (nth K 0)) else if n.Op = 19 then decide (sameK K ∧ wordS (nth K 0))
  else if n.Op = 20 then decide (sameK K ∧ wordS (nth K 0)) else if n.Op = 21 then decide (sameK K ∧ wordS (nth K 0)) else if n.Op = 22 then decide (sameK K ∧ wordS (nth K 0))
  else if n.Op = 24 then decide (K = [5, 4]) else if n.Op = 25 then decide (K = [5, 4, 4]) else false
def outS (n : Node) (K : List Int) (d : Decl) : Int :=
  if n.Op = 7 then nth K 1 else if n.Op = 9 then d.Srt else if n.Op = 10 then wholeS (n.D = 1) else if n.Op = 11 then wholeS (K.all intB = true) else if n.Op = 12 then wholeS (nth K 0 = 2 ∧ n.D = 1)
  else if n.Op = 15 then 10 + n.D else if n.Op = 16 then nth K 0 else if n.Op = 23 then nth K 0 else if n.Op = 17 then nth K 0 else if n.Op = 18 then nth K 0 else if n.Op = 19 then nth K 0 else if n.Op = 20 then nth K 0 else if n.Op = 21 then nth K 0
  else if n.Op = 24 then 4 else if n.Op = 25 then 5 else 1
def sortN (n : Node) (K : List Int) (d : Decl) : Int := if okS n K d = true then outS n K d else 0
def declOf (a : Ask) (n : Node) : Decl := if n.Op = 9 then nth a.Decls (findD a.Decls n.Name).toNat else ⟨noText, [], 0⟩
def wantN (a : Ask) (n : Node) : Int := if n.Op = 9 then ((declOf a n).Args.length : Int) else kidsN n.Op
def kidS (S : List Int) (l : List Int) : List Int := l.map fun k => nth S k.toNat
def kidBad (i : Int) (k : Int) : Prop := k < 0 ∨ i ≤ k
instance {i k : Int} : Decidable (kidBad i k) := by unfold kidBad; infer_instance
def nodeF (a : Ask) (i : Nat) (S : List Int) : Int × Int :=
  if (nth a.Nodes i).Op < 1 ∨ 25 < (nth a.Nodes i).Op then (0, 4)
  else if (nth a.Nodes i).Op = 9 ∧ findD a.Decls (nth a.Nodes i).Name < 0 then (0, 6)
  else if (0 ≤ wantN a (nth a.Nodes i) ∧ ((nth a.Nodes i).Kids.length : Int) ≠ wantN a (nth a.Nodes i)) ∨ 8 < ((nth a.Nodes i).Kids.length : Int) then (0, 9)
  else if ∃ k ∈ (nth a.Nodes i).Kids, kidBad i k then (0, 3)
  else if ¬ formedN (nth a.Nodes i) then (0, 5)
  else if ¬ numsB (nth a.Nodes i) = true then (0, 3)
  else if sortN (nth a.Nodes i) (kidS S (nth a.Nodes i).Kids) (declOf a (nth a.Nodes i)) = 0 then (0, 8)
  else (sortN (nth a.Nodes i) (kidS S (nth a.Nodes i).Kids) (declOf a (nth a.Nodes i)), 0)
def sortsTo (a : Ask) : Nat → List Int
  | 0 => []
  | k + 1 => sortsTo a k ++ [(nodeF a k (sortsTo a k)).1]
def nodeBad (a : Ask) (k : Nat) : Option (Int × Int) := if (nodeF a k (sortsTo a k)).2 ≠ 0 then some ((nodeF a k (sortsTo a k)).2, (k : Int)) else none
def holdBad (a : Ask) (k : Nat) : Option (Int × Int) :=
  if nth a.Hold k < 0 ∨ (a.Nodes.length : Int) ≤ nth a.Hold k then some (3, (k : Int)) else if nth (sortsTo a a.Nodes.length) (nth a.Hold k).toNat ≠ 1 then some (8, (k : Int)) else none
def sortsF (a : Ask) : Int × Int :=
  if (declsF a.Decls).1 ≠ 0 then declsF a.Decls else if 200 < (a.Nodes.length : Int) then (2, 0)
  else match fst1 (nodeBad a) 0 a.Nodes.length with
    | some x => x
    | none => if 200 < (a.Hold.length : Int) then (2, 0) else (fst1 (holdBad a) 0 a.Hold.length).getD (0, 0)
def sortsL (a : Ask) : List Int := if (sortsF a).1 ≠ 0 then [] else sortsTo a a.Nodes.length
section
variable {a : Ask} {l : List Decl} {i k : Nat} {S : List Int} {n : Node}
theorem declsF_many (h : 30 < (l.length : Int)) : declsF l = (2, 0) := if_pos h
theorem declsF_at (h : ¬ 30 < (l.length : Int)) (hi : i < l.length) (hp : ∀ j, j < i → codeD l j = 0) {c : Int} (hc : codeD l i = c) (h0 : c ≠ 0) : declsF l = (c, (i : Int)) := by
  subst hc
  rw [declsF, if_neg h, fst1_some (g := declBad l) (k := i) (y := (codeD l i, (i : Int))) (if_pos h0) (Nat.zero_le _) (by omega) fun j _ hj => if_neg (not_not_intro (hp j hj))]; rfl
theorem declsF_no (h : ¬ 30 < (l.length : Int)) (hp : ∀ j, j < l.length → codeD l j = 0) : declsF l = (0, 0) := by
  rw [declsF, if_neg h, fst1_none (g := declBad l) fun j _ hj => if_neg (not_not_intro (hp j (by omega)))]; rfl
theorem sortsTo_len : ∀ k, (sortsTo a k).length = k
  | 0 => rfl
  | k + 1 => by rw [sortsTo, List.length_append, sortsTo_len k]; rfl
theorem sortsF_decl (h : (declsF a.Decls).1 ≠ 0) : sortsF a = declsF a.Decls := if_pos h
theorem sortsF_many (h : ¬ (declsF a.Decls).1 ≠ 0) (h2 : 200 < (a.Nodes.length : Int)) : sortsF a = (2, 0) := by rw [sortsF, if_neg h, if_pos h2]
theorem sortsF_node (h : ¬ (declsF a.Decls).1 ≠ 0) (h2 : ¬ 200 < (a.Nodes.length : Int)) (hi : i < a.Nodes.length) (hp : ∀ j, j < i → (nodeF a j (sortsTo a j)).2 = 0) (hc : (nodeF a i (sortsTo a i)).2 ≠ 0) : sortsF a = ((nodeF a i (sortsTo a i)).2, (i : Int)) := by
  rw [sortsF, if_neg h, if_neg h2, fst1_some (g := nodeBad a) (k := i) (y := ((nodeF a i (sortsTo a i)).2, (i : Int))) (if_pos hc) (Nat.zero_le _) (by omega) fun j _ hj => if_neg (not_not_intro (hp j hj))]
theorem sortsF_nodes (h : ¬ (declsF a.Decls).1 ≠ 0) (h2 : ¬ 200 < (a.Nodes.length : Int)) (hp : ∀ j, j < a.Nodes.length → (nodeF a j (sortsTo a j)).2 = 0) :
    sortsF a = if 200 < (a.Hold.length : Int) then (2, 0) else (fst1 (holdBad a) 0 a.Hold.length).getD (0, 0) := by
  rw [sortsF, if_neg h, if_neg h2, fst1_none (g := nodeBad a) fun j _ hj => if_neg (not_not_intro (hp j (by omega)))]
theorem sortsF_holds (h : ¬ (declsF a.Decls).1 ≠ 0) (h2 : ¬ 200 < (a.Nodes.length : Int)) (hp : ∀ j, j < a.Nodes.length → (nodeF a j (sortsTo a j)).2 = 0) (h3 : 200 < (a.Hold.length : Int)) : sortsF a = (2, 0) := by
  rw [sortsF_nodes h h2 hp, if_pos h3]
theorem sortsF_hold (h : ¬ (declsF a.Decls).1 ≠ 0) (h2 : ¬ 200 < (a.Nodes.length : Int)) (hp : ∀ j, j < a.Nodes.length → (nodeF a j (sortsTo a j)).2 = 0) (h3 : ¬ 200 < (a.Hold.length : Int))
    (hi : i < a.Hold.length) (hq : ∀ j, j < i → holdBad a j = none) {x : Int × Int} (hx : holdBad a i = some x) : sortsF a = x := by
  rw [sortsF_nodes h h2 hp, if_neg h3, fst1_some (k := i) hx (Nat.zero_le _) (by omega) fun j _ hj => hq j hj]; rfl
theorem sortsF_ok (h : ¬ (declsF a.Decls).1 ≠ 0) (h2 : ¬ 200 < (a.Nodes.length : Int)) (hp : ∀ j, j < a.Nodes.length → (nodeF a j (sortsTo a j)).2 = 0) (h3 : ¬ 200 < (a.Hold.length : Int))
    (hq : ∀ j, j < a.Hold.length → holdBad a j = none) : sortsF a = (0, 0) := by
  rw [sortsF_nodes h h2 hp, if_neg h3, fst1_none fun j _ hj => hq j (by omega)]; rfl
theorem sortsL_bad (h : (sortsF a).1 ≠ 0) : sortsL a = [] := if_pos h
theorem sortsL_ok (h : sortsF a = (0, 0)) : sortsL a = sortsTo a a.Nodes.length := by rw [sortsL, h]; rfl
theorem holdBad_range (h : nth a.Hold k < 0 ∨ (a.Nodes.length : Int) ≤ nth a.Hold k) : holdBad a k = some (3, (k : Int)) := if_pos h
theorem holdBad_sort (h : ¬ (nth a.Hold k < 0 ∨ (a.Nodes.length : Int) ≤ nth a.Hold k)) (h2 : nth (sortsTo a a.Nodes.length) (nth a.Hold k).toNat ≠ 1) : holdBad a k = some (8, (k : Int)) := by rw [holdBad, if_neg h, if_pos h2]
theorem holdBad_no (h : ¬ (nth a.Hold k < 0 ∨ (a.Nodes.length : Int) ≤ nth a.Hold k)) (h2 : ¬ nth (sortsTo a a.Nodes.length) (nth a.Hold k).toNat ≠ 1) : holdBad a k = none := by rw [holdBad, if_neg h, if_neg h2]
end
end Go.Um
namespace Go.Um
theorem q_remZ {P : Program} {o : Oper} {U : Nat → Prop} {f : Fr} {H : Heap} {t u : TypeId} {x y : Operand} {a b : Int} (ho : o.op = .binOp .rem t x y u) (hx : ev f x = I a) (hy : ev f y = I b) (hne : ¬ b = 0) (ha : -1000000 ≤ a ∧ a ≤ 1000000) : Quiet P o U f H (I (a.tmod b)) := by
  have hin : In64 (a.tmod b) := by have := tmodR (b := b) ha; constructor <;> omega
  intro w _; simp [execOp, ho, hx, hy, eqGuard, binOp, Op.intArith, Op.intDiv, hne, wrap_in hin]
theorem Str.small {s : Str} (h : s.size ≤ maxLen) : s.size ≤ 9223372036854775807 := by
  simp only [maxLen] at h
  omega
theorem all_not_any {l : List Int} {gp : Int → Bool} : (!l.any fun x => !gp x) = l.all gp := by
  rw [Bool.eq_iff_iff]
  simp
end Go.Um
namespace Go.Um
section
variable {a : Ask} {n : Node} {i j k : Nat} {S l : List Int}
theorem declOf_yes (h : n.Op = 9) : declOf a n = nth a.Decls (findD a.Decls n.Name).toNat := if_pos h
theorem declOf_no (h : ¬ n.Op = 9) : declOf a n = ⟨noText, [], 0⟩ := if_neg h
theorem wantN_yes (h : n.Op = 9) : wantN a n = ((nth a.Decls (findD a.Decls n.Name).toNat).Args.length : Int) := by rw [wantN, if_pos h, declOf_yes h]
theorem wantN_no (h : ¬ n.Op = 9) : wantN a n = kidsN n.Op := if_neg h
theorem findD_lt {l : List Decl} {nm : Str} : findD l nm < l.length := idxOf_lt
theorem kids_no (hno : ∀ k, k < j → ¬ kidBad i (nth l k)) (hj : l.length ≤ j) : ¬ ∃ k ∈ l, kidBad i k := by
  rintro ⟨k, hk, hb⟩
  obtain ⟨m, hm, rfl⟩ := nth_of_mem hk
  exact hno m (by omega) hb
theorem kidS_next (h : j < l.length) : kidS S (l.take j) ++ [nth S (nth l j).toNat] = kidS S (l.take (j + 1)) := by
  rw [take_succ_nth h, kidS, kidS, List.map_append]; rfl
theorem kidS_len : (kidS S l).length = l.length := by simp [kidS]
variable (h1 : ¬ ((nth a.Nodes i).Op < 1 ∨ 25 < (nth a.Nodes i).Op)) (h2 : ¬ ((nth a.Nodes i).Op = 9 ∧ findD a.Decls (nth a.Nodes i).Name < 0)) (h3 : ¬ ((0 ≤ wantN a (nth a.Nodes i) ∧ ((nth a.Nodes i).Kids.length : Int) ≠ wantN a (nth a.Nodes i)) ∨ 8 < ((nth a.Nodes i).Kids.length : Int)))
  (h4 : ¬ ∃ k ∈ (nth a.Nodes i).Kids, kidBad i k) (h5 : formedN (nth a.Nodes i)) (h6 : (!numsB (nth a.Nodes i)) = false)
theorem nodeF_op (h : (nth a.Nodes i).Op < 1 ∨ 25 < (nth a.Nodes i).Op) : nodeF a i S = (0, 4) := if_pos h
include h1
theorem nodeF_none (h : (nth a.Nodes i).Op = 9) (h' : findD a.Decls (nth a.Nodes i).Name < 0) : nodeF a i S = (0, 6) := by rw [nodeF, if_neg h1, if_pos ⟨h, h'⟩]
include h2
theorem nodeF_size (h : (0 ≤ wantN a (nth a.Nodes i) ∧ ((nth a.Nodes i).Kids.length : Int) ≠ wantN a (nth a.Nodes i)) ∨ 8 < ((nth a.Nodes i).Kids.length : Int)) : nodeF a i S = (0, 9) := by rw [nodeF, if_neg h1, if_neg h2, if_pos h]
include h3
theorem nodeF_range {k : Int} (h : k ∈ (nth a.Nodes i).Kids) (hb : kidBad i k) : nodeF a i S = (0, 3) := by rw [nodeF, if_neg h1, if_neg h2, if_neg h3, if_pos ⟨k, h, hb⟩]
include h4
theorem nodeF_form (h : ¬ formedN (nth a.Nodes i)) : nodeF a i S = (0, 5) := by rw [nodeF, if_neg h1, if_neg h2, if_neg h3, if_neg h4, if_pos h]
include h5
theorem nodeF_num (h : numsB (nth a.Nodes i) = false) : nodeF a i S = (0, 3) := by rw [nodeF, if_neg h1, if_neg h2, if_neg h3, if_neg h4, if_neg (not_not_intro h5), if_pos (by simp [h])]
include h6
theorem nodeF_sort (h : sortN (nth a.Nodes i) (kidS S (nth a.Nodes i).Kids) (declOf a (nth a.Nodes i)) = 0) : nodeF a i S = (0, 8) := by
  rw [nodeF, if_neg h1, if_neg h2, if_neg h3, if_neg h4, if_neg (not_not_intro h5), if_neg (by simpa using h6), if_pos h]
theorem nodeF_ok (h : ¬ sortN (nth a.Nodes i) (kidS S (nth a.Nodes i).Kids) (declOf a (nth a.Nodes i)) = 0) : nodeF a i S = (sortN (nth a.Nodes i) (kidS S (nth a.Nodes i).Kids) (declOf a (nth a.Nodes i)), 0) := by
  rw [nodeF, if_neg h1, if_neg h2, if_neg h3, if_neg h4, if_neg (not_not_intro h5), if_neg (by simpa using h6), if_neg h]
end
theorem sort_len {a : Ask} {n : Node} {S : List Int} (h3 : ¬ ((0 ≤ wantN a n ∧ (n.Kids.length : Int) ≠ wantN a n) ∨ 8 < (n.Kids.length : Int))) : n.Op ≠ 9 → 0 ≤ kidsN n.Op → ((kidS S n.Kids).length : Int) = kidsN n.Op := by
  intro h9 h0
  rw [kidS_len]
  rw [wantN_no h9] at h3
  omega
theorem sort_D {n : Node} (h : (!numsB n) = false) : n.Op = 15 → n.D ≤ 8 ∧ 0 ≤ n.D := by
  intro h15
  have h' : numsB n = true := by simpa using h
  rw [numsB, h15] at h'
  have h2 := of_decide_eq_true h'
  exact ⟨h2.1.1.2, by have := h2.1.1.1; omega⟩
theorem kidsLen {n : Node} {K : List Int} (h : n.Op ≠ 9 → 0 ≤ kidsN n.Op → (K.length : Int) = kidsN n.Op) :
    (n.Op = 7 → K.length = 3) ∧ ((n.Op = 12 ∨ n.Op = 16 ∨ n.Op = 23) → K.length = 1) ∧ ((n.Op = 17 ∨ n.Op = 18 ∨ n.Op = 19 ∨ n.Op = 20 ∨ n.Op = 21 ∨ n.Op = 22) → K.length = 2) := by
  refine ⟨fun e => ?_, fun e => ?_, fun e => ?_⟩
  · rw [e] at h
    have h2 : (K.length : Int) = 3 := h (by decide) (by decide)
    omega
  · rcases e with e | e | e <;>
    · rw [e] at h
      have h2 : (K.length : Int) = 1 := h (by decide) (by decide)
      omega
  · rcases e with e | e | e | e | e | e <;>
    · rw [e] at h
      have h2 : (K.length : Int) = 2 := h (by decide) (by decide)
      omega
theorem wholeS_yes {p q : Prop} [Decidable p] [Decidable q] (h : p) : wholeS q = wholeS (p ∧ q) := by
  by_cases hq : q
  · rw [wholeS, if_pos hq, wholeS, if_pos ⟨h, hq⟩]
  · rw [wholeS, if_neg hq, wholeS, if_neg (fun h' => hq h'.2)]
theorem wholeS_no {p q : Prop} [Decidable p] [Decidable q] (h : ¬ p) : wholeS (false = true) = wholeS (p ∧ q) := by
  rw [wholeS, if_neg (by decide), wholeS, if_neg (fun h' => h h'.1)]
end Go.Um
namespace Go.Um
open GoT (sz ag rdc)
abbrev Subst := Int → Option (List Int)
def put (σ : Subst) (p : Int) (w : List Int) : Subst := fun q => if p = q then some w else σ q
structure Alike (m : Nat) (σ : Subst) (is : List (List Int)) (told : List Bool) : Prop where
  li : is.length = m
  lt : told.length = m
  at_ : ∀ k, k < m → σ (-(k : Int) - 1) = if nth told k = true then some (nth is k) else none
  un : ∀ k, k < m → nth told k = false → nth is k = []
theorem nth_set_same {α : Type} [Inhabited α] {l : List α} {k : Nat} {x : α} (h : k < l.length) : nth (l.set k x) k = x := by
  simp [nth, h]
theorem nth_set_ne {α : Type} [Inhabited α] {l : List α} {k j : Nat} {x : α} (h : k ≠ j) : nth (l.set k x) j = nth l j := by
  simp [nth, List.getElem?_set_ne h]
theorem Alike.put {m : Nat} {σ : Subst} {is : List (List Int)} {told : List Bool} (h : Alike m σ is told) {p : Int} {w : List Int} (hp : p < 0) :
    Alike m (put σ p w) (is.set (-p - 1).toNat w) (told.set (-p - 1).toNat true) where
  li := by simpa using h.li
  lt := by simpa using h.lt
  at_ k hk := by
    by_cases hkp : (-p - 1).toNat = k
    · have e : p = -(k : Int) - 1 := by omega
      rw [hkp, nth_set_same (by rw [h.lt]; exact hk), nth_set_same (by rw [h.li]; exact hk)]
      simp [Um.put, e]
    · rw [nth_set_ne hkp, nth_set_ne hkp]
      have : ¬ p = -(k : Int) - 1 := by omega
      simp only [Um.put, this, if_false]
      exact h.at_ k hk
  un k hk hf := by
    by_cases hkp : (-p - 1).toNat = k
    · rw [hkp, nth_set_same (by rw [h.lt]; exact hk)] at hf; cases hf
    · rw [nth_set_ne hkp] at hf ⊢
      exact h.un k hk hf
section
variable {ps t : List Int} {σ : Subst} {n : Nat} {y : Subst}
theorem all_succ {p : Nat → Prop} (h : ∀ j, j < n → p j) (hn : p n) : ∀ j, j < n + 1 → p j := fun j hj => by
  rcases Nat.lt_succ_iff_lt_or_eq.1 hj with h1 | h1
  · exact h j h1
  · subst h1; exact hn
end
section
variable {p t : List Int} {k : Nat}
end
section
variable {p t : List Int} {is : List (List Int)} {told : List Bool} {n : Nat} {y : List (List Int)}
end
section
variable {p t : List Int} {k : Nat} {c a q : Int}
end
end Go.Um
namespace Go.Um
open Go.RowKit
section
variable {P : Program} {o : Oper} {U : Nat → Prop} {f : Fr} {H : Heap} {a b : Nat}
theorem wrap62 {a : Nat} (h : a < 4611686018427387904) : IntKind.i64.wrap (a : Int) = (a : Int) := wrap_in (by constructor <;> omega)
theorem q_shl1 {t u : TypeId} {x y : Operand} {b : Int} (ho : o.op = .binOp .shl t x y u) (hx : ev f x = I 1) (hy : ev f y = I b) (h0 : 0 ≤ b) (h1 : b ≤ 61) : Quiet P o U f H (I ((2 ^ b.toNat : Nat) : Int)) := by
  intro w _
  have hlt : 2 ^ b.toNat < 4611686018427387904 := Nat.pow_lt_pow_right (a := 2) (n := 62) (by decide) (by omega)
  have h2 := wrap62 hlt
  have hm : min b.toNat 64 = b.toNat := by omega
  have hn : ¬ b < 0 := by omega
  simp only [execOp, ho, hx, hy, eqGuard, binOp, Op.shift, IntKind.bits, hm, if_neg hn]
  simp at h2 ⊢
  rw [h2]
end
end Go.Um
namespace Go.Um
section
variable {P : Program} {o : Oper} {U : Nat → Prop} {f : Fr} {H : Heap}
end
end Go.Um
namespace Go.Um
theorem sk {α : Type} {a : α} {l m : List α} (h : l.Sublist m) : (a :: l).Sublist (a :: m) := List.Sublist.cons_cons a h
theorem sn {α : Type} {a : α} {l m : List α} (h : l.Sublist m) : l.Sublist (a :: m) := List.Sublist.cons a h
end Go.Um
namespace Go.Um
section
variable {P : Program} {N : Nat} {ops : Array Oper} {o : Oper} {rest : List Oper} {n r : FP} {x : Nat → FP} {f : Fr} {H : Heap}
theorem lq {v : Value} (hg : o.guard = none) (hQ : Quiet P o NoB f H v) (h : wpL P ops n rest (updO f o.dst v) H) : wpL P ops n (o :: rest) f H := wpL_q hg hQ h
theorem lo (hg : o.guard = none) (h : OpE P o (wpL P ops n rest) f H) : wpL P ops n (o :: rest) f H := wpL_o hg h
theorem sc {c d : Code} (J : FP) (h : wpF P N c J x r f H) (hJ : ∀ f H, J f H → wpF P N d n x r f H) : wpF P N (.seq c d) n x r f H := wpF_seq (wpF_cut J h hJ)
theorem fcr {id : Nat} {d : Code} {l : List Oper} (J : FP) (h : wpL P l.toArray J l f H) (hJ : ∀ f H, J f H → wpF P N d n x r f H) : wpF P N (.seq (.region id l.toArray false) d) n x r f H := wpF_seq (wpF_cut J (wpF_region h) hJ)
theorem rq {lab : List (Option Nat)} {ul : List (List Nat)} {blk : Nat → Nat → Prop} {l : List Nat} {v : Value} (q : Nat)
    (hd : (decide (l.length < ops.size) && readyB ops (mkL ops.size l) q) = true) (hq : ops[q]? = some o) (hg : o.guard = none) (hQ : Quiet P o (labU ul blk q) f H v)
    (h : wpR P ops lab ul blk n (q :: l) (updO f o.dst v) H) : wpR P ops lab ul blk n l f H := wpR_q q hd hq (quietAt hq hg hQ) h
theorem fa {α : Type} {p : α → Prop} {a : α} {l : List α} (h : p a) (t : ∀ x ∈ l, p x) : ∀ x ∈ a :: l, p x := List.forall_mem_cons.2 ⟨h, t⟩
theorem fe {α : Type} {p : α → Prop} : ∀ x ∈ ([] : List α), p x := fun _ h => by cases h
theorem la {e : Operand} {v : Value} (hg : o.guard = none) (ho : o.op = .assign e) (hx : ev f e = v) (h : wpL P ops n rest (updO f o.dst v) H) : wpL P ops n (o :: rest) f H := wpL_q (U := NoB) hg (q_assign ho hx) h
theorem lm {e : Operand} {v : Value} (hg : o.guard = none) (ho : o.op = .move e) (hx : ev f e = v) (h : wpL P ops n rest (updO f o.dst v) H) : wpL P ops n (o :: rest) f H := wpL_q (U := NoB) hg (q_move ho hx) h
theorem gq {v : Value} {j : Nat} {b : Bool} {oj : Oper} {d : Nat} (hg : o.guard = some (j, b)) (hj : ops[j]? = some oj) (hjd : oj.dst = some d) (hv : f d = .bool b)
    (hQ : Quiet P o NoB f H v) (h : wpL P ops n rest (updO f o.dst v) H) : wpL P ops n (o :: rest) f H := wpL_gq hg hj hjd hv hQ h
theorem rs {lab : List (Option Nat)} {ul : List (List Nat)} {blk : Nat → Nat → Prop} {l : List Nat} {j : Nat} {b c : Bool} {oj : Oper} {d : Nat} (q : Nat)
    (hd : (decide (l.length < ops.size) && readyB ops (mkL ops.size l) q) = true) (hv : f d = .bool c) (hq : ops[q]? = some o) (hg : o.guard = some (j, b)) (hj : ops[j]? = some oj) (hjd : oj.dst = some d)
    (hne : (c == b) = false) (h : wpR P ops lab ul blk n (q :: l) (updO f o.dst undef) H) : wpR P ops lab ul blk n l f H := wpR_q q hd hq (quietAt_s hq hg hj hjd hv hne) h
end
abbrev Vg : Array Value → Value := .agg
abbrev bE (g : Nat) (cs : Array Value) (t : TypeId) : Ent := blkE g (.cells cs t)
abbrev nS : Value := .slice none 0 0
abbrev SZ (S : Nat → Prop) (H0 : Heap) : Nat → Prop := fun b => S b ∧ b < H0.size
end Go.Um
namespace Go.Um
theorem fst1_zero {g : Nat → Option (Int × Int)} (hg : ∀ j x, g j = some x → x.1 ≠ 0) : ∀ {n i : Nat}, ((fst1 g i n).getD (0, 0)).1 = 0 → ∀ j, i ≤ j → j < i + n → g j = none := by
  intro n
  induction n with
  | zero => intro i _ j h1 h2; omega
  | succ n ih =>
    intro i h j h1 h2
    cases hi : g i with
    | some y =>
      simp only [fst1, hi, Option.getD_some] at h
      exact absurd h (hg i y hi)
    | none =>
      simp only [fst1, hi] at h
      by_cases hj : i = j
      · rw [← hj]; exact hi
      · exact ih h j (by omega) (by omega)
theorem declBad_ne {l : List Decl} : ∀ j x, declBad l j = some x → x.1 ≠ 0 := by
  intro j x h
  unfold declBad at h
  split at h
  · cases h; assumption
  · cases h
theorem declsF_zero {l : List Decl} (h : (declsF l).1 = 0) : l.length ≤ 30 ∧ ∀ i, i < l.length → codeD l i = 0 := by
  unfold declsF at h
  split at h
  · cases h
  · refine ⟨by omega, fun i hi => ?_⟩
    have := fst1_zero declBad_ne h i (Nat.zero_le _) (by omega)
    unfold declBad at this
    split at this
    · cases this
    · rename_i hn; exact Decidable.of_not_not hn
structure DeclOk (l : List Decl) (i : Nat) : Prop where
  name : isName (nth l i).Name
  once : (l.take i).any (sameName (nth l i).Name) = false
  few : (nth l i).Args.length ≤ 8
  srt : isSortS (nth l i).Srt
  args : argsBad (nth l i) = false
  arr : (nth l i).Srt = 5 → (nth l i).Args.length = 0
theorem codeD_zero {l : List Decl} {i : Nat} (h : codeD l i = 0) : DeclOk l i := by
  unfold codeD at h
  split at h
  · cases h
  rename_i h1
  split at h
  · cases h
  rename_i h2
  split at h
  · cases h
  rename_i h3
  split at h
  · cases h
  rename_i h4
  split at h
  · cases h
  rename_i h5
  split at h
  · cases h
  rename_i h6
  exact ⟨Decidable.of_not_not h1, Bool.eq_false_iff.2 h2, by omega, Decidable.of_not_not h4, Bool.eq_false_iff.2 h5, fun e => by omega⟩
theorem codeD_ok {l : List Decl} {i : Nat} (h : DeclOk l i) : codeD l i = 0 := by
  unfold codeD
  rw [if_neg (not_not_intro h.name), if_neg (by rw [h.once]; decide), if_neg (by have := h.few; omega), if_neg (not_not_intro h.srt), if_neg (by rw [h.args]; decide), if_neg (fun e => by have := h.arr e.1; omega)]
structure NodeOk (a : Ask) (i : Nat) (S : List Int) : Prop where
  op : 1 ≤ (nth a.Nodes i).Op ∧ (nth a.Nodes i).Op ≤ 25
  found : (nth a.Nodes i).Op = 9 → 0 ≤ findD a.Decls (nth a.Nodes i).Name
  size : 0 ≤ wantN a (nth a.Nodes i) → ((nth a.Nodes i).Kids.length : Int) = wantN a (nth a.Nodes i)
  few : (nth a.Nodes i).Kids.length ≤ 8
  kids : ∀ k ∈ (nth a.Nodes i).Kids, 0 ≤ k ∧ k < i
  formed : formedN (nth a.Nodes i)
  nums : numsB (nth a.Nodes i) = true
  sort : sortN (nth a.Nodes i) (kidS S (nth a.Nodes i).Kids) (declOf a (nth a.Nodes i)) ≠ 0
theorem nodeF_zero {a : Ask} {i : Nat} {S : List Int} (h : (nodeF a i S).2 = 0) : NodeOk a i S ∧ (nodeF a i S).1 = sortN (nth a.Nodes i) (kidS S (nth a.Nodes i).Kids) (declOf a (nth a.Nodes i)) := by
  unfold nodeF at h ⊢
  split at h
  · cases h
  rename_i h1
  rw [if_neg h1]
  split at h
  · cases h
  rename_i h2
  rw [if_neg h2]
  split at h
  · cases h
  rename_i h3
  rw [if_neg h3]
  split at h
  · cases h
  rename_i h4
  rw [if_neg h4]
  split at h
  · cases h
  rename_i h5
  rw [if_neg h5]
  split at h
  · cases h
  rename_i h6
  rw [if_neg h6]
  split at h
  · cases h
  rename_i h7
  rw [if_neg h7]
  refine ⟨⟨by omega, fun e => ?_, fun e => ?_, ?_, fun k hk => ?_, Decidable.of_not_not h5, Decidable.of_not_not h6, h7⟩, rfl⟩
  · exact Decidable.of_not_not fun hn => h2 ⟨e, by omega⟩
  · exact Decidable.of_not_not fun hn => h3 (.inl ⟨e, hn⟩)
  · have : ¬ 8 < ((nth a.Nodes i).Kids.length : Int) := fun hn => h3 (.inr hn)
    omega
  · have : ¬ kidBad i k := fun hb => h4 ⟨k, hk, hb⟩
    unfold kidBad at this
    omega
theorem nodeF_good {a : Ask} {i : Nat} {S : List Int} (h : NodeOk a i S) : nodeF a i S = (sortN (nth a.Nodes i) (kidS S (nth a.Nodes i).Kids) (declOf a (nth a.Nodes i)), 0) := by
  have ho := h.op
  refine nodeF_ok (fun e => by omega) (fun e => ?_) (fun e => ?_) (fun e => ?_) h.formed (by simp [h.nums]) h.sort
  · have := h.found e.1; omega
  · rcases e with e | e
    · exact e.2 (h.size e.1)
    · have := h.few; omega
  · obtain ⟨k, hk, hb⟩ := e
    have := h.kids k hk
    unfold kidBad at hb
    omega
theorem nth_default {α : Type} [Inhabited α] {l : List α} {k : Nat} (h : l.length ≤ k) : nth l k = default := by simp [nth, List.getD_eq_getElem?_getD, List.getElem?_eq_none h]
theorem nth_app1 {α : Type} [Inhabited α] {l m : List α} {k : Nat} (h : k < l.length) : nth (l ++ m) k = nth l k := by simp [nth, List.getD_eq_getElem?_getD, List.getElem?_append_left h]
theorem nth_app2 {α : Type} [Inhabited α] {l m : List α} {k : Nat} : nth (l ++ m) (l.length + k) = nth m k := by simp [nth, List.getD_eq_getElem?_getD, List.getElem?_append_right]
theorem nth_last {α : Type} [Inhabited α] {l : List α} {x : α} : nth (l ++ [x]) l.length = x := by
  have := nth_app2 (l := l) (m := [x]) (k := 0); exact this
theorem sortsTo_pre {a : Ask} {k j : Nat} (hj : j < k) : nth (sortsTo a k) j = (nodeF a j (sortsTo a j)).1 := by
  induction k with
  | zero => omega
  | succ k ih =>
    rw [sortsTo]
    by_cases h : j < k
    · rw [nth_app1 (by rw [sortsTo_len]; exact h)]; exact ih h
    · have : j = k := by omega
      subst this
      have h2 := nth_last (l := sortsTo a j) (x := (nodeF a j (sortsTo a j)).1)
      rwa [sortsTo_len] at h2
theorem sortsTo_same {a : Ask} {k m j : Nat} (hj : j < k) (hm : j < m) : nth (sortsTo a k) j = nth (sortsTo a m) j := by rw [sortsTo_pre hj, sortsTo_pre hm]
def sortR (s : Int) : Prop := 0 ≤ s ∧ s ≤ 18
theorem wholeS_rng {p : Prop} [Decidable p] : 2 ≤ wholeS p ∧ wholeS p ≤ 3 := by unfold wholeS; split <;> omega
theorem wholeS_r {p : Prop} [Decidable p] : sortR (wholeS p) := by have := wholeS_rng (p := p); unfold sortR; omega
theorem ite_r {p : Prop} [Decidable p] {x y : Int} (hx : p → sortR x) (hy : ¬ p → sortR y) : sortR (if p then x else y) := by
  by_cases h : p
  · rw [if_pos h]; exact hx h
  · rw [if_neg h]; exact hy h
theorem outS_rng {n : Node} {K : List Int} {d : Decl} (hK : ∀ j, sortR (nth K j)) (hd : sortR d.Srt) (hn : n.Op = 15 → n.D ≤ 8 ∧ 0 ≤ n.D) : sortR (outS n K d) := by
  have h4 : sortR 4 := ⟨by decide, by decide⟩
  have h5 : sortR 5 := ⟨by decide, by decide⟩
  have h6 : sortR 1 := ⟨by decide, by decide⟩
  have h7 : n.Op = 15 → sortR (10 + n.D) := fun e => by have := hn e; unfold sortR; omega
  unfold outS
  refine ite_r (fun _ => hK 1) fun _ => ite_r (fun _ => hd) fun _ => ite_r (fun _ => wholeS_r) fun _ => ite_r (fun _ => wholeS_r) fun _ => ite_r (fun _ => wholeS_r) fun _ => ite_r h7 fun _ =>
    ite_r (fun _ => hK 0) fun _ => ite_r (fun _ => hK 0) fun _ => ite_r (fun _ => hK 0) fun _ => ite_r (fun _ => hK 0) fun _ => ite_r (fun _ => hK 0) fun _ => ite_r (fun _ => hK 0) fun _ => ite_r (fun _ => hK 0) fun _ => ite_r (fun _ => h4) fun _ => ite_r (fun _ => h5) fun _ => h6
theorem nth_kidS {S l : List Int} {j : Nat} (hj : j < l.length) : nth (kidS S l) j = nth S (nth l j).toNat := by
  simp [kidS, nth, hj]
theorem kidS_rng {S l : List Int} (hS : ∀ j, sortR (nth S j)) : ∀ j, sortR (nth (kidS S l) j) := by
  intro j
  by_cases hj : j < l.length
  · rw [nth_kidS hj]; exact hS _
  · rw [nth_default (by rw [kidS_len]; omega)]; exact ⟨by decide, by decide⟩
theorem declOf_rng {a : Ask} (hd : (declsF a.Decls).1 = 0) {n : Node} : sortR (declOf a n).Srt := by
  unfold declOf
  split
  · by_cases h : (findD a.Decls n.Name).toNat < a.Decls.length
    · have := (codeD_zero ((declsF_zero hd).2 _ h)).srt
      unfold isSortS wordS at this
      unfold sortR
      omega
    · rw [nth_default (by omega)]; exact ⟨by decide, by decide⟩
  · exact ⟨by decide, by decide⟩
theorem nodeF_rng {a : Ask} {i : Nat} {S : List Int} (hd : (declsF a.Decls).1 = 0) (hS : ∀ j, sortR (nth S j)) : sortR (nodeF a i S).1 := by
  have z : sortR 0 := ⟨by decide, by decide⟩
  unfold nodeF
  split
  · exact z
  split
  · exact z
  split
  · exact z
  split
  · exact z
  split
  · exact z
  split
  · exact z
  rename_i h6
  split
  · exact z
  · show sortR (sortN _ _ _)
    unfold sortN
    split
    · exact outS_rng (kidS_rng hS) (declOf_rng hd) (sort_D (by simpa using h6))
    · exact z
theorem sortsTo_rng {a : Ask} (hd : (declsF a.Decls).1 = 0) : ∀ k j, sortR (nth (sortsTo a k) j) := by
  intro k
  induction k with
  | zero => intro j; rw [nth_default (by simp [sortsTo])]; exact ⟨by decide, by decide⟩
  | succ k ih =>
    intro j
    by_cases hj : j < k + 1
    · rw [sortsTo_pre hj]
      by_cases h : j = k
      · subst h; exact nodeF_rng hd ih
      · have h2 := ih j
        rw [sortsTo_pre (by omega)] at h2
        exact h2
    · rw [nth_default (by rw [sortsTo_len]; omega)]; exact ⟨by decide, by decide⟩
structure AskOk (a : Ask) : Prop where
  dz : (declsF a.Decls).1 = 0
  few : a.Decls.length ≤ 30
  decls : ∀ i, i < a.Decls.length → DeclOk a.Decls i
  many : a.Nodes.length ≤ 200
  nodes : ∀ i, i < a.Nodes.length → NodeOk a i (sortsTo a i)
  sorts : ∀ i k, i < k → k ≤ a.Nodes.length → nth (sortsTo a k) i = sortN (nth a.Nodes i) (kidS (sortsTo a i) (nth a.Nodes i).Kids) (declOf a (nth a.Nodes i))
  holds : a.Hold.length ≤ 200
  hold : ∀ k, k < a.Hold.length → (0 ≤ nth a.Hold k ∧ nth a.Hold k < a.Nodes.length) ∧ nth (sortsTo a a.Nodes.length) (nth a.Hold k).toNat = 1
theorem nodeBad_ne {a : Ask} : ∀ j x, nodeBad a j = some x → x.1 ≠ 0 := by
  intro j x h
  unfold nodeBad at h
  split at h
  · cases h; assumption
  · cases h
theorem holdBad_ne {a : Ask} : ∀ j x, holdBad a j = some x → x.1 ≠ 0 := by
  intro j x h
  unfold holdBad at h
  split at h
  · cases h; exact (by decide : (3 : Int) ≠ 0)
  · split at h
    · cases h; exact (by decide : (8 : Int) ≠ 0)
    · cases h
theorem askOk {a : Ask} (h : (sortsF a).1 = 0) : AskOk a := by
  unfold sortsF at h
  split at h
  · rename_i h1; exact absurd h h1
  rename_i h1
  have hd := Decidable.of_not_not h1
  split at h
  · cases h
  rename_i h2
  have hn : ∀ j, j < a.Nodes.length → nodeBad a j = none := by
    intro j hj
    refine fst1_zero nodeBad_ne (i := 0) (n := a.Nodes.length) ?_ j (Nat.zero_le _) (by omega)
    revert h
    cases fst1 (nodeBad a) 0 a.Nodes.length with
    | some x => exact fun h => h
    | none => exact fun _ => rfl
  rw [fst1_none fun j _ hj => hn j (by omega)] at h
  have hno : ∀ i, i < a.Nodes.length → (nodeF a i (sortsTo a i)).2 = 0 := by
    intro i hi
    have := hn i hi
    unfold nodeBad at this
    split at this
    · cases this
    · rename_i h'; exact Decidable.of_not_not h'
  simp only at h
  split at h
  · cases h
  rename_i h3
  refine ⟨hd, (declsF_zero hd).1, fun i hi => codeD_zero ((declsF_zero hd).2 i hi), by omega, fun i hi => (nodeF_zero (hno i hi)).1, fun i k hi hk => ?_, by omega, fun k hk => ?_⟩
  · rw [sortsTo_pre hi, (nodeF_zero (hno i (by omega))).2]
  · have := fst1_zero holdBad_ne h k (Nat.zero_le _) (by omega)
    unfold holdBad at this
    split at this
    · cases this
    rename_i h4
    split at this
    · cases this
    rename_i h5
    exact ⟨by omega, Decidable.of_not_not h5⟩
theorem sortsF_good {a : Ask} (hd : a.Decls.length ≤ 30) (h1 : ∀ i, i < a.Decls.length → DeclOk a.Decls i) (h2 : a.Nodes.length ≤ 200) (h3 : ∀ i, i < a.Nodes.length → NodeOk a i (sortsTo a i))
    (h4 : a.Hold.length ≤ 200) (h5 : ∀ k, k < a.Hold.length → (0 ≤ nth a.Hold k ∧ nth a.Hold k < a.Nodes.length) ∧ nth (sortsTo a a.Nodes.length) (nth a.Hold k).toNat = 1) : sortsF a = (0, 0) := by
  have hz : declsF a.Decls = (0, 0) := declsF_no (by omega) fun j hj => codeD_ok (h1 j hj)
  refine sortsF_ok (by rw [hz]; decide) (by omega) (fun j hj => ?_) (by omega) fun j hj => ?_
  · rw [nodeF_good (h3 j hj)]
  · have := h5 j hj
    exact holdBad_no (by omega) (not_not_intro this.2)
end Go.Um
namespace Go.Um
def withKids (n : Node) (K : List Int) : Node := ⟨n.Op, K, n.N, n.D, n.Name⟩
def nameNd (nm : Str) (x : Int) : Node := ⟨9, [x], 0, 0, nm⟩
def sameNd (x y : Int) : Node := ⟨8, [x, y], 0, 0, noText⟩
def pickNd (x y z : Int) : Node := ⟨7, [x, y, z], 0, 0, noText⟩
def kidN (n : Node) (j : Nat) : Nat := (nth n.Kids j).toNat
def getL (a : Ask) (to : List Int) (x : Int) (N : List Node) (k : Nat) : List Node :=
  if (nth a.Nodes k).Op = 9 then N ++ [nameNd (nth a.Nodes k).Name x]
  else if h : kidN (nth a.Nodes k) 0 < k then
    getL a to x N (kidN (nth a.Nodes k) 0) ++ [sameNd (nth to (kidN (nth a.Nodes k) 1)) x] ++
      [pickNd ((getL a to x N (kidN (nth a.Nodes k) 0)).length : Int) (nth to (kidN (nth a.Nodes k) 2)) ((getL a to x N (kidN (nth a.Nodes k) 0)).length - 1)]
  else N
termination_by k
section
variable {a : Ask} {to : List Int} {x : Int} {N : List Node} {k : Nat}
theorem getL_name (h : (nth a.Nodes k).Op = 9) : getL a to x N k = N ++ [nameNd (nth a.Nodes k).Name x] := by rw [getL, if_pos h]
theorem getL_put (h : ¬ (nth a.Nodes k).Op = 9) (hk : kidN (nth a.Nodes k) 0 < k) : getL a to x N k = getL a to x N (kidN (nth a.Nodes k) 0) ++ [sameNd (nth to (kidN (nth a.Nodes k) 1)) x] ++
      [pickNd ((getL a to x N (kidN (nth a.Nodes k) 0)).length : Int) (nth to (kidN (nth a.Nodes k) 2)) ((getL a to x N (kidN (nth a.Nodes k) 0)).length - 1)] := by
  rw [getL, if_neg h, dif_pos hk]
theorem getL_len : ∀ k, N.length ≤ (getL a to x N k).length ∧ (getL a to x N k).length ≤ N.length + 2 * k + 1 := by
  intro k
  induction k using Nat.strongRecOn with
  | _ k ih =>
    by_cases h : (nth a.Nodes k).Op = 9
    · rw [getL_name h, List.length_append, List.length_singleton]; omega
    · by_cases hk : kidN (nth a.Nodes k) 0 < k
      · have := ih _ hk
        rw [getL_put h hk, List.length_append, List.length_append, List.length_singleton, List.length_singleton]; omega
      · rw [getL, if_neg h, dif_neg hk]; omega
end
inductive Chain (a : Ask) (m : Nat) : Nat → Prop
  | name {k : Nat} (hk : k < a.Nodes.length) (h : (nth a.Nodes k).Op = 9) : Chain a m k
  | put {k : Nat} (hk : k < a.Nodes.length) (h : ¬ (nth a.Nodes k).Op = 9) (hl : 3 ≤ (nth a.Nodes k).Kids.length) (hp : ∀ j, j < 3 → 0 ≤ nth (nth a.Nodes k).Kids j)
      (h0 : kidN (nth a.Nodes k) 0 < k) (h1 : kidN (nth a.Nodes k) 1 < m) (h2 : kidN (nth a.Nodes k) 2 < m) (hc : Chain a m (kidN (nth a.Nodes k) 0)) : Chain a m k
theorem Chain.lt {a : Ask} {m k : Nat} (h : Chain a m k) : k < a.Nodes.length := by cases h <;> assumption
theorem Chain.inv {a : Ask} {m k : Nat} (h : Chain a m k) (h9 : ¬ (nth a.Nodes k).Op = 9) : 3 ≤ (nth a.Nodes k).Kids.length ∧ (∀ j, j < 3 → 0 ≤ nth (nth a.Nodes k).Kids j) ∧ kidN (nth a.Nodes k) 0 < k ∧ kidN (nth a.Nodes k) 1 < m ∧ kidN (nth a.Nodes k) 2 < m ∧ Chain a m (kidN (nth a.Nodes k) 0) := by
  cases h with
  | name _ h => exact absurd h h9
  | put _ _ hl hp h0 h1 h2 hc => exact ⟨hl, hp, h0, h1, h2, hc⟩
theorem op25 {o : Int} (h : 1 ≤ o ∧ o ≤ 25) : o = 1 ∨ o = 2 ∨ o = 3 ∨ o = 4 ∨ o = 5 ∨ o = 6 ∨ o = 7 ∨ o = 8 ∨ o = 9 ∨ o = 10 ∨ o = 11 ∨ o = 12 ∨ o = 13 ∨ o = 14 ∨ o = 15 ∨ o = 16 ∨ o = 17 ∨ o = 18 ∨ o = 19 ∨ o = 20 ∨ o = 21 ∨ o = 22 ∨ o = 23 ∨ o = 24 ∨ o = 25 := by omega
theorem sortN_ok {n : Node} {K : List Int} {d : Decl} (h : sortN n K d ≠ 0) : okS n K d = true ∧ sortN n K d = outS n K d := by
  unfold sortN at h ⊢
  split at h
  · rename_i h1; exact ⟨h1, if_pos h1⟩
  · exact absurd rfl h
section
variable {n : Node} {K : List Int} {d : Decl}
theorem get_sort (ho : n.Op = 24) (h : okS n K d = true) : K = [5, 4] := by
  simp only [okS, ho] at h
  exact of_decide_eq_true h
theorem put_sort (ho : n.Op = 25) (h : okS n K d = true) : K = [5, 4, 4] := by
  simp only [okS, ho] at h
  exact of_decide_eq_true h
theorem all_no5 {g : Int → Bool} (hg : g 5 = false) (h : K.all g = true) : ∀ s ∈ K, s ≠ 5 := by
  intro s hs e
  subst e
  rw [List.all_eq_true] at h
  rw [h _ hs] at hg; cases hg
theorem len1 {K : List Int} (h : K.length = 1) : K = [nth K 0] := by
  match K, h with
  | [x], _ => rfl
theorem len2 {K : List Int} (h : K.length = 2) : K = [nth K 0, nth K 1] := by
  match K, h with
  | [x, y], _ => rfl
theorem len3 {K : List Int} (h : K.length = 3) : K = [nth K 0, nth K 1, nth K 2] := by
  match K, h with
  | [x, y, z], _ => rfl
theorem one_no5 (h : K.length = 1) (h0 : nth K 0 ≠ 5) : ∀ s ∈ K, s ≠ 5 := by
  rw [len1 h]; intro s hs; rw [List.mem_singleton.1 hs]; exact h0
theorem two_no5 (h : K.length = 2) (h0 : nth K 0 ≠ 5) (h1 : nth K 1 ≠ 5) : ∀ s ∈ K, s ≠ 5 := by
  rw [len2 h]; intro s hs
  rcases List.mem_cons.1 hs with e | hs
  · rw [e]; exact h0
  · rw [List.mem_singleton.1 hs]; exact h1
theorem same_no5 (h : sameK K) (h0 : nth K 0 ≠ 5) : ∀ s ∈ K, s ≠ 5 := two_no5 (by have := h.1; omega) h0 (by rw [← h.2]; exact h0)
theorem word5 {s : Int} (h : wordS s) : s ≠ 5 := by unfold wordS at h; omega
theorem flat_sort (ho : 1 ≤ n.Op ∧ n.Op ≤ 25) (h24 : n.Op ≠ 24) (h25 : n.Op ≠ 25) (hl : n.Op ≠ 9 → 0 ≤ kidsN n.Op → (K.length : Int) = kidsN n.Op) (hd : n.Op = 9 → ∀ s ∈ d.Args, s = 4) (hD : n.Op = 15 → 0 ≤ n.D)
    (h : okS n K d = true) : (∀ s ∈ K, s ≠ 5) ∧ (n.Op ≠ 9 → outS n K d ≠ 5) := by
  have zero : (K.length : Int) = 0 → ∀ s ∈ K, s ≠ 5 := fun e s hs => by
    have : K = [] := List.eq_nil_of_length_eq_zero (by omega)
    rw [this] at hs; cases hs
  have w5 : ∀ p : Prop, ∀ [Decidable p], wholeS p ≠ 5 := fun p _ => by have := wholeS_rng (p := p); omega
  rcases op25 ho with e | e | e | e | e | e | e | e | e | e | e | e | e | e | e | e | e | e | e | e | e | e | e | e | e
  · rw [e] at hl; exact ⟨zero (hl (by decide) (by decide)), fun _ => by rw [outS, e]; exact (by decide : (1 : Int) ≠ 5)⟩
  · rw [e] at hl; exact ⟨zero (hl (by decide) (by decide)), fun _ => by rw [outS, e]; exact (by decide : (1 : Int) ≠ 5)⟩
  · simp only [okS, e] at h; exact ⟨all_no5 (g := oneB) rfl h, fun _ => by rw [outS, e]; exact (by decide : (1 : Int) ≠ 5)⟩
  · simp only [okS, e] at h; exact ⟨all_no5 (g := oneB) rfl h, fun _ => by rw [outS, e]; exact (by decide : (1 : Int) ≠ 5)⟩
  · simp only [okS, e] at h; exact ⟨all_no5 (g := oneB) rfl h, fun _ => by rw [outS, e]; exact (by decide : (1 : Int) ≠ 5)⟩
  · simp only [okS, e] at h; exact ⟨all_no5 (g := oneB) rfl h, fun _ => by rw [outS, e]; exact (by decide : (1 : Int) ≠ 5)⟩
  · simp only [okS, e] at h
    have h2 : (nth K 0 = 1 ∧ nth K 1 = nth K 2) ∧ nth K 1 ≠ 5 := of_decide_eq_true h
    rw [e] at hl
    have h3 : K.length = 3 := by have : (K.length : Int) = 3 := hl (by decide) (by decide); omega
    refine ⟨?_, fun _ => by rw [outS, e]; exact h2.2⟩
    rw [len3 h3]
    intro s hs
    rcases List.mem_cons.1 hs with e | hs
    · omega
    rcases List.mem_cons.1 hs with e | hs
    · omega
    · rw [List.mem_singleton.1 hs]; omega
  · simp only [okS, e] at h
    have h2 : K.all numB' = true ∨ (sameK K ∧ (nth K 0 = 4 ∨ wordS (nth K 0))) := of_decide_eq_true h
    refine ⟨?_, fun _ => by rw [outS, e]; exact (by decide : (1 : Int) ≠ 5)⟩
    rcases h2 with h2 | ⟨h2, h3⟩
    · exact all_no5 (g := numB') rfl h2
    · exact same_no5 h2 (by rcases h3 with h3 | h3; · omega
                            · exact word5 h3)
  · simp only [okS, e] at h
    have h2 : K = d.Args := of_decide_eq_true h
    refine ⟨fun s hs => ?_, fun h9 => absurd e h9⟩
    rw [h2] at hs
    rw [hd e s hs]; decide
  · rw [e] at hl; exact ⟨zero (hl (by decide) (by decide)), fun _ => by rw [outS, e]; exact w5 _⟩
  · simp only [okS, e] at h; exact ⟨all_no5 (g := numB') rfl h, fun _ => by rw [outS, e]; exact w5 _⟩
  · simp only [okS, e] at h
    have h2 : numS (nth K 0) := of_decide_eq_true h
    rw [e] at hl
    have h3 : K.length = 1 := by have : (K.length : Int) = 1 := hl (by decide) (by decide); omega
    exact ⟨one_no5 h3 (by unfold numS at h2; omega), fun _ => by rw [outS, e]; exact w5 _⟩
  · simp only [okS, e] at h; exact ⟨all_no5 (g := numB') rfl h, fun _ => by rw [outS, e]; exact (by decide : (1 : Int) ≠ 5)⟩
  · simp only [okS, e] at h; exact ⟨all_no5 (g := numB') rfl h, fun _ => by rw [outS, e]; exact (by decide : (1 : Int) ≠ 5)⟩
  · rw [e] at hl
    exact ⟨zero (hl (by decide) (by decide)), fun _ => by have hh := hD e; rw [outS, e]; show 10 + n.D ≠ 5; omega⟩
  · simp only [okS, e] at h
    have h2 : wordS (nth K 0) := of_decide_eq_true h
    rw [e] at hl
    have h3 : K.length = 1 := by have : (K.length : Int) = 1 := hl (by decide) (by decide); omega
    exact ⟨one_no5 h3 (word5 h2), fun _ => by rw [outS, e]; exact word5 h2⟩
  · simp only [okS, e] at h
    have h2 : sameK K ∧ wordS (nth K 0) := of_decide_eq_true h
    exact ⟨same_no5 h2.1 (word5 h2.2), fun _ => by rw [outS, e]; exact word5 h2.2⟩
  · simp only [okS, e] at h
    have h2 : sameK K ∧ wordS (nth K 0) := of_decide_eq_true h
    exact ⟨same_no5 h2.1 (word5 h2.2), fun _ => by rw [outS, e]; exact word5 h2.2⟩
  · simp only [okS, e] at h
    have h2 : sameK K ∧ wordS (nth K 0) := of_decide_eq_true h
    exact ⟨same_no5 h2.1 (word5 h2.2), fun _ => by rw [outS, e]; exact word5 h2.2⟩
  · simp only [okS, e] at h
    have h2 : sameK K ∧ wordS (nth K 0) := of_decide_eq_true h
    exact ⟨same_no5 h2.1 (word5 h2.2), fun _ => by rw [outS, e]; exact word5 h2.2⟩
  · simp only [okS, e] at h
    have h2 : sameK K ∧ wordS (nth K 0) := of_decide_eq_true h
    exact ⟨same_no5 h2.1 (word5 h2.2), fun _ => by rw [outS, e]; exact word5 h2.2⟩
  · simp only [okS, e] at h
    have h2 : sameK K ∧ wordS (nth K 0) := of_decide_eq_true h
    exact ⟨same_no5 h2.1 (word5 h2.2), fun _ => by rw [outS, e]; exact (by decide : (1 : Int) ≠ 5)⟩
  · simp only [okS, e] at h
    have h2 : wordS (nth K 0) := of_decide_eq_true h
    rw [e] at hl
    have h3 : K.length = 1 := by have : (K.length : Int) = 1 := hl (by decide) (by decide); omega
    exact ⟨one_no5 h3 (word5 h2), fun _ => by rw [outS, e]; exact word5 h2⟩
  · exact absurd e h24
  · exact absurd e h25
theorem out_no4 {n : Node} {K : List Int} {d : Decl} (ho : 1 ≤ n.Op ∧ n.Op ≤ 25) (h9 : ¬ n.Op = 9) (h7 : ¬ n.Op = 7) (h24 : ¬ n.Op = 24) (h25 : ¬ n.Op = 25) (h : okS n K d = true) (hD : n.Op = 15 → 0 ≤ n.D) : outS n K d ≠ 4 := by
  have w4 : ∀ p : Prop, ∀ [Decidable p], wholeS p ≠ 4 := fun p _ => by have := wholeS_rng (p := p); omega
  have word4 : ∀ {s : Int}, wordS s → s ≠ 4 := fun h => by unfold wordS at h; omega
  rcases op25 ho with e | e | e | e | e | e | e | e | e | e | e | e | e | e | e | e | e | e | e | e | e | e | e | e | e
  · rw [outS, e]; exact (by decide : (1 : Int) ≠ 4)
  · rw [outS, e]; exact (by decide : (1 : Int) ≠ 4)
  · rw [outS, e]; exact (by decide : (1 : Int) ≠ 4)
  · rw [outS, e]; exact (by decide : (1 : Int) ≠ 4)
  · rw [outS, e]; exact (by decide : (1 : Int) ≠ 4)
  · rw [outS, e]; exact (by decide : (1 : Int) ≠ 4)
  · exact absurd e h7
  · rw [outS, e]; exact (by decide : (1 : Int) ≠ 4)
  · exact absurd e h9
  · rw [outS, e]; exact w4 _
  · rw [outS, e]; exact w4 _
  · rw [outS, e]; exact w4 _
  · rw [outS, e]; exact (by decide : (1 : Int) ≠ 4)
  · rw [outS, e]; exact (by decide : (1 : Int) ≠ 4)
  · have hh := hD e; rw [outS, e]; show 10 + n.D ≠ 4; omega
  · simp only [okS, e] at h
    have h2 : wordS (nth K 0) := of_decide_eq_true h
    rw [outS, e]; exact word4 h2
  · simp only [okS, e] at h
    have h2 : sameK K ∧ wordS (nth K 0) := of_decide_eq_true h
    rw [outS, e]; exact word4 h2.2
  · simp only [okS, e] at h
    have h2 : sameK K ∧ wordS (nth K 0) := of_decide_eq_true h
    rw [outS, e]; exact word4 h2.2
  · simp only [okS, e] at h
    have h2 : sameK K ∧ wordS (nth K 0) := of_decide_eq_true h
    rw [outS, e]; exact word4 h2.2
  · simp only [okS, e] at h
    have h2 : sameK K ∧ wordS (nth K 0) := of_decide_eq_true h
    rw [outS, e]; exact word4 h2.2
  · simp only [okS, e] at h
    have h2 : sameK K ∧ wordS (nth K 0) := of_decide_eq_true h
    rw [outS, e]; exact word4 h2.2
  · rw [outS, e]; exact (by decide : (1 : Int) ≠ 4)
  · simp only [okS, e] at h
    have h2 : wordS (nth K 0) := of_decide_eq_true h
    rw [outS, e]; exact word4 h2
  · exact absurd e h24
  · exact absurd e h25
end
end Go.Um
namespace Go.Um
def sorts (a : Ask) : List Int := sortsTo a a.Nodes.length
def stepT (a : Ask) (t : Turned) (k : Nat) : Turned :=
  if nth (sorts a) k = 5 then ⟨t.Nodes, t.To ++ [0]⟩
  else if (nth a.Nodes k).Op = 24 then
    ⟨getL a t.To (nth t.To (kidN (nth a.Nodes k) 1)) t.Nodes (kidN (nth a.Nodes k) 0), t.To ++ [((getL a t.To (nth t.To (kidN (nth a.Nodes k) 1)) t.Nodes (kidN (nth a.Nodes k) 0)).length : Int) - 1]⟩
  else ⟨t.Nodes ++ [withKids (nth a.Nodes k) (kidS t.To (nth a.Nodes k).Kids)], t.To ++ [(t.Nodes.length : Int)]⟩
def turnTo (a : Ask) : Nat → Turned
  | 0 => ⟨[], []⟩
  | k + 1 => stepT a (turnTo a k) k
def turned (a : Ask) : Turned := turnTo a a.Nodes.length
def doF (a : Ask) : Int × Int := if (sortsF a).1 ≠ 0 then sortsF a else if 200 < (turned a).Nodes.length then (10, 0) else (0, 0)
def declA (d : Decl) : Decl := if d.Srt = 5 then ⟨d.Name, [4], 4⟩ else d
def doA (a : Ask) : Ask := if (doF a).1 ≠ 0 then ⟨[], [], []⟩ else ⟨a.Decls.map declA, (turned a).Nodes, a.Hold.map fun k => nth (turned a).To k.toNat⟩
section
variable {a : Ask} {k m : Nat} {t : Turned}
theorem stepT_len : t.Nodes.length ≤ (stepT a t k).Nodes.length ∧ (stepT a t k).Nodes.length ≤ t.Nodes.length + 2 * kidN (nth a.Nodes k) 0 + 1 := by
  unfold stepT
  split
  · exact ⟨Nat.le_refl _, by show t.Nodes.length ≤ _; omega⟩
  split
  · exact getL_len _
  · show t.Nodes.length ≤ (t.Nodes ++ [_]).length ∧ _
    rw [List.length_append, List.length_singleton]; omega
theorem stepT_to : (stepT a t k).To.length = t.To.length + 1 := by
  unfold stepT
  split
  · simp
  split <;> simp
theorem turnTo_to : ∀ k, (turnTo a k).To.length = k
  | 0 => rfl
  | k + 1 => by rw [turnTo, stepT_to, turnTo_to k]
theorem turnTo_mono (h : k ≤ m) : (turnTo a k).Nodes.length ≤ (turnTo a m).Nodes.length := by
  induction m with
  | zero => rw [show k = 0 by omega]; exact Nat.le_refl _
  | succ m ih =>
    by_cases hk : k ≤ m
    · exact Nat.le_trans (ih hk) stepT_len.1
    · rw [show k = m + 1 by omega]; exact Nat.le_refl _
theorem stepT_arr (h : nth (sorts a) k = 5) : stepT a t k = ⟨t.Nodes, t.To ++ [0]⟩ := if_pos h
theorem stepT_get (h : ¬ nth (sorts a) k = 5) (h2 : (nth a.Nodes k).Op = 24) : stepT a t k = ⟨getL a t.To (nth t.To (kidN (nth a.Nodes k) 1)) t.Nodes (kidN (nth a.Nodes k) 0), t.To ++ [((getL a t.To (nth t.To (kidN (nth a.Nodes k) 1)) t.Nodes (kidN (nth a.Nodes k) 0)).length : Int) - 1]⟩ := by rw [stepT, if_neg h, if_pos h2]
theorem stepT_flat (h : ¬ nth (sorts a) k = 5) (h2 : ¬ (nth a.Nodes k).Op = 24) : stepT a t k = ⟨t.Nodes ++ [withKids (nth a.Nodes k) (kidS t.To (nth a.Nodes k).Kids)], t.To ++ [(t.Nodes.length : Int)]⟩ := by rw [stepT, if_neg h, if_neg h2]
theorem doF_bad (h : (sortsF a).1 ≠ 0) : doF a = sortsF a := if_pos h
theorem doF_much (h : ¬ (sortsF a).1 ≠ 0) (hk : k ≤ a.Nodes.length) (h2 : 200 < ((turnTo a k).Nodes.length : Int)) : doF a = (10, 0) := by
  have := turnTo_mono (a := a) hk
  rw [doF, if_neg h, if_pos (by unfold turned; omega)]
theorem doF_ok (h : ¬ (sortsF a).1 ≠ 0) (h2 : (turned a).Nodes.length ≤ 200) : doF a = (0, 0) := by rw [doF, if_neg h, if_neg (by omega)]
theorem doF_zero (h : (doF a).1 = 0) : (sortsF a).1 = 0 ∧ (turned a).Nodes.length ≤ 200 := by
  unfold doF at h
  split at h
  · rename_i h1; exact absurd h h1
  rename_i h1
  split at h
  · cases h
  · exact ⟨Decidable.of_not_not h1, by omega⟩
theorem doA_bad (h : (doF a).1 ≠ 0) : doA a = ⟨[], [], []⟩ := if_pos h
theorem doA_ok (h : (doF a).1 = 0) : doA a = ⟨a.Decls.map declA, (turned a).Nodes, a.Hold.map fun k => nth (turned a).To k.toNat⟩ := if_neg (not_not_intro h)
theorem sortsL_eq (h : ¬ (sortsF a).1 ≠ 0) : sortsL a = sorts a := if_neg h
theorem declA_yes {d : Decl} (h : d.Srt = 5) : declA d = ⟨d.Name, [4], 4⟩ := if_pos h
theorem declA_no {d : Decl} (h : ¬ d.Srt = 5) : declA d = d := if_neg h
theorem map_next {α β : Type} [Inhabited α] {f : α → β} {l : List α} (h : k < l.length) : (l.take k).map f ++ [f (nth l k)] = (l.take (k + 1)).map f := by
  rw [take_succ_nth h, List.map_append]; rfl
theorem turn_arr (h : nth (sorts a) k = 5) : (turnTo a (k + 1)).Nodes = (turnTo a k).Nodes ∧ (turnTo a (k + 1)).To = (turnTo a k).To ++ [0] := by rw [turnTo, stepT_arr h]; exact ⟨rfl, rfl⟩
theorem turn_get (h : ¬ nth (sorts a) k = 5) (h2 : (nth a.Nodes k).Op = 24) : (turnTo a (k + 1)).Nodes = getL a (turnTo a k).To (nth (turnTo a k).To (kidN (nth a.Nodes k) 1)) (turnTo a k).Nodes (kidN (nth a.Nodes k) 0) ∧
    (turnTo a (k + 1)).To = (turnTo a k).To ++ [((getL a (turnTo a k).To (nth (turnTo a k).To (kidN (nth a.Nodes k) 1)) (turnTo a k).Nodes (kidN (nth a.Nodes k) 0)).length : Int) - 1] := by rw [turnTo, stepT_get h h2]; exact ⟨rfl, rfl⟩
theorem turn_flat (h : ¬ nth (sorts a) k = 5) (h2 : ¬ (nth a.Nodes k).Op = 24) : (turnTo a (k + 1)).Nodes = (turnTo a k).Nodes ++ [Node.mk (nth a.Nodes k).Op (kidS (turnTo a k).To (nth a.Nodes k).Kids) (nth a.Nodes k).N (nth a.Nodes k).D (nth a.Nodes k).Name] ∧
    (turnTo a (k + 1)).To = (turnTo a k).To ++ [((turnTo a k).Nodes.length : Int)] := by rw [turnTo, stepT_flat h h2]; exact ⟨rfl, rfl⟩
variable (h : AskOk a)
include h
theorem kidS_sorts (hk : k < a.Nodes.length) : kidS (sortsTo a k) (nth a.Nodes k).Kids = kidS (sorts a) (nth a.Nodes k).Kids := by
  unfold kidS
  refine List.map_congr_left fun x hx => ?_
  have := (h.nodes k hk).kids x hx
  exact sortsTo_same (by omega) (by omega)
theorem sort_at (hk : k < a.Nodes.length) : okS (nth a.Nodes k) (kidS (sorts a) (nth a.Nodes k).Kids) (declOf a (nth a.Nodes k)) = true ∧
    nth (sorts a) k = outS (nth a.Nodes k) (kidS (sorts a) (nth a.Nodes k).Kids) (declOf a (nth a.Nodes k)) := by
  have h1 := h.sorts k a.Nodes.length hk (Nat.le_refl _)
  have h2 := (h.nodes k hk).sort
  rw [kidS_sorts h hk] at h1 h2
  have h3 := sortN_ok h2
  exact ⟨h3.1, by unfold sorts at *; rw [h1]; exact h3.2⟩
theorem decl_at (hk : k < a.Nodes.length) (h9 : (nth a.Nodes k).Op = 9) : (findD a.Decls (nth a.Nodes k).Name).toNat < a.Decls.length ∧ DeclOk a.Decls (findD a.Decls (nth a.Nodes k).Name).toNat := by
  have h1 := (h.nodes k hk).found h9
  have h2 := findD_lt (l := a.Decls) (nm := (nth a.Nodes k).Name)
  have h3 : (findD a.Decls (nth a.Nodes k).Name).toNat < a.Decls.length := by omega
  exact ⟨h3, h.decls _ h3⟩
omit h in
theorem args4 {l : List Decl} {i : Nat} (h : DeclOk l i) : ∀ s ∈ (nth l i).Args, s = 4 := by
  intro s hs
  refine Decidable.of_not_not fun hn => ?_
  have h2 := h.args
  unfold argsBad at h2
  rw [List.any_eq_false] at h2
  exact h2 s hs (decide_eq_true hn)
theorem flat_at (hk : k < a.Nodes.length) (h24 : (nth a.Nodes k).Op ≠ 24) (h25 : (nth a.Nodes k).Op ≠ 25) : (∀ s ∈ kidS (sorts a) (nth a.Nodes k).Kids, s ≠ 5) ∧ ((nth a.Nodes k).Op ≠ 9 → nth (sorts a) k ≠ 5) := by
  have hn := h.nodes k hk
  have h1 := sort_at h hk
  have h2 := flat_sort (n := nth a.Nodes k) (K := kidS (sorts a) (nth a.Nodes k).Kids) (d := declOf a (nth a.Nodes k)) hn.op h24 h25 (fun h9 h0 => by
    rw [kidS_len, hn.size (by rw [wantN_no h9]; exact h0), wantN_no h9]) (fun h9 s hs => by
    rw [declOf_yes h9] at hs
    exact args4 (decl_at h hk h9).2 s hs) (fun e => (sort_D (by simp [hn.nums]) e).2) h1.1
  exact ⟨h2.1, fun h9 => by rw [h1.2]; exact h2.2 h9⟩
theorem arr_at (hk : k < a.Nodes.length) (hs : nth (sorts a) k = 5) : (nth a.Nodes k).Op = 9 ∨ ((nth a.Nodes k).Op = 25 ∧ kidS (sorts a) (nth a.Nodes k).Kids = [5, 4, 4]) := by
  have h1 := sort_at h hk
  by_cases h9 : (nth a.Nodes k).Op = 9
  · exact .inl h9
  by_cases h25 : (nth a.Nodes k).Op = 25
  · exact .inr ⟨h25, put_sort h25 h1.1⟩
  by_cases h24 : (nth a.Nodes k).Op = 24
  · rw [h1.2, outS, h24] at hs
    exact absurd hs (by decide : (4 : Int) ≠ 5)
  · exact absurd hs ((flat_at h hk h24 h25).2 h9)
theorem put5 (hk : k < a.Nodes.length) (h25 : (nth a.Nodes k).Op = 25) : nth (sorts a) k = 5 := by
  rw [(sort_at h hk).2, outS, h25]; rfl
theorem got_at (hk : k < a.Nodes.length) (h24 : (nth a.Nodes k).Op = 24) : kidS (sorts a) (nth a.Nodes k).Kids = [5, 4] := get_sort h24 (sort_at h hk).1
theorem flat_kids (hk : k < a.Nodes.length) (hs : nth (sorts a) k ≠ 5) (h24 : (nth a.Nodes k).Op ≠ 24) : ∀ x ∈ (nth a.Nodes k).Kids, nth (sorts a) x.toNat ≠ 5 := by
  intro x hx
  exact (flat_at h hk h24 fun h25 => hs (put5 h hk h25)).1 _ (List.mem_map.2 ⟨x, hx, rfl⟩)
theorem kid_lt (hk : k < a.Nodes.length) {j : Nat} (hj : j < (nth a.Nodes k).Kids.length) : 0 ≤ nth (nth a.Nodes k).Kids j ∧ kidN (nth a.Nodes k) j < k := by
  have := (h.nodes k hk).kids _ (nth_mem hj)
  unfold kidN
  omega
theorem chain_of : ∀ k, k < a.Nodes.length → nth (sorts a) k = 5 → k ≤ m → Chain a m k := by
  intro k
  induction k using Nat.strongRecOn with
  | _ k ih =>
    intro hk hs hm
    rcases arr_at h hk hs with h9 | ⟨h25, hK⟩
    · exact .name hk h9
    · have hl : (nth a.Nodes k).Kids.length = 3 := by
        have := congrArg List.length hK
        rw [kidS_len] at this; exact this
      have h0 := kid_lt h hk (j := 0) (by omega)
      have h1 := kid_lt h hk (j := 1) (by omega)
      have h2 := kid_lt h hk (j := 2) (by omega)
      refine .put hk (by omega) (by omega) (fun j hj => (kid_lt h hk (j := j) (by omega)).1) h0.2 (by omega) (by omega) (ih _ h0.2 (by omega) ?_ (by omega))
      have := nth_kidS (S := sorts a) (l := (nth a.Nodes k).Kids) (j := 0) (by omega)
      rw [hK] at this
      exact this.symm
theorem got_kids (hk : k < a.Nodes.length) (h24 : (nth a.Nodes k).Op = 24) : (nth a.Nodes k).Kids.length = 2 ∧ nth (sorts a) (kidN (nth a.Nodes k) 0) = 5 ∧ nth (sorts a) (kidN (nth a.Nodes k) 1) = 4 := by
  have hK := got_at h hk h24
  have hl : (nth a.Nodes k).Kids.length = 2 := by
    have := congrArg List.length hK
    rw [kidS_len] at this; exact this
  have h0 := nth_kidS (S := sorts a) (l := (nth a.Nodes k).Kids) (j := 0) (by omega)
  have h1 := nth_kidS (S := sorts a) (l := (nth a.Nodes k).Kids) (j := 1) (by omega)
  rw [hK] at h0 h1
  exact ⟨hl, h0.symm, h1.symm⟩
theorem got_chain (hk : k < a.Nodes.length) (h24 : (nth a.Nodes k).Op = 24) (hm : k ≤ m) : Chain a m (kidN (nth a.Nodes k) 0) := by
  have h1 := got_kids h hk h24
  have h2 := kid_lt h hk (j := 0) (by omega)
  exact chain_of h _ (by omega) h1.2.1 (by omega)
end
end Go.Um
namespace Go.Um
def Gone (S : Nat → Prop) (A A' : List Ent) (H H' : Heap) : Prop :=
  (∀ e ∈ A', e.ok (lv S A A') H') ∧ (∀ b, own A' b → own A b ∨ H.size ≤ b) ∧ A'.Pairwise fun e e' => ∀ b, e.blocks b → ¬ e'.blocks b
theorem St.leave3 {H0 H : Heap} {S : Nat → Prop} {A A' : List Ent} (h : St H0 (own A) (fun b => S b ∧ ¬ own A b) A' H) : Gone S A A' H0 H :=
  ⟨h.ok, fun b ⟨e, he, hb⟩ => (h.ge e he b hb).1.symm, h.dj⟩
theorem St.back3 {H0 H H' : Heap} {M S0 : Nat → Prop} {A A' L : List Ent} (h : St H0 M S0 (A ++ L) H) (hx : Ext (own A) H H') (hg : Gone (SL S0 (A ++ L)) A A' H H') : St H0 M S0 (A' ++ L) H' := h.back hx hg.1 hg.2.1 hg.2.2
def nilE : Ent where
  blocks _ := False
  ok _ _ := True
  lt _ h := h.elim
  ext _ _ _ _ := trivial
def whenE (p : Prop) [Decidable p] (e : Ent) : Ent := if p then e else nilE
theorem whenE_no {p : Prop} [Decidable p] {e : Ent} (h : ¬ p) : whenE p e = nilE := if_neg h
def Fresh (S : Nat → Prop) (A' : List Ent) (H H' : Heap) : Prop := (∀ e ∈ A', e.ok (SL (fun b => S b ∧ b < H.size) A') H') ∧ ∀ b, own A' b → H.size ≤ b
theorem Fresh.none {S : Nat → Prop} {p : Prop} [Decidable p] {e : Ent} {H H' : Heap} (h : ¬ p) : Fresh S [whenE p e] H H' := by
  rw [whenE_no h]
  exact ⟨fun e he => by rw [List.mem_singleton.1 he]; exact trivial, fun b hb => by obtain ⟨e, he, hb⟩ := hb; rw [List.mem_singleton.1 he] at hb; exact hb.elim⟩
theorem q_loadBlkP {P : Program} {o : Oper} {f : Fr} {H : Heap} {U : Nat → Prop} {t t' : TypeId} {x : Operand} {g off n : Nat} {cs : Array Value} {ds : List Value} {fr : Nat × Nat} (ho : o.op = .load t x) (hx : ev f x = PT g off) (hE : ∀ w, (isAgg t).run P w = .ok true w)
    (hz : ∀ w, (sizeOf t).run P w = .ok n w) (hn : ds.length = n) (hd : (cs.toList.drop off).take n = ds) (hb : H[g]? = some (.cells cs t' fr)) (hU : ¬ U g) : Quiet P o U f H (.agg ds.toArray) := by
  subst hn
  have h1 := loadS_agg (P := P) (U := U) (H := H) (t := t) (b := g) (o := off) ds hE hz (fun j hj => by
    have h2 : ((cs.toList.drop off).take ds.length)[j]? = ds[j]? := by rw [hd]
    rw [List.getElem?_take, if_pos hj, List.getElem?_drop] at h2
    simp only [hcell, hb]
    rw [← h2]; simp) hU
  exact q_load ho hx h1
end Go.Um
