/- Automata as data. -/
import Derived.Test.YtkhpaklglggagaaUmOpen
import Derived.Test.YtkhpaklglggagaaUmFn
namespace Go.Um
open GoT (sz ag rdc)
open Go.RowKit

structure Auto where
  Signs : Int
  Next : List (List Int)
  Takes : List Bool
  deriving Inhabited

instance instAuto : GoT Auto where
  sz := 3
  bytes := 56
  ag := true
  rdc S H cs x := ∃ vn vt, cs = [I x.Signs, vn, vt] ∧ In64 x.Signs ∧ RdL S H vn x.Next ∧ RdL S H vt x.Takes
  pos := by decide
  one h := by cases h
  len h := by obtain ⟨_, _, rfl, _⟩ := h; rfl
  cell h := by
    obtain ⟨_, _, rfl, _, ⟨_, _, _, _, rfl, _⟩, ⟨_, _, _, _, rfl, _⟩⟩ := h
    simp [Value.oneCell']
  ext h hx hs := by obtain ⟨vn, vt, rfl, h1, h2, h3⟩ := h; exact ⟨vn, vt, rfl, h1, h2.ext hx hs, h3.ext hx hs⟩

theorem Rd.auto {S : Nat → Prop} {H : Heap} {v : Value} {a : Auto} :
    Rd S H v a ↔ ∃ vn vt, v = .agg #[I a.Signs, vn, vt] ∧ In64 a.Signs ∧ Rd S H vn a.Next ∧ Rd S H vt a.Takes := by
  constructor
  · rintro ⟨cs, ⟨vn, vt, rfl, h1, h2, h3⟩, rfl⟩
    exact ⟨vn, vt, rfl, h1, Rd.list.2 h2, Rd.list.2 h3⟩
  · rintro ⟨vn, vt, rfl, h1, h2, h3⟩
    exact ⟨_, ⟨vn, vt, rfl, h1, Rd.list.1 h2, Rd.list.1 h3⟩, rfl⟩

instance limAuto : LimT Auto := ⟨fun a => LimT.lim a.Next ∧ LimT.lim a.Takes⟩

theorem weightsEach_mem {H : Type} {P : Program} {ts : List TypeId} {ds : List (DataW H)} (h : (DataW.weightsEach P ts ds).all (· ≤ reachBytes) = true) {j : Nat} {t : TypeId} {d : DataW H} (ht : ts[j]? = some t) (hd : ds[j]? = some d) :
    (d.weights P t).all (· ≤ reachBytes) = true := weights_cut h ht hd

theorem opAuto3 {P : Program} {t t0 t1 t2 : TypeId} {f0 f1 f2 : Field} (ht : P.underlying t = some (.struct #[f0, f1, f2])) (e0 : f0.type = t0) (e1 : f1.type = t1) (e2 : f2.type = t2)
    (h0 : OpT P t0 Int) (h1 : OpT P t1 (List (List Int))) (h2 : OpT P t2 (List Bool)) (hc : P.cellsOf t = 3) (c0 : P.cellsOf t0 = 1) (c1 : P.cellsOf t1 = 1) (c2 : P.cellsOf t2 = 1)
    (o0 : f0.offset = 0) (o1 : f1.offset = 1) (o2 : f2.offset = 2) : OpT P t Auto where
  go h hw := by
    subst e0 e1 e2
    rename_i fuel cs x
    obtain ⟨xs, n, _, rfl, hl, hlen, hf⟩ := DataW.trod_struct ht h
    match xs, hlen with
    | [y0, y1, y2], _ =>
      rw [hc] at hl
      match cs, hl with
      | [v0, v1, v2], _ =>
        have k0 := hf 0 f0 rfl
        have k1 := hf 1 f1 rfl
        have k2 := hf 2 f2 rfl
        simp only [o0, o1, o2, c0, c1, c2, List.drop_zero, List.drop_succ_cons, List.take_succ_cons, List.take_zero] at k0 k1 k2
        have hw' : (DataW.weightsEach P [f0.type, f1.type, f2.type] [y0.1, y1.1, y2.1]).all (· ≤ reachBytes) = true := by simpa [DataW.weights, ht] using hw
        obtain ⟨a, ⟨ha, hr⟩, _⟩ := h0.go k0 (weights_cut hw' (j := 0) rfl rfl)
        obtain ⟨b, ⟨w1, hb, rb⟩, l1⟩ := h1.go k1 (weights_cut hw' (j := 1) rfl rfl)
        obtain ⟨c, ⟨w2, hc', rc⟩, l2⟩ := h2.go k2 (weights_cut hw' (j := 2) rfl rfl)
        cases ha; cases hb; cases hc'
        exact ⟨⟨a, b, c⟩, ⟨_, _, rfl, hr, rb, rc⟩, l1, l2⟩
  val h := by
    simp only [Value.okWide, ht] at h
    obtain ⟨cs, rfl, _, _⟩ := h
    simp [valOf, Value.cells, ag]

/-! ### What is wrong with one -/

def rowBad (a : Auto) (k : Nat) : Option (Int × Int) :=
  if ((nth a.Next k).length : Int) ≠ a.Signs then some (9, k)
  else if (nth a.Next k).any (fun s => decide (s < 0 ∨ (a.Next.length : Int) ≤ s)) = true then some (3, k) else none
def autoFault (a : Auto) : Int × Int :=
  if a.Signs < 1 ∨ 12 < a.Signs then (3, -1)
  else if (a.Next.length : Int) < 1 ∨ 40 < (a.Next.length : Int) then (2, 0)
  else if (a.Takes.length : Int) ≠ a.Next.length then (9, -1)
  else (fst1 (rowBad a) 0 a.Next.length).getD (0, 0)

structure WF (a : Auto) : Prop where
  signs : 1 ≤ a.Signs ∧ a.Signs ≤ 12
  many : 1 ≤ a.Next.length ∧ a.Next.length ≤ 40
  takes : a.Takes.length = a.Next.length
  rows : ∀ k, k < a.Next.length → ((nth a.Next k).length : Int) = a.Signs
  to : ∀ k, k < a.Next.length → ∀ s ∈ nth a.Next k, 0 ≤ s ∧ s < (a.Next.length : Int)

section
variable {a : Auto}
theorem autoFault_signs (h : a.Signs < 1 ∨ 12 < a.Signs) : autoFault a = (3, -1) := by rw [autoFault, if_pos h]
theorem autoFault_many (h : ¬ (a.Signs < 1 ∨ 12 < a.Signs)) (h2 : (a.Next.length : Int) < 1 ∨ 40 < (a.Next.length : Int)) : autoFault a = (2, 0) := by rw [autoFault, if_neg h, if_pos h2]
theorem autoFault_size (h : ¬ (a.Signs < 1 ∨ 12 < a.Signs)) (h2 : ¬ ((a.Next.length : Int) < 1 ∨ 40 < (a.Next.length : Int))) (h3 : (a.Takes.length : Int) ≠ a.Next.length) : autoFault a = (9, -1) := by
  rw [autoFault, if_neg h, if_neg h2, if_pos h3]
theorem autoFault_row (h : ¬ (a.Signs < 1 ∨ 12 < a.Signs)) (h2 : ¬ ((a.Next.length : Int) < 1 ∨ 40 < (a.Next.length : Int))) (h3 : ¬ (a.Takes.length : Int) ≠ a.Next.length) {k : Nat} {x : Int × Int}
    (hk : k < a.Next.length) (hp : ∀ j, j < k → rowBad a j = none) (hb : rowBad a k = some x) : autoFault a = x := by
  rw [autoFault, if_neg h, if_neg h2, if_neg h3, fst1_some (k := k) hb (Nat.zero_le _) (by omega) fun j _ hj => hp j hj]; rfl
theorem autoFault_ok (h : ¬ (a.Signs < 1 ∨ 12 < a.Signs)) (h2 : ¬ ((a.Next.length : Int) < 1 ∨ 40 < (a.Next.length : Int))) (h3 : ¬ (a.Takes.length : Int) ≠ a.Next.length)
    (hp : ∀ j, j < a.Next.length → rowBad a j = none) : autoFault a = (0, 0) := by
  rw [autoFault, if_neg h, if_neg h2, if_neg h3, fst1_none fun j _ hj => hp j (by omega)]; rfl
theorem rowBad_len {k : Nat} (h : ((nth a.Next k).length : Int) ≠ a.Signs) : rowBad a k = some (9, (k : Int)) := by rw [rowBad, if_pos h]
theorem rowBad_to {k i : Nat} (h : ¬ ((nth a.Next k).length : Int) ≠ a.Signs) (hi : i < (nth a.Next k).length) (hb : nth (nth a.Next k) i < 0 ∨ (a.Next.length : Int) ≤ nth (nth a.Next k) i) : rowBad a k = some (3, (k : Int)) := by
  rw [rowBad, if_neg h, if_pos (List.any_eq_true.2 ⟨_, nth_mem hi, by simpa using hb⟩)]
theorem rowBad_no {k : Nat} (h : ¬ ((nth a.Next k).length : Int) ≠ a.Signs) (hi : ∀ i, i < (nth a.Next k).length → 0 ≤ nth (nth a.Next k) i ∧ nth (nth a.Next k) i < (a.Next.length : Int)) : rowBad a k = none := by
  rw [rowBad, if_neg h, if_neg]
  intro hc
  obtain ⟨x, hx, hg⟩ := List.any_eq_true.1 hc
  obtain ⟨j, hj, rfl⟩ := nth_of_mem hx
  have := hi j hj
  simp at hg
  omega
theorem fst1_neg {β : Type} {g : Nat → Option β} {n i : Nat} (h : fst1 g i n = none) : ∀ j, i ≤ j → j < i + n → g j = none := by
  induction n generalizing i with
  | zero => intro j h1 h2; omega
  | succ n ih =>
    intro j h1 h2
    simp only [fst1] at h
    split at h
    · cases h
    · rename_i h0
      by_cases hj : j = i
      · rw [hj]; exact h0
      · exact ih h j (by omega) (by omega)
theorem rowBad_code {k : Nat} {x : Int × Int} (h : rowBad a k = some x) : x.1 ≠ 0 := by
  unfold rowBad at h
  split at h
  · cases h; simp
  · split at h <;> cases h; simp
theorem fst1_is {β : Type} {g : Nat → Option β} {n i : Nat} {y : β} (h : fst1 g i n = some y) : ∃ j, g j = some y := by
  induction n generalizing i with
  | zero => cases h
  | succ n ih =>
    simp only [fst1] at h
    split at h
    · cases h; exact ⟨i, by assumption⟩
    · exact ih h
theorem WF.of (h : (autoFault a).1 = 0) : WF a := by
  unfold autoFault at h
  split at h
  · cases h
  · split at h
    · cases h
    · split at h
      · cases h
      · rename_i h1 h2 h3
        have hn : fst1 (rowBad a) 0 a.Next.length = none := by
          cases hf : fst1 (rowBad a) 0 a.Next.length with
          | none => rfl
          | some y =>
            obtain ⟨j, hj⟩ := fst1_is hf
            rw [hf] at h
            exact (rowBad_code hj h).elim
        have hr : ∀ k, k < a.Next.length → rowBad a k = none := fun k hk => fst1_neg hn k (Nat.zero_le _) (by omega)
        refine ⟨by omega, by omega, by omega, fun k hk => ?_, fun k hk s hs => ?_⟩
        · have := hr k hk
          unfold rowBad at this
          split at this
          · cases this
          · rename_i h4; exact Decidable.of_not_not h4
        · have := hr k hk
          unfold rowBad at this
          split at this
          · cases this
          · split at this
            · cases this
            · rename_i h5
              refine Decidable.of_not_not fun hc => h5 (List.any_eq_true.2 ⟨s, hs, ?_⟩)
              simp; omega
theorem WF.fault (h : WF a) : autoFault a = (0, 0) := by
  obtain ⟨h1, h2, h3, h4, h5⟩ := h
  exact autoFault_ok (by omega) (by omega) (by omega) fun j hj => rowBad_no (by simpa using h4 j hj) fun i hi => h5 j hj _ (nth_mem hi)
theorem WF.code (h : (autoFault a).1 = 0) : autoFault a = (0, 0) := (WF.of h).fault
end

/-! ### Words -/

def signBad (signs : Int) : Int → Bool := fun c => decide (c < 0 ∨ signs ≤ c)
def textFault (signs : Int) (l : List Int) : Int × Int :=
  if 30 < (l.length : Int) then (2, -2) else if 0 ≤ idxOf (signBad signs) l then (3, -3 - idxOf (signBad signs) l) else (0, 0)
theorem textFault_code {signs : Int} {l : List Int} (h : (textFault signs l).1 = 0) : textFault signs l = (0, 0) ∧ l.length ≤ 30 ∧ ∀ c ∈ l, 0 ≤ c ∧ c < signs := by
  unfold textFault at h ⊢
  split at h
  · cases h
  · split at h
    · cases h
    · rename_i h1 h2
      rw [if_neg h1, if_neg h2]
      refine ⟨rfl, by omega, fun c hc => ?_⟩
      rw [idxOf_any] at h2
      refine Decidable.of_not_not fun hn => h2 (List.any_eq_true.2 ⟨c, hc, ?_⟩)
      simp [signBad]; omega
theorem textFault_many {signs : Int} {l : List Int} (h : 30 < (l.length : Int)) : textFault signs l = (2, -2) := if_pos h
theorem textFault_at {signs : Int} {l : List Int} (h : ¬ 30 < (l.length : Int)) {i : Int} (hi : 0 ≤ i) (h2 : idxOf (signBad signs) l = i) : textFault signs l = (3, -3 - i) := by
  rw [textFault, if_neg h, h2, if_pos hi]
theorem textFault_no {signs : Int} {l : List Int} (h : ¬ 30 < (l.length : Int)) (h2 : ¬ 0 ≤ idxOf (signBad signs) l) : textFault signs l = (0, 0) := by
  rw [textFault, if_neg h, if_neg h2]
theorem textFault_none {signs : Int} {l : List Int} (h : ¬ 30 < (l.length : Int)) (h2 : ∀ j, j < l.length → signBad signs (nth l j) = false) : textFault signs l = (0, 0) :=
  textFault_no h (by rw [idxOf_no h2]; omega)
theorem signBad_no {signs c : Int} (h : ¬ (c < 0 ∨ signs ≤ c)) : signBad signs c = false := by simpa [signBad] using h
theorem signBad_is {signs c : Int} (h : c < 0 ∨ signs ≤ c) : signBad signs c = true := by simpa [signBad] using h
def stepA (a : Auto) (s c : Int) : Int := nth (nth a.Next s.toNat) c.toNat
def runA (a : Auto) (s : Int) (l : List Int) : Int := l.foldl (stepA a) s
def takesA (a : Auto) (s : Int) (l : List Int) : Bool := nth a.Takes (runA a s l).toNat

theorem WF.step {a : Auto} (h : WF a) {s c : Int} (hs : 0 ≤ s ∧ s < (a.Next.length : Int)) (hc : 0 ≤ c ∧ c < a.Signs) : 0 ≤ stepA a s c ∧ stepA a s c < (a.Next.length : Int) := by
  have h1 : s.toNat < a.Next.length := by omega
  exact h.to _ h1 _ (nth_mem (by have := h.rows _ h1; omega))
theorem WF.run {a : Auto} (h : WF a) {l : List Int} (hl : ∀ c ∈ l, 0 ≤ c ∧ c < a.Signs) : ∀ {s : Int}, 0 ≤ s ∧ s < (a.Next.length : Int) → 0 ≤ runA a s l ∧ runA a s l < (a.Next.length : Int) := by
  induction l with
  | nil => intro s hs; exact hs
  | cons c l ih => intro s hs; exact ih (fun c hc => hl c (List.mem_cons_of_mem _ hc)) (h.step hs (hl c (List.mem_cons_self ..)))
theorem runA_take {a : Auto} {s : Int} {l : List Int} {k : Nat} (hk : k < l.length) : runA a s (l.take (k + 1)) = stepA a (runA a s (l.take k)) (nth l k) := by
  rw [take_succ_nth hk, runA, List.foldl_append]; rfl

theorem takesA_nil {a : Auto} {s : Int} {l : List Int} (h : l.length = 0) : takesA a s l = nth a.Takes s.toNat := by
  rw [List.length_eq_zero_iff.1 h]; rfl
theorem takesA_cons {a : Auto} {s : Int} {l : List Int} (h : 0 < l.length) : takesA a s l = takesA a (stepA a s (nth l 0)) (l.drop 1) := by
  rw [takesA, runA, nth_zero h]; rfl
def autoTakes (a : Auto) (l : List Int) : Bool × Int × Int :=
  if (autoFault a).1 ≠ 0 then (false, autoFault a) else if (textFault a.Signs l).1 ≠ 0 then (false, textFault a.Signs l) else (takesA a 0 l, 0, 0)
def autoNot (a : Auto) : Auto × Int × Int :=
  if (autoFault a).1 ≠ 0 then (⟨0, [], []⟩, autoFault a) else (⟨a.Signs, a.Next, a.Takes.map (!·)⟩, 0, 0)
theorem autoTakes_snd {a : Auto} {l : List Int} (h : (autoFault a).1 = 0) : (autoTakes a l).2 = textFault a.Signs l := by
  rw [autoTakes, if_neg (fun h' => h' h)]
  split
  · rfl
  · rename_i h2; exact (textFault_code (Decidable.of_not_not h2)).1.symm
theorem autoTakes_yes {a : Auto} {l : List Int} (h : (autoFault a).1 = 0) (h2 : (textFault a.Signs l).1 = 0) : (autoTakes a l).1 = takesA a 0 l := by
  rw [autoTakes, if_neg (fun h' => h' h), if_neg (fun h' => h' h2)]
theorem autoTakes_no {a : Auto} {l : List Int} (h : (autoFault a).1 = 0) (h2 : ¬ (textFault a.Signs l).1 = 0) : (autoTakes a l).1 = false := by
  rw [autoTakes, if_neg (fun h' => h' h), if_pos h2]
theorem nth_map_not {l : List Bool} {k : Nat} (h : k < l.length) : nth (l.map (!·)) k = !nth l k := by
  rw [nth_eq h, nth_eq (by simpa using h), List.getElem_map]
end Go.Um
