/- Problems of planning as data. -/
import Derived.Test.YtpdcejallbbncaaUmOpen
import Derived.Test.YtpdcejallbbncaaUmFn
namespace Go.Um
open GoT (sz ag rdc)
open Go.RowKit

structure Act where
  Need : List Int
  Bar : List Int
  Add : List Int
  Drop : List Int
  deriving Inhabited, DecidableEq

instance instAct : GoT Act where
  sz := 4
  bytes := 96
  ag := true
  rdc S H cs x := ∃ v0 v1 v2 v3, cs = [v0, v1, v2, v3] ∧ RdL S H v0 x.Need ∧ RdL S H v1 x.Bar ∧ RdL S H v2 x.Add ∧ RdL S H v3 x.Drop
  pos := by decide
  one h := by cases h
  len h := by obtain ⟨_, _, _, _, rfl, _⟩ := h; rfl
  cell h := by
    obtain ⟨_, _, _, _, rfl, ⟨_, _, _, _, rfl, _⟩, ⟨_, _, _, _, rfl, _⟩, ⟨_, _, _, _, rfl, _⟩, ⟨_, _, _, _, rfl, _⟩⟩ := h
    simp [Value.oneCell']
  ext h hx hs := by obtain ⟨v0, v1, v2, v3, rfl, h0, h1, h2, h3⟩ := h; exact ⟨v0, v1, v2, v3, rfl, h0.ext hx hs, h1.ext hx hs, h2.ext hx hs, h3.ext hx hs⟩

theorem Rd.act {S : Nat → Prop} {H : Heap} {v : Value} {a : Act} :
    Rd S H v a ↔ ∃ v0 v1 v2 v3, v = .agg #[v0, v1, v2, v3] ∧ Rd S H v0 a.Need ∧ Rd S H v1 a.Bar ∧ Rd S H v2 a.Add ∧ Rd S H v3 a.Drop := by
  constructor
  · rintro ⟨cs, ⟨v0, v1, v2, v3, rfl, h0, h1, h2, h3⟩, rfl⟩
    exact ⟨v0, v1, v2, v3, rfl, Rd.list.2 h0, Rd.list.2 h1, Rd.list.2 h2, Rd.list.2 h3⟩
  · rintro ⟨v0, v1, v2, v3, rfl, h0, h1, h2, h3⟩
    exact ⟨_, ⟨v0, v1, v2, v3, rfl, Rd.list.1 h0, Rd.list.1 h1, Rd.list.1 h2, Rd.list.1 h3⟩, rfl⟩

instance limAct : LimT Act := ⟨fun a => LimT.lim a.Need ∧ LimT.lim a.Bar ∧ LimT.lim a.Add ∧ LimT.lim a.Drop⟩

theorem opAct {P : Program} {t t0 t1 t2 t3 : TypeId} {f0 f1 f2 f3 : Field} (ht : P.underlying t = some (.struct #[f0, f1, f2, f3])) (e0 : f0.type = t0) (e1 : f1.type = t1) (e2 : f2.type = t2) (e3 : f3.type = t3)
    (h0 : OpT P t0 (List Int)) (h1 : OpT P t1 (List Int)) (h2 : OpT P t2 (List Int)) (h3 : OpT P t3 (List Int)) (hc : P.cellsOf t = 4) (c0 : P.cellsOf t0 = 1) (c1 : P.cellsOf t1 = 1) (c2 : P.cellsOf t2 = 1) (c3 : P.cellsOf t3 = 1)
    (o0 : f0.offset = 0) (o1 : f1.offset = 1) (o2 : f2.offset = 2) (o3 : f3.offset = 3) : OpT P t Act where
  go h hw := by
    subst e0 e1 e2 e3
    rename_i fuel cs x
    obtain ⟨xs, n, _, rfl, hl, hlen, hf⟩ := DataW.trod_struct ht h
    match xs, hlen with
    | [y0, y1, y2, y3], _ =>
      rw [hc] at hl
      match cs, hl with
      | [u0, u1, u2, u3], _ =>
        have k0 := hf 0 f0 rfl
        have k1 := hf 1 f1 rfl
        have k2 := hf 2 f2 rfl
        have k3 := hf 3 f3 rfl
        simp only [o0, o1, o2, o3, c0, c1, c2, c3, List.drop_zero, List.drop_succ_cons, List.take_succ_cons, List.take_zero] at k0 k1 k2 k3
        have hw' : (DataW.weightsEach P [f0.type, f1.type, f2.type, f3.type] [y0.1, y1.1, y2.1, y3.1]).all (· ≤ reachBytes) = true := by simpa [DataW.weights, ht] using hw
        obtain ⟨a0, ⟨w0, ha0, r0⟩, l0⟩ := h0.go k0 (weights_cut hw' (j := 0) rfl rfl)
        obtain ⟨a1, ⟨w1, ha1, r1⟩, l1⟩ := h1.go k1 (weights_cut hw' (j := 1) rfl rfl)
        obtain ⟨a2, ⟨w2, ha2, r2⟩, l2⟩ := h2.go k2 (weights_cut hw' (j := 2) rfl rfl)
        obtain ⟨a3, ⟨w3, ha3, r3⟩, l3⟩ := h3.go k3 (weights_cut hw' (j := 3) rfl rfl)
        cases ha0; cases ha1; cases ha2; cases ha3
        exact ⟨⟨a0, a1, a2, a3⟩, ⟨_, _, _, _, rfl, r0, r1, r2, r3⟩, l0, l1, l2, l3⟩
  val h := by
    simp only [Value.okWide, ht] at h
    obtain ⟨cs, rfl, _, _⟩ := h
    simp [valOf, Value.cells, ag]

structure Quest where
  Facts : Int
  First : List Int
  Goal : List Int
  Acts : List Act
  deriving Inhabited, DecidableEq

instance instQuest : GoT Quest where
  sz := 4
  bytes := 80
  ag := true
  rdc S H cs x := ∃ v1 v2 v3, cs = [I x.Facts, v1, v2, v3] ∧ In64 x.Facts ∧ RdL S H v1 x.First ∧ RdL S H v2 x.Goal ∧ RdL S H v3 x.Acts
  pos := by decide
  one h := by cases h
  len h := by obtain ⟨_, _, _, rfl, _⟩ := h; rfl
  cell h := by
    obtain ⟨_, _, _, rfl, _, ⟨_, _, _, _, rfl, _⟩, ⟨_, _, _, _, rfl, _⟩, ⟨_, _, _, _, rfl, _⟩⟩ := h
    simp [Value.oneCell']
  ext h hx hs := by obtain ⟨v1, v2, v3, rfl, h0, h1, h2, h3⟩ := h; exact ⟨v1, v2, v3, rfl, h0, h1.ext hx hs, h2.ext hx hs, h3.ext hx hs⟩

theorem Rd.quest {S : Nat → Prop} {H : Heap} {v : Value} {a : Quest} :
    Rd S H v a ↔ ∃ v1 v2 v3, v = .agg #[I a.Facts, v1, v2, v3] ∧ In64 a.Facts ∧ Rd S H v1 a.First ∧ Rd S H v2 a.Goal ∧ Rd S H v3 a.Acts := by
  constructor
  · rintro ⟨cs, ⟨v1, v2, v3, rfl, h0, h1, h2, h3⟩, rfl⟩
    exact ⟨v1, v2, v3, rfl, h0, Rd.list.2 h1, Rd.list.2 h2, Rd.list.2 h3⟩
  · rintro ⟨v1, v2, v3, rfl, h0, h1, h2, h3⟩
    exact ⟨_, ⟨v1, v2, v3, rfl, h0, Rd.list.1 h1, Rd.list.1 h2, Rd.list.1 h3⟩, rfl⟩

instance limQuest : LimT Quest := ⟨fun a => LimT.lim a.First ∧ LimT.lim a.Goal ∧ LimT.lim a.Acts⟩

theorem opQuest {P : Program} {t t0 t1 t2 t3 : TypeId} {f0 f1 f2 f3 : Field} (ht : P.underlying t = some (.struct #[f0, f1, f2, f3])) (e0 : f0.type = t0) (e1 : f1.type = t1) (e2 : f2.type = t2) (e3 : f3.type = t3)
    (h0 : OpT P t0 Int) (h1 : OpT P t1 (List Int)) (h2 : OpT P t2 (List Int)) (h3 : OpT P t3 (List Act)) (hc : P.cellsOf t = 4) (c0 : P.cellsOf t0 = 1) (c1 : P.cellsOf t1 = 1) (c2 : P.cellsOf t2 = 1) (c3 : P.cellsOf t3 = 1)
    (o0 : f0.offset = 0) (o1 : f1.offset = 1) (o2 : f2.offset = 2) (o3 : f3.offset = 3) : OpT P t Quest where
  go h hw := by
    subst e0 e1 e2 e3
    rename_i fuel cs x
    obtain ⟨xs, n, _, rfl, hl, hlen, hf⟩ := DataW.trod_struct ht h
    match xs, hlen with
    | [y0, y1, y2, y3], _ =>
      rw [hc] at hl
      match cs, hl with
      | [u0, u1, u2, u3], _ =>
        have k0 := hf 0 f0 rfl
        have k1 := hf 1 f1 rfl
        have k2 := hf 2 f2 rfl
        have k3 := hf 3 f3 rfl
        simp only [o0, o1, o2, o3, c0, c1, c2, c3, List.drop_zero, List.drop_succ_cons, List.take_succ_cons, List.take_zero] at k0 k1 k2 k3
        have hw' : (DataW.weightsEach P [f0.type, f1.type, f2.type, f3.type] [y0.1, y1.1, y2.1, y3.1]).all (· ≤ reachBytes) = true := by simpa [DataW.weights, ht] using hw
        obtain ⟨a0, ⟨ha0, r0⟩, _⟩ := h0.go k0 (weights_cut hw' (j := 0) rfl rfl)
        obtain ⟨a1, ⟨w1, ha1, r1⟩, l1⟩ := h1.go k1 (weights_cut hw' (j := 1) rfl rfl)
        obtain ⟨a2, ⟨w2, ha2, r2⟩, l2⟩ := h2.go k2 (weights_cut hw' (j := 2) rfl rfl)
        obtain ⟨a3, ⟨w3, ha3, r3⟩, l3⟩ := h3.go k3 (weights_cut hw' (j := 3) rfl rfl)
        cases ha0; cases ha1; cases ha2; cases ha3
        exact ⟨⟨a0, a1, a2, a3⟩, ⟨_, _, _, rfl, r0, r1, r2, r3⟩, l1, l2, l3⟩
  val h := by
    simp only [Value.okWide, ht] at h
    obtain ⟨cs, rfl, _, _⟩ := h
    simp [valOf, Value.cells, ag]
end Go.Um
