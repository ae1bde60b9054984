/- Transition systems as data. -/
import Derived.Test.YtfgibfbgklkgbaaUmOpen
import Derived.Test.YtfgibfbgklkgbaaUmFn
namespace Go.Um
open GoT (sz ag rdc)
open Go.RowKit

structure LRow where
  Of : List Int
  Kind : Int
  To : Int
  deriving Inhabited, DecidableEq

instance instLRow : GoT LRow where
  sz := 3
  bytes := 40
  ag := true
  rdc S H cs x := ∃ v0, cs = [v0, I x.Kind, I x.To] ∧ RdL S H v0 x.Of ∧ In64 x.Kind ∧ In64 x.To
  pos := by decide
  one h := by cases h
  len h := by obtain ⟨_, rfl, _⟩ := h; rfl
  cell h := by
    obtain ⟨_, rfl, ⟨_, _, _, _, rfl, _⟩, _, _⟩ := h
    simp [Value.oneCell']
  ext h hx hs := by obtain ⟨v0, rfl, h0, h1, h2⟩ := h; exact ⟨v0, rfl, h0.ext hx hs, h1, h2⟩

theorem Rd.lRow {S : Nat → Prop} {H : Heap} {v : Value} {a : LRow} :
    Rd S H v a ↔ ∃ v0, v = .agg #[v0, I a.Kind, I a.To] ∧ Rd S H v0 a.Of ∧ In64 a.Kind ∧ In64 a.To := by
  constructor
  · rintro ⟨cs, ⟨v0, rfl, h0, h1, h2⟩, rfl⟩
    exact ⟨v0, rfl, Rd.list.2 h0, h1, h2⟩
  · rintro ⟨v0, rfl, h0, h1, h2⟩
    exact ⟨_, ⟨v0, rfl, Rd.list.1 h0, h1, h2⟩, rfl⟩

instance limLRow : LimT LRow := ⟨fun a => LimT.lim a.Of⟩

theorem opLRow {P : Program} {t t0 t1 t2 : TypeId} {f0 f1 f2 : Field} (ht : P.underlying t = some (.struct #[f0, f1, f2])) (e0 : f0.type = t0) (e1 : f1.type = t1) (e2 : f2.type = t2)
    (h0 : OpT P t0 (List Int)) (h1 : OpT P t1 Int) (h2 : OpT P t2 Int) (hc : P.cellsOf t = 3) (c0 : P.cellsOf t0 = 1) (c1 : P.cellsOf t1 = 1) (c2 : P.cellsOf t2 = 1)
    (o0 : f0.offset = 0) (o1 : f1.offset = 1) (o2 : f2.offset = 2) : OpT P t LRow where
  go h hw := by
    subst e0 e1 e2
    rename_i fuel cs x
    obtain ⟨xs, n, _, rfl, hl, hlen, hf⟩ := DataW.trod_struct ht h
    match xs, hlen with
    | [y0, y1, y2], _ =>
      rw [hc] at hl
      match cs, hl with
      | [u0, u1, u2], _ =>
        have k0 := hf 0 f0 rfl
        have k1 := hf 1 f1 rfl
        have k2 := hf 2 f2 rfl
        simp only [o0, o1, o2, c0, c1, c2, List.drop_zero, List.drop_succ_cons, List.take_succ_cons, List.take_zero] at k0 k1 k2
        have hw' : (DataW.weightsEach P [f0.type, f1.type, f2.type] [y0.1, y1.1, y2.1]).all (· ≤ reachBytes) = true := by simpa [DataW.weights, ht] using hw
        obtain ⟨a0, ⟨w0, ha0, r0⟩, l0⟩ := h0.go k0 (weights_cut hw' (j := 0) rfl rfl)
        obtain ⟨a1, ⟨ha1, r1⟩, _⟩ := h1.go k1 (weights_cut hw' (j := 1) rfl rfl)
        obtain ⟨a2, ⟨ha2, r2⟩, _⟩ := h2.go k2 (weights_cut hw' (j := 2) rfl rfl)
        cases ha0; cases ha1; cases ha2
        exact ⟨⟨a0, a1, a2⟩, ⟨_, rfl, r0, r1, r2⟩, l0⟩
  val h := by
    simp only [Value.okWide, ht] at h
    obtain ⟨cs, rfl, _, _⟩ := h
    simp [valOf, Value.cells, ag]

structure Jump where
  When : List LRow
  To : List (List Int)
  deriving Inhabited, DecidableEq

instance instJump : GoT Jump where
  sz := 2
  bytes := 48
  ag := true
  rdc S H cs x := ∃ v0 v1, cs = [v0, v1] ∧ RdL S H v0 x.When ∧ RdL S H v1 x.To
  pos := by decide
  one h := by cases h
  len h := by obtain ⟨_, _, rfl, _⟩ := h; rfl
  cell h := by
    obtain ⟨_, _, rfl, ⟨_, _, _, _, rfl, _⟩, ⟨_, _, _, _, rfl, _⟩⟩ := h
    simp [Value.oneCell']
  ext h hx hs := by obtain ⟨v0, v1, rfl, h0, h1⟩ := h; exact ⟨v0, v1, rfl, h0.ext hx hs, h1.ext hx hs⟩

theorem Rd.jump {S : Nat → Prop} {H : Heap} {v : Value} {a : Jump} :
    Rd S H v a ↔ ∃ v0 v1, v = .agg #[v0, v1] ∧ Rd S H v0 a.When ∧ Rd S H v1 a.To := by
  constructor
  · rintro ⟨cs, ⟨v0, v1, rfl, h0, h1⟩, rfl⟩
    exact ⟨v0, v1, rfl, Rd.list.2 h0, Rd.list.2 h1⟩
  · rintro ⟨v0, v1, rfl, h0, h1⟩
    exact ⟨_, ⟨v0, v1, rfl, Rd.list.1 h0, Rd.list.1 h1⟩, rfl⟩

instance limJump : LimT Jump := ⟨fun a => LimT.lim a.When ∧ LimT.lim a.To⟩

theorem opJump {P : Program} {t t0 t1 : TypeId} {f0 f1 : Field} (ht : P.underlying t = some (.struct #[f0, f1])) (e0 : f0.type = t0) (e1 : f1.type = t1)
    (h0 : OpT P t0 (List LRow)) (h1 : OpT P t1 (List (List Int))) (hc : P.cellsOf t = 2) (c0 : P.cellsOf t0 = 1) (c1 : P.cellsOf t1 = 1)
    (o0 : f0.offset = 0) (o1 : f1.offset = 1) : OpT P t Jump where
  go h hw := by
    subst e0 e1
    rename_i fuel cs x
    obtain ⟨xs, n, _, rfl, hl, hlen, hf⟩ := DataW.trod_struct ht h
    match xs, hlen with
    | [y0, y1], _ =>
      rw [hc] at hl
      match cs, hl with
      | [u0, u1], _ =>
        have k0 := hf 0 f0 rfl
        have k1 := hf 1 f1 rfl
        simp only [o0, o1, c0, c1, List.drop_zero, List.drop_succ_cons, List.take_succ_cons, List.take_zero] at k0 k1
        have hw' : (DataW.weightsEach P [f0.type, f1.type] [y0.1, y1.1]).all (· ≤ reachBytes) = true := by simpa [DataW.weights, ht] using hw
        obtain ⟨a0, ⟨w0, ha0, r0⟩, l0⟩ := h0.go k0 (weights_cut hw' (j := 0) rfl rfl)
        obtain ⟨a1, ⟨w1, ha1, r1⟩, l1⟩ := h1.go k1 (weights_cut hw' (j := 1) rfl rfl)
        cases ha0; cases ha1
        exact ⟨⟨a0, a1⟩, ⟨_, _, rfl, r0, r1⟩, l0, l1⟩
  val h := by
    simp only [Value.okWide, ht] at h
    obtain ⟨cs, rfl, _, _⟩ := h
    simp [valOf, Value.cells, ag]

structure Loop where
  Low : List Int
  High : List Int
  Start : List LRow
  Jumps : List Jump
  Bad : List LRow
  deriving Inhabited, DecidableEq

instance instLoop : GoT Loop where
  sz := 5
  bytes := 120
  ag := true
  rdc S H cs x := ∃ v0 v1 v2 v3 v4, cs = [v0, v1, v2, v3, v4] ∧ RdL S H v0 x.Low ∧ RdL S H v1 x.High ∧ RdL S H v2 x.Start ∧ RdL S H v3 x.Jumps ∧ RdL S H v4 x.Bad
  pos := by decide
  one h := by cases h
  len h := by obtain ⟨_, _, _, _, _, rfl, _⟩ := h; rfl
  cell h := by
    obtain ⟨_, _, _, _, _, rfl, ⟨_, _, _, _, rfl, _⟩, ⟨_, _, _, _, rfl, _⟩, ⟨_, _, _, _, rfl, _⟩, ⟨_, _, _, _, rfl, _⟩, ⟨_, _, _, _, rfl, _⟩⟩ := h
    simp [Value.oneCell']
  ext h hx hs := by obtain ⟨v0, v1, v2, v3, v4, rfl, h0, h1, h2, h3, h4⟩ := h; exact ⟨v0, v1, v2, v3, v4, rfl, h0.ext hx hs, h1.ext hx hs, h2.ext hx hs, h3.ext hx hs, h4.ext hx hs⟩

theorem Rd.loop {S : Nat → Prop} {H : Heap} {v : Value} {a : Loop} :
    Rd S H v a ↔ ∃ v0 v1 v2 v3 v4, v = .agg #[v0, v1, v2, v3, v4] ∧ Rd S H v0 a.Low ∧ Rd S H v1 a.High ∧ Rd S H v2 a.Start ∧ Rd S H v3 a.Jumps ∧ Rd S H v4 a.Bad := by
  constructor
  · rintro ⟨cs, ⟨v0, v1, v2, v3, v4, rfl, h0, h1, h2, h3, h4⟩, rfl⟩
    exact ⟨v0, v1, v2, v3, v4, rfl, Rd.list.2 h0, Rd.list.2 h1, Rd.list.2 h2, Rd.list.2 h3, Rd.list.2 h4⟩
  · rintro ⟨v0, v1, v2, v3, v4, rfl, h0, h1, h2, h3, h4⟩
    exact ⟨_, ⟨v0, v1, v2, v3, v4, rfl, Rd.list.1 h0, Rd.list.1 h1, Rd.list.1 h2, Rd.list.1 h3, Rd.list.1 h4⟩, rfl⟩

instance limLoop : LimT Loop := ⟨fun a => LimT.lim a.Low ∧ LimT.lim a.High ∧ LimT.lim a.Start ∧ LimT.lim a.Jumps ∧ LimT.lim a.Bad⟩

theorem opLoop {P : Program} {t t0 t1 t2 t3 t4 : TypeId} {f0 f1 f2 f3 f4 : Field} (ht : P.underlying t = some (.struct #[f0, f1, f2, f3, f4])) (e0 : f0.type = t0) (e1 : f1.type = t1) (e2 : f2.type = t2) (e3 : f3.type = t3) (e4 : f4.type = t4)
    (h0 : OpT P t0 (List Int)) (h1 : OpT P t1 (List Int)) (h2 : OpT P t2 (List LRow)) (h3 : OpT P t3 (List Jump)) (h4 : OpT P t4 (List LRow)) (hc : P.cellsOf t = 5) (c0 : P.cellsOf t0 = 1) (c1 : P.cellsOf t1 = 1) (c2 : P.cellsOf t2 = 1) (c3 : P.cellsOf t3 = 1) (c4 : P.cellsOf t4 = 1)
    (o0 : f0.offset = 0) (o1 : f1.offset = 1) (o2 : f2.offset = 2) (o3 : f3.offset = 3) (o4 : f4.offset = 4) : OpT P t Loop where
  go h hw := by
    subst e0 e1 e2 e3 e4
    rename_i fuel cs x
    obtain ⟨xs, n, _, rfl, hl, hlen, hf⟩ := DataW.trod_struct ht h
    match xs, hlen with
    | [y0, y1, y2, y3, y4], _ =>
      rw [hc] at hl
      match cs, hl with
      | [u0, u1, u2, u3, u4], _ =>
        have k0 := hf 0 f0 rfl
        have k1 := hf 1 f1 rfl
        have k2 := hf 2 f2 rfl
        have k3 := hf 3 f3 rfl
        have k4 := hf 4 f4 rfl
        simp only [o0, o1, o2, o3, o4, c0, c1, c2, c3, c4, List.drop_zero, List.drop_succ_cons, List.take_succ_cons, List.take_zero] at k0 k1 k2 k3 k4
        have hw' : (DataW.weightsEach P [f0.type, f1.type, f2.type, f3.type, f4.type] [y0.1, y1.1, y2.1, y3.1, y4.1]).all (· ≤ reachBytes) = true := by simpa [DataW.weights, ht] using hw
        obtain ⟨a0, ⟨w0, ha0, r0⟩, l0⟩ := h0.go k0 (weights_cut hw' (j := 0) rfl rfl)
        obtain ⟨a1, ⟨w1, ha1, r1⟩, l1⟩ := h1.go k1 (weights_cut hw' (j := 1) rfl rfl)
        obtain ⟨a2, ⟨w2, ha2, r2⟩, l2⟩ := h2.go k2 (weights_cut hw' (j := 2) rfl rfl)
        obtain ⟨a3, ⟨w3, ha3, r3⟩, l3⟩ := h3.go k3 (weights_cut hw' (j := 3) rfl rfl)
        obtain ⟨a4, ⟨w4, ha4, r4⟩, l4⟩ := h4.go k4 (weights_cut hw' (j := 4) rfl rfl)
        cases ha0; cases ha1; cases ha2; cases ha3; cases ha4
        exact ⟨⟨a0, a1, a2, a3, a4⟩, ⟨_, _, _, _, _, rfl, r0, r1, r2, r3, r4⟩, l0, l1, l2, l3, l4⟩
  val h := by
    simp only [Value.okWide, ht] at h
    obtain ⟨cs, rfl, _, _⟩ := h
    simp [valOf, Value.cells, ag]
end Go.Um
