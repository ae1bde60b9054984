/- Questions as data. -/
import Derived.Test.YtacphjgolmolmaaUmOpen
import Derived.Test.YtacphjgolmolmaaUmFn
import Derived.Test.YtacphjgolmolmaaUmStr
namespace Go.Um
open GoT (sz ag rdc)
open Go.RowKit

structure Decl where
  Name : Str
  Args : List Int
  Srt : Int
  deriving Inhabited, DecidableEq

instance instDecl : GoT Decl where
  sz := 3
  bytes := 48
  ag := true
  rdc S H cs x := ∃ v1, cs = [SB x.Name, v1, I x.Srt] ∧ x.Name.size ≤ maxLen ∧ RdL S H v1 x.Args ∧ In64 x.Srt
  pos := by decide
  one h := by cases h
  len h := by obtain ⟨_, rfl, _⟩ := h; rfl
  cell h := by
    obtain ⟨_, rfl, _, ⟨_, _, _, _, rfl, _⟩, _⟩ := h
    simp [Value.oneCell']
  ext h hx hs := by obtain ⟨v1, rfl, h0, h1, h2⟩ := h; exact ⟨v1, rfl, h0, h1.ext hx hs, h2⟩

theorem Rd.decl {S : Nat → Prop} {H : Heap} {v : Value} {a : Decl} :
    Rd S H v a ↔ ∃ v1, v = .agg #[SB a.Name, v1, I a.Srt] ∧ a.Name.size ≤ maxLen ∧ Rd S H v1 a.Args ∧ In64 a.Srt := by
  constructor
  · rintro ⟨cs, ⟨v1, rfl, h0, h1, h2⟩, rfl⟩
    exact ⟨v1, rfl, h0, Rd.list.2 h1, h2⟩
  · rintro ⟨v1, rfl, h0, h1, h2⟩
    exact ⟨_, ⟨v1, rfl, h0, Rd.list.1 h1, h2⟩, rfl⟩

instance limDecl : LimT Decl := ⟨fun a => LimT.lim a.Args⟩

theorem opDecl {P : Program} {t t0 t1 t2 : TypeId} {f0 f1 f2 : Field} (ht : P.underlying t = some (.struct #[f0, f1, f2])) (e0 : f0.type = t0) (e1 : f1.type = t1) (e2 : f2.type = t2)
    (h0 : OpT P t0 Str) (h1 : OpT P t1 (List Int)) (h2 : OpT P t2 Int) (hc : P.cellsOf t = 3) (c0 : P.cellsOf t0 = 1) (c1 : P.cellsOf t1 = 1) (c2 : P.cellsOf t2 = 1)
    (o0 : f0.offset = 0) (o1 : f1.offset = 1) (o2 : f2.offset = 2) : OpT P t Decl where
  go h hw := by
    subst e0 e1 e2
    rename_i fuel cs x
    obtain ⟨xs, n, _, rfl, hl, hlen, hf⟩ := DataW.trod_struct ht h
    match xs, hlen with
    | [y0, y1, y2], _ =>
      rw [hc] at hl
      match cs, hl with
      | [u0, u1, u2], _ =>
        have k0 := hf 0 f0 rfl
        have k1 := hf 1 f1 rfl
        have k2 := hf 2 f2 rfl
        simp only [o0, o1, o2, c0, c1, c2, List.drop_zero, List.drop_succ_cons, List.take_succ_cons, List.take_zero] at k0 k1 k2
        have hw' : (DataW.weightsEach P [f0.type, f1.type, f2.type] [y0.1, y1.1, y2.1]).all (· ≤ reachBytes) = true := by simpa [DataW.weights, ht] using hw
        obtain ⟨a0, ⟨ha0, r0⟩, _⟩ := h0.go k0 (weights_cut hw' (j := 0) rfl rfl)
        obtain ⟨a1, ⟨w1, ha1, r1⟩, l1⟩ := h1.go k1 (weights_cut hw' (j := 1) rfl rfl)
        obtain ⟨a2, ⟨ha2, r2⟩, _⟩ := h2.go k2 (weights_cut hw' (j := 2) rfl rfl)
        cases ha0; cases ha1; cases ha2
        exact ⟨⟨a0, a1, a2⟩, ⟨_, rfl, r0, r1, r2⟩, l1⟩
  val h := by
    simp only [Value.okWide, ht] at h
    obtain ⟨cs, rfl, _, _⟩ := h
    simp [valOf, Value.cells, ag]

structure Node where
  Op : Int
  Kids : List Int
  N : Int
  D : Int
  Name : Str
  deriving Inhabited, DecidableEq

instance instNode : GoT Node where
  sz := 5
  bytes := 64
  ag := true
  rdc S H cs x := ∃ v1, cs = [I x.Op, v1, I x.N, I x.D, SB x.Name] ∧ In64 x.Op ∧ RdL S H v1 x.Kids ∧ In64 x.N ∧ In64 x.D ∧ x.Name.size ≤ maxLen
  pos := by decide
  one h := by cases h
  len h := by obtain ⟨_, rfl, _⟩ := h; rfl
  cell h := by
    obtain ⟨_, rfl, _, ⟨_, _, _, _, rfl, _⟩, _, _, _⟩ := h
    simp [Value.oneCell']
  ext h hx hs := by obtain ⟨v1, rfl, h0, h1, h2, h3, h4⟩ := h; exact ⟨v1, rfl, h0, h1.ext hx hs, h2, h3, h4⟩

theorem Rd.node {S : Nat → Prop} {H : Heap} {v : Value} {a : Node} :
    Rd S H v a ↔ ∃ v1, v = .agg #[I a.Op, v1, I a.N, I a.D, SB a.Name] ∧ In64 a.Op ∧ Rd S H v1 a.Kids ∧ In64 a.N ∧ In64 a.D ∧ a.Name.size ≤ maxLen := by
  constructor
  · rintro ⟨cs, ⟨v1, rfl, h0, h1, h2, h3, h4⟩, rfl⟩
    exact ⟨v1, rfl, h0, Rd.list.2 h1, h2, h3, h4⟩
  · rintro ⟨v1, rfl, h0, h1, h2, h3, h4⟩
    exact ⟨_, ⟨v1, rfl, h0, Rd.list.1 h1, h2, h3, h4⟩, rfl⟩

instance limNode : LimT Node := ⟨fun a => LimT.lim a.Kids⟩

theorem opNode {P : Program} {t t0 t1 t2 t3 t4 : TypeId} {f0 f1 f2 f3 f4 : Field} (ht : P.underlying t = some (.struct #[f0, f1, f2, f3, f4])) (e0 : f0.type = t0) (e1 : f1.type = t1) (e2 : f2.type = t2) (e3 : f3.type = t3) (e4 : f4.type = t4)
    (h0 : OpT P t0 Int) (h1 : OpT P t1 (List Int)) (h2 : OpT P t2 Int) (h3 : OpT P t3 Int) (h4 : OpT P t4 Str) (hc : P.cellsOf t = 5) (c0 : P.cellsOf t0 = 1) (c1 : P.cellsOf t1 = 1) (c2 : P.cellsOf t2 = 1) (c3 : P.cellsOf t3 = 1) (c4 : P.cellsOf t4 = 1)
    (o0 : f0.offset = 0) (o1 : f1.offset = 1) (o2 : f2.offset = 2) (o3 : f3.offset = 3) (o4 : f4.offset = 4) : OpT P t Node where
  go h hw := by
    subst e0 e1 e2 e3 e4
    rename_i fuel cs x
    obtain ⟨xs, n, _, rfl, hl, hlen, hf⟩ := DataW.trod_struct ht h
    match xs, hlen with
    | [y0, y1, y2, y3, y4], _ =>
      rw [hc] at hl
      match cs, hl with
      | [u0, u1, u2, u3, u4], _ =>
        have k0 := hf 0 f0 rfl
        have k1 := hf 1 f1 rfl
        have k2 := hf 2 f2 rfl
        have k3 := hf 3 f3 rfl
        have k4 := hf 4 f4 rfl
        simp only [o0, o1, o2, o3, o4, c0, c1, c2, c3, c4, List.drop_zero, List.drop_succ_cons, List.take_succ_cons, List.take_zero] at k0 k1 k2 k3 k4
        have hw' : (DataW.weightsEach P [f0.type, f1.type, f2.type, f3.type, f4.type] [y0.1, y1.1, y2.1, y3.1, y4.1]).all (· ≤ reachBytes) = true := by simpa [DataW.weights, ht] using hw
        obtain ⟨a0, ⟨ha0, r0⟩, _⟩ := h0.go k0 (weights_cut hw' (j := 0) rfl rfl)
        obtain ⟨a1, ⟨w1, ha1, r1⟩, l1⟩ := h1.go k1 (weights_cut hw' (j := 1) rfl rfl)
        obtain ⟨a2, ⟨ha2, r2⟩, _⟩ := h2.go k2 (weights_cut hw' (j := 2) rfl rfl)
        obtain ⟨a3, ⟨ha3, r3⟩, _⟩ := h3.go k3 (weights_cut hw' (j := 3) rfl rfl)
        obtain ⟨a4, ⟨ha4, r4⟩, _⟩ := h4.go k4 (weights_cut hw' (j := 4) rfl rfl)
        cases ha0; cases ha1; cases ha2; cases ha3; cases ha4
        exact ⟨⟨a0, a1, a2, a3, a4⟩, ⟨_, rfl, r0, r1, r2, r3, r4⟩, l1⟩
  val h := by
    simp only [Value.okWide, ht] at h
    obtain ⟨cs, rfl, _, _⟩ := h
    simp [valOf, Value.cells, ag]

structure Ask where
  Decls : List Decl
  Nodes : List Node
  Hold : List Int
  deriving Inhabited, DecidableEq

instance instAsk : GoT Ask where
  sz := 3
  bytes := 72
  ag := true
  rdc S H cs x := ∃ v0 v1 v2, cs = [v0, v1, v2] ∧ RdL S H v0 x.Decls ∧ RdL S H v1 x.Nodes ∧ RdL S H v2 x.Hold
  pos := by decide
  one h := by cases h
  len h := by obtain ⟨_, _, _, rfl, _⟩ := h; rfl
  cell h := by
    obtain ⟨_, _, _, rfl, ⟨_, _, _, _, rfl, _⟩, ⟨_, _, _, _, rfl, _⟩, ⟨_, _, _, _, rfl, _⟩⟩ := h
    simp [Value.oneCell']
  ext h hx hs := by obtain ⟨v0, v1, v2, rfl, h0, h1, h2⟩ := h; exact ⟨v0, v1, v2, rfl, h0.ext hx hs, h1.ext hx hs, h2.ext hx hs⟩

theorem Rd.ask {S : Nat → Prop} {H : Heap} {v : Value} {a : Ask} :
    Rd S H v a ↔ ∃ v0 v1 v2, v = .agg #[v0, v1, v2] ∧ Rd S H v0 a.Decls ∧ Rd S H v1 a.Nodes ∧ Rd S H v2 a.Hold := by
  constructor
  · rintro ⟨cs, ⟨v0, v1, v2, rfl, h0, h1, h2⟩, rfl⟩
    exact ⟨v0, v1, v2, rfl, Rd.list.2 h0, Rd.list.2 h1, Rd.list.2 h2⟩
  · rintro ⟨v0, v1, v2, rfl, h0, h1, h2⟩
    exact ⟨_, ⟨v0, v1, v2, rfl, Rd.list.1 h0, Rd.list.1 h1, Rd.list.1 h2⟩, rfl⟩

instance limAsk : LimT Ask := ⟨fun a => LimT.lim a.Decls ∧ LimT.lim a.Nodes ∧ LimT.lim a.Hold⟩

theorem opAsk {P : Program} {t t0 t1 t2 : TypeId} {f0 f1 f2 : Field} (ht : P.underlying t = some (.struct #[f0, f1, f2])) (e0 : f0.type = t0) (e1 : f1.type = t1) (e2 : f2.type = t2)
    (h0 : OpT P t0 (List Decl)) (h1 : OpT P t1 (List Node)) (h2 : OpT P t2 (List Int)) (hc : P.cellsOf t = 3) (c0 : P.cellsOf t0 = 1) (c1 : P.cellsOf t1 = 1) (c2 : P.cellsOf t2 = 1)
    (o0 : f0.offset = 0) (o1 : f1.offset = 1) (o2 : f2.offset = 2) : OpT P t Ask where
  go h hw := by
    subst e0 e1 e2
    rename_i fuel cs x
    obtain ⟨xs, n, _, rfl, hl, hlen, hf⟩ := DataW.trod_struct ht h
    match xs, hlen with
    | [y0, y1, y2], _ =>
      rw [hc] at hl
      match cs, hl with
      | [u0, u1, u2], _ =>
        have k0 := hf 0 f0 rfl
        have k1 := hf 1 f1 rfl
        have k2 := hf 2 f2 rfl
        simp only [o0, o1, o2, c0, c1, c2, List.drop_zero, List.drop_succ_cons, List.take_succ_cons, List.take_zero] at k0 k1 k2
        have hw' : (DataW.weightsEach P [f0.type, f1.type, f2.type] [y0.1, y1.1, y2.1]).all (· ≤ reachBytes) = true := by simpa [DataW.weights, ht] using hw
        obtain ⟨a0, ⟨w0, ha0, r0⟩, l0⟩ := h0.go k0 (weights_cut hw' (j := 0) rfl rfl)
        obtain ⟨a1, ⟨w1, ha1, r1⟩, l1⟩ := h1.go k1 (weights_cut hw' (j := 1) rfl rfl)
        obtain ⟨a2, ⟨w2, ha2, r2⟩, l2⟩ := h2.go k2 (weights_cut hw' (j := 2) rfl rfl)
        cases ha0; cases ha1; cases ha2
        exact ⟨⟨a0, a1, a2⟩, ⟨_, _, _, rfl, r0, r1, r2⟩, l0, l1, l2⟩
  val h := by
    simp only [Value.okWide, ht] at h
    obtain ⟨cs, rfl, _, _⟩ := h
    simp [valOf, Value.cells, ag]

structure Turned where
  Nodes : List Node
  To : List Int
  deriving Inhabited, DecidableEq

instance instTurned : GoT Turned where
  sz := 2
  bytes := 48
  ag := true
  rdc S H cs x := ∃ v0 v1, cs = [v0, v1] ∧ RdL S H v0 x.Nodes ∧ RdL S H v1 x.To
  pos := by decide
  one h := by cases h
  len h := by obtain ⟨_, _, rfl, _⟩ := h; rfl
  cell h := by
    obtain ⟨_, _, rfl, ⟨_, _, _, _, rfl, _⟩, ⟨_, _, _, _, rfl, _⟩⟩ := h
    simp [Value.oneCell']
  ext h hx hs := by obtain ⟨v0, v1, rfl, h0, h1⟩ := h; exact ⟨v0, v1, rfl, h0.ext hx hs, h1.ext hx hs⟩

theorem Rd.turned {S : Nat → Prop} {H : Heap} {v : Value} {a : Turned} :
    Rd S H v a ↔ ∃ v0 v1, v = .agg #[v0, v1] ∧ Rd S H v0 a.Nodes ∧ Rd S H v1 a.To := by
  constructor
  · rintro ⟨cs, ⟨v0, v1, rfl, h0, h1⟩, rfl⟩
    exact ⟨v0, v1, rfl, Rd.list.2 h0, Rd.list.2 h1⟩
  · rintro ⟨v0, v1, rfl, h0, h1⟩
    exact ⟨_, ⟨v0, v1, rfl, Rd.list.1 h0, Rd.list.1 h1⟩, rfl⟩

instance limTurned : LimT Turned := ⟨fun a => LimT.lim a.Nodes ∧ LimT.lim a.To⟩

theorem opTurned {P : Program} {t t0 t1 : TypeId} {f0 f1 : Field} (ht : P.underlying t = some (.struct #[f0, f1])) (e0 : f0.type = t0) (e1 : f1.type = t1)
    (h0 : OpT P t0 (List Node)) (h1 : OpT P t1 (List Int)) (hc : P.cellsOf t = 2) (c0 : P.cellsOf t0 = 1) (c1 : P.cellsOf t1 = 1)
    (o0 : f0.offset = 0) (o1 : f1.offset = 1) : OpT P t Turned where
  go h hw := by
    subst e0 e1
    rename_i fuel cs x
    obtain ⟨xs, n, _, rfl, hl, hlen, hf⟩ := DataW.trod_struct ht h
    match xs, hlen with
    | [y0, y1], _ =>
      rw [hc] at hl
      match cs, hl with
      | [u0, u1], _ =>
        have k0 := hf 0 f0 rfl
        have k1 := hf 1 f1 rfl
        simp only [o0, o1, c0, c1, List.drop_zero, List.drop_succ_cons, List.take_succ_cons, List.take_zero] at k0 k1
        have hw' : (DataW.weightsEach P [f0.type, f1.type] [y0.1, y1.1]).all (· ≤ reachBytes) = true := by simpa [DataW.weights, ht] using hw
        obtain ⟨a0, ⟨w0, ha0, r0⟩, l0⟩ := h0.go k0 (weights_cut hw' (j := 0) rfl rfl)
        obtain ⟨a1, ⟨w1, ha1, r1⟩, l1⟩ := h1.go k1 (weights_cut hw' (j := 1) rfl rfl)
        cases ha0; cases ha1
        exact ⟨⟨a0, a1⟩, ⟨_, _, rfl, r0, r1⟩, l0, l1⟩
  val h := by
    simp only [Value.okWide, ht] at h
    obtain ⟨cs, rfl, _, _⟩ := h
    simp [valOf, Value.cells, ag]
end Go.Um
