/- How a state was reached, as data. -/
import Derived.Test.YtpdcejallbbncaaUmOpen
import Derived.Test.YtpdcejallbbncaaUmFn
namespace Go.Um
open GoT (sz ag rdc)
open Go.RowKit

structure Way where
  From : Int
  By : Int
  Long : Int
  deriving Inhabited, DecidableEq

instance instWay : GoT Way where
  sz := 3
  bytes := 24
  ag := true
  rdc S H cs x := cs = [I x.From, I x.By, I x.Long] ∧ In64 x.From ∧ In64 x.By ∧ In64 x.Long
  pos := by decide
  one h := by cases h
  len h := by obtain ⟨rfl, _⟩ := h; rfl
  cell h := by
    obtain ⟨rfl, _, _, _⟩ := h
    simp [Value.oneCell']
  ext h hx hs := by obtain ⟨rfl, h0, h1, h2⟩ := h; exact ⟨rfl, h0, h1, h2⟩

theorem Rd.way {S : Nat → Prop} {H : Heap} {v : Value} {a : Way} :
    Rd S H v a ↔ v = .agg #[I a.From, I a.By, I a.Long] ∧ In64 a.From ∧ In64 a.By ∧ In64 a.Long := by
  constructor
  · rintro ⟨cs, ⟨rfl, h0, h1, h2⟩, rfl⟩
    exact ⟨rfl, h0, h1, h2⟩
  · rintro ⟨rfl, h0, h1, h2⟩
    exact ⟨_, ⟨rfl, h0, h1, h2⟩, rfl⟩

instance limWay : LimT Way := ⟨fun a => True⟩

theorem opWay {P : Program} {t t0 t1 t2 : TypeId} {f0 f1 f2 : Field} (ht : P.underlying t = some (.struct #[f0, f1, f2])) (e0 : f0.type = t0) (e1 : f1.type = t1) (e2 : f2.type = t2)
    (h0 : OpT P t0 Int) (h1 : OpT P t1 Int) (h2 : OpT P t2 Int) (hc : P.cellsOf t = 3) (c0 : P.cellsOf t0 = 1) (c1 : P.cellsOf t1 = 1) (c2 : P.cellsOf t2 = 1)
    (o0 : f0.offset = 0) (o1 : f1.offset = 1) (o2 : f2.offset = 2) : OpT P t Way where
  go h hw := by
    subst e0 e1 e2
    rename_i fuel cs x
    obtain ⟨xs, n, _, rfl, hl, hlen, hf⟩ := DataW.trod_struct ht h
    match xs, hlen with
    | [y0, y1, y2], _ =>
      rw [hc] at hl
      match cs, hl with
      | [u0, u1, u2], _ =>
        have k0 := hf 0 f0 rfl
        have k1 := hf 1 f1 rfl
        have k2 := hf 2 f2 rfl
        simp only [o0, o1, o2, c0, c1, c2, List.drop_zero, List.drop_succ_cons, List.take_succ_cons, List.take_zero] at k0 k1 k2
        have hw' : (DataW.weightsEach P [f0.type, f1.type, f2.type] [y0.1, y1.1, y2.1]).all (· ≤ reachBytes) = true := by simpa [DataW.weights, ht] using hw
        obtain ⟨a0, ⟨ha0, r0⟩, _⟩ := h0.go k0 (weights_cut hw' (j := 0) rfl rfl)
        obtain ⟨a1, ⟨ha1, r1⟩, _⟩ := h1.go k1 (weights_cut hw' (j := 1) rfl rfl)
        obtain ⟨a2, ⟨ha2, r2⟩, _⟩ := h2.go k2 (weights_cut hw' (j := 2) rfl rfl)
        cases ha0; cases ha1; cases ha2
        exact ⟨⟨a0, a1, a2⟩, ⟨rfl, r0, r1, r2⟩, trivial⟩
  val h := by
    simp only [Value.okWide, ht] at h
    obtain ⟨cs, rfl, _, _⟩ := h
    simp [valOf, Value.cells, ag]
end Go.Um
