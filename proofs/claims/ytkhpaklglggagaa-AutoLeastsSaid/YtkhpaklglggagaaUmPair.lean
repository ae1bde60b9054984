/- Pairs of ints: as data, and as keys of maps. -/
import Derived.Test.YtkhpaklglggagaaUmMap
import Derived.ChangeKeysEq
namespace Go.Um
open GoT (sz ag rdc)
open KeyT (kv)
open Go.RowKit

instance instKeyPair : KeyT (Int × Int) where
  kv p := .agg #[I p.1, I p.2]
  inj h := by
    rename_i a b
    obtain ⟨a1, a2⟩ := a
    obtain ⟨b1, b2⟩ := b
    simp at h
    simp [h]
  bits a := by simp [Instr.sameBits]

instance instPair : GoT (Int × Int) where
  sz := 2
  bytes := 16
  ag := true
  rdc _ _ cs x := cs = [I x.1, I x.2] ∧ In64 x.1 ∧ In64 x.2
  pos := by decide
  one h := by cases h
  len h := by rw [h.1]; rfl
  cell h := by rw [h.1]; simp [Value.oneCell']
  ext h _ _ := h
theorem Rd.pair {S : Nat → Prop} {H : Heap} {v : Value} {x : Int × Int} : Rd S H v x ↔ v = .agg #[I x.1, I x.2] ∧ In64 x.1 ∧ In64 x.2 := by
  constructor
  · rintro ⟨cs, ⟨rfl, h⟩, rfl⟩; exact ⟨rfl, h⟩
  · rintro ⟨rfl, h⟩; exact ⟨_, ⟨rfl, h⟩, rfl⟩

section
variable {P : Program} {t e : TypeId} {kd : IntKind} {i : TypeInfo}
theorem eqPair_run (ht : P.underlying t = some (.array 2 e)) (he : P.underlying e = some (.int kd)) (ha : ∀ w, (isAgg e).run P w = .ok false w) (hi : P.info? e = some i) (hc : P.cellsOf e = 1)
    (a b c d : Int) (w : World) : (Op.equalIn 10000 t (.agg #[I a, I b]) (.agg #[I c, I d])).run P w = .ok (decide (a = c ∧ b = d)) w := by
  rw [show (10000 : Nat) = 9998 + 1 + 1 from rfl, run_equalIn_array w (9998 + 1) _ _ ht hi, hc]
  simp [List.range, List.range.loop, Op.eqItems, part, ha, run_equalIn_int _ _ _ _ _ _ _ he]
  by_cases hac : a = c <;> by_cases hbd : b = d <;> simp [hac, hbd]

theorem findAsking_pair (heq : ∀ (a b c d : Int) (w : World), (Op.equalIn 10000 t (.agg #[I a, I b]) (.agg #[I c, I d])).run P w = .ok (decide (a = c ∧ b = d)) w) (k : Int × Int) :
    ∀ (es : List MapEntry) (ks : List (Int × Int)) (i : Nat) (w : World), es.map (·.key) = ks.map kv →
      (Instr.findAsking t (kv k) es i).run P w = .ok ((midx (ks.map fun a => (a, ())) k).bind fun j => (es[j]?).map fun e => (i + j, e.val)) w := by
  intro es
  induction es with
  | nil => intro ks i w h; cases ks with | nil => simp [Instr.findAsking, midx] | cons a ks => simp at h
  | cons e es ih =>
    intro ks i w h
    cases ks with
    | nil => simp at h
    | cons a ks =>
      simp only [List.map_cons, List.cons.injEq] at h
      have hk : e.key = .agg #[I a.1, I a.2] := h.1
      have hkv : kv k = .agg #[I k.1, I k.2] := rfl
      simp only [Instr.findAsking, hk, List.map_cons, midx, Op.equal, Op.maxDepth, hkv]
      rw [run_bind_ok (heq k.1 k.2 a.1 a.2 w)]
      by_cases hak : a = k
      · subst hak; simp
      · have hne : ¬ (k.1 = a.1 ∧ k.2 = a.2) := fun h => hak (Prod.ext h.1.symm h.2.symm)
        have hih := ih ks (i + 1) w h.2
        rw [hkv] at hih
        simp only [hne, decide_false, Bool.false_eq_true, if_false, hak]
        rw [hih]
        cases midx (ks.map fun a => (a, ())) k with
        | none => rfl
        | some j => simp [Nat.add_comm 1 j, Nat.add_assoc]

theorem keyLaw_pair (ht : P.underlying t = some (.array 2 e)) (he : P.underlying e = some (.int kd)) (ha : ∀ w, (isAgg e).run P w = .ok false w) (hs : ∀ w, (sizeOf e).run P w = .ok 1 w) (hi : P.info? e = some i) (hc : P.cellsOf e = 1) : KeyLaw P t (Int × Int) where
  check b k w := by
    unfold Instr.checkKey
    rw [run_bind_ok (run_underlying ht w)]
    have hkv : kv k = .agg #[I k.1, I k.2] := rfl
    have hin : ∀ x : Int, ∀ w : World, (Instr.checkKey b 9999 e (I x)).run P w = .ok () w := fun x w => by
      unfold Instr.checkKey
      rw [run_bind_ok (run_underlying he w)]; rfl
    simp [hkv, Std.Legacy.Range.forIn_eq_forIn_range', Std.Legacy.Range.size, List.range', hs, part, ha, hin]
  find k es ks w h := by
    have heq := eqPair_run (P := P) ht he ha hi hc
    have hf := findAsking_pair heq k es ks 0 w h
    simp only [Nat.zero_add] at hf
    cases es with
    | nil =>
      cases ks with
      | nil => simp [Instr.findKey, run_underlying ht, Instr.findNow, midx]
      | cons a ks => simp at h
    | cons e0 es =>
      have hn : Instr.findNow (.array 2 e) (kv k) (e0 :: es) 0 = none := by simp [Instr.findNow, Instr.sameNow]
      simp only [Instr.findKey]
      rw [run_bind_ok (run_underlying ht w), hn]
      exact hf
end
end Go.Um
