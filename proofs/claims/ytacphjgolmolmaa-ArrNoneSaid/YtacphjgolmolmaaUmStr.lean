/- Texts, and what is asked of them. -/
import Derived.Test.YtacphjgolmolmaaUmMem
import Derived.Test.YtacphjgolmolmaaUmOpen
namespace Go.Um
open Go.RowKit
abbrev Str := ByteArray
/-- A text's value. -/
abbrev SB (s : Str) : Value := .string s
abbrev U8 (n : Int) : Value := .int .u8 n
/-- The same bytes. -/
abbrev sEq (x y : Str) : Prop := x.toList = y.toList
/-- A text's byte. -/
def bAt (s : Str) (i : Nat) : Int := ((s[i]?).map (fun b => (b.toNat : Int))).getD 0
instance instStr : GoT ByteArray where
  sz := 1
  bytes := 16
  ag := false
  rdc _ _ cs x := cs = [SB x] ∧ x.size ≤ maxLen
  pos := by decide
  one _ := rfl
  len h := by rw [h.1]; rfl
  cell h := by rw [h.1]; simp [Value.oneCell']
  ext h _ _ := h
instance limStr : LimT ByteArray := ⟨fun _ => True⟩
theorem opStr {P : Program} {t : TypeId} (ht : P.underlying t = some .string) : OpT P t ByteArray where
  go h _ := by
    rename_i fuel cs x _
    cases fuel with
    | zero => simp [DataW.trod] at h
    | succ n =>
      unfold DataW.trod at h
      rw [ht] at h
      split at h
      all_goals first
        | (split at h <;> first | exact ⟨_, ⟨rfl, by assumption⟩, trivial⟩ | simp_all)
        | simp_all
  val h := by
    simp only [Value.okWide, ht, Go.Cell.okWide, Go.Cell.ok] at h
    split at h <;> simp_all [valOf, Value.cells, GoT.ag]
theorem Rd.str {S : Nat → Prop} {H : Heap} {v : Value} {x : Str} : Rd S H v x ↔ v = SB x ∧ x.size ≤ maxLen := by
  constructor
  · rintro ⟨cs, ⟨rfl, h⟩, rfl⟩; exact ⟨rfl, h⟩
  · rintro ⟨rfl, h⟩; exact ⟨[SB x], ⟨rfl, h⟩, rfl⟩
theorem beq_eq_decide' {a b : List UInt8} : (a == b) = decide (a = b) := by rw [Bool.eq_iff_iff]; simp
section
variable {P : Program} {o : Oper} {U : Nat → Prop} {f : Fr} {H : Heap}
theorem q_lenStr {x : Operand} {t : TypeId} {s : Str} (ho : o.op = .call { callee := .builtin .len, args := #[x], argTypes := #[t] }) (ht : P.underlying t = some .string) (hx : ev f x = SB s) : Quiet P o U f H (I (s.size : Nat)) := by
  intro w _; simp [execOp, ho, hx, resolve, invoke, builtin, Builtin.len_, run_underlying ht, goInt]
theorem q_indexStr {t : TypeId} {x i : Operand} {s : Str} {z : Int} {k : Nat} (ho : o.op = .index t x i) (ht : P.underlying t = some .string) (hx : ev f x = SB s) (hi : ev f i = I z) (hk : z = (k : Int)) (hlt : k < s.size) : Quiet P o U f H (U8 (bAt s k)) := by
  intro w _
  subst hk
  simp [execOp, ho, hx, hi, Instr.index, asIntOf, run_underlying ht, bAt, hlt]
theorem q_eqlS {t u : TypeId} {x y : Operand} {a b : Str} (ho : o.op = .binOp .eql t x y u) (hx : ev f x = SB a) (hy : ev f y = SB b) : Quiet P o U f H (B (decide (sEq a b))) := by
  intro w _; simp [execOp, ho, hx, hy, eqGuard, binOp, Op.stringOp, sEq, beq_eq_decide']
theorem q_neqS {t u : TypeId} {x y : Operand} {a b : Str} (ho : o.op = .binOp .neq t x y u) (hx : ev f x = SB a) (hy : ev f y = SB b) : Quiet P o U f H (B (decide (¬ sEq a b))) := by
  intro w _; simp [execOp, ho, hx, hy, eqGuard, binOp, Op.stringOp, sEq, beq_eq_decide']
/-! bytes -/
theorem q_eql8 {t u : TypeId} {x y : Operand} {a b : Int} (ho : o.op = .binOp .eql t x y u) (hx : ev f x = U8 a) (hy : ev f y = U8 b) : Quiet P o U f H (B (decide (a = b))) := by
  intro w _; simp [execOp, ho, hx, hy, eqGuard, binOp, Op.intCmp]; rfl
theorem q_lss8 {t u : TypeId} {x y : Operand} {a b : Int} (ho : o.op = .binOp .lss t x y u) (hx : ev f x = U8 a) (hy : ev f y = U8 b) : Quiet P o U f H (B (decide (a < b))) := by
  intro w _; simp [execOp, ho, hx, hy, eqGuard, binOp, Op.intCmp]
theorem q_leq8 {t u : TypeId} {x y : Operand} {a b : Int} (ho : o.op = .binOp .leq t x y u) (hx : ev f x = U8 a) (hy : ev f y = U8 b) : Quiet P o U f H (B (decide (a ≤ b))) := by
  intro w _; simp [execOp, ho, hx, hy, eqGuard, binOp, Op.intCmp]
theorem q_gtr8 {t u : TypeId} {x y : Operand} {a b : Int} (ho : o.op = .binOp .gtr t x y u) (hx : ev f x = U8 a) (hy : ev f y = U8 b) : Quiet P o U f H (B (decide (b < a))) := by
  intro w _; simp [execOp, ho, hx, hy, eqGuard, binOp, Op.intCmp]
theorem q_geq8 {t u : TypeId} {x y : Operand} {a b : Int} (ho : o.op = .binOp .geq t x y u) (hx : ev f x = U8 a) (hy : ev f y = U8 b) : Quiet P o U f H (B (decide (b ≤ a))) := by
  intro w _; simp [execOp, ho, hx, hy, eqGuard, binOp, Op.intCmp]
end
end Go.Um
