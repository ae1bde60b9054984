/- Bits of ints that are not negative. -/
import Derived.Test.YtacphjgolmolmaaUmOps
import Derived.WalkKit
namespace Go.Um
open Go.RowKit

def andNotN (a b : Nat) : Nat := a ^^^ (a &&& b)
theorem andNotN_bit (a b f : Nat) : (andNotN a b).testBit f = (a.testBit f && !b.testBit f) := by
  unfold andNotN
  rw [Nat.testBit_xor, Nat.testBit_and]
  cases a.testBit f <;> cases b.testBit f <;> rfl

section
variable {P : Program} {o : Oper} {U : Nat → Prop} {f : Fr} {H : Heap} {a b : Nat}
theorem ofNat64 (a : Nat) : BitVec.ofInt 64 (a : Int) = BitVec.ofNat 64 a := by
  apply BitVec.eq_of_toNat_eq
  simp [BitVec.toNat_ofInt]
theorem bv64 {a : Nat} (h : a < 4611686018427387904) : (BitVec.ofInt 64 (a : Int)).toNat = a := by
  rw [ofNat64, BitVec.toNat_ofNat]; omega
theorem lt62_or {a b : Nat} (ha : a < 4611686018427387904) (hb : b < 4611686018427387904) : a ||| b < 4611686018427387904 := Nat.or_lt_two_pow (n := 62) ha hb
theorem lt62_and {a b : Nat} (ha : a < 4611686018427387904) : a &&& b < 4611686018427387904 := Nat.lt_of_le_of_lt Nat.and_le_left ha
theorem lt62_andNot {a b : Nat} (ha : a < 4611686018427387904) (hb : b < 4611686018427387904) : andNotN a b < 4611686018427387904 := Nat.xor_lt_two_pow (n := 62) ha (lt62_and ha)
theorem shr_lt {a k : Nat} (ha : a < 4611686018427387904) : a >>> k < 4611686018427387904 := Nat.lt_of_le_of_lt (Nat.shiftRight_le _ _) ha
theorem wrap62 {a : Nat} (h : a < 4611686018427387904) : IntKind.i64.wrap (a : Int) = (a : Int) := wrap_in (by constructor <;> omega)
theorem run_or {w : World} (ha : a < 4611686018427387904) (hb : b < 4611686018427387904) : (Op.intBits .or .i64 (a : Int) (b : Int)).run P w = .ok (I ((a ||| b : Nat) : Int)) w := by
  have h : (BitVec.ofInt 64 (a : Int) ||| BitVec.ofInt 64 (b : Int)).toNat = a ||| b := by rw [BitVec.toNat_or, bv64 ha, bv64 hb]
  have h2 := wrap62 (lt62_or ha hb)
  show (pure (Value.int .i64 (IntKind.i64.wrap ((BitVec.ofInt 64 (a : Int) ||| BitVec.ofInt 64 (b : Int) : BitVec 64).toNat : Int))) : Sem Value).run P w = _
  rw [h, h2]; simp
theorem run_and {w : World} (ha : a < 4611686018427387904) (hb : b < 4611686018427387904) : (Op.intBits .and .i64 (a : Int) (b : Int)).run P w = .ok (I ((a &&& b : Nat) : Int)) w := by
  have h : (BitVec.ofInt 64 (a : Int) &&& BitVec.ofInt 64 (b : Int)).toNat = a &&& b := by rw [BitVec.toNat_and, bv64 ha, bv64 hb]
  have h2 := wrap62 (lt62_and (b := b) ha)
  show (pure (Value.int .i64 (IntKind.i64.wrap ((BitVec.ofInt 64 (a : Int) &&& BitVec.ofInt 64 (b : Int) : BitVec 64).toNat : Int))) : Sem Value).run P w = _
  rw [h, h2]; simp
theorem run_andNot {w : World} (ha : a < 4611686018427387904) (hb : b < 4611686018427387904) : (Op.intBits .andNot .i64 (a : Int) (b : Int)).run P w = .ok (I ((andNotN a b : Nat) : Int)) w := by
  have h : (BitVec.ofInt 64 (a : Int) &&& ~~~ BitVec.ofInt 64 (b : Int)).toNat = andNotN a b := by
    apply Nat.eq_of_testBit_eq
    intro i
    rw [andNotN_bit]
    by_cases hi : i < 64
    · rw [BitVec.testBit_toNat, BitVec.getLsbD_and, BitVec.getLsbD_not, ← BitVec.testBit_toNat, ← BitVec.testBit_toNat, bv64 ha, bv64 hb]
      simp [hi]
    · have h1 : a.testBit i = false := Nat.testBit_lt_two_pow (Nat.lt_of_lt_of_le ha (Nat.pow_le_pow_right (n := 2) (i := 62) (by decide) (by omega)))
      rw [BitVec.testBit_toNat, BitVec.getLsbD_of_ge _ _ (by omega), h1]; rfl
  have h2 := wrap62 (lt62_andNot ha hb)
  show (pure (Value.int .i64 (IntKind.i64.wrap ((BitVec.ofInt 64 (a : Int) &&& ~~~BitVec.ofInt 64 (b : Int) : BitVec 64).toNat : Int))) : Sem Value).run P w = _
  rw [h, h2]; simp
theorem q_orN {t u : TypeId} {x y : Operand} (ho : o.op = .binOp .or t x y u) (hx : ev f x = I ((a : Nat) : Int)) (hy : ev f y = I ((b : Nat) : Int)) (ha : a < 4611686018427387904) (hb : b < 4611686018427387904) : Quiet P o U f H (I ((a ||| b : Nat) : Int)) := by
  intro w _; simp [execOp, ho, hx, hy, eqGuard, binOp, run_or ha hb]
theorem q_andN {t u : TypeId} {x y : Operand} (ho : o.op = .binOp .and t x y u) (hx : ev f x = I ((a : Nat) : Int)) (hy : ev f y = I ((b : Nat) : Int)) (ha : a < 4611686018427387904) (hb : b < 4611686018427387904) : Quiet P o U f H (I ((a &&& b : Nat) : Int)) := by
  intro w _; simp [execOp, ho, hx, hy, eqGuard, binOp, run_and ha hb]
theorem q_andNotN {t u : TypeId} {x y : Operand} (ho : o.op = .binOp .andNot t x y u) (hx : ev f x = I ((a : Nat) : Int)) (hy : ev f y = I ((b : Nat) : Int)) (ha : a < 4611686018427387904) (hb : b < 4611686018427387904) : Quiet P o U f H (I ((andNotN a b : Nat) : Int)) := by
  intro w _; simp [execOp, ho, hx, hy, eqGuard, binOp, run_andNot ha hb]
theorem q_shl1 {t u : TypeId} {x y : Operand} {b : Int} (ho : o.op = .binOp .shl t x y u) (hx : ev f x = I 1) (hy : ev f y = I b) (h0 : 0 ≤ b) (h1 : b ≤ 61) : Quiet P o U f H (I ((2 ^ b.toNat : Nat) : Int)) := by
  intro w _
  have hlt : 2 ^ b.toNat < 4611686018427387904 := Nat.pow_lt_pow_right (a := 2) (n := 62) (by decide) (by omega)
  have h2 := wrap62 hlt
  have hm : min b.toNat 64 = b.toNat := by omega
  have hn : ¬ b < 0 := by omega
  simp only [execOp, ho, hx, hy, eqGuard, binOp, Op.shift, IntKind.bits, hm, if_neg hn]
  simp at h2 ⊢
  rw [h2]
theorem q_shrN {t u : TypeId} {x y : Operand} {b : Int} (ho : o.op = .binOp .shr t x y u) (hx : ev f x = I ((a : Nat) : Int)) (hy : ev f y = I b) (h0 : 0 ≤ b) (h1 : b ≤ 61) : Quiet P o U f H (I ((a >>> b.toNat : Nat) : Int)) := by
  intro w _
  have hm : min b.toNat 64 = b.toNat := by omega
  have hn : ¬ b < 0 := by omega
  have e : ((a : Int).fdiv (2 ^ b.toNat)) = ((a >>> b.toNat : Nat) : Int) := by
    rw [Nat.shiftRight_eq_div_pow]
    rw [Int.fdiv_eq_ediv_of_nonneg _ (by exact_mod_cast Nat.zero_le _)]
    norm_cast
  simp only [execOp, ho, hx, hy, eqGuard, binOp, Op.shift, IntKind.bits, hm, if_neg hn]
  simp [e]
end
theorem bit_one (s f : Nat) : decide ((((s >>> f) &&& 1 : Nat) : Int) = 1) = s.testBit f := by
  rw [Nat.testBit, Nat.and_comm 1, Nat.and_one_is_mod]
  have : (s >>> f) % 2 < 2 := Nat.mod_lt _ (by decide)
  by_cases h : (s >>> f) % 2 = 1
  · simp [h]
  · have h0 : (s >>> f) % 2 = 0 := by omega
    simp [h0]
end Go.Um
