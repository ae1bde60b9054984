/- The operations, one lemma each. -/
import Derived.Test.YtacphjgolmolmaaUmCall
import Derived.WalkKit
namespace Go.Um
open Go.RowKit

abbrev I (n : Int) : Value := .int .i64 n
abbrev B (b : Bool) : Value := .bool b
abbrev PT (b o : Nat) : Value := .pointer (some ⟨b, o, none⟩)

/-- An int's range. -/
abbrev In64 (n : Int) : Prop := -9223372036854775808 ≤ n ∧ n ≤ 9223372036854775807

theorem wrap_in {n : Int} (h : In64 n) : IntKind.i64.wrap n = n := by
  obtain ⟨h1, h2⟩ := h
  simp [IntKind.wrap, IntKind.bits, IntKind.signed]
  omega

section
variable {P : Program} {o : Oper} {U : Nat → Prop} {f : Fr} {H : Heap}

theorem q_move {x : Operand} {v : Value} (ho : o.op = .move x) (hx : ev f x = v) : Quiet P o U f H v := by
  intro w _; simp [execOp, ho, hx]
theorem q_assign {x : Operand} {v : Value} (ho : o.op = .assign x) (hx : ev f x = v) : Quiet P o U f H v := by
  intro w _; simp [execOp, ho, hx]
theorem q_pickT {c a b : Operand} {v : Value} (ho : o.op = .pick c a b) (hc : ev f c = .bool true) (hx : ev f a = v) : Quiet P o U f H v := by
  intro w _; simp [execOp, ho, hx, hc, asBool]
theorem q_pickF {c a b : Operand} {v : Value} (ho : o.op = .pick c a b) (hc : ev f c = .bool false) (hx : ev f b = v) : Quiet P o U f H v := by
  intro w _; simp [execOp, ho, hx, hc, asBool]
theorem q_nilCheck {x : Operand} {a : Addr} (ho : o.op = .nilCheck x) (hx : ev f x = .pointer (some a)) : Quiet P o U f H (.pointer (some a)) := by
  intro w _; simp [execOp, ho, hx]
theorem q_nilCheckF {x : Operand} {k : FuncId} {fi ca : Array Value} (ho : o.op = .nilCheck x) (hx : ev f x = .func (.func k) fi ca) : Quiet P o U f H (.func (.func k) fi ca) := by
  intro w _; simp [execOp, ho, hx]

theorem decide_congr_of {p q : Prop} [Decidable p] [Decidable q] (h : p ↔ q) : decide p = decide q := decide_eq_decide.2 h
theorem bool_congr_of {b : Bool} {q : Prop} [Decidable q] (h : b = true ↔ q) : b = decide q := by
  rw [← decide_eq_decide.2 h]; cases b <;> rfl
/-! ints -/
theorem q_add {t u : TypeId} {x y : Operand} {a b : Int} (ho : o.op = .binOp .add t x y u) (hx : ev f x = I a) (hy : ev f y = I b) (hr : In64 (a + b)) : Quiet P o U f H (I (a + b)) := by
  intro w _; simp [execOp, ho, hx, hy, eqGuard, binOp, Op.intArith, wrap_in hr]
theorem q_sub {t u : TypeId} {x y : Operand} {a b : Int} (ho : o.op = .binOp .sub t x y u) (hx : ev f x = I a) (hy : ev f y = I b) (hr : In64 (a - b)) : Quiet P o U f H (I (a - b)) := by
  intro w _; simp [execOp, ho, hx, hy, eqGuard, binOp, Op.intArith, wrap_in hr]
theorem q_mul {t u : TypeId} {x y : Operand} {a b : Int} (ho : o.op = .binOp .mul t x y u) (hx : ev f x = I a) (hy : ev f y = I b) (hr : In64 (a * b)) : Quiet P o U f H (I (a * b)) := by
  intro w _; simp [execOp, ho, hx, hy, eqGuard, binOp, Op.intArith, wrap_in hr]
theorem q_neg {t : TypeId} {x : Operand} {a : Int} (ho : o.op = .unOp .neg t x) (hx : ev f x = I a) (hr : In64 (-a)) : Quiet P o U f H (I (-a)) := by
  intro w _; simp [execOp, ho, hx, Op.unary, Op.intArith, wrap_in hr]
def negW (a : Int) : Int := IntKind.i64.wrap (-a)
theorem negW_or {a : Int} (h : In64 a) : (negW a = -a ∧ In64 (-a)) ∨ (a = -9223372036854775808 ∧ negW a = -9223372036854775808) := by
  by_cases h1 : a = -9223372036854775808
  · subst h1; exact .inr ⟨rfl, by decide⟩
  · have h2 : In64 (-a) := by obtain ⟨h3, h4⟩ := h; constructor <;> omega
    exact .inl ⟨wrap_in h2, h2⟩
theorem q_negW {t : TypeId} {x : Operand} {a : Int} (ho : o.op = .unOp .neg t x) (hx : ev f x = I a) : Quiet P o U f H (I (negW a)) := by
  intro w _; simp [execOp, ho, hx, Op.unary, Op.intArith, negW]
theorem q_not {t : TypeId} {x : Operand} {a : Bool} (ho : o.op = .unOp .not t x) (hx : ev f x = B a) : Quiet P o U f H (B (!a)) := by
  intro w _; simp [execOp, ho, hx, Op.unary]
theorem q_notP {t : TypeId} {x : Operand} {p : Prop} [Decidable p] (ho : o.op = .unOp .not t x) (hx : ev f x = B (decide p)) : Quiet P o U f H (B (decide (¬ p))) := by
  intro w _; simp [execOp, ho, hx, Op.unary]
theorem q_eql {t u : TypeId} {x y : Operand} {a b : Int} (ho : o.op = .binOp .eql t x y u) (hx : ev f x = I a) (hy : ev f y = I b) : Quiet P o U f H (B (decide (a = b))) := by
  intro w _; simp [execOp, ho, hx, hy, eqGuard, binOp, Op.intCmp]; rfl
theorem q_neq {t u : TypeId} {x y : Operand} {a b : Int} (ho : o.op = .binOp .neq t x y u) (hx : ev f x = I a) (hy : ev f y = I b) : Quiet P o U f H (B (decide (a ≠ b))) := by
  intro w _; simp [execOp, ho, hx, hy, eqGuard, binOp, Op.intCmp, bne]; rfl
theorem q_lss {t u : TypeId} {x y : Operand} {a b : Int} (ho : o.op = .binOp .lss t x y u) (hx : ev f x = I a) (hy : ev f y = I b) : Quiet P o U f H (B (decide (a < b))) := by
  intro w _; simp [execOp, ho, hx, hy, eqGuard, binOp, Op.intCmp]
theorem q_leq {t u : TypeId} {x y : Operand} {a b : Int} (ho : o.op = .binOp .leq t x y u) (hx : ev f x = I a) (hy : ev f y = I b) : Quiet P o U f H (B (decide (a ≤ b))) := by
  intro w _; simp [execOp, ho, hx, hy, eqGuard, binOp, Op.intCmp]
theorem q_gtr {t u : TypeId} {x y : Operand} {a b : Int} (ho : o.op = .binOp .gtr t x y u) (hx : ev f x = I a) (hy : ev f y = I b) : Quiet P o U f H (B (decide (b < a))) := by
  intro w _; simp [execOp, ho, hx, hy, eqGuard, binOp, Op.intCmp]
theorem q_geq {t u : TypeId} {x y : Operand} {a b : Int} (ho : o.op = .binOp .geq t x y u) (hx : ev f x = I a) (hy : ev f y = I b) : Quiet P o U f H (B (decide (b ≤ a))) := by
  intro w _; simp [execOp, ho, hx, hy, eqGuard, binOp, Op.intCmp]
/-! bools -/
theorem q_eqlB {t u : TypeId} {x y : Operand} {a b : Bool} (ho : o.op = .binOp .eql t x y u) (ht : P.underlying t = some .bool) (hx : ev f x = B a) (hy : ev f y = B b) : Quiet P o U f H (B (decide (a = b))) := by
  intro w _; simp [execOp, ho, hx, hy, eqGuard, binOp, Op.equal, Op.maxDepth, run_equalIn_bool' _ _ _ _ _ ht]; cases a <;> cases b <;> rfl
theorem q_neqB {t u : TypeId} {x y : Operand} {a b : Bool} (ho : o.op = .binOp .neq t x y u) (ht : P.underlying t = some .bool) (hx : ev f x = B a) (hy : ev f y = B b) : Quiet P o U f H (B (decide (a ≠ b))) := by
  intro w _; simp [execOp, ho, hx, hy, eqGuard, binOp, Op.equal, Op.maxDepth, run_equalIn_bool' _ _ _ _ _ ht]; cases a <;> cases b <;> rfl

/-! tuples, structs, functions -/
theorem q_extract {x : Operand} {i : Nat} {vs : Array Value} {v : Value} (ho : o.op = .extract x i) (hx : ev f x = .tuple vs) (hv : vs[i]? = some v) : Quiet P o U f H v := by
  intro w _; simp [execOp, ho, hx, Instr.extract, hv]
theorem q_makeFunc {k : FuncId} {fi ca : Array Operand} {fi' ca' : Array Value} (ho : o.op = .makeFunc (.func k) fi ca) (hf : fi.map (ev f) = fi') (hc : ca.map (ev f) = ca') :
    Quiet P o U f H (.func (.func k) fi' ca') := by
  intro w _; simp [execOp, ho, Instr.makeFunc, hf, hc]
theorem q_len {x : Operand} {t e : TypeId} {a : Option Addr} {n c : Nat} (ho : o.op = .call { callee := .builtin .len, args := #[x], argTypes := #[t] }) (ht : P.underlying t = some (.slice e))
    (hx : ev f x = .slice a n c) : Quiet P o U f H (I n) := by
  intro w _; simp [execOp, ho, hx, resolve, invoke, builtin, Builtin.len_, run_underlying ht, goInt]
end

/-! addresses, loads -/
def hcell (H : Heap) (b o : Nat) : Option Value :=
  match H[b]? with
  | some (.cells c _ _) => c[o]?
  | _ => none

theorem cell_hcell (w : World) (b o : Nat) : w.cell? ⟨b, o, none⟩ = hcell w.heap b o := by
  unfold World.cell? hcell
  cases w.heap[b]? with
  | none => rfl
  | some o => cases o <;> rfl
theorem hcell_lt {H : Heap} {b o : Nat} {v : Value} (h : hcell H b o = some v) : b < H.size := by
  unfold hcell at h
  split at h
  · rename_i hb; exact (Array.getElem?_eq_some_iff.1 hb).1
  · cases h
theorem Ext.hcell {S : Nat → Prop} {H H' : Heap} (h : Ext S H H') {b o : Nat} {v : Value} (hv : hcell H b o = some v) (hs : ¬ S b) : hcell H' b o = some v := by
  unfold Um.hcell at *
  rw [h.same b (hcell_lt hv) hs]
  exact hv

/-- A variable of type t at block b, place o reads v, at every heap that extends H but for U. -/
def LoadS (P : Program) (U : Nat → Prop) (H : Heap) (t : TypeId) (b o : Nat) (v : Value) : Prop :=
  ∀ w : World, Ext U H w.heap → (loadVar t ⟨b, o, none⟩).run P w = .ok v w

theorem LoadS.now {P : Program} {U : Nat → Prop} {H : Heap} {t : TypeId} {b o : Nat} {v : Value} (h : LoadS P U H t b o v) : LoadV P H t ⟨b, o, none⟩ v :=
  fun w hw => h w (hw ▸ .refl _ _)

theorem loadS_one {P : Program} {U : Nat → Prop} {H : Heap} {t : TypeId} {b o : Nat} {v : Value} (ha : ∀ w, (isAgg t).run P w = .ok false w)
    (hv : hcell H b o = some v) (hs : ¬ U b) : LoadS P U H t b o v := by
  intro w hw
  have h1 := hw.hcell hv hs
  rw [← cell_hcell] at h1
  simp [loadVar, ha, h1]

theorem add_off (b o j : Nat) : (⟨b, o, none⟩ : Addr).add j = ⟨b, o + j, none⟩ := by
  unfold Addr.add; split <;> simp_all

theorem loadS_agg {P : Program} {U : Nat → Prop} {H : Heap} {t : TypeId} {b o : Nat} (cs : List Value) (ha : ∀ w, (isAgg t).run P w = .ok true w)
    (hz : ∀ w, (sizeOf t).run P w = .ok cs.length w) (hv : ∀ j, j < cs.length → hcell H b (o + j) = cs[j]?) (hs : ¬ U b) : LoadS P U H t b o (.agg cs.toArray) := by
  intro w hw
  have h1 : ∀ j v, cs[j]? = some v → w.cell? ((⟨b, o, none⟩ : Addr).add j) = some v := by
    intro j v hj
    rw [add_off, cell_hcell]
    have hlt : j < cs.length := by
      rcases Nat.lt_or_ge j cs.length with h | h
      · exact h
      · rw [List.getElem?_eq_none h] at hj; cases hj
    exact hw.hcell ((hv j hlt).trans hj) hs
  have h2 := run_loadCells_list (P := P) w ⟨b, o, none⟩ cs h1
  simp [loadVar, ha, hz, h2]

section
variable {P : Program} {o : Oper} {U : Nat → Prop} {f : Fr} {H : Heap}

theorem q_load {t : TypeId} {x : Operand} {b i : Nat} {v : Value} (ho : o.op = .load t x) (hx : ev f x = PT b i) (hl : LoadS P U H t b i v) : Quiet P o U f H v := by
  intro w hw; simp [execOp, ho, hx, Instr.loadAt, Instr.sureAddr, hl w hw]

/-- The element of a slice: its address. -/
theorem q_indexAddr {t e : TypeId} {x i : Operand} {b off n c k sz : Nat} {z : Int} (ho : o.op = .indexAddr t x i) (ht : P.underlying t = some (.slice e)) (hz : ∀ w, (sizeOf e).run P w = .ok sz w)
    (hx : ev f x = .slice (some ⟨b, off, none⟩) n c) (hi : ev f i = I z) (hk : z = (k : Int)) (hlt : k < n) : Quiet P o U f H (PT b (off + k * sz)) := by
  intro w _
  subst hk
  have h1 : (0 : Int) ≤ (k : Int) ∧ (k : Int) < (n : Int) := ⟨by omega, by omega⟩
  simp [execOp, ho, hx, hi, Instr.indexAt, asIntOf, run_underlying ht, hz, h1, add_off, hlt]

theorem q_indexAddrA {t e : TypeId} {x i : Operand} {b off n k sz : Nat} {z : Int} (ho : o.op = .indexAddr t x i) (ht : P.underlying t = some (.array n e)) (hz : ∀ w, (sizeOf e).run P w = .ok sz w)
    (hx : ev f x = PT b off) (hi : ev f i = I z) (hk : z = (k : Int)) (hlt : k < n) : Quiet P o U f H (PT b (off + k * sz)) := by
  intro w _
  subst hk
  have h1 : (0 : Int) ≤ (k : Int) ∧ (k : Int) < (n : Int) := ⟨by omega, by omega⟩
  simp [execOp, ho, hx, hi, Instr.indexAt, asIntOf, run_underlying ht, hz, h1, add_off, Instr.sureAddr, hlt]

theorem q_fieldAddr {t : TypeId} {x : Operand} {b off i k : Nat} {fs : Array Field} {fd : Field} (ho : o.op = .fieldAddr t x i) (ht : P.underlying t = some (.struct fs)) (hf : fs[i]? = some fd)
    (hs : ∀ w, (sizeOf fd.type).run P w = .ok (k + 1) w) (hx : ev f x = PT b off) : Quiet P o U f H (PT b (off + fd.offset)) := by
  intro w _
  simp [execOp, ho, hx, Instr.fieldAt, run_underlying ht, hf, Instr.sureAddr, fieldPlace, hs, add_off]

theorem q_build {t : TypeId} {ps : Array (Nat × Operand)} {ps' : Array (Nat × Value)} {v : Value} (ho : o.op = .build t ps) (hp : (ps.map fun (i, x) => (i, ev f x)) = ps')
    (hb : ∀ w, (Instr.build t ps').run P w = .ok v w) : Quiet P o U f H v := by
  intro w _
  simp [execOp, ho, hp, hb]

theorem q_run {v : Value} (h : ∀ w : World, Ext U H w.heap → (execOp (ev f) o).run P w = .ok (.value v) w) : Quiet P o U f H v := h

end

/-! calls -/
section
variable {P : Program} {o : Oper} {f : Fr} {H : Heap} {next : FP}

theorem e_call {k : FuncId} {xs : Array Operand} {ts : Array TypeId} {args : Array Value} {R : Value → Heap → Prop} (ho : o.op = .call { callee := .value (.func k), args := xs, argTypes := ts })
    (hc : ∀ args w, (callFunc k args).run P w = .ok (.enter k args) w) (hx : xs.map (ev f) = args) (hC : CallsH P k args H R)
    (h : ∀ v H', R v H' → next (updO f o.dst v) H') : OpE P o next f H := by
  intro w hw
  subst hw
  have : (execOp (ev f) o).run P w = .ok (.enter k args) w := by
    simp [execOp, ho, resolve, ev, Deferred.ofValue, invoke, hx, hc]
  rw [this]
  exact ⟨.refl w, hC.mono h⟩

theorem e_callV {k : FuncId} {fo : Operand} {ca : Array Value} {xs : Array Operand} {ts : Array TypeId} {args : Array Value} {R : Value → Heap → Prop} (ho : o.op = .call { callee := .value fo, args := xs, argTypes := ts })
    (hf : ev f fo = .func (.func k) #[] ca) (hc : ∀ args w, (callFunc k args).run P w = .ok (.enter k args) w) (hx : xs.map (ev f) = args) (hC : CallsH P k (args ++ ca) H R)
    (h : ∀ v H', R v H' → next (updO f o.dst v) H') : OpE P o next f H := by
  intro w hw
  subst hw
  have : (execOp (ev f) o).run P w = .ok (.enter k (args ++ ca)) w := by
    simp [execOp, ho, resolve, hf, Deferred.ofValue, invoke, hx, hc]
  rw [this]
  exact ⟨.refl w, hC.mono h⟩
end
section
variable {P : Program} {o : Oper} {U : Nat → Prop} {f : Fr} {H : Heap}
/-! two structs of two ints each -/
theorem eq2_run {t : TypeId} {f0 f1 : Field} {k0 k1 : IntKind} (ht : P.underlying t = some (.struct #[f0, f1])) (h0 : P.underlying f0.type = some (.int k0)) (h1 : P.underlying f1.type = some (.int k1))
    (b0 : f0.name ≠ "_") (b1 : f1.name ≠ "_") (o0 : f0.offset = 0) (o1 : f1.offset = 1) (a0 : ∀ w, (isAgg f0.type).run P w = .ok false w) (a1 : ∀ w, (isAgg f1.type).run P w = .ok false w)
    (hp : P.stoodInHeld t = false) (a b c d : Int) (w : World) : (Op.equalIn 10000 t (.agg #[I a, I b]) (.agg #[I c, I d])).run P w = .ok (decide (a = c ∧ b = d)) w := by
  have hf : P.fieldsOf t = #[f0, f1] := by simp [Program.fieldsOf, ht]
  rw [show (10000 : Nat) = 9998 + 1 + 1 from rfl, run_equalIn_agg w (9998 + 1) t _ _ (by rw [ht, hf]) hp, hf]
  simp [Op.eqFields, b0, b1, o0, o1, part, a0, a1, run_equalIn_int _ _ _ _ _ _ _ h0, run_equalIn_int _ _ _ _ _ _ _ h1]
  by_cases hac : a = c <;> by_cases hbd : b = d <;> simp [hac, hbd]
theorem q_eqlF2 {t u : TypeId} {x y : Operand} {a b c d : Int} (ho : o.op = .binOp .eql t x y u) (hg : P.eqGuardType P.depth t = false) (hr : ∀ w : World, (Op.equalIn 10000 t (.agg #[I a, I b]) (.agg #[I c, I d])).run P w = .ok (decide (a = c ∧ b = d)) w)
    (hx : ev f x = .agg #[I a, I b]) (hy : ev f y = .agg #[I c, I d]) : Quiet P o U f H (B (decide (a = c ∧ b = d))) := by
  intro w _
  simp only [execOp, ho, hx, hy, Sem.run_bind, run_eqGuard_agg w _ t _ _ _ _ hg, Result.andThen_ok, run_eql_struct w t, hr w]
  rfl
theorem q_neqF2 {t u : TypeId} {x y : Operand} {a b c d : Int} (ho : o.op = .binOp .neq t x y u) (hg : P.eqGuardType P.depth t = false) (hr : ∀ w : World, (Op.equalIn 10000 t (.agg #[I a, I b]) (.agg #[I c, I d])).run P w = .ok (decide (a = c ∧ b = d)) w)
    (hx : ev f x = .agg #[I a, I b]) (hy : ev f y = .agg #[I c, I d]) : Quiet P o U f H (B (decide (¬ (a = c ∧ b = d)))) := by
  intro w _
  simp only [execOp, ho, hx, hy, Sem.run_bind, run_eqGuard_agg w _ t _ _ _ _ hg, Result.andThen_ok, run_neq_struct w t, hr w]
  simp
end
end Go.Um
