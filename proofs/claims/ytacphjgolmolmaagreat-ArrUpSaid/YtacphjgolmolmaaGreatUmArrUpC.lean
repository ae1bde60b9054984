import Derived.Test.YtacphjgolmolmaaGreatUmArrUpB
namespace Go.Um
open GoT (sz ag rdc)
section
variable {α : Type} [GoT α] {P : Program} {o : Oper} {f : Fr} {H H0 H' : Heap} {M S0 : Nat → Prop} {L A : List Ent} {next : FP}
theorem St.pwA (h : St H0 M S0 (A ++ L) H) : A.Pairwise fun e e' => ∀ b, e.blocks b → ¬ e'.blocks b := (List.pairwise_append.1 h.dj).1
theorem St.okA (h : St H0 M S0 (A ++ L) H) : ∀ e ∈ A, e.ok (SL S0 (A ++ L)) H := fun e he => h.ok e (List.mem_append_left _ he)
theorem St.inA (_h : St H0 M S0 (A ++ L) H) : ∀ b, own A b → SL S0 (A ++ L) b := fun _ ⟨e, he, hb⟩ => .inr ⟨e, List.mem_append_left _ he, hb⟩
end
section
variable {κ β : Type} [DecidableEq κ] [KeyT κ] [GoT β] {P : Program} {o : Oper} {f : Fr} {H H0 H' : Heap} {M S0 S : Nat → Prop} {L : List Ent} {U : Nat → Prop}
theorem MapOk.no {r : Nat} {m : List (κ × β)} (h : (mapE r m).ok S H) : (mapE r m).ok NoB H := (mapE r m).ext h (Nat.le_refl _) (fun _ _ _ => rfl) fun _ _ hb => hb.elim
theorem MapOk.extN {r : Nat} {m : List (κ × β)} (h : (mapE r m).ok NoB H) (hx : Ext NoB H H') : (mapE r m).ok NoB H' := (mapE r m).ext h hx.size (fun b hb _ => hx.same b hb fun h => h) fun _ _ hb => hb.elim
end
end Go.Um
namespace Go.Um
structure Given (S : Nat → Prop) (A : List Ent) (H : Heap) : Prop where
  ok : ∀ e ∈ A, e.ok S H
  pw : A.Pairwise fun e e' => ∀ b, e.blocks b → ¬ e'.blocks b
  lt : ∀ b, S b → b < H.size
  ins : ∀ b, own A b → S b
section
variable {H0 H : Heap} {M S0 S : Nat → Prop} {A L : List Ent}
theorem St.give (h : St H0 M S0 (A ++ L) H) : Given (SL S0 (A ++ L)) A H := ⟨h.okA, h.pwA, fun _ hb => SL.lt h hb, h.inA⟩
theorem Given.st (h : Given S A H) : St H (own A) (fun b => S b ∧ ¬ own A b) A H := St.handed h.ok h.pw h.lt h.ins
theorem Given.sub (h : Given S A H) {b : Nat} (hb : SL (fun b => S b ∧ ¬ own A b) A b) : S b := handed_sub h.ins hb
theorem St.rdG {α : Type} [GoT α] {v : Value} {x : α} (h : St H0 M S0 L H) (hr : Rd S H v x) (hs : ∀ b, SL S0 L b → S b) : St H0 M S0 (rdE v x :: L) H := h.rd (hr.sub hs)
end
end Go.Um
namespace Go.Um
def blankP (a : Ask) : Prop := ((a.Decls.length : Int) = 0 ∧ (a.Nodes.length : Int) = 0) ∧ (a.Hold.length : Int) = 0
instance {a : Ask} : Decidable (blankP a) := by unfold blankP; infer_instance
def gotA : Ask := ⟨[⟨ByteArray.mk #[97], [], 5⟩, ⟨ByteArray.mk #[116], [], 4⟩], [⟨9, [], 0, 0, ByteArray.mk #[97]⟩, ⟨9, [], 0, 0, ByteArray.mk #[116]⟩, ⟨25, [0, 1, 1], 0, 0, ByteArray.mk #[]⟩, ⟨24, [2, 1], 0, 0, ByteArray.mk #[]⟩, ⟨8, [3, 1], 0, 0, ByteArray.mk #[]⟩], [4]⟩
theorem gotA_sorts : sortsTo gotA 5 = [5, 4, 5, 4, 1] := by decide +kernel
theorem gotA_sortsF : sortsF gotA = (0, 0) := by decide +kernel
theorem gotA_turn : turned gotA = ⟨[⟨9, [], 0, 0, ByteArray.mk #[116]⟩, nameNd (ByteArray.mk #[97]) 0, sameNd 0 0, pickNd 2 0 1, ⟨8, [3, 0], 0, 0, ByteArray.mk #[]⟩], [0, 0, 0, 3, 4]⟩ := by
  have hs : sorts gotA = [5, 4, 5, 4, 1] := gotA_sorts
  have g2 : ∀ to x N, getL gotA to x N 2 = N ++ [nameNd (ByteArray.mk #[97]) x] ++ [sameNd (nth to 1) x] ++ [pickNd ((N.length : Int) + 1) (nth to 1) N.length] := by
    intro to x N
    rw [getL_put (by decide) (by decide)]
    rw [show kidN (nth gotA.Nodes 2) 0 = 0 from by decide, getL_name (by decide)]
    have e : ((N ++ [nameNd (nth gotA.Nodes 0).Name x]).length : Int) = (N.length : Int) + 1 := by rw [List.length_append]; rfl
    rw [e, show ((N.length : Int) + 1 - 1) = (N.length : Int) from by omega]
    rfl
  have t1 : turnTo gotA 1 = ⟨[], [0]⟩ := by rw [turnTo, stepT_arr (by rw [hs]; decide)]; rfl
  have t2 : turnTo gotA 2 = ⟨[⟨9, [], 0, 0, ByteArray.mk #[116]⟩], [0, 0]⟩ := by rw [turnTo, stepT_flat (by rw [hs]; decide) (by decide), t1]; rfl
  have t3 : turnTo gotA 3 = ⟨[⟨9, [], 0, 0, ByteArray.mk #[116]⟩], [0, 0, 0]⟩ := by rw [turnTo, stepT_arr (by rw [hs]; decide), t2]; rfl
  have t4 : turnTo gotA 4 = ⟨[⟨9, [], 0, 0, ByteArray.mk #[116]⟩, nameNd (ByteArray.mk #[97]) 0, sameNd 0 0, pickNd 2 0 1], [0, 0, 0, 3]⟩ := by
    rw [turnTo, stepT_get (by rw [hs]; decide) (by decide), t3]
    rw [show kidN (nth gotA.Nodes 3) 0 = 2 from by decide, g2]; rfl
  rw [turned, show gotA.Nodes.length = 5 from rfl, turnTo, stepT_flat (by rw [hs]; decide) (by decide), t4]; rfl
theorem gotA_fact : (doF gotA).1 = 0 ∧ (doA gotA).Nodes.length = 5 ∧ (doA gotA).Decls.length = 2 ∧ (nth (doA gotA).Decls 0).Srt = 4 ∧ (doA gotA).Hold = [4] := by
  have h : doF gotA = (0, 0) := doF_ok (by rw [gotA_sortsF]; decide) (by rw [gotA_turn]; decide)
  have h2 := doA_ok (a := gotA) (by rw [h])
  rw [h2, h, gotA_turn]
  exact ⟨rfl, rfl, rfl, rfl, rfl⟩
end Go.Um
namespace Go.Um
open GoT (sz ag rdc)
open Go.RowKit
abbrev U64 (n : Int) : Value := .int .u64 n
def andI (a b : Int) : Int := IntKind.i64.wrap ((BitVec.ofInt 64 a &&& BitVec.ofInt 64 b : BitVec 64).toNat : Int)
def orI (a b : Int) : Int := IntKind.i64.wrap ((BitVec.ofInt 64 a ||| BitVec.ofInt 64 b : BitVec 64).toNat : Int)
def xorI (a b : Int) : Int := IntKind.i64.wrap ((BitVec.ofInt 64 a ^^^ BitVec.ofInt 64 b : BitVec 64).toNat : Int)
def notI (a : Int) : Int := IntKind.i64.wrap ((18446744073709551615#64 ^^^ BitVec.ofInt 64 a : BitVec 64).toNat : Int)
def shlI (a b : Int) : Int := IntKind.i64.wrap (a * 2 ^ (min b.toNat 64))
theorem wrap_in64 {n : Int} : In64 (IntKind.i64.wrap n) := by
  rw [IntWalk.i64_left]; unfold wrap64; constructor <;> omega
theorem wrapU_in {n : Int} (h : 0 ≤ n ∧ n ≤ 18446744073709551615) : IntKind.u64.wrap n = n := by
  obtain ⟨h1, h2⟩ := h
  simp [IntKind.wrap, IntKind.bits, IntKind.signed]
  omega
section
variable {P : Program} {o : Oper} {U : Nat → Prop} {f : Fr} {H : Heap}
theorem q_andI {t u : TypeId} {x y : Operand} {a b : Int} (ho : o.op = .binOp .and t x y u) (hx : ev f x = I a) (hy : ev f y = I b) : Quiet P o U f H (I (andI a b)) := by
  intro w _; simp [execOp, ho, hx, hy, eqGuard, binOp, Op.intBits, IntKind.bits]; rfl
theorem q_orI {t u : TypeId} {x y : Operand} {a b : Int} (ho : o.op = .binOp .or t x y u) (hx : ev f x = I a) (hy : ev f y = I b) : Quiet P o U f H (I (orI a b)) := by
  intro w _; simp [execOp, ho, hx, hy, eqGuard, binOp, Op.intBits, IntKind.bits]; rfl
theorem q_xorI {t u : TypeId} {x y : Operand} {a b : Int} (ho : o.op = .binOp .xor t x y u) (hx : ev f x = I a) (hy : ev f y = I b) : Quiet P o U f H (I (xorI a b)) := by
  intro w _; simp [execOp, ho, hx, hy, eqGuard, binOp, Op.intBits, IntKind.bits]; rfl
theorem q_notI {t : TypeId} {x : Operand} {a : Int} (ho : o.op = .unOp .xor t x) (hx : ev f x = I a) : Quiet P o U f H (I (notI a)) := by
  intro w _; simp [execOp, ho, hx, Op.unary, Op.intBits, IntKind.bits, IntKind.signed]; rfl
theorem q_shlI {t u : TypeId} {x y : Operand} {a b : Int} (ho : o.op = .binOp .shl t x y u) (hx : ev f x = I a) (hy : ev f y = I b) (hb : 0 ≤ b) : Quiet P o U f H (I (shlI a b)) := by
  intro w _
  have hn : ¬ b < 0 := by omega
  simp [execOp, ho, hx, hy, eqGuard, binOp, Op.shift, shlI, IntKind.bits, hn]
theorem q_convU {s t : TypeId} {x : Operand} {a : Int} {d : TypeDesc} (ho : o.op = .convert s t x) (hs : P.underlying s = some d) (ht : P.underlying t = some (.int .u64)) (hx : ev f x = I a) : Quiet P o U f H (U64 (IntKind.u64.wrap a)) := by
  intro w _
  simp [execOp, ho, hx, convert, run_underlying hs, run_underlying ht, Conv.intToInt]
theorem q_convI {s t : TypeId} {x : Operand} {a : Int} {d : TypeDesc} (ho : o.op = .convert s t x) (hs : P.underlying s = some d) (ht : P.underlying t = some (.int .i64)) (hx : ev f x = U64 a) (ha : 0 ≤ a ∧ a ≤ 9223372036854775807) : Quiet P o U f H (I a) := by
  intro w _
  have h2 := wrap_in (n := a) (by constructor <;> omega)
  simp [execOp, ho, hx, convert, run_underlying hs, run_underlying ht, Conv.intToInt, h2]
theorem q_negU {t : TypeId} {x : Operand} {a : Int} (ho : o.op = .unOp .neg t x) (hx : ev f x = U64 a) : Quiet P o U f H (U64 (IntKind.u64.wrap (0 - a))) := by
  intro w _; simp [execOp, ho, hx, Op.unary, Op.intArith]
theorem q_remU {t u : TypeId} {x y : Operand} {a b : Nat} (ho : o.op = .binOp .rem t x y u) (hx : ev f x = U64 (a : Int)) (hy : ev f y = U64 (b : Int)) (hb : ¬ b = 0) : Quiet P o U f H (U64 ((a % b : Nat) : Int)) := by
  intro w _
  have h2 : (a : Int).tmod (b : Int) = ((a % b : Nat) : Int) := (Int.ofNat_tmod a b).symm
  have hne : ¬ (b : Int) = 0 := by omega
  simp [execOp, ho, hx, hy, eqGuard, binOp, Op.intDiv, hb, h2]
theorem q_quoU {t u : TypeId} {x y : Operand} {a b : Nat} (ho : o.op = .binOp .quo t x y u) (hx : ev f x = U64 (a : Int)) (hy : ev f y = U64 (b : Int)) (hb : ¬ b = 0) (ha : a ≤ 18446744073709551615) : Quiet P o U f H (U64 ((a / b : Nat) : Int)) := by
  intro w _
  have h2 : (a : Int).tdiv (b : Int) = ((a / b : Nat) : Int) := (Int.ofNat_tdiv a b).symm
  have hd : a / b ≤ a := Nat.div_le_self a b
  have h3 := wrapU_in (n := ((a / b : Nat) : Int)) ⟨Int.natCast_nonneg _, by have : ((a / b : Nat) : Int) ≤ (a : Int) := Int.ofNat_le.2 hd; omega⟩
  simp only [execOp, ho, hx, hy, eqGuard, binOp, Op.intDiv, h2, h3]
  simp [hb]
theorem q_neqU {t u : TypeId} {x y : Operand} {a b : Int} (ho : o.op = .binOp .neq t x y u) (hx : ev f x = U64 a) (hy : ev f y = U64 b) : Quiet P o U f H (B (decide (¬ a = b))) := by
  intro w _; simp [execOp, ho, hx, hy, eqGuard, binOp, Op.intCmp]; rfl
theorem q_gtrU {t u : TypeId} {x y : Operand} {a b : Int} (ho : o.op = .binOp .gtr t x y u) (hx : ev f x = U64 a) (hy : ev f y = U64 b) : Quiet P o U f H (B (decide (b < a))) := by
  intro w _; simp [execOp, ho, hx, hy, eqGuard, binOp, Op.intCmp]
variable {α : Type} [GoT α]
theorem q_fieldF {U S : Nat → Prop} {t : TypeId} {x : Operand} {k i j m : Nat} {v : Value} {l : List α} {fs : Array Field} {fd : Field} {n : Nat} (ho : o.op = .fieldAddr t x i) (ht : P.underlying t = some (.struct fs)) (hf : fs[i]? = some fd)
    (hz : ∀ w, (sizeOf fd.type).run P w = .ok (n + 1) w) (hj : fd.offset = j) (hx : ev f x = fptr (sz α) v k m) (hR : RdL S H v l) (hlt : k < l.length) : Quiet P o U f H (fptr (sz α) v k (m + j)) := by
  obtain ⟨a, n, c, cl, rfl, hn, hnc, hcm, hby, hcl, hp⟩ := hR
  obtain ⟨b, off, rfl, hsb, hcells⟩ := hp (fun h0 => by rw [h0] at hlt; simp at hlt)
  subst hj
  have := q_fieldAddr (U := U) (H := H) ho ht hf hz hx
  show Quiet P o U f H (.pointer (some ⟨b, off + k * sz α + (m + fd.offset), none⟩))
  rw [← Nat.add_assoc]
  exact this
theorem RdL.cellsF {S : Nat → Prop} {v : Value} {l : List α} (hR : RdL S H v l) (k : Nat) (hlt : k < l.length) : ∃ cs, rdc S H cs (nth l k) ∧
    ∀ (j n : Nat) (ds : List Value) (P : Program) (t : TypeId) (U : Nat → Prop), (cs.drop j).take n = ds → ds.length = n → (∀ w, (isAgg t).run P w = .ok true w) → (∀ w, (sizeOf t).run P w = .ok n w) → (∀ b, U b → S b) → LoadF P U H t (sz α) v k j (.agg ds.toArray) := by
  obtain ⟨a, n, c, cl, rfl, hn, hnc, hcm, hby, hcl, hp⟩ := hR
  obtain ⟨b, off, rfl, hsb, hcells⟩ := hp (fun h0 => by rw [h0] at hlt; simp at hlt)
  obtain ⟨cs, hr, hc⟩ := hcl.nth hlt
  have hlen := GoT.len hr
  refine ⟨cs, hr, fun j m ds P t U hd hm hE hz hU => ⟨b, off, n, c, rfl, ?_⟩⟩
  subst hm
  refine loadS_agg ds hE hz (fun i hi => ?_) (fun h => hsb (hU b h))
  have hdi : ds[i]? = cs[j + i]? := by
    rw [← hd, List.getElem?_take, if_pos hi, List.getElem?_drop]
  have hj : j + i < cs.length := by
    rw [List.getElem?_eq_getElem hi] at hdi
    exact (List.getElem?_eq_some_iff.1 hdi.symm).1
  rw [hdi, ← hc _ hj, Nat.add_assoc, Nat.add_assoc]
  refine hcells _ ?_
  rw [hcl.len]
  have : (k + 1) * sz α ≤ l.length * sz α := Nat.mul_le_mul_right _ (by omega)
  rw [Nat.succ_mul] at this
  omega
end
end Go.Um
namespace Go.Um
def frBad (f : Frac) : Prop := (((f.Den < 1 ∨ 1073741824 < f.Den) ∨ f.Num < -1073741824) ∨ 1073741824 < f.Num) ∨ ¬ ((Nat.gcd f.Num.natAbs f.Den.natAbs : Nat) : Int) = ((1 : Nat) : Int)
instance {f : Frac} : Decidable (frBad f) := by unfold frBad; infer_instance
def checkFr (f : Frac) : Int × Int := if frBad f then (3, 0) else (0, 0)
def frsF (l : List Frac) : Int × Int := (fst1 (fun k => if frBad (nth l k) then some (3, (k : Int)) else none) 0 l.length).getD (0, 0)
theorem gcd_step {x y : Nat} : Nat.gcd x y = Nat.gcd y (x % y) := by
  rw [Nat.gcd_comm x y, Nat.gcd_rec y x, Nat.gcd_comm]
def muchF (n d : Int) : Prop := ((1073741824 : Nat) : Int) < ((n.natAbs / Nat.gcd n.natAbs d.natAbs : Nat) : Int) ∨ ((1073741824 : Nat) : Int) < ((d.natAbs / Nat.gcd n.natAbs d.natAbs : Nat) : Int)
instance {n d : Int} : Decidable (muchF n d) := by unfold muchF; infer_instance
def makeF (n d : Int) : Frac × (Int × Int) :=
  if d = 0 then (⟨0, 0⟩, (6, 0)) else if muchF n d then (⟨0, 0⟩, (10, 0))
  else (⟨if decide (n < 0) ≠ decide (d < 0) then -((n.natAbs / Nat.gcd n.natAbs d.natAbs : Nat) : Int) else ((n.natAbs / Nat.gcd n.natAbs d.natAbs : Nat) : Int), ((d.natAbs / Nat.gcd n.natAbs d.natAbs : Nat) : Int)⟩, (0, 0))
def applyF (a b : Frac) (n d : Int) : Frac × (Int × Int) := if (frsF [a, b]).1 ≠ 0 then (⟨0, 0⟩, frsF [a, b]) else makeF n d
def addF (a b : Frac) : Frac × (Int × Int) := applyF a b (a.Num * b.Den + b.Num * a.Den) (a.Den * b.Den)
def timesF (a b : Frac) : Frac × (Int × Int) := applyF a b (a.Num * b.Num) (a.Den * b.Den)
def lessB (a b : Frac) : Bool := if (frsF [a, b]).1 ≠ 0 then false else decide (a.Num * b.Den < b.Num * a.Den)
def inW (w b : Int) : Prop := 0 ≤ w ∧ w < ((2 ^ b.toNat : Nat) : Int)
instance {w b : Int} : Decidable (inW w b) := by unfold inW; infer_instance
def opsW (op : Int) : Int := if op = 15 then 0 else if op = 16 then 1 else if op = 23 then 1 else 2
def fitsW (op b n : Int) : Bool := if op = 15 then decide (inW n b) else if op = 23 then decide (0 ≤ n ∧ n ≤ 8) else decide (n = 0)
def outW (op : Int) (l : List Int) (n : Int) : Int :=
  if op = 16 then notI (nth l 0) else if op = 17 then andI (nth l 0) (nth l 1) else if op = 18 then orI (nth l 0) (nth l 1) else if op = 19 then xorI (nth l 0) (nth l 1)
  else if op = 20 then nth l 0 + nth l 1 else if op = 21 then nth l 0 * nth l 1 else if op = 23 then shlI (nth l 0) n else if op = 22 then (if nth l 0 < nth l 1 then 1 else 0) else n
def wordV (op b : Int) (l : List Int) (n : Int) : Int :=
  if op < 15 ∨ 23 < op then 0 else if ¬ (1 ≤ b ∧ b ≤ 8) then 0 else if (l.length : Int) ≠ opsW op then 0 else if ∃ w ∈ l, ¬ inW w b then 0 else if fitsW op b n = false then 0
  else andI (outW op l n) (((2 ^ b.toNat : Nat) : Int) - 1)
def thingS (n : Int) : Prop := 0 ≤ n ∧ n ≤ 1000
instance {n : Int} : Decidable (thingS n) := by unfold thingS; infer_instance
def cellBad (v : Val) (i : Nat) : Prop := ((¬ thingS (nth v.Cells i).At ∨ ¬ thingS (nth v.Cells i).It) ∨ (nth v.Cells i).It = v.Rest) ∨ (0 < (i : Int) ∧ (nth v.Cells i).At ≤ (nth v.Cells ((i : Int) - 1).toNat).At)
instance {v : Val} {i : Nat} : Decidable (cellBad v i) := by unfold cellBad; infer_instance
def arrB (v : Val) : Bool := decide (¬ (¬ (v.VNum = 0 ∧ v.VDen = 0) ∨ ¬ thingS v.Rest) ∧ ∀ i, i < v.Cells.length → ¬ cellBad v i)
def Val.fr (v : Val) : Frac := ⟨v.VNum, v.VDen⟩
def numBad (s : Int) (v : Val) : Prop := ((0 < (v.Cells.length : Int) ∨ v.Rest ≠ 0) ∨ (checkFr v.fr).1 ≠ 0) ∨ (s ≠ 3 ∧ v.VDen ≠ 1)
instance {s : Int} {v : Val} : Decidable (numBad s v) := by unfold numBad; infer_instance
def isV (s : Int) (v : Val) : Bool :=
  if s = 5 then arrB v else if numBad s v then false else if s = 1 then decide (v.VNum = 0 ∨ v.VNum = 1) else if s = 4 then decide (thingS v.VNum)
  else if wordS s then decide (0 ≤ v.VNum ∧ v.VNum < ((2 ^ (s - 10).toNat : Nat) : Int)) else true
def Entry.to (e : Entry) : Val := ⟨e.ENum, e.EDen, e.ECells, e.ERest⟩
def Meaning.rest (m : Meaning) : Val := ⟨m.MNum, m.MDen, m.MCells, m.MRest⟩
def codeM (d : Decl) (m : Meaning) : Int :=
  if 1000 < (m.Rows.length : Int) ∨ (m.Rows.any fun e => decide ((e.Args.length : Int) ≠ (d.Args.length : Int))) = true then 9
  else if (m.Rows.any fun e => e.Args.any fun n => decide (¬ thingS n)) = true then 3
  else if ∃ i, i < m.Rows.length ∧ ((m.Rows.take i).any fun x => decide (x.Args = (nth m.Rows i).Args)) = true then 7
  else if (¬ isV d.Srt m.rest = true) ∨ (m.Rows.any fun e => !isV d.Srt e.to) = true then 8 else 0
instance decLtEx {p : Nat → Prop} [DecidablePred p] {n : Nat} : Decidable (∃ i, i < n ∧ p i) := decidable_of_iff (∃ i ∈ List.range n, p i) (by simp)
def meanBad (a : Ask) (w : Wld) (i : Nat) : Option (Int × Int) := if codeM (nth a.Decls i) (nth w.Means i) ≠ 0 then some (codeM (nth a.Decls i) (nth w.Means i), (i : Int)) else none
def meanF (a : Ask) (w : Wld) : Int × Int :=
  if (sortsF a).1 ≠ 0 then sortsF a else if (w.Means.length : Int) ≠ (a.Decls.length : Int) then (9, 0) else (fst1 (meanBad a w) 0 a.Decls.length).getD (0, 0)
def numV (n : Int) : Val := ⟨n, 1, [], 0⟩
def bitP (p : Prop) [Decidable p] : Int := if p then 1 else 0
def truthV (p : Prop) [Decidable p] : Val := numV (bitP p)
def sameArgs (e : Entry) (K : List Val) : Prop := ∀ i, i < e.Args.length → (nth K i).VNum = nth e.Args i
instance {e : Entry} {K : List Val} : Decidable (sameArgs e K) := by unfold sameArgs; infer_instance
def toldAt (m : Meaning) (K : List Val) (k : Nat) : Option Val := if sameArgs (nth m.Rows k) K then some (nth m.Rows k).to else none
def toldV (m : Meaning) (K : List Val) : Val := (fst1 (toldAt m K) 0 m.Rows.length).getD m.rest
def gotAt (v : Val) (x : Int) (k : Nat) : Option Int := if (nth v.Cells k).At = x then some (nth v.Cells k).It else none
def gotV (v : Val) (x : Int) : Int := (fst1 (gotAt v x) 0 v.Cells.length).getD v.Rest
def putOne (x y : Int) (s : List Cell × Bool) (c : Cell) : List Cell × Bool :=
  ((if s.2 = false ∧ x ≤ c.At then s.1 ++ [⟨x, y⟩] else s.1) ++ (if c.At ≠ x then [c] else []), decide (s.2 = true ∨ x ≤ c.At))
def putTo (v : Val) (x y : Int) : Nat → List Cell × Bool
  | 0 => ([], decide (y = v.Rest))
  | k + 1 => putOne x y (putTo v x y k) (nth v.Cells k)
def putV (v : Val) (x y : Int) : Val := ⟨0, 0, (putTo v x y v.Cells.length).1 ++ (if (putTo v x y v.Cells.length).2 = false then [⟨x, y⟩] else []), v.Rest⟩
def sumTo (K : List Val) : Nat → Frac
  | 0 => ⟨0, 1⟩
  | k + 1 => (addF (sumTo K k) (nth K k).fr).1
def sumBad (K : List Val) (k : Nat) : Prop := (addF (sumTo K k) (nth K k).fr).2.1 ≠ 0
instance {K : List Val} {k : Nat} : Decidable (sumBad K k) := by unfold sumBad; infer_instance
def Frac.val (f : Frac) : Val := ⟨f.Num, f.Den, [], 0⟩
def numberV (n : Node) (K : List Val) : Val × Bool :=
  if n.Op = 12 then ((timesF (nth K 0).fr ⟨n.N, n.D⟩).1.val, decide ((timesF (nth K 0).fr ⟨n.N, n.D⟩).2.1 = 0))
  else if ∃ k, k < K.length ∧ sumBad K k then (⟨0, 0, [], 0⟩, false) else ((sumTo K K.length).val, true)
def oneV (K : List Val) (i : Nat) : Prop := (nth K i).VNum = 1
instance {K : List Val} {i : Nat} : Decidable (oneV K i) := by unfold oneV; infer_instance
def nums (K : List Val) : List Int := K.map fun v => v.VNum
def valueV (a : Ask) (w : Wld) (n : Node) (K : List Val) (b : Int) : Val × Bool :=
  if n.Op = 1 then (truthV (n.Op = 1), true) else if n.Op = 2 then (truthV (n.Op = 1), true) else if n.Op = 3 then (truthV (¬ oneV K 0), true)
  else if n.Op = 4 then (truthV ((!K.any fun v => decide (v.VNum = 0)) = true), true) else if n.Op = 5 then (truthV ((K.any fun v => decide (v.VNum = 1)) = true), true)
  else if n.Op = 6 then (truthV (decide (oneV K 0) = decide (oneV K 1)), true) else if n.Op = 7 then (if oneV K 0 then nth K 1 else nth K 2, true)
  else if n.Op = 8 then (truthV ((nth K 0).VNum = (nth K 1).VNum ∧ (nth K 0).VDen = (nth K 1).VDen), true) else if n.Op = 9 then (toldV (nth w.Means (findD a.Decls n.Name).toNat) K, true)
  else if n.Op = 10 then (⟨n.N, n.D, [], 0⟩, true) else if n.Op = 11 then numberV n K else if n.Op = 12 then numberV n K
  else if n.Op = 13 then (truthV (lessB (nth K 0).fr (nth K 1).fr = true), true) else if n.Op = 14 then (truthV ((!lessB (nth K 1).fr (nth K 0).fr) = true), true)
  else if n.Op = 24 then (numV (gotV (nth K 0) (nth K 1).VNum), true) else if n.Op = 25 then (putV (nth K 0) (nth K 1).VNum (nth K 2).VNum, true)
  else (numV (wordV n.Op b (nums K) n.N), true)
def kidV (V : List Val) (l : List Int) : List Val := l.map fun k => nth V k.toNat
def bitsTo (S : List Int) (s : Int) (l : List Int) : Nat → Int
  | 0 => s - 10
  | j + 1 => if wordS (nth S (nth l j).toNat) then nth S (nth l j).toNat - 10 else bitsTo S s l j
def valAt (a : Ask) (w : Wld) (V : List Val) (k : Nat) : Val × Bool :=
  valueV a w (nth a.Nodes k) (kidV V (nth a.Nodes k).Kids) (bitsTo (sortsTo a a.Nodes.length) (nth (sortsTo a a.Nodes.length) k) (nth a.Nodes k).Kids (nth a.Nodes k).Kids.length)
def valTo (a : Ask) (w : Wld) : Nat → List Val
  | 0 => []
  | k + 1 => valTo a w k ++ [(valAt a w (valTo a w k) k).1]
def valBad (a : Ask) (w : Wld) (k : Nat) : Option (Int × Int) := if (valAt a w (valTo a w k) k).2 = false then some (10, (k : Int)) else none
def valF (a : Ask) (w : Wld) : Int × Int := if (meanF a w).1 ≠ 0 then meanF a w else (fst1 (valBad a w) 0 a.Nodes.length).getD (0, 0)
def valL (a : Ask) (w : Wld) : List Val := if (valF a w).1 ≠ 0 then [] else valTo a w a.Nodes.length
def holdsB (a : Ask) (w : Wld) : Bool := if (valF a w).1 ≠ 0 then false else !a.Hold.any fun k => decide ((nth (valTo a w a.Nodes.length) k.toNat).VNum = 0)
def downV (m : Meaning) : Val := if 0 < (m.Rows.length : Int) then (nth m.Rows 0).to else m.rest
def cellE (c : Cell) : Entry := ⟨[c.At], c.It, 1, [], 0⟩
def downM (d : Decl) (m : Meaning) : Meaning := if d.Srt ≠ 5 then m else ⟨(downV m).Cells.map cellE, (downV m).Rest, 1, [], 0⟩
def downMuch (a : Ask) (w : Wld) (i : Nat) : Prop := (nth a.Decls i).Srt = 5 ∧ 1000 < ((downV (nth w.Means i)).Cells.length : Int)
instance {a : Ask} {w : Wld} {i : Nat} : Decidable (downMuch a w i) := by unfold downMuch; infer_instance
def downBad (a : Ask) (w : Wld) (i : Nat) : Option (Int × Int) := if downMuch a w i then some (10, (i : Int)) else none
def downF (a : Ask) (w : Wld) : Int × Int := if (meanF a w).1 ≠ 0 then meanF a w else (fst1 (downBad a w) 0 a.Decls.length).getD (0, 0)
def downTo (a : Ask) (w : Wld) (k : Nat) : List Meaning := (List.range k).map fun i => downM (nth a.Decls i) (nth w.Means i)
def downW (a : Ask) (w : Wld) : Wld := if (downF a w).1 ≠ 0 then ⟨[]⟩ else ⟨downTo a w a.Decls.length⟩
end Go.Um
namespace Go.Um
theorem sizeU_neg {x : Int} (h : In64 x) (hx : x < 0) : IntKind.u64.wrap (0 - IntKind.u64.wrap x) = ((x.natAbs : Nat) : Int) := by
  obtain ⟨h1, h2⟩ := h
  simp [IntKind.wrap, IntKind.bits, IntKind.signed]
  omega
theorem sizeU_pos {x : Int} (h : In64 x) (hx : ¬ x < 0) : IntKind.u64.wrap x = ((x.natAbs : Nat) : Int) := by
  obtain ⟨h1, h2⟩ := h
  simp [IntKind.wrap, IntKind.bits, IntKind.signed]
  omega
theorem gcd_zero {x y : Nat} (h : y = 0) : Nat.gcd x y = x := by rw [h, Nat.gcd_zero_right]
theorem chk_ne {f : Frac} : (checkFr f).1 ≠ 0 ↔ frBad f := by
  unfold checkFr
  split
  · exact ⟨fun _ => by assumption, fun _ => (by decide : (3 : Int) ≠ 0)⟩
  · exact ⟨fun h => absurd rfl h, fun h => by contradiction⟩
structure FrR (f : Frac) : Prop where
  n1 : -1073741824 ≤ f.Num
  n2 : f.Num ≤ 1073741824
  d1 : 1 ≤ f.Den
  d2 : f.Den ≤ 1073741824
theorem FrR.of {f : Frac} (h : ¬ frBad f) : FrR f := by unfold frBad at h; exact ⟨by omega, by omega, by omega, by omega⟩
theorem frsF_at {l : List Frac} {k : Nat} (hk : k < l.length) (hp : ∀ j, j < k → ¬ frBad (nth l j)) (h : frBad (nth l k)) : frsF l = (3, (k : Int)) := by
  rw [frsF, fst1_some (g := fun k => if frBad (nth l k) then some ((3 : Int), (k : Int)) else none) (k := k) (y := ((3 : Int), (k : Int))) (if_pos h) (Nat.zero_le _) (by omega) fun j _ hj => if_neg (hp j hj)]; rfl
theorem frsF_no {l : List Frac} (hp : ∀ j, j < l.length → ¬ frBad (nth l j)) : frsF l = (0, 0) := by
  rw [frsF, fst1_none fun j _ hj => if_neg (hp j (by omega))]; rfl
theorem frsF_two {a b : Frac} (h : ¬ (frsF [a, b]).1 ≠ 0) : FrR a ∧ FrR b := by
  by_cases ha : frBad a
  · rw [frsF_at (l := [a, b]) (k := 0) (by simp) (fun j hj => absurd hj (Nat.not_lt_zero j)) ha] at h
    exact absurd (by decide : (3 : Int) ≠ 0) h
  by_cases hb : frBad b
  · rw [frsF_at (l := [a, b]) (k := 1) (by simp) (fun j hj => by rw [show j = 0 by omega]; exact ha) hb] at h
    exact absurd (by decide : (3 : Int) ≠ 0) h
  exact ⟨FrR.of ha, FrR.of hb⟩
theorem mul30 {x y : Int} (hx : -1073741824 ≤ x ∧ x ≤ 1073741824) (hy : -1073741824 ≤ y ∧ y ≤ 1073741824) : -1152921504606846976 ≤ x * y ∧ x * y ≤ 1152921504606846976 := by
  have h : (x * y).natAbs ≤ 1073741824 * 1073741824 := by
    rw [Int.natAbs_mul]
    exact Nat.mul_le_mul (by omega) (by omega)
  omega
theorem makeF_zero {n d : Int} (h : d = 0) : makeF n d = (⟨0, 0⟩, (6, 0)) := if_pos h
theorem makeF_much {n d : Int} (h : ¬ d = 0) (h2 : muchF n d) : makeF n d = (⟨0, 0⟩, (10, 0)) := by rw [makeF, if_neg h, if_pos h2]
theorem makeF_ok {n d : Int} (h : ¬ d = 0) (h2 : ¬ muchF n d) : makeF n d = (⟨if decide (n < 0) ≠ decide (d < 0) then -((n.natAbs / Nat.gcd n.natAbs d.natAbs : Nat) : Int) else ((n.natAbs / Nat.gcd n.natAbs d.natAbs : Nat) : Int), ((d.natAbs / Nat.gcd n.natAbs d.natAbs : Nat) : Int)⟩, (0, 0)) := by
  rw [makeF, if_neg h, if_neg h2]
theorem makeF_in {n d : Int} : In64 (makeF n d).1.Num ∧ In64 (makeF n d).1.Den := by
  have z : In64 0 := ⟨by decide, by decide⟩
  by_cases h : d = 0
  · rw [makeF_zero h]; exact ⟨z, z⟩
  by_cases h2 : muchF n d
  · rw [makeF_much h h2]; exact ⟨z, z⟩
  rw [makeF_ok h h2]
  unfold muchF at h2
  have e1 : (0 : Int) ≤ ((n.natAbs / Nat.gcd n.natAbs d.natAbs : Nat) : Int) := Int.natCast_nonneg _
  have e2 : (0 : Int) ≤ ((d.natAbs / Nat.gcd n.natAbs d.natAbs : Nat) : Int) := Int.natCast_nonneg _
  generalize ((n.natAbs / Nat.gcd n.natAbs d.natAbs : Nat) : Int) = q at *
  generalize ((d.natAbs / Nat.gcd n.natAbs d.natAbs : Nat) : Int) = r at *
  refine ⟨?_, ⟨by show _ ≤ r; omega, by show r ≤ _; omega⟩⟩
  show In64 (if decide (n < 0) ≠ decide (d < 0) then -q else q)
  split <;> constructor <;> omega
theorem applyF_bad {a b : Frac} {n d : Int} (h : (frsF [a, b]).1 ≠ 0) : applyF a b n d = (⟨0, 0⟩, frsF [a, b]) := if_pos h
theorem applyF_ok {a b : Frac} {n d : Int} (h : ¬ (frsF [a, b]).1 ≠ 0) : applyF a b n d = makeF n d := if_neg h
theorem applyF_in {a b : Frac} {n d : Int} : In64 (applyF a b n d).1.Num ∧ In64 (applyF a b n d).1.Den := by
  by_cases h : (frsF [a, b]).1 ≠ 0
  · rw [applyF_bad h]; exact ⟨(⟨by decide, by decide⟩ : In64 0), (⟨by decide, by decide⟩ : In64 0)⟩
  · rw [applyF_ok h]; exact makeF_in
theorem lessB_bad {a b : Frac} (h : (frsF [a, b]).1 ≠ 0) : lessB a b = false := if_pos h
theorem lessB_ok {a b : Frac} (h : ¬ (frsF [a, b]).1 ≠ 0) : lessB a b = decide (a.Num * b.Den < b.Num * a.Den) := if_neg h
theorem Times_1_in {a b : Frac} (ha : FrR a) (hb : FrR b) : In64 (a.Num * b.Num) ∧ In64 (a.Den * b.Den) := by
  have h1 := mul30 (x := a.Num) (y := b.Num) ⟨ha.n1, ha.n2⟩ ⟨hb.n1, hb.n2⟩
  have h2 := mul30 (x := a.Den) (y := b.Den) ⟨by have := ha.d1; omega, ha.d2⟩ ⟨by have := hb.d1; omega, hb.d2⟩
  constructor <;> constructor <;> omega
theorem Add_1_in {a b : Frac} (ha : FrR a) (hb : FrR b) : In64 (a.Num * b.Den + b.Num * a.Den) ∧ In64 (a.Den * b.Den) := by
  have h1 := mul30 (x := a.Num) (y := b.Den) ⟨ha.n1, ha.n2⟩ ⟨by have := hb.d1; omega, hb.d2⟩
  have h3 := mul30 (x := b.Num) (y := a.Den) ⟨hb.n1, hb.n2⟩ ⟨by have := ha.d1; omega, ha.d2⟩
  have h2 := mul30 (x := a.Den) (y := b.Den) ⟨by have := ha.d1; omega, ha.d2⟩ ⟨by have := hb.d1; omega, hb.d2⟩
  constructor <;> constructor <;> omega
theorem inW_small {w b : Int} (h : inW w b) (hb : 1 ≤ b ∧ b ≤ 8) : 0 ≤ w ∧ w ≤ 255 := by
  obtain ⟨h1, h2⟩ := h
  have : 2 ^ b.toNat ≤ 2 ^ 8 := Nat.pow_le_pow_right (by decide) (by omega)
  exact ⟨h1, by omega⟩
theorem pow_small {b : Int} (hb : 1 ≤ b ∧ b ≤ 8) : 2 ≤ 2 ^ b.toNat ∧ 2 ^ b.toNat ≤ 256 :=
  ⟨Nat.pow_le_pow_right (n := 2) (i := 1) (j := b.toNat) (by decide) (by omega), Nat.pow_le_pow_right (n := 2) (i := b.toNat) (j := 8) (by decide) (by omega)⟩
section
variable {op b n : Int} {l : List Int}
theorem wordV_op (h : op < 15 ∨ 23 < op) : wordV op b l n = 0 := if_pos h
theorem wordV_b (h : ¬ (op < 15 ∨ 23 < op)) (h2 : ¬ (1 ≤ b ∧ b ≤ 8)) : wordV op b l n = 0 := by rw [wordV, if_neg h, if_pos h2]
theorem wordV_len (h : ¬ (op < 15 ∨ 23 < op)) (h2 : 1 ≤ b ∧ b ≤ 8) (h3 : (l.length : Int) ≠ opsW op) : wordV op b l n = 0 := by rw [wordV, if_neg h, if_neg (not_not_intro h2), if_pos h3]
theorem wordV_in (h : ¬ (op < 15 ∨ 23 < op)) (h2 : 1 ≤ b ∧ b ≤ 8) (h3 : ¬ (l.length : Int) ≠ opsW op) {w : Int} (hw : w ∈ l) (h4 : ¬ inW w b) : wordV op b l n = 0 := by rw [wordV, if_neg h, if_neg (not_not_intro h2), if_neg h3, if_pos ⟨w, hw, h4⟩]
theorem wordV_fit (h : ¬ (op < 15 ∨ 23 < op)) (h2 : 1 ≤ b ∧ b ≤ 8) (h3 : ¬ (l.length : Int) ≠ opsW op) (h4 : ∀ w ∈ l, inW w b) (h5 : fitsW op b n = false) : wordV op b l n = 0 := by
  rw [wordV, if_neg h, if_neg (not_not_intro h2), if_neg h3, if_neg (fun ⟨w, hw, hn⟩ => hn (h4 w hw)), if_pos h5]
theorem wordV_ok (h : ¬ (op < 15 ∨ 23 < op)) (h2 : 1 ≤ b ∧ b ≤ 8) (h3 : ¬ (l.length : Int) ≠ opsW op) (h4 : ∀ w ∈ l, inW w b) (h5 : ¬ fitsW op b n = false) : wordV op b l n = andI (outW op l n) (((2 ^ b.toNat : Nat) : Int) - 1) := by
  rw [wordV, if_neg h, if_neg (not_not_intro h2), if_neg h3, if_neg (fun ⟨w, hw, hn⟩ => hn (h4 w hw)), if_neg h5]
theorem opsLen (h3 : ¬ (l.length : Int) ≠ opsW op) : ((op = 16 ∨ op = 23) → l.length = 1) ∧ ((op = 17 ∨ op = 18 ∨ op = 19 ∨ op = 20 ∨ op = 21 ∨ op = 22) → l.length = 2) := by
  have h := Decidable.of_not_not h3
  unfold opsW at h
  refine ⟨fun e => ?_, fun e => ?_⟩
  · rcases e with e | e <;> (rw [e] at h; have h2 : (l.length : Int) = 1 := h; omega)
  · rcases e with e | e | e | e | e | e <;> (rw [e] at h; have h2 : (l.length : Int) = 2 := h; omega)
theorem nth_in {b : Int} (hb : 1 ≤ b ∧ b ≤ 8) (h4 : ∀ w ∈ l, inW w b) (j : Nat) : 0 ≤ nth l j ∧ nth l j ≤ 255 := by
  by_cases hj : j < l.length
  · exact inW_small (h4 _ (nth_mem hj)) hb
  · rw [nth_default (by omega)]; exact ⟨by decide, by decide⟩
theorem fits_n (hn : ¬ fitsW op b n = false) (e : op = 23) : 0 ≤ n ∧ n ≤ 8 := by
  have h : fitsW op b n = true := by simpa using hn
  rw [fitsW, e] at h
  exact of_decide_eq_true h
end
end Go.Um
namespace Go.Um
section
variable {d : Decl} {m : Meaning} {a : Ask} {w : Wld}
theorem codeM_size (h : 1000 < (m.Rows.length : Int) ∨ (m.Rows.any fun e => decide ((e.Args.length : Int) ≠ (d.Args.length : Int))) = true) : codeM d m = 9 := if_pos h
theorem codeM_range (h : ¬ (1000 < (m.Rows.length : Int) ∨ (m.Rows.any fun e => decide ((e.Args.length : Int) ≠ (d.Args.length : Int))) = true)) (h2 : (m.Rows.any fun e => e.Args.any fun n => decide (¬ thingS n)) = true) : codeM d m = 3 := by rw [codeM, if_neg h, if_pos h2]
theorem codeM_twice (h : ¬ (1000 < (m.Rows.length : Int) ∨ (m.Rows.any fun e => decide ((e.Args.length : Int) ≠ (d.Args.length : Int))) = true)) (h2 : (m.Rows.any fun e => e.Args.any fun n => decide (¬ thingS n)) = false) {i : Nat} (hi : i < m.Rows.length)
    (h3 : ((m.Rows.take i).any fun x => decide (x.Args = (nth m.Rows i).Args)) = true) : codeM d m = 7 := by rw [codeM, if_neg h, if_neg (by rw [h2]; decide), if_pos ⟨i, hi, h3⟩]
theorem codeM_sort (h : ¬ (1000 < (m.Rows.length : Int) ∨ (m.Rows.any fun e => decide ((e.Args.length : Int) ≠ (d.Args.length : Int))) = true)) (h2 : (m.Rows.any fun e => e.Args.any fun n => decide (¬ thingS n)) = false)
    (h3 : ∀ i, i < m.Rows.length → ((m.Rows.take i).any fun x => decide (x.Args = (nth m.Rows i).Args)) = false) (h4 : (¬ isV d.Srt m.rest = true) ∨ (m.Rows.any fun e => !isV d.Srt e.to) = true) : codeM d m = 8 := by
  rw [codeM, if_neg h, if_neg (by rw [h2]; decide), if_neg (fun ⟨i, hi, e⟩ => by rw [h3 i hi] at e; cases e), if_pos h4]
theorem codeM_ok (h : ¬ (1000 < (m.Rows.length : Int) ∨ (m.Rows.any fun e => decide ((e.Args.length : Int) ≠ (d.Args.length : Int))) = true)) (h2 : (m.Rows.any fun e => e.Args.any fun n => decide (¬ thingS n)) = false)
    (h3 : ∀ i, i < m.Rows.length → ((m.Rows.take i).any fun x => decide (x.Args = (nth m.Rows i).Args)) = false) (h4 : ¬ ((¬ isV d.Srt m.rest = true) ∨ (m.Rows.any fun e => !isV d.Srt e.to) = true)) : codeM d m = 0 := by
  rw [codeM, if_neg h, if_neg (by rw [h2]; decide), if_neg (fun ⟨i, hi, e⟩ => by rw [h3 i hi] at e; cases e), if_neg h4]
theorem meanF_sort (h : (sortsF a).1 ≠ 0) : meanF a w = sortsF a := if_pos h
theorem meanF_size (h : ¬ (sortsF a).1 ≠ 0) (h2 : (w.Means.length : Int) ≠ (a.Decls.length : Int)) : meanF a w = (9, 0) := by rw [meanF, if_neg h, if_pos h2]
theorem meanF_at (h : ¬ (sortsF a).1 ≠ 0) (h2 : ¬ (w.Means.length : Int) ≠ (a.Decls.length : Int)) {k : Nat} (hk : k < a.Decls.length) (hp : ∀ j, j < k → codeM (nth a.Decls j) (nth w.Means j) = 0) (h3 : codeM (nth a.Decls k) (nth w.Means k) ≠ 0) :
    meanF a w = (codeM (nth a.Decls k) (nth w.Means k), (k : Int)) := by
  rw [meanF, if_neg h, if_neg h2, fst1_some (g := meanBad a w) (k := k) (y := (codeM (nth a.Decls k) (nth w.Means k), (k : Int))) (if_pos h3) (Nat.zero_le _) (by omega) fun j _ hj => if_neg (not_not_intro (hp j hj))]; rfl
theorem meanF_ok (h : ¬ (sortsF a).1 ≠ 0) (h2 : ¬ (w.Means.length : Int) ≠ (a.Decls.length : Int)) (hp : ∀ j, j < a.Decls.length → codeM (nth a.Decls j) (nth w.Means j) = 0) : meanF a w = (0, 0) := by
  rw [meanF, if_neg h, if_neg h2, fst1_none (g := meanBad a w) fun j _ hj => if_neg (not_not_intro (hp j (by omega)))]; rfl
end
end Go.Um
namespace Go.Um
theorem bnot_t {b : Bool} (h : (!b) = true) : b = false := by cases b <;> first | rfl | cases h
theorem bnot_f {b : Bool} (h : (!b) = false) : b = true := by cases b <;> first | rfl | cases h
theorem bitP_in {p : Prop} [Decidable p] : In64 (bitP p) := by unfold bitP; split <;> exact ⟨by decide, by decide⟩
theorem bitP_yes {p : Prop} [Decidable p] (h : p) : bitP p = 1 := if_pos h
theorem bitP_no {p : Prop} [Decidable p] (h : ¬ p) : bitP p = 0 := if_neg h
theorem and_step {P : Nat → Prop} {i : Nat} {b : Bool} {q : Prop} [Decidable q] (h : b = true ↔ ∀ j, j < i → P j) (hq : q ↔ P i) : decide (b = true ∧ q) = true ↔ ∀ j, j < i + 1 → P j := by
  rw [decide_eq_true_iff, h, hq]
  constructor
  · rintro ⟨h1, h2⟩ j hj
    by_cases e : j = i
    · rw [e]; exact h2
    · exact h1 j (by omega)
  · intro h1; exact ⟨fun j hj => h1 j (by omega), h1 i (by omega)⟩
section
variable {m : Meaning} {K : List Val} {k : Nat} {v : Val} {x y : Int}
theorem toldAt_no {sm : Bool} (h : sm = true ↔ ∀ j, j < (nth m.Rows k).Args.length → (nth K j).VNum = nth (nth m.Rows k).Args j) (hs : sm = false) : toldAt m K k = none := by
  refine if_neg fun h2 => ?_
  rw [h.2 h2] at hs; cases hs
theorem toldV_at {sm : Bool} (hk : k < m.Rows.length) (hp : ∀ j, j < k → toldAt m K j = none) (h : sm = true ↔ ∀ j, j < (nth m.Rows k).Args.length → (nth K j).VNum = nth (nth m.Rows k).Args j) (hs : sm = true) : toldV m K = (nth m.Rows k).to := by
  rw [toldV, fst1_some (g := toldAt m K) (k := k) (y := (nth m.Rows k).to) (if_pos (h.1 hs)) (Nat.zero_le _) (by omega) fun j _ hj => hp j hj]; rfl
theorem toldV_no (hp : ∀ j, j < m.Rows.length → toldAt m K j = none) : toldV m K = m.rest := by
  rw [toldV, fst1_none fun j _ hj => hp j (by omega)]; rfl
theorem gotV_at (hk : k < v.Cells.length) (hp : ∀ j, j < k → ¬ (nth v.Cells j).At = x) (h : (nth v.Cells k).At = x) : gotV v x = (nth v.Cells k).It := by
  rw [gotV, fst1_some (g := gotAt v x) (k := k) (y := (nth v.Cells k).It) (if_pos h) (Nat.zero_le _) (by omega) fun j _ hj => if_neg (hp j hj)]; rfl
theorem gotV_no (hp : ∀ j, j < v.Cells.length → ¬ (nth v.Cells j).At = x) : gotV v x = v.Rest := by
  rw [gotV, fst1_none (g := gotAt v x) fun j _ hj => if_neg (hp j (by omega))]; rfl
theorem putTo_len : (putTo v x y k).1.length ≤ 2 * k := by
  induction k with
  | zero => exact Nat.le_refl _
  | succ k ih =>
    rw [putTo, putOne]
    show (_ ++ _ : List Cell).length ≤ _
    rw [List.length_append]
    have h1 : (if (putTo v x y k).2 = false ∧ x ≤ (nth v.Cells k).At then (putTo v x y k).1 ++ [⟨x, y⟩] else (putTo v x y k).1).length ≤ (putTo v x y k).1.length + 1 := by split <;> simp
    have h2 : (if (nth v.Cells k).At ≠ x then [nth v.Cells k] else []).length ≤ 1 := by split <;> simp
    omega
theorem putdone {b : Bool} {p : Prop} [Decidable p] (h : ¬ ((!b) = true ∧ p)) : b = decide (b = true ∨ p) := by
  cases b
  · rw [decide_eq_false (fun e => e.elim (fun e => by cases e) (fun e => h ⟨rfl, e⟩))]
  · rw [decide_eq_true (.inl rfl)]
theorem putno {b : Bool} {p : Prop} (h : ¬ ((!b) = true ∧ p)) : ¬ (b = false ∧ p) := fun e => h ⟨by rw [e.1]; rfl, e.2⟩
theorem putTo_yes (h : (nth v.Cells k).At ≠ x) : (putTo v x y (k + 1)).1 = (if (putTo v x y k).2 = false ∧ x ≤ (nth v.Cells k).At then (putTo v x y k).1 ++ [⟨x, y⟩] else (putTo v x y k).1) ++ [nth v.Cells k] := by
  rw [putTo, putOne, if_pos h]
theorem putTo_no (h : ¬ (nth v.Cells k).At ≠ x) : (putTo v x y (k + 1)).1 = (if (putTo v x y k).2 = false ∧ x ≤ (nth v.Cells k).At then (putTo v x y k).1 ++ [⟨x, y⟩] else (putTo v x y k).1) := by
  rw [putTo, putOne, if_neg h, List.append_nil]
theorem numberV_times {n : Node} (h : n.Op = 12) : numberV n K = ((timesF (nth K 0).fr ⟨n.N, n.D⟩).1.val, decide ((timesF (nth K 0).fr ⟨n.N, n.D⟩).2.1 = 0)) := if_pos h
theorem numberV_bad {n : Node} (h : ¬ n.Op = 12) (hk : k < K.length) (hb : sumBad K k) : numberV n K = (⟨0, 0, [], 0⟩, false) := by rw [numberV, if_neg h, if_pos ⟨k, hk, hb⟩]
theorem numberV_ok {n : Node} (h : ¬ n.Op = 12) (hp : ∀ k, k < K.length → ¬ sumBad K k) : numberV n K = ((sumTo K K.length).val, true) := by rw [numberV, if_neg h, if_neg fun ⟨k, hk, hb⟩ => hp k hk hb]
theorem addF_in {a b : Frac} : In64 (addF a b).1.Num ∧ In64 (addF a b).1.Den := applyF_in
theorem timesF_in {a b : Frac} : In64 (timesF a b).1.Num ∧ In64 (timesF a b).1.Den := applyF_in
theorem sumTo_in : ∀ k, In64 (sumTo K k).Num ∧ In64 (sumTo K k).Den
  | 0 => ⟨⟨by show _ ≤ (0 : Int); decide, by show (0 : Int) ≤ _; decide⟩, ⟨by show _ ≤ (1 : Int); decide, by show (1 : Int) ≤ _; decide⟩⟩
  | k + 1 => addF_in
end
structure VOk (a : Ask) (w : Wld) (n : Node) (K : List Val) : Prop where
  len : n.Op ≠ 9 → 0 ≤ kidsN n.Op → (K.length : Int) = kidsN n.Op
  found : n.Op = 9 → 0 ≤ findD a.Decls n.Name ∧ (findD a.Decls n.Name).toNat < w.Means.length ∧ ∀ i, i < (nth w.Means (findD a.Decls n.Name).toNat).Rows.length → (nth (nth w.Means (findD a.Decls n.Name).toNat).Rows i).Args.length ≤ K.length
  small : ∀ j, (nth K j).Cells.length ≤ 100000
theorem kidsLen2 {n : Node} {α : Type} {K : List α} (h : n.Op ≠ 9 → 0 ≤ kidsN n.Op → (K.length : Int) = kidsN n.Op) :
    ((n.Op = 7 ∨ n.Op = 25) → K.length = 3) ∧ ((n.Op = 3 ∨ n.Op = 12) → K.length = 1) ∧ ((n.Op = 6 ∨ n.Op = 8 ∨ n.Op = 13 ∨ n.Op = 14 ∨ n.Op = 24) → K.length = 2) := by
  refine ⟨fun e => ?_, fun e => ?_, fun e => ?_⟩
  · rcases e with e | e <;>
    · rw [e] at h
      have h2 : (K.length : Int) = 3 := h (by decide) (by decide)
      omega
  · rcases e with e | e <;>
    · rw [e] at h
      have h2 : (K.length : Int) = 1 := h (by decide) (by decide)
      omega
  · rcases e with e | e | e | e | e <;>
    · rw [e] at h
      have h2 : (K.length : Int) = 2 := h (by decide) (by decide)
      omega
theorem nums_next {K : List Val} {j : Nat} (h : j < K.length) : nums (K.take j) ++ [(nth K j).VNum] = nums (K.take (j + 1)) := by
  rw [take_succ_nth h, nums, nums, List.map_append]; rfl
theorem nums_len {K : List Val} : (nums K).length = K.length := by simp [nums]
end Go.Um
namespace Go.Um
section
variable {a : Ask} {w : Wld} {n : Node} {K : List Val} {b : Int}
theorem vv_1 (h : n.Op = 1) : valueV a w n K b = (truthV (n.Op = 1), true) := by rw [valueV, if_pos h]
theorem vv_2 (h : n.Op = 2) : valueV a w n K b = (truthV (n.Op = 1), true) := by rw [valueV, if_neg (show ¬ n.Op = 1 by omega), if_pos h]
theorem vv_3 (h : n.Op = 3) : valueV a w n K b = (truthV (¬ oneV K 0), true) := by rw [valueV, if_neg (show ¬ n.Op = 1 by omega), if_neg (show ¬ n.Op = 2 by omega), if_pos h]
theorem vv_4 (h : n.Op = 4) : valueV a w n K b = (truthV ((!K.any fun v => decide (v.VNum = 0)) = true), true) := by rw [valueV, if_neg (show ¬ n.Op = 1 by omega), if_neg (show ¬ n.Op = 2 by omega), if_neg (show ¬ n.Op = 3 by omega), if_pos h]
theorem vv_5 (h : n.Op = 5) : valueV a w n K b = (truthV ((K.any fun v => decide (v.VNum = 1)) = true), true) := by rw [valueV, if_neg (show ¬ n.Op = 1 by omega), if_neg (show ¬ n.Op = 2 by omega), if_neg (show ¬ n.Op = 3 by omega), if_neg (show ¬ n.Op = 4 by omega), if_pos h]
theorem vv_6 (h : n.Op = 6) : valueV a w n K b = (truthV (decide (oneV K 0) = decide (oneV K 1)), true) := by rw [valueV, if_neg (show ¬ n.Op = 1 by omega), if_neg (show ¬ n.Op = 2 by omega), if_neg (show ¬ n.Op = 3 by omega), if_neg (show ¬ n.Op = 4 by omega), if_neg (show ¬ n.Op = 5 by omega), if_pos h]
theorem vv_7 (h : n.Op = 7) : valueV a w n K b = (if oneV K 0 then nth K 1 else nth K 2, true) := by rw [valueV, if_neg (show ¬ n.Op = 1 by omega), if_neg (show ¬ n.Op = 2 by omega), if_neg (show ¬ n.Op = 3 by omega), if_neg (show ¬ n.Op = 4 by omega), if_neg (show ¬ n.Op = 5 by omega), if_neg (show ¬ n.Op = 6 by omega), if_pos h]
theorem vv_8 (h : n.Op = 8) : valueV a w n K b = (truthV ((nth K 0).VNum = (nth K 1).VNum ∧ (nth K 0).VDen = (nth K 1).VDen), true) := by rw [valueV, if_neg (show ¬ n.Op = 1 by omega), if_neg (show ¬ n.Op = 2 by omega), if_neg (show ¬ n.Op = 3 by omega), if_neg (show ¬ n.Op = 4 by omega), if_neg (show ¬ n.Op = 5 by omega), if_neg (show ¬ n.Op = 6 by omega), if_neg (show ¬ n.Op = 7 by omega), if_pos h]
theorem vv_9 (h : n.Op = 9) : valueV a w n K b = (toldV (nth w.Means (findD a.Decls n.Name).toNat) K, true) := by rw [valueV, if_neg (show ¬ n.Op = 1 by omega), if_neg (show ¬ n.Op = 2 by omega), if_neg (show ¬ n.Op = 3 by omega), if_neg (show ¬ n.Op = 4 by omega), if_neg (show ¬ n.Op = 5 by omega), if_neg (show ¬ n.Op = 6 by omega), if_neg (show ¬ n.Op = 7 by omega), if_neg (show ¬ n.Op = 8 by omega), if_pos h]
theorem vv_10 (h : n.Op = 10) : valueV a w n K b = (⟨n.N, n.D, [], 0⟩, true) := by rw [valueV, if_neg (show ¬ n.Op = 1 by omega), if_neg (show ¬ n.Op = 2 by omega), if_neg (show ¬ n.Op = 3 by omega), if_neg (show ¬ n.Op = 4 by omega), if_neg (show ¬ n.Op = 5 by omega), if_neg (show ¬ n.Op = 6 by omega), if_neg (show ¬ n.Op = 7 by omega), if_neg (show ¬ n.Op = 8 by omega), if_neg (show ¬ n.Op = 9 by omega), if_pos h]
theorem vv_11 (h : n.Op = 11) : valueV a w n K b = numberV n K := by rw [valueV, if_neg (show ¬ n.Op = 1 by omega), if_neg (show ¬ n.Op = 2 by omega), if_neg (show ¬ n.Op = 3 by omega), if_neg (show ¬ n.Op = 4 by omega), if_neg (show ¬ n.Op = 5 by omega), if_neg (show ¬ n.Op = 6 by omega), if_neg (show ¬ n.Op = 7 by omega), if_neg (show ¬ n.Op = 8 by omega), if_neg (show ¬ n.Op = 9 by omega), if_neg (show ¬ n.Op = 10 by omega), if_pos h]
theorem vv_12 (h : n.Op = 12) : valueV a w n K b = numberV n K := by rw [valueV, if_neg (show ¬ n.Op = 1 by omega), if_neg (show ¬ n.Op = 2 by omega), if_neg (show ¬ n.Op = 3 by omega), if_neg (show ¬ n.Op = 4 by omega), if_neg (show ¬ n.Op = 5 by omega), if_neg (show ¬ n.Op = 6 by omega), if_neg (show ¬ n.Op = 7 by omega), if_neg (show ¬ n.Op = 8 by omega), if_neg (show ¬ n.Op = 9 by omega), if_neg (show ¬ n.Op = 10 by omega), if_neg (show ¬ n.Op = 11 by omega), if_pos h]
theorem vv_13 (h : n.Op = 13) : valueV a w n K b = (truthV (lessB (nth K 0).fr (nth K 1).fr = true), true) := by rw [valueV, if_neg (show ¬ n.Op = 1 by omega), if_neg (show ¬ n.Op = 2 by omega), if_neg (show ¬ n.Op = 3 by omega), if_neg (show ¬ n.Op = 4 by omega), if_neg (show ¬ n.Op = 5 by omega), if_neg (show ¬ n.Op = 6 by omega), if_neg (show ¬ n.Op = 7 by omega), if_neg (show ¬ n.Op = 8 by omega), if_neg (show ¬ n.Op = 9 by omega), if_neg (show ¬ n.Op = 10 by omega), if_neg (show ¬ n.Op = 11 by omega), if_neg (show ¬ n.Op = 12 by omega), if_pos h]
theorem vv_14 (h : n.Op = 14) : valueV a w n K b = (truthV ((!lessB (nth K 1).fr (nth K 0).fr) = true), true) := by rw [valueV, if_neg (show ¬ n.Op = 1 by omega), if_neg (show ¬ n.Op = 2 by omega), if_neg (show ¬ n.Op = 3 by omega), if_neg (show ¬ n.Op = 4 by omega), if_neg (show ¬ n.Op = 5 by omega), if_neg (show ¬ n.Op = 6 by omega), if_neg (show ¬ n.Op = 7 by omega), if_neg (show ¬ n.Op = 8 by omega), if_neg (show ¬ n.Op = 9 by omega), if_neg (show ¬ n.Op = 10 by omega), if_neg (show ¬ n.Op = 11 by omega), if_neg (show ¬ n.Op = 12 by omega), if_neg (show ¬ n.Op = 13 by omega), if_pos h]
theorem vv_24 (h : n.Op = 24) : valueV a w n K b = (numV (gotV (nth K 0) (nth K 1).VNum), true) := by rw [valueV, if_neg (show ¬ n.Op = 1 by omega), if_neg (show ¬ n.Op = 2 by omega), if_neg (show ¬ n.Op = 3 by omega), if_neg (show ¬ n.Op = 4 by omega), if_neg (show ¬ n.Op = 5 by omega), if_neg (show ¬ n.Op = 6 by omega), if_neg (show ¬ n.Op = 7 by omega), if_neg (show ¬ n.Op = 8 by omega), if_neg (show ¬ n.Op = 9 by omega), if_neg (show ¬ n.Op = 10 by omega), if_neg (show ¬ n.Op = 11 by omega), if_neg (show ¬ n.Op = 12 by omega), if_neg (show ¬ n.Op = 13 by omega), if_neg (show ¬ n.Op = 14 by omega), if_pos h]
theorem vv_25 (h : n.Op = 25) : valueV a w n K b = (putV (nth K 0) (nth K 1).VNum (nth K 2).VNum, true) := by rw [valueV, if_neg (show ¬ n.Op = 1 by omega), if_neg (show ¬ n.Op = 2 by omega), if_neg (show ¬ n.Op = 3 by omega), if_neg (show ¬ n.Op = 4 by omega), if_neg (show ¬ n.Op = 5 by omega), if_neg (show ¬ n.Op = 6 by omega), if_neg (show ¬ n.Op = 7 by omega), if_neg (show ¬ n.Op = 8 by omega), if_neg (show ¬ n.Op = 9 by omega), if_neg (show ¬ n.Op = 10 by omega), if_neg (show ¬ n.Op = 11 by omega), if_neg (show ¬ n.Op = 12 by omega), if_neg (show ¬ n.Op = 13 by omega), if_neg (show ¬ n.Op = 14 by omega), if_neg (show ¬ n.Op = 24 by omega), if_pos h]
theorem vv_w (h1 : ¬ n.Op = 1) (h2 : ¬ n.Op = 2) (h3 : ¬ n.Op = 3) (h4 : ¬ n.Op = 4) (h5 : ¬ n.Op = 5) (h6 : ¬ n.Op = 6) (h7 : ¬ n.Op = 7) (h8 : ¬ n.Op = 8) (h9 : ¬ n.Op = 9) (h10 : ¬ n.Op = 10) (h11 : ¬ n.Op = 11) (h12 : ¬ n.Op = 12) (h13 : ¬ n.Op = 13) (h14 : ¬ n.Op = 14) (h24 : ¬ n.Op = 24) (h25 : ¬ n.Op = 25) : valueV a w n K b = (numV (wordV n.Op b (nums K) n.N), true) := by rw [valueV, if_neg h1, if_neg h2, if_neg h3, if_neg h4, if_neg h5, if_neg h6, if_neg h7, if_neg h8, if_neg h9, if_neg h10, if_neg h11, if_neg h12, if_neg h13, if_neg h14, if_neg h24, if_neg h25]
theorem numberV_flat : (numberV n K).1.Cells = [] ∧ (numberV n K).1.Rest = 0 := by
  unfold numberV
  split
  · exact ⟨rfl, rfl⟩
  split <;> exact ⟨rfl, rfl⟩
end
end Go.Um
namespace Go.Um
section
variable {a : Ask} {k m : Nat} {t : Turned}
variable (h : AskOk a)
include h
theorem put_kids (hk : k < a.Nodes.length) (h25 : (nth a.Nodes k).Op = 25) : (nth a.Nodes k).Kids.length = 3 ∧ nth (sorts a) (kidN (nth a.Nodes k) 0) = 5 ∧ nth (sorts a) (kidN (nth a.Nodes k) 1) = 4 ∧ nth (sorts a) (kidN (nth a.Nodes k) 2) = 4 := by
  have hK := put_sort h25 (sort_at h hk).1
  have hl : (nth a.Nodes k).Kids.length = 3 := by
    have := congrArg List.length hK
    rw [kidS_len] at this; exact this
  have h0 := nth_kidS (S := sorts a) (l := (nth a.Nodes k).Kids) (j := 0) (by omega)
  have h1 := nth_kidS (S := sorts a) (l := (nth a.Nodes k).Kids) (j := 1) (by omega)
  have h2 := nth_kidS (S := sorts a) (l := (nth a.Nodes k).Kids) (j := 2) (by omega)
  rw [hK] at h0 h1 h2
  exact ⟨hl, h0.symm, h1.symm, h2.symm⟩
omit h in
theorem nth_map {α β : Type} [Inhabited α] [Inhabited β] {f : α → β} {l : List α} (hk : k < l.length) : nth (l.map f) k = f (nth l k) := by simp [nth, hk]
end
end Go.Um
namespace Go.Um
structure CodeOk (d : Decl) (m : Meaning) : Prop where
  few : m.Rows.length ≤ 1000
  args : ∀ i, i < m.Rows.length → (nth m.Rows i).Args.length = d.Args.length
  things : ∀ i, i < m.Rows.length → ∀ x ∈ (nth m.Rows i).Args, thingS x
  once : ∀ i j, j < i → i < m.Rows.length → (nth m.Rows j).Args ≠ (nth m.Rows i).Args
  rest : isV d.Srt m.rest = true
  rows : ∀ i, i < m.Rows.length → isV d.Srt (nth m.Rows i).to = true
theorem codeM_zero {d : Decl} {m : Meaning} (h : codeM d m = 0) : CodeOk d m := by
  unfold codeM at h
  split at h
  · cases h
  rename_i h1
  split at h
  · cases h
  rename_i h2
  split at h
  · cases h
  rename_i h3
  split at h
  · cases h
  rename_i h4
  have h1b : (m.Rows.any fun e => decide ((e.Args.length : Int) ≠ (d.Args.length : Int))) = false := Bool.eq_false_iff.2 fun e => h1 (.inr e)
  have h4b : (m.Rows.any fun e => !isV d.Srt e.to) = false := Bool.eq_false_iff.2 fun e => h4 (.inr e)
  have h2b : (m.Rows.any fun e => e.Args.any fun n => decide (¬ thingS n)) = false := Bool.eq_false_iff.2 h2
  rw [List.any_eq_false] at h1b h4b h2b
  refine ⟨Decidable.of_not_not fun hn => h1 (.inl (by omega)), fun i hi => ?_, fun i hi x hx => ?_, fun i j hj hi e => ?_, Decidable.of_not_not fun hn => h4 (.inl hn), fun i hi => ?_⟩
  · have := h1b _ (nth_mem hi)
    have h5 : ((nth m.Rows i).Args.length : Int) = (d.Args.length : Int) := by simpa using this
    omega
  · have := h2b _ (nth_mem hi)
    have h5 : ((nth m.Rows i).Args.any fun n => decide (¬ thingS n)) = false := Bool.eq_false_iff.2 this
    rw [List.any_eq_false] at h5
    have := h5 x hx
    simpa using this
  · refine h3 ⟨i, hi, List.any_eq_true.2 ⟨nth m.Rows j, ?_, decide_eq_true e⟩⟩
    have hj2 : j < (m.Rows.take i).length := by rw [List.length_take]; omega
    have := nth_mem hj2
    rwa [show nth (m.Rows.take i) j = nth m.Rows j from by simp [nth, List.getD_eq_getElem?_getD, List.getElem?_take, hj]] at this
  · have := h4b _ (nth_mem hi)
    simpa using this
theorem codeM_good {d : Decl} {m : Meaning} (h : CodeOk d m) : codeM d m = 0 := by
  refine codeM_ok (fun e => ?_) (Bool.eq_false_iff.2 fun e => ?_) (fun i hi => Bool.eq_false_iff.2 fun e => ?_) fun e => ?_
  · rcases e with e | e
    · have := h.few; omega
    · obtain ⟨x, hx, hd⟩ := List.any_eq_true.1 e
      obtain ⟨j, hj, rfl⟩ := nth_of_mem hx
      exact of_decide_eq_true hd (by rw [h.args j hj])
  · obtain ⟨x, hx, hd⟩ := List.any_eq_true.1 e
    obtain ⟨j, hj, rfl⟩ := nth_of_mem hx
    obtain ⟨y, hy, hd⟩ := List.any_eq_true.1 hd
    exact of_decide_eq_true hd (h.things j hj y hy)
  · obtain ⟨x, hx, hd⟩ := List.any_eq_true.1 e
    obtain ⟨j, hj, rfl⟩ := nth_of_mem hx
    rw [List.length_take] at hj
    have hj2 : nth (m.Rows.take i) j = nth m.Rows j := by simp [nth, List.getD_eq_getElem?_getD, List.getElem?_take, show j < i by omega]
    rw [hj2] at hd
    exact h.once i j (by omega) hi (of_decide_eq_true hd)
  · rcases e with e | e
    · exact e h.rest
    · obtain ⟨x, hx, hd⟩ := List.any_eq_true.1 e
      obtain ⟨j, hj, rfl⟩ := nth_of_mem hx
      rw [h.rows j hj] at hd
      cases hd
structure MeanOk (a : Ask) (w : Wld) : Prop where
  ask : AskOk a
  len : w.Means.length = a.Decls.length
  code : ∀ i, i < a.Decls.length → CodeOk (nth a.Decls i) (nth w.Means i)
theorem meanOk {a : Ask} {w : Wld} (h : (meanF a w).1 = 0) : MeanOk a w := by
  unfold meanF at h
  split at h
  · rename_i h1; exact absurd h h1
  rename_i h1
  split at h
  · cases h
  rename_i h2
  refine ⟨askOk (Decidable.of_not_not h1), by omega, fun i hi => codeM_zero ?_⟩
  have := fst1_zero (g := meanBad a w) (fun j x hx => by
    unfold meanBad at hx
    split at hx
    · cases hx; assumption
    · cases hx) h i (Nat.zero_le _) (by omega)
  unfold meanBad at this
  split at this
  · cases this
  · rename_i hn; exact Decidable.of_not_not hn
theorem meanF_good {a : Ask} {w : Wld} (hs : (sortsF a).1 = 0) (hl : w.Means.length = a.Decls.length) (h : ∀ i, i < a.Decls.length → CodeOk (nth a.Decls i) (nth w.Means i)) : meanF a w = (0, 0) :=
  meanF_ok (not_not_intro hs) (by omega) fun j hj => codeM_good (h j hj)
structure ArrOk (v : Val) : Prop where
  num : v.VNum = 0 ∧ v.VDen = 0
  rest : thingS v.Rest
  cell : ∀ i, i < v.Cells.length → thingS (nth v.Cells i).At ∧ thingS (nth v.Cells i).It ∧ (nth v.Cells i).It ≠ v.Rest
  rise : ∀ i, i + 1 < v.Cells.length → (nth v.Cells i).At < (nth v.Cells (i + 1)).At
theorem arr_ok {v : Val} (h : arrB v = true) : ArrOk v := by
  obtain ⟨h1, h2⟩ := of_decide_eq_true h
  refine ⟨Decidable.of_not_not fun hn => h1 (.inl hn), Decidable.of_not_not fun hn => h1 (.inr hn), fun i hi => ?_, fun i hi => ?_⟩
  · have := h2 i hi
    unfold cellBad at this
    exact ⟨Decidable.of_not_not fun hn => this (.inl (.inl (.inl hn))), Decidable.of_not_not fun hn => this (.inl (.inl (.inr hn))), fun e => this (.inl (.inr e))⟩
  · have := h2 (i + 1) hi
    unfold cellBad at this
    have h3 : ¬ (0 < ((i + 1 : Nat) : Int) ∧ (nth v.Cells (i + 1)).At ≤ (nth v.Cells (((i + 1 : Nat) : Int) - 1).toNat).At) := fun e => this (.inr e)
    rw [show (((i + 1 : Nat) : Int) - 1).toNat = i by omega] at h3
    omega
theorem arr_good {v : Val} (h : ArrOk v) : arrB v = true := by
  refine decide_eq_true ⟨fun e => ?_, fun i hi e => ?_⟩
  · rcases e with e | e
    · exact e h.num
    · exact e h.rest
  · obtain ⟨c1, c2, c3⟩ := h.cell i hi
    rcases e with ((e | e) | e) | e
    · exact e c1
    · exact e c2
    · exact c3 e
    · have := h.rise (i - 1) (by omega)
      rw [show ((i : Int) - 1).toNat = i - 1 by omega] at e
      rw [show i - 1 + 1 = i by omega] at this
      omega
theorem arr_rise {v : Val} (h : ArrOk v) : ∀ i, i < v.Cells.length → (i : Int) ≤ (nth v.Cells i).At := by
  intro i
  induction i with
  | zero => intro hi; have := (h.cell 0 hi).1; unfold thingS at this; omega
  | succ i ih =>
    intro hi
    have := ih (by omega)
    have := h.rise i hi
    omega
theorem arr_small {v : Val} (h : ArrOk v) : v.Cells.length ≤ 1001 := by
  by_cases h0 : v.Cells.length = 0
  · omega
  · have h1 := arr_rise h (v.Cells.length - 1) (by omega)
    have h2 := (h.cell (v.Cells.length - 1) (by omega)).1
    unfold thingS at h2
    omega
theorem isV_flat {s : Int} {v : Val} (h : isV s v = true) (hs : ¬ s = 5) : v.Cells = [] ∧ v.Rest = 0 ∧ ¬ frBad v.fr ∧ (s ≠ 3 → v.VDen = 1) := by
  unfold isV at h
  rw [if_neg hs] at h
  split at h
  · cases h
  rename_i h1
  unfold numBad at h1
  refine ⟨List.eq_nil_of_length_eq_zero (Decidable.of_not_not fun hn => h1 (.inl (.inl (.inl (by omega))))), Decidable.of_not_not fun hn => h1 (.inl (.inl (.inr hn))), fun hb => h1 (.inl (.inr (chk_ne.2 hb))), fun h3 => Decidable.of_not_not fun hn => h1 (.inr ⟨h3, hn⟩)⟩
theorem isV_arr {v : Val} (h : isV 5 v = true) : ArrOk v := arr_ok h
theorem isV_small {s : Int} {v : Val} (h : isV s v = true) : v.Cells.length ≤ 1001 := by
  by_cases hs : s = 5
  · subst hs; exact arr_small (isV_arr h)
  · rw [(isV_flat h hs).1]; exact Nat.zero_le _
theorem toldV_case (m : Meaning) (K : List Val) : (∃ i, i < m.Rows.length ∧ toldV m K = (nth m.Rows i).to) ∨ toldV m K = m.rest := by
  by_cases h : ∃ i, i < m.Rows.length ∧ sameArgs (nth m.Rows i) K
  · suffices hs : ∀ n, (∃ i, i < n ∧ sameArgs (nth m.Rows i) K) → ∃ k, k < n ∧ sameArgs (nth m.Rows k) K ∧ ∀ j, j < k → ¬ sameArgs (nth m.Rows j) K by
      obtain ⟨k, hk, h1, h2⟩ := hs _ h
      refine .inl ⟨k, hk, ?_⟩
      rw [toldV, fst1_some (g := toldAt m K) (k := k) (y := (nth m.Rows k).to) (if_pos h1) (Nat.zero_le _) (by omega) fun j _ hj => if_neg (h2 j hj)]; rfl
    intro n
    induction n with
    | zero => rintro ⟨i, hi, _⟩; omega
    | succ n ih =>
      rintro ⟨i, hi, h1⟩
      by_cases hx : ∃ i, i < n ∧ sameArgs (nth m.Rows i) K
      · obtain ⟨k, hk, h2⟩ := ih hx; exact ⟨k, by omega, h2⟩
      · have hin : i = n := by
          refine Decidable.of_not_not fun hn => hx ⟨i, by omega, h1⟩
        subst hin
        exact ⟨i, by omega, h1, fun j hj hs => hx ⟨j, hj, hs⟩⟩
  · exact .inr (toldV_no fun j hj => if_neg fun hs => h ⟨j, hj, hs⟩)
theorem told_is {d : Decl} {m : Meaning} (h : CodeOk d m) (K : List Val) : isV d.Srt (toldV m K) = true := by
  rcases toldV_case m K with ⟨i, hi, e⟩ | e
  · rw [e]; exact h.rows i hi
  · rw [e]; exact h.rest
theorem putTo_len2 {v : Val} {x y : Int} : ∀ k, (putTo v x y k).1.length + (if (putTo v x y k).2 = false then 1 else 0) ≤ k + 1
  | 0 => by
    show ([] : List Cell).length + _ ≤ 1
    split <;> simp
  | k + 1 => by
    have ih := putTo_len2 (v := v) (x := x) (y := y) k
    rw [putTo, putOne]
    show (_ ++ _ : List Cell).length + (if decide _ = false then 1 else 0) ≤ _
    rw [List.length_append]
    have h2 : (if (nth v.Cells k).At ≠ x then [nth v.Cells k] else []).length ≤ 1 := by split <;> simp
    generalize (if (nth v.Cells k).At ≠ x then [nth v.Cells k] else []) = q at *
    generalize putTo v x y k = s at *
    obtain ⟨l, b⟩ := s
    cases b
    · by_cases hx : x ≤ (nth v.Cells k).At
      · simp [hx] at ih ⊢; omega
      · simp [hx] at ih ⊢; omega
    · simp at ih ⊢; omega
theorem putV_len {v : Val} {x y : Int} : (putV v x y).Cells.length ≤ v.Cells.length + 1 := by
  have := putTo_len2 (v := v) (x := x) (y := y) v.Cells.length
  show (_ ++ _ : List Cell).length ≤ _
  rw [List.length_append]
  split at this
  · rename_i h; rw [if_pos h]; simp; omega
  · rename_i h; rw [if_neg h]; simp; omega
section
variable {a : Ask} {w : Wld} {k : Nat}
theorem valTo_len : ∀ k, (valTo a w k).length = k
  | 0 => rfl
  | k + 1 => by rw [valTo, List.length_append, valTo_len k]; rfl
theorem kidV_len {V : List Val} {l : List Int} : (kidV V l).length = l.length := by simp [kidV]
theorem kidV_next {V : List Val} {l : List Int} {j : Nat} (h : j < l.length) : kidV V (l.take j) ++ [nth V (nth l j).toNat] = kidV V (l.take (j + 1)) := by
  rw [take_succ_nth h, kidV, kidV, List.map_append]; rfl
theorem nth_kidV {V : List Val} {l : List Int} {j : Nat} (hj : j < l.length) : nth (kidV V l) j = nth V (nth l j).toNat := by
  simp [kidV, nth, hj]
theorem valueV_small {n : Node} {K : List Val} {b : Int} {c : Nat} (hK : ∀ j, (nth K j).Cells.length ≤ c) (hc : 1001 ≤ c) (ht : n.Op = 9 → (toldV (nth w.Means (findD a.Decls n.Name).toNat) K).Cells.length ≤ c) : (valueV a w n K b).1.Cells.length ≤ c + 1 := by
  have hn : (numberV n K).1.Cells.length ≤ c + 1 := by rw [numberV_flat.1]; exact Nat.zero_le _
  by_cases h9 : n.Op = 9
  · rw [vv_9 h9]; have := ht h9; show (toldV _ _).Cells.length ≤ _; omega
  by_cases h25 : n.Op = 25
  · rw [vv_25 h25]
    have h1 := putV_len (v := nth K 0) (x := (nth K 1).VNum) (y := (nth K 2).VNum)
    have := hK 0
    show (putV _ _ _).Cells.length ≤ _; omega
  by_cases h7 : n.Op = 7
  · rw [vv_7 h7]
    have h1 := hK 1; have h2 := hK 2
    show (if _ then _ else _ : Val).Cells.length ≤ _
    split <;> omega
  by_cases h11 : n.Op = 11
  · rw [vv_11 h11]; exact hn
  by_cases h12 : n.Op = 12
  · rw [vv_12 h12]; exact hn
  by_cases h1 : n.Op = 1
  · rw [vv_1 h1]; exact Nat.zero_le _
  by_cases h2 : n.Op = 2
  · rw [vv_2 h2]; exact Nat.zero_le _
  by_cases h3 : n.Op = 3
  · rw [vv_3 h3]; exact Nat.zero_le _
  by_cases h4 : n.Op = 4
  · rw [vv_4 h4]; exact Nat.zero_le _
  by_cases h5 : n.Op = 5
  · rw [vv_5 h5]; exact Nat.zero_le _
  by_cases h6 : n.Op = 6
  · rw [vv_6 h6]; exact Nat.zero_le _
  by_cases h8 : n.Op = 8
  · rw [vv_8 h8]; exact Nat.zero_le _
  by_cases h10 : n.Op = 10
  · rw [vv_10 h10]; exact Nat.zero_le _
  by_cases h13 : n.Op = 13
  · rw [vv_13 h13]; exact Nat.zero_le _
  by_cases h14 : n.Op = 14
  · rw [vv_14 h14]; exact Nat.zero_le _
  by_cases h24 : n.Op = 24
  · rw [vv_24 h24]; exact Nat.zero_le _
  rw [vv_w h1 h2 h3 h4 h5 h6 h7 h8 h9 h10 h11 h12 h13 h14 h24 h25]; exact Nat.zero_le _
variable (h : MeanOk a w)
include h
theorem val_small : ∀ k, k ≤ a.Nodes.length → ∀ j, (nth (valTo a w k) j).Cells.length ≤ 1001 + k := by
  intro k
  induction k with
  | zero => intro _ j; rw [nth_default (Nat.zero_le _)]; exact Nat.zero_le _
  | succ k ih =>
    intro hk j
    by_cases hj : j < k
    · rw [valTo, nth_app1 (by rw [valTo_len]; exact hj)]
      have := ih (by omega) j; omega
    by_cases hjk : j = k
    · subst hjk
      have e := nth_last (l := valTo a w j) (x := (valAt a w (valTo a w j) j).1)
      rw [valTo_len] at e
      rw [valTo, e]
      refine valueV_small (c := 1001 + j) (fun i => ?_) (by omega) fun h9 => ?_
      · by_cases hi : i < (nth a.Nodes j).Kids.length
        · rw [nth_kidV hi]; exact ih (by omega) _
        · rw [nth_default (by rw [kidV_len]; omega)]; exact Nat.zero_le _
      · have hd := decl_at h.ask (k := j) (by omega) h9
        have := isV_small (told_is (h.code _ hd.1) (kidV (valTo a w j) (nth a.Nodes j).Kids))
        omega
    · rw [nth_default (by rw [valTo_len]; omega)]; exact Nat.zero_le _
theorem vOk (hk : k < a.Nodes.length) : VOk a w (nth a.Nodes k) (kidV (valTo a w k) (nth a.Nodes k).Kids) := by
  have hn := h.ask.nodes k hk
  refine ⟨fun h9 h0 => ?_, fun h9 => ?_, fun j => ?_⟩
  · rw [kidV_len, hn.size (by rw [wantN_no h9]; exact h0), wantN_no h9]
  · have hd := decl_at h.ask hk h9
    refine ⟨hn.found h9, by rw [h.len]; exact hd.1, fun i hi => ?_⟩
    rw [kidV_len, (h.code _ hd.1).args i hi]
    have := hn.size (by rw [wantN_yes h9]; omega)
    rw [wantN_yes h9] at this
    omega
  · by_cases hj : j < (nth a.Nodes k).Kids.length
    · rw [nth_kidV hj]
      have := val_small h k (by omega) (nth (nth a.Nodes k).Kids j).toNat
      have := h.ask.many
      omega
    · rw [nth_default (by rw [kidV_len]; omega)]; exact Nat.zero_le _
end
theorem valF_mean {a : Ask} {w : Wld} (h : (meanF a w).1 ≠ 0) : valF a w = meanF a w := if_pos h
theorem valF_at {a : Ask} {w : Wld} {k : Nat} (h : ¬ (meanF a w).1 ≠ 0) (hk : k < a.Nodes.length) (hp : ∀ j, j < k → (valAt a w (valTo a w j) j).2 = true) (hb : (valAt a w (valTo a w k) k).2 = false) : valF a w = (10, (k : Int)) := by
  rw [valF, if_neg h, fst1_some (g := valBad a w) (k := k) (y := ((10 : Int), (k : Int))) (if_pos hb) (Nat.zero_le _) (by omega) fun j _ hj => if_neg (by rw [hp j hj]; decide)]; rfl
theorem valF_ok {a : Ask} {w : Wld} (h : ¬ (meanF a w).1 ≠ 0) (hp : ∀ j, j < a.Nodes.length → (valAt a w (valTo a w j) j).2 = true) : valF a w = (0, 0) := by
  rw [valF, if_neg h, fst1_none (g := valBad a w) fun j _ hj => if_neg (by rw [hp j (by omega)]; decide)]; rfl
theorem valL_bad {a : Ask} {w : Wld} (h : (valF a w).1 ≠ 0) : valL a w = [] := if_pos h
theorem valL_ok {a : Ask} {w : Wld} (h : valF a w = (0, 0)) : valL a w = valTo a w a.Nodes.length := by rw [valL, h]; rfl
theorem sortsF_of {a : Ask} {w : Wld} (h : MeanOk a w) : sortsF a = (0, 0) :=
  sortsF_good h.ask.few h.ask.decls h.ask.many h.ask.nodes h.ask.holds h.ask.hold
theorem valF_zero {a : Ask} {w : Wld} (h : ¬ (valF a w).1 ≠ 0) : valF a w = (0, 0) := by
  have h' := Decidable.of_not_not h
  by_cases hm : (meanF a w).1 ≠ 0
  · rw [valF_mean hm] at h'; exact absurd h' hm
  · rw [valF, if_neg hm] at h' ⊢
    rw [fst1_none fun j _ hj => fst1_zero (g := valBad a w) (fun j x hx => by
      unfold valBad at hx
      split at hx
      · cases hx; exact (by decide : (10 : Int) ≠ 0)
      · cases hx) h' j (Nat.zero_le _) hj]; rfl
theorem valF_means {a : Ask} {w : Wld} (h : valF a w = (0, 0)) : MeanOk a w := by
  refine meanOk (Decidable.of_not_not fun hm => ?_)
  rw [valF_mean hm] at h
  rw [h] at hm; exact hm rfl
theorem hold_rng {a : Ask} {w : Wld} (h : valF a w = (0, 0)) {x : Int} (hx : x ∈ a.Hold) : 0 ≤ x ∧ x < ((a.Nodes.length : Nat) : Int) := by
  obtain ⟨j, hj, rfl⟩ := nth_of_mem hx
  have := (valF_means h).ask.hold j hj
  omega
end Go.Um
namespace Go.Um
open GoT (sz ag rdc)
section
variable {α : Type} [GoT α] {H H0 : Heap} {M S0 : Nat → Prop} {L : List Ent}
theorem RdCs.nth' {S : Nat → Prop} {xs : List α} {k : Nat} (hk : k < xs.length) {cl : List Value} (h : RdCs S H cl xs) : ∃ cs, rdc S H cs (Go.Um.nth xs k) ∧ ∀ j, j < cs.length → cl[k * sz α + j]? = cs[j]? := h.nth hk
theorem St.rowElem {t : TypeId} {v : Value} {l : List α} (h : St H0 M S0 L H) (k : Nat) (hk : L[k]? = some (rowE t v l)) (i : Nat) (hi : i < l.length) :
    ∃ u, Rd (SL S0 L) H u (nth l i) ∧ ∀ (P : Program) (t : TypeId) (U : Nat → Prop), ElT P α t → (∀ b, U b → NoB b) → LoadE P U H t (sz α) v i u := by
  obtain ⟨hb, cl, hcl, hh⟩ := h.get k hk
  rcases hh with ⟨rfl, hn, rfl⟩ | ⟨g, c, cur, rfl, hg, hc1, hc2, hcs, htk⟩
  · omega
  · obtain ⟨cs, hr, hc⟩ := hcl.nth' hi
    have hlen := GoT.len hr
    have hcell : ∀ j, j < cs.length → hcell H g (0 + i * sz α + j) = cs[j]? := by
      intro j hj
      rw [← hc j hj, ← htk, Nat.zero_add]
      have hlt : i * sz α + j < l.length * sz α := by
        have : (i + 1) * sz α ≤ l.length * sz α := Nat.mul_le_mul_right _ (by omega)
        rw [Nat.succ_mul] at this
        omega
      rw [List.getElem?_take, if_pos hlt]
      simp [hcell, hg]
    refine ⟨_, ⟨cs, hr, rfl⟩, fun P t' U hE hU => ⟨g, 0, l.length, c, rfl, ?_⟩⟩
    cases hag : ag α with
    | true =>
      have h1 := loadS_agg (P := P) (U := U) (H := H) (t := t') (b := g) (o := 0 + i * sz α) cs (by rw [← hag]; exact hE.1) (by rw [hlen]; exact hE.2) hcell (fun h => hU g h)
      simpa [valOf] using h1
    | false =>
      have h1 := GoT.one hag
      match cs, hlen, hcell with
      | [], hlen, _ => rw [h1] at hlen; cases hlen
      | c0 :: rest, hlen, hcell =>
        have h0 := hcell 0 (by simp)
        exact loadS_one (by rw [← hag]; exact hE.1) (by simpa [valOf] using h0) (fun h => hU g h)
end
end Go.Um
namespace Go.Um
section
variable {a : Ask} {w : Wld} {k : Nat}
theorem downTo_next : downTo a w (k + 1) = downTo a w k ++ [downM (nth a.Decls k) (nth w.Means k)] := by rw [downTo, List.range_succ, List.map_append]; rfl
theorem downM_flat {d : Decl} {m : Meaning} (h : d.Srt ≠ 5) : downM d m = m := if_pos h
theorem downM_arr {d : Decl} {m : Meaning} (h : ¬ d.Srt ≠ 5) : downM d m = ⟨(downV m).Cells.map cellE, (downV m).Rest, 1, [], 0⟩ := if_neg h
theorem downTo_flat (h : (nth a.Decls k).Srt ≠ 5) : downTo a w k ++ [nth w.Means k] = downTo a w (k + 1) := by rw [downTo_next, downM_flat h]
theorem downTo_arr (h : ¬ (nth a.Decls k).Srt ≠ 5) : downTo a w k ++ [Meaning.mk ((downV (nth w.Means k)).Cells.map cellE) (downV (nth w.Means k)).Rest 1 [] 0] = downTo a w (k + 1) := by rw [downTo_next, downM_arr h]
theorem downV_yes {m : Meaning} (h : 0 < (m.Rows.length : Int)) : downV m = (nth m.Rows 0).to := if_pos h
theorem downV_no {m : Meaning} (h : ¬ 0 < (m.Rows.length : Int)) : downV m = m.rest := if_neg h
theorem downTo_len : (downTo a w k).length = k := by simp [downTo]
theorem downF_mean (h : (meanF a w).1 ≠ 0) : downF a w = meanF a w := if_pos h
theorem downF_at (h : ¬ (meanF a w).1 ≠ 0) (hk : k < a.Decls.length) (hp : ∀ j, j < k → ¬ downMuch a w j) (h2 : downMuch a w k) : downF a w = (10, (k : Int)) := by
  rw [downF, if_neg h, fst1_some (g := downBad a w) (k := k) (y := ((10 : Int), (k : Int))) (if_pos h2) (Nat.zero_le _) (by omega) fun j _ hj => if_neg (hp j hj)]; rfl
theorem downF_ok (h : ¬ (meanF a w).1 ≠ 0) (hp : ∀ j, j < a.Decls.length → ¬ downMuch a w j) : downF a w = (0, 0) := by
  rw [downF, if_neg h, fst1_none (g := downBad a w) fun j _ hj => if_neg (hp j (by omega))]; rfl
theorem downW_bad (h : (downF a w).1 ≠ 0) : downW a w = ⟨[]⟩ := if_pos h
theorem downW_ok (h : downF a w = (0, 0)) : downW a w = ⟨downTo a w a.Decls.length⟩ := by rw [downW, h]; rfl
theorem map_cellE_next {l : List Cell} {j : Nat} (h : j < l.length) : (l.take j).map cellE ++ [Entry.mk [(nth l j).At] (nth l j).It 1 [] 0] = (l.take (j + 1)).map cellE := by
  rw [take_succ_nth h, List.map_append]; rfl
end
end Go.Um
namespace Go.Um
def sortAt (b : Ask) (i : Nat) : Int := (nodeF b i (sortsTo b i)).1
theorem sortAt_pre {b : Ask} {k j : Nat} (h : j < k) : nth (sortsTo b k) j = sortAt b j := sortsTo_pre h
theorem sortAt_of {b : Ask} {i : Nat} (h : NodeOk b i (sortsTo b i)) : sortAt b i = sortN (nth b.Nodes i) (kidS (sortsTo b i) (nth b.Nodes i).Kids) (declOf b (nth b.Nodes i)) := by
  unfold sortAt; rw [nodeF_good h]
theorem sameName_declA {nm : Str} {d : Decl} : sameName nm (declA d) = sameName nm d := by
  unfold sameName declA
  split <;> rfl
theorem declA_name {d : Decl} : (declA d).Name = d.Name := by unfold declA; split <;> rfl
theorem fst1_congr {β : Type} {g g' : Nat → Option β} : ∀ {n i : Nat}, (∀ j, i ≤ j → j < i + n → g j = g' j) → fst1 g i n = fst1 g' i n := by
  intro n
  induction n with
  | zero => intro i _; rfl
  | succ n ih =>
    intro i h
    simp only [fst1, h i (Nat.le_refl _) (by omega)]
    rw [ih fun j h1 h2 => h j (by omega) (by omega)]
theorem findD_declA {l : List Decl} {nm : Str} : findD (l.map declA) nm = findD l nm := by
  unfold findD idxOf
  rw [List.length_map, fst1_congr fun j _ hj => by rw [nth_map (by omega), sameName_declA]]
theorem any_declA {l : List Decl} {nm : Str} : (l.map declA).any (sameName nm) = l.any (sameName nm) := by
  rw [List.any_map]; congr 1; funext d; exact sameName_declA
theorem declOk_declA {l : List Decl} {i : Nat} (hi : i < l.length) (h : DeclOk l i) : DeclOk (l.map declA) i := by
  have hn : nth (l.map declA) i = declA (nth l i) := nth_map hi
  have ht : (l.map declA).take i = (l.take i).map declA := List.map_take.symm
  by_cases h5 : (nth l i).Srt = 5
  · refine ⟨by rw [hn, declA_name]; exact h.name, by rw [hn, declA_name, ht, any_declA]; exact h.once, ?_, ?_, ?_, ?_⟩ <;> rw [hn, declA_yes h5]
    · exact (by decide : 1 ≤ 8)
    · exact .inl (by show (1 : Int) ≤ 4 ∧ (4 : Int) ≤ 5; decide)
    · rfl
    · intro e; exact absurd e (by decide : (4 : Int) ≠ 5)
  · refine ⟨by rw [hn, declA_name]; exact h.name, by rw [hn, declA_name, ht, any_declA]; exact h.once, ?_, ?_, ?_, ?_⟩ <;> rw [hn, declA_no h5]
    · exact h.few
    · exact h.srt
    · exact h.args
    · exact h.arr
def Flat (b : Ask) (i : Nat) : Prop := NodeOk b i (sortsTo b i) ∧ sortAt b i ≠ 5 ∧ (nth b.Nodes i).Op ≠ 24 ∧ (nth b.Nodes i).Op ≠ 25
section
variable {b : Ask} {i : Nat}
theorem kid_sorts {K : List Int} (hK : ∀ x ∈ K, 0 ≤ x ∧ x < i) : kidS (sortsTo b i) K = K.map fun x => sortAt b x.toNat := by
  unfold kidS
  exact List.map_congr_left fun x hx => sortAt_pre (by have := hK x hx; omega)
theorem flat_of {n : Node} (hn : nth b.Nodes i = n) (ho : 1 ≤ n.Op ∧ n.Op ≤ 25) (h24 : n.Op ≠ 24) (h25 : n.Op ≠ 25) (hf : n.Op = 9 → 0 ≤ findD b.Decls n.Name) (hs : 0 ≤ wantN b n → (n.Kids.length : Int) = wantN b n) (h8 : n.Kids.length ≤ 8)
    (hK : ∀ x ∈ n.Kids, 0 ≤ x ∧ x < i) (hfo : formedN n) (hnu : numsB n = true) {s : Int} (hS : sortN n (n.Kids.map fun x => sortAt b x.toNat) (declOf b n) = s) (h0 : s ≠ 0) (h5 : s ≠ 5) : Flat b i ∧ sortAt b i = s := by
  subst hn
  have ok : NodeOk b i (sortsTo b i) := ⟨ho, hf, hs, h8, hK, hfo, hnu, by rw [kid_sorts hK, hS]; exact h0⟩
  have e : sortAt b i = s := by rw [sortAt_of ok, kid_sorts hK, hS]
  exact ⟨⟨ok, by rw [e]; exact h5, h24, h25⟩, e⟩
theorem flat_name {nm : Str} {x : Int} (hn : nth b.Nodes i = nameNd nm x) (hx : 0 ≤ x ∧ x < i) (h4 : sortAt b x.toNat = 4) (hf : 0 ≤ findD b.Decls nm) (hd : (nth b.Decls (findD b.Decls nm).toNat).Args = [4]) (hs : (nth b.Decls (findD b.Decls nm).toNat).Srt = 4) :
    Flat b i ∧ sortAt b i = 4 := by
  refine flat_of hn ⟨(by decide : (1 : Int) ≤ 9), (by decide : (9 : Int) ≤ 25)⟩ (by decide : (9 : Int) ≠ 24) (by decide : (9 : Int) ≠ 25) (fun _ => hf) (fun _ => ?_) (by decide : 1 ≤ 8) (fun y hy => ?_) ⟨⟨.inr rfl, .inl (.inl rfl)⟩, .inl rfl⟩ rfl ?_ (by decide : (4 : Int) ≠ 0) (by decide)
  · show ((1 : Nat) : Int) = _
    rw [wantN_yes rfl]
    show _ = ((nth b.Decls (findD b.Decls nm).toNat).Args.length : Int)
    rw [hd]; rfl
  · rw [List.mem_singleton.1 hy]; exact hx
  · show sortN (nameNd nm x) [sortAt b x.toNat] (declOf b (nameNd nm x)) = 4
    rw [h4, declOf_yes rfl]
    show (if decide ([4] = (nth b.Decls (findD b.Decls nm).toNat).Args) = true then (nth b.Decls (findD b.Decls nm).toNat).Srt else 0) = 4
    rw [hd, hs]; rfl
theorem flat_same {x y : Int} (hn : nth b.Nodes i = sameNd x y) (hx : 0 ≤ x ∧ x < i) (hy : 0 ≤ y ∧ y < i) (h4 : sortAt b x.toNat = 4) (h4' : sortAt b y.toNat = 4) : Flat b i ∧ sortAt b i = 1 := by
  refine flat_of hn ⟨(by decide : (1 : Int) ≤ 8), (by decide : (8 : Int) ≤ 25)⟩ (by decide : (8 : Int) ≠ 24) (by decide : (8 : Int) ≠ 25) (fun e => absurd e (by decide : (8 : Int) ≠ 9)) (fun _ => rfl) (by decide : 2 ≤ 8) (fun z hz => ?_) ⟨⟨.inl rfl, .inl (.inl rfl)⟩, .inl rfl⟩ rfl ?_ (by decide : (1 : Int) ≠ 0) (by decide)
  · rcases List.mem_cons.1 hz with e | hz
    · rw [e]; exact hx
    · rw [List.mem_singleton.1 hz]; exact hy
  · show sortN (sameNd x y) [sortAt b x.toNat, sortAt b y.toNat] _ = 1
    rw [h4, h4']; rfl
theorem flat_pick {x y z : Int} (hn : nth b.Nodes i = pickNd x y z) (hx : 0 ≤ x ∧ x < i) (hy : 0 ≤ y ∧ y < i) (hz : 0 ≤ z ∧ z < i) (h1 : sortAt b x.toNat = 1) (h4 : sortAt b y.toNat = 4) (h4' : sortAt b z.toNat = 4) : Flat b i ∧ sortAt b i = 4 := by
  refine flat_of hn ⟨(by decide : (1 : Int) ≤ 7), (by decide : (7 : Int) ≤ 25)⟩ (by decide : (7 : Int) ≠ 24) (by decide : (7 : Int) ≠ 25) (fun e => absurd e (by decide : (7 : Int) ≠ 9)) (fun _ => rfl) (by decide : 3 ≤ 8) (fun w hw => ?_) ⟨⟨.inl rfl, .inl (.inl rfl)⟩, .inl rfl⟩ rfl ?_ (by decide : (4 : Int) ≠ 0) (by decide)
  · rcases List.mem_cons.1 hw with e | hw
    · rw [e]; exact hx
    rcases List.mem_cons.1 hw with e | hw
    · rw [e]; exact hy
    · rw [List.mem_singleton.1 hw]; exact hz
  · show sortN (pickNd x y z) [sortAt b x.toNat, sortAt b y.toNat, sortAt b z.toNat] _ = 4
    rw [h1, h4, h4']; rfl
theorem pre_snoc {M : List Node} {y : Node} {B : List Node} (h : (M ++ [y]) <+: B) : M <+: B ∧ nth B M.length = y ∧ M.length < B.length := by
  obtain ⟨r, rfl⟩ := h
  refine ⟨⟨y :: r, by simp⟩, ?_, by simp⟩
  rw [List.append_assoc]
  exact nth_app2 (k := 0)
end
section
variable {a : Ask} {k m : Nat} (h : AskOk a) {b : Ask} (hD : b.Decls = a.Decls.map declA)
theorem getL_pre {to : List Int} {x : Int} {N B : List Node} : ∀ k, getL a to x N k <+: B → N <+: B := by
  intro k
  induction k using Nat.strongRecOn with
  | _ k ih =>
    intro hp
    by_cases h9 : (nth a.Nodes k).Op = 9
    · rw [getL_name h9] at hp; exact (pre_snoc hp).1
    · by_cases hk : kidN (nth a.Nodes k) 0 < k
      · rw [getL_put h9 hk] at hp
        exact ih _ hk (pre_snoc (pre_snoc hp).1).1
      · rw [getL, if_neg h9, dif_neg hk] at hp; exact hp
def Told (a b : Ask) (to : List Int) (n m : Nat) : Prop := ∀ j, j < m → nth (sorts a) j ≠ 5 → (0 ≤ nth to j ∧ nth to j < n) ∧ sortAt b (nth to j).toNat = nth (sorts a) j
include h hD
theorem getL_flat {to : List Int} {x : Int} {N : List Node} (ht : Told a b to N.length m) (hx : 0 ≤ x ∧ x < N.length) (h4 : sortAt b x.toNat = 4) (hN : ∀ i, i < N.length → Flat b i) :
    ∀ k, k < a.Nodes.length → nth (sorts a) k = 5 → k ≤ m → getL a to x N k <+: b.Nodes → (∀ i, i < (getL a to x N k).length → Flat b i) ∧ N.length < (getL a to x N k).length ∧ sortAt b ((getL a to x N k).length - 1) = 4 := by
  intro k
  induction k using Nat.strongRecOn with
  | _ k ih =>
    intro hk hs hm hp
    rcases arr_at h hk hs with h9 | ⟨h25, _⟩
    · rw [getL_name h9] at hp ⊢
      have hd := decl_at h hk h9
      have hso := (sort_at h hk).2
      rw [hs, outS, h9, declOf_yes h9] at hso
      have h5 : (nth a.Decls (findD a.Decls (nth a.Nodes k).Name).toNat).Srt = 5 := hso.symm
      have hfl := flat_name (b := b) (pre_snoc hp).2.1 ⟨hx.1, by omega⟩ h4 (by rw [hD, findD_declA]; exact (h.nodes k hk).found h9) (by rw [hD, findD_declA, nth_map hd.1, declA_yes h5]) (by rw [hD, findD_declA, nth_map hd.1, declA_yes h5])
      rw [List.length_append, List.length_singleton]
      refine ⟨fun i hi => ?_, by omega, by rw [Nat.add_sub_cancel]; exact hfl.2⟩
      by_cases hi2 : i < N.length
      · exact hN i hi2
      · rw [show i = N.length by omega]; exact hfl.1
    · obtain ⟨hl, s0, s1, s2⟩ := put_kids h hk h25
      have k0 := kid_lt h hk (j := 0) (by omega)
      have k1 := kid_lt h hk (j := 1) (by omega)
      have k2 := kid_lt h hk (j := 2) (by omega)
      have h9 : ¬ (nth a.Nodes k).Op = 9 := by omega
      rw [getL_put h9 k0.2] at hp ⊢
      obtain ⟨p1, p2, p3⟩ := pre_snoc hp
      obtain ⟨q1, q2, q3⟩ := pre_snoc p1
      obtain ⟨i1, i2, i3⟩ := ih _ k0.2 (by omega) s0 (by omega) q1
      have t1 := ht _ (show kidN (nth a.Nodes k) 1 < m by omega) (by omega)
      have t2 := ht _ (show kidN (nth a.Nodes k) 2 < m by omega) (by omega)
      generalize getL a to x N (kidN (nth a.Nodes k) 0) = R at *
      have f1 := flat_same q2 ⟨t1.1.1, by omega⟩ ⟨hx.1, by omega⟩ (t1.2.trans s1) h4
      have len1 : (R ++ [sameNd (nth to (kidN (nth a.Nodes k) 1)) x]).length = R.length + 1 := by rw [List.length_append, List.length_singleton]
      rw [len1] at p2 p3
      have f2 := flat_pick p2 ⟨by omega, by omega⟩ ⟨t2.1.1, by omega⟩ ⟨by omega, by omega⟩ (by rw [Int.toNat_natCast]; exact f1.2) (t2.2.trans s2) (by rw [show ((R.length : Int) - 1).toNat = R.length - 1 from by omega]; exact i3)
      rw [List.length_append, len1, List.length_singleton]
      refine ⟨fun i hi => ?_, by omega, by rw [Nat.add_sub_cancel]; exact f2.2⟩
      by_cases hi2 : i < R.length
      · exact i1 i hi2
      · by_cases hi3 : i = R.length
        · rw [hi3]; exact f1.1
        · rw [show i = R.length + 1 by omega]; exact f2.1
theorem turn_flatN : ∀ k, k ≤ a.Nodes.length → (turnTo a k).Nodes <+: b.Nodes → (∀ i, i < (turnTo a k).Nodes.length → Flat b i) ∧ Told a b (turnTo a k).To (turnTo a k).Nodes.length k := by
  intro k
  induction k with
  | zero => intro _ _; exact ⟨fun i hi => absurd hi (Nat.not_lt_zero i), fun j hj => absurd hj (Nat.not_lt_zero j)⟩
  | succ k ih =>
    intro hk hp
    have htl := turnTo_to (a := a) k
    have told : ∀ {n : Nat} {y : Int}, (turnTo a k).Nodes.length ≤ n → Told a b (turnTo a k).To (turnTo a k).Nodes.length k → (nth (sorts a) k ≠ 5 → (0 ≤ y ∧ y < n) ∧ sortAt b y.toNat = nth (sorts a) k) → Told a b ((turnTo a k).To ++ [y]) n (k + 1) := by
      intro n y hn ht hy j hj hs
      by_cases hjk : j = k
      · subst hjk
        have e := nth_last (l := (turnTo a j).To) (x := y)
        rw [htl] at e
        rw [e]; exact hy hs
      · rw [nth_app1 (by omega)]
        have := ht j (by omega) hs
        exact ⟨⟨this.1.1, by omega⟩, this.2⟩
    by_cases h5 : nth (sorts a) k = 5
    · rw [(turn_arr h5).1] at hp ⊢
      rw [(turn_arr h5).2]
      obtain ⟨i1, i2⟩ := ih (by omega) hp
      exact ⟨i1, told (Nat.le_refl _) i2 fun hs => absurd h5 hs⟩
    · by_cases h24 : (nth a.Nodes k).Op = 24
      · obtain ⟨hl, g0, g1⟩ := got_kids h (by omega) h24
        have k0 := kid_lt h (k := k) (by omega) (j := 0) (by omega)
        have k1 := kid_lt h (k := k) (by omega) (j := 1) (by omega)
        rw [(turn_get h5 h24).1] at hp ⊢
        rw [(turn_get h5 h24).2]
        obtain ⟨i1, i2⟩ := ih (by omega) (getL_pre _ hp)
        have t1 := i2 _ k1.2 (by omega)
        obtain ⟨f1, f2, f3⟩ := getL_flat h hD i2 t1.1 (t1.2.trans g1) i1 _ (by omega) g0 (by omega) hp
        refine ⟨f1, told (by omega) i2 fun _ => ⟨⟨by omega, by omega⟩, ?_⟩⟩
        rw [show ∀ n : Nat, ((n : Int) - 1).toNat = n - 1 from fun n => by omega, f3]
        have hso := (sort_at h (k := k) (by omega)).2
        rw [outS, h24] at hso
        exact hso.symm
      · rw [(turn_flat h5 h24).1] at hp ⊢
        rw [(turn_flat h5 h24).2]
        obtain ⟨p1, p2, p3⟩ := pre_snoc hp
        obtain ⟨i1, i2⟩ := ih (by omega) p1
        have hn := h.nodes k (by omega)
        have hso := sort_at h (k := k) (by omega)
        have hfk := flat_kids h (k := k) (by omega) h5 h24
        have hkk : ∀ x ∈ (nth a.Nodes k).Kids, 0 ≤ x ∧ x.toNat < k := fun x hx => by have := hn.kids x hx; omega
        have hK : (kidS (turnTo a k).To (nth a.Nodes k).Kids).map (fun x => sortAt b x.toNat) = kidS (sorts a) (nth a.Nodes k).Kids := by
          unfold kidS
          rw [List.map_map]
          refine List.map_congr_left fun x hx => ?_
          exact (i2 _ (hkk x hx).2 (hfk x hx)).2
        have h9n : (nth a.Nodes k).Op = 9 → (nth a.Decls (findD a.Decls (nth a.Nodes k).Name).toNat).Srt ≠ 5 := by
          intro h9 e
          have := hso.2
          rw [outS, h9, declOf_yes h9] at this
          exact h5 (this.trans e)
        have hdo : declOf b (Node.mk (nth a.Nodes k).Op (kidS (turnTo a k).To (nth a.Nodes k).Kids) (nth a.Nodes k).N (nth a.Nodes k).D (nth a.Nodes k).Name) = declOf a (nth a.Nodes k) := by
          by_cases h9 : (nth a.Nodes k).Op = 9
          · have e1 : declOf b (Node.mk (nth a.Nodes k).Op (kidS (turnTo a k).To (nth a.Nodes k).Kids) (nth a.Nodes k).N (nth a.Nodes k).D (nth a.Nodes k).Name) = nth b.Decls (findD b.Decls (nth a.Nodes k).Name).toNat := if_pos h9
            rw [e1, declOf_yes h9, hD, findD_declA, nth_map (decl_at h (by omega) h9).1, declA_no (h9n h9)]
          · have e1 : declOf b (Node.mk (nth a.Nodes k).Op (kidS (turnTo a k).To (nth a.Nodes k).Kids) (nth a.Nodes k).N (nth a.Nodes k).D (nth a.Nodes k).Name) = ⟨noText, [], 0⟩ := if_neg h9
            rw [e1, declOf_no h9]
        have hwa : wantN b (Node.mk (nth a.Nodes k).Op (kidS (turnTo a k).To (nth a.Nodes k).Kids) (nth a.Nodes k).N (nth a.Nodes k).D (nth a.Nodes k).Name) = wantN a (nth a.Nodes k) := by
          unfold wantN
          rw [hdo]
        have hf := flat_of (b := b) p2 hn.op h24 (fun e => h5 (put5 h (by omega) e)) (fun h9 => by rw [hD, findD_declA]; exact hn.found h9) (fun h0 => by
            rw [hwa] at h0 ⊢
            show ((kidS _ _).length : Int) = _
            rw [kidS_len]; exact hn.size h0) (by show (kidS _ _).length ≤ 8; rw [kidS_len]; exact hn.few)
          (fun y hy => by
            obtain ⟨x, hx, rfl⟩ := List.mem_map.1 hy
            have := (i2 _ (hkk x hx).2 (hfk x hx)).1
            exact ⟨this.1, this.2⟩) hn.formed hn.nums (s := nth (sorts a) k) (by
            rw [hdo, hK, hso.2]
            exact if_pos hso.1) (by
            have h0 := hn.sort
            rw [kidS_sorts h (by omega)] at h0
            rw [(sort_at h (k := k) (by omega)).2, ← (sortN_ok h0).2]; exact h0) h5
        rw [List.length_append, List.length_singleton]
        refine ⟨fun i hi => ?_, told (by omega) i2 fun _ => ⟨⟨by omega, by omega⟩, by rw [Int.toNat_natCast]; exact hf.2⟩⟩
        by_cases hi2 : i < (turnTo a k).Nodes.length
        · exact i1 i hi2
        · rw [show i = (turnTo a k).Nodes.length by omega]; exact hf.1
end
theorem none_ok {a : Ask} (hz : (doF a).1 = 0) : sortsF (doA a) = (0, 0) ∧ (∀ i, i < (doA a).Nodes.length → Flat (doA a) i) ∧ Told a (doA a) (turned a).To (turned a).Nodes.length a.Nodes.length := by
  obtain ⟨h1, h2⟩ := doF_zero hz
  have h := askOk h1
  have hd := doA_ok hz
  have hD : (doA a).Decls = a.Decls.map declA := by rw [hd]
  have hN : (doA a).Nodes = (turned a).Nodes := by rw [hd]
  have hH : (doA a).Hold = a.Hold.map fun k => nth (turned a).To k.toNat := by rw [hd]
  obtain ⟨f1, f2⟩ := turn_flatN h hD a.Nodes.length (Nat.le_refl _) (by rw [hN]; exact List.prefix_refl _)
  refine ⟨sortsF_good (by rw [hD, List.length_map]; exact h.few) (fun i hi => ?_) (by rw [hN]; exact h2) (fun i hi => (f1 i (by rw [hN] at hi; exact hi)).1) (by rw [hH, List.length_map]; exact h.holds) (fun u hu => ?_), fun i hi => f1 i (by rw [hN] at hi; exact hi), f2⟩
  · rw [hD] at hi ⊢
    rw [List.length_map] at hi
    exact declOk_declA hi (h.decls i hi)
  · rw [hH, List.length_map] at hu
    have hh := h.hold u hu
    have ht := f2 (nth a.Hold u).toNat (by omega) (by unfold sorts; rw [hh.2]; decide)
    rw [hH, nth_map hu, hN]
    refine ⟨ht.1, ?_⟩
    rw [sortAt_pre (by have := ht.1; unfold turned; omega)]
    exact ht.2.trans hh.2
end Go.Um
namespace Go.Um
theorem gotL_fst (l : List Cell) (r x : Int) : (fst1 (fun k => if (nth l k).At = x then some (nth l k).It else none) 0 l.length).getD r = ((l.find? fun c => decide (c.At = x)).map (·.It)).getD r := by
  suffices h : ∀ (l : List Cell) (p : List Cell), fst1 (fun k => if (nth (p ++ l) k).At = x then some (nth (p ++ l) k).It else none) p.length l.length = (l.find? fun c => decide (c.At = x)).map (·.It) by
    have := h l []; simp only [List.nil_append, List.length_nil] at this; rw [this]
  intro l
  induction l with
  | nil => intro p; rfl
  | cons c l ih =>
    intro p
    have e : nth (p ++ c :: l) p.length = c := nth_app2 (l := p) (m := c :: l) (k := 0)
    rw [List.length_cons, fst1, List.find?_cons]
    simp only [e]
    by_cases hc : c.At = x
    · simp [hc]
    · have h2 := ih (p ++ [c])
      rw [List.append_assoc, List.length_append] at h2
      simp only [hc, if_false, decide_false]
      exact h2
theorem gotV_find (v : Val) (x : Int) : gotV v x = ((v.Cells.find? fun c => decide (c.At = x)).map (·.It)).getD v.Rest := gotL_fst v.Cells v.Rest x
def fnd (l : List Cell) (z : Int) : Option Int := (l.find? fun c => decide (c.At = z)).map (·.It)
theorem fnd_app {l m : List Cell} {z : Int} : fnd (l ++ m) z = (fnd l z).or (fnd m z) := by
  unfold fnd
  rw [List.find?_append]
  cases l.find? _ <;> rfl
theorem fnd_one {c : Cell} {z : Int} : fnd [c] z = if c.At = z then some c.It else none := by
  unfold fnd
  by_cases h : c.At = z <;> simp [h]
theorem putTo_other {v : Val} {x y z : Int} (hz : z ≠ x) : ∀ k, k ≤ v.Cells.length → fnd (putTo v x y k).1 z = fnd (v.Cells.take k) z := by
  intro k
  induction k with
  | zero => intro _; rfl
  | succ k ih =>
    intro hk
    rw [putTo, putOne, take_succ_nth (by omega)]
    show fnd (_ ++ _) z = _
    rw [fnd_app, fnd_app, ← ih (by omega)]
    have h1 : fnd (if (putTo v x y k).2 = false ∧ x ≤ (nth v.Cells k).At then (putTo v x y k).1 ++ [⟨x, y⟩] else (putTo v x y k).1) z = fnd (putTo v x y k).1 z := by
      split
      · rw [fnd_app, fnd_one, if_neg (show ¬ x = z by omega)]
        cases fnd (putTo v x y k).1 z <;> rfl
      · rfl
    rw [h1]
    congr 1
    by_cases hc : (nth v.Cells k).At = x
    · rw [if_neg (not_not_intro hc), fnd_one, if_neg (by omega)]; rfl
    · rw [if_pos hc]
theorem putTo_same {v : Val} {x y : Int} : ∀ k, fnd (putTo v x y k).1 x = if y ≠ v.Rest ∧ (putTo v x y k).2 = true then some y else none := by
  intro k
  induction k with
  | zero =>
    show fnd [] x = if y ≠ v.Rest ∧ decide (y = v.Rest) = true then some y else none
    by_cases h : y = v.Rest <;> simp [h, fnd]
  | succ k ih =>
    rw [putTo, putOne]
    show fnd (_ ++ _) x = if y ≠ v.Rest ∧ decide _ = true then some y else none
    have h2 : fnd (if (nth v.Cells k).At ≠ x then [nth v.Cells k] else []) x = none := by
      split
      · rename_i h; rw [fnd_one, if_neg h]
      · rfl
    have hd : (putTo v x y k).2 = false → y ≠ v.Rest := by
      clear ih h2
      induction k with
      | zero => intro h e; have : decide (y = v.Rest) = false := h; simp [e] at this
      | succ k ihk =>
        intro h
        refine ihk ?_
        rw [putTo, putOne] at h
        have h' : decide ((putTo v x y k).2 = true ∨ x ≤ (nth v.Cells k).At) = false := h
        have := of_decide_eq_false h'
        cases hb : (putTo v x y k).2
        · rfl
        · exact absurd (.inl hb) this
    rw [fnd_app, h2]
    by_cases hc : (putTo v x y k).2 = false ∧ x ≤ (nth v.Cells k).At
    · rw [if_pos hc, fnd_app, ih, hc.1, fnd_one, if_pos rfl, if_neg (fun e => by cases e.2), if_pos ⟨hd hc.1, decide_eq_true (.inr hc.2)⟩]; rfl
    · rw [if_neg hc, ih]
      have e : decide ((putTo v x y k).2 = true ∨ x ≤ (nth v.Cells k).At) = (putTo v x y k).2 := by
        cases hb : (putTo v x y k).2
        · exact decide_eq_false fun e => e.elim (fun e => by cases e) fun e => hc ⟨hb, e⟩
        · exact decide_eq_true (.inl rfl)
      rw [e]
      split <;> rfl
theorem got_put {v : Val} {x y z : Int} : gotV (putV v x y) z = if z = x then y else gotV v z := by
  rw [gotV_find, gotV_find]
  show (fnd (putV v x y).Cells z).getD v.Rest = if z = x then y else (fnd v.Cells z).getD v.Rest
  show (fnd ((putTo v x y v.Cells.length).1 ++ (if (putTo v x y v.Cells.length).2 = false then [⟨x, y⟩] else [])) z).getD v.Rest = _
  rw [fnd_app]
  by_cases hz : z = x
  · subst hz
    rw [if_pos rfl, putTo_same]
    cases hb : (putTo v z y v.Cells.length).2
    · rw [if_neg (fun e => by cases e.2), if_pos rfl, fnd_one, if_pos rfl]; rfl
    · by_cases hy : y = v.Rest
      · rw [if_neg (fun e => e.1 hy), if_neg (by decide), hy]; rfl
      · rw [if_pos ⟨hy, rfl⟩]; rfl
  · rw [if_neg hz, putTo_other hz _ (Nat.le_refl _), List.take_length]
    have : fnd (if (putTo v x y v.Cells.length).2 = false then [(⟨x, y⟩ : Cell)] else []) z = none := by
      split
      · rw [fnd_one, if_neg (show ¬ x = z by omega)]
      · rfl
    rw [this]
    cases fnd v.Cells z <;> rfl
def nodeV (a : Ask) (w : Wld) (i : Nat) : Val := (valAt a w (valTo a w i) i).1
def nodeOk (a : Ask) (w : Wld) (i : Nat) : Bool := (valAt a w (valTo a w i) i).2
theorem valTo_pre {a : Ask} {w : Wld} {k j : Nat} (hj : j < k) : nth (valTo a w k) j = nodeV a w j := by
  induction k with
  | zero => omega
  | succ k ih =>
    rw [valTo]
    by_cases h : j < k
    · rw [nth_app1 (by rw [valTo_len]; exact h)]; exact ih h
    · have : j = k := by omega
      subst this
      have h2 := nth_last (l := valTo a w j) (x := (valAt a w (valTo a w j) j).1)
      rwa [valTo_len] at h2
theorem kid_vals {a : Ask} {w : Wld} {i : Nat} {K : List Int} (hK : ∀ x ∈ K, 0 ≤ x ∧ x < i) : kidV (valTo a w i) K = K.map fun x => nodeV a w x.toNat := by
  unfold kidV
  exact List.map_congr_left fun x hx => valTo_pre (by have := hK x hx; omega)
def Thg (v : Val) : Prop := v = numV v.VNum
theorem thg_num {n : Int} : Thg (numV n) := rfl
theorem thg_is {v : Val} (h : isV 4 v = true) : Thg v := by
  obtain ⟨h1, h2, _, h3⟩ := isV_flat h (by decide)
  have h4 := h3 (by decide)
  obtain ⟨n, d, c, r⟩ := v
  simp only at h1 h2 h4
  subst h1 h2 h4
  rfl
theorem bitsTo_congr {S S' : List Int} {s s' : Int} {l l' : List Int} (hs : s = s') : ∀ n, (∀ j, j < n → nth S (nth l j).toNat = nth S' (nth l' j).toNat) → bitsTo S s l n = bitsTo S' s' l' n
  | 0, _ => by rw [bitsTo, bitsTo, hs]
  | n + 1, h => by rw [bitsTo, bitsTo, h n (by omega), bitsTo_congr hs n fun j hj => h j (by omega)]
theorem valueV_congr {a b : Ask} {w v : Wld} {n n' : Node} {K : List Val} {t : Int} (h9 : n.Op = 9 → toldV (nth w.Means (findD a.Decls n.Name).toNat) K = toldV (nth v.Means (findD b.Decls n'.Name).toNat) K) (ho : n'.Op = n.Op) (hN : n'.N = n.N) (hD : n'.D = n.D) : valueV a w n K t = valueV b v n' K t := by
  have hnum : numberV n K = numberV n' K := by unfold numberV; rw [ho, hN, hD]
  by_cases h : n.Op = 9
  · rw [vv_9 h, vv_9 (ho.trans h), h9 h]
  · have h' : ¬ n'.Op = 9 := by rw [ho]; exact h
    unfold valueV
    rw [if_neg h, if_neg h', ho, hN, hD, hnum]
def Agree (a : Ask) (w v : Wld) : Prop := ∀ i, i < a.Decls.length → ((nth a.Decls i).Srt ≠ 5 → ∀ K, toldV (nth w.Means i) K = toldV (nth v.Means i) K) ∧
  ((nth a.Decls i).Srt = 5 → ∀ x, Thg x → toldV (nth v.Means i) [x] = numV (gotV (toldV (nth w.Means i) []) x.VNum))
section
variable {a : Ask} {w v : Wld} {k m : Nat} (h : MeanOk a w) {b : Ask} (hD : b.Decls = a.Decls.map declA) (hag : Agree a w v)
theorem turn_pre : ∀ m, k ≤ m → (turnTo a k).Nodes <+: (turnTo a m).Nodes := by
  intro m
  induction m with
  | zero => intro hk; rw [show k = 0 by omega]; exact List.prefix_refl _
  | succ m ih =>
    intro hk
    by_cases hkm : k ≤ m
    · refine (ih hkm).trans ?_
      rw [turnTo, stepT]
      split
      · exact List.prefix_refl _
      split
      · exact getL_pre _ (List.prefix_refl _)
      · exact List.prefix_append _ _
    · rw [show k = m + 1 by omega]; exact List.prefix_refl _
include h in
theorem arr_name (hk : k < a.Nodes.length) (h9 : (nth a.Nodes k).Op = 9) (hs : nth (sorts a) k = 5) : nodeV a w k = toldV (nth w.Means (findD a.Decls (nth a.Nodes k).Name).toNat) [] ∧ nodeOk a w k = true := by
  have hd := decl_at h.ask hk h9
  have hso := (sort_at h.ask hk).2
  rw [hs, outS, h9, declOf_yes h9] at hso
  have h5 : (nth a.Decls (findD a.Decls (nth a.Nodes k).Name).toNat).Srt = 5 := hso.symm
  have hl := (h.ask.nodes k hk).size (by rw [wantN_yes h9]; omega)
  rw [wantN_yes h9, hd.2.arr h5] at hl
  have hK : (nth a.Nodes k).Kids = [] := List.eq_nil_of_length_eq_zero (by omega)
  unfold nodeV nodeOk valAt
  rw [vv_9 h9, hK]
  exact ⟨rfl, rfl⟩
include h in
theorem arr_put (hk : k < a.Nodes.length) (h25 : (nth a.Nodes k).Op = 25) : nodeV a w k = putV (nodeV a w (kidN (nth a.Nodes k) 0)) (nodeV a w (kidN (nth a.Nodes k) 1)).VNum (nodeV a w (kidN (nth a.Nodes k) 2)).VNum ∧ nodeOk a w k = true := by
  obtain ⟨hl, _⟩ := put_kids h.ask hk h25
  have k0 := kid_lt h.ask hk (j := 0) (by omega)
  have k1 := kid_lt h.ask hk (j := 1) (by omega)
  have k2 := kid_lt h.ask hk (j := 2) (by omega)
  have e : ∀ j, j < 3 → nth (kidV (valTo a w k) (nth a.Nodes k).Kids) j = nodeV a w (kidN (nth a.Nodes k) j) := fun j hj => by
    rw [nth_kidV (by omega)]
    have := kid_lt h.ask hk (j := j) (by omega)
    exact valTo_pre this.2
  unfold nodeV nodeOk valAt at *
  rw [vv_25 h25, e 0 (by omega), e 1 (by omega), e 2 (by omega)]
  exact ⟨rfl, rfl⟩
def Meant (a b : Ask) (w v : Wld) (to : List Int) (m : Nat) : Prop := ∀ j, j < m → nth (sorts a) j ≠ 5 → nodeV b v (nth to j).toNat = nodeV a w j
def Things (a : Ask) (w : Wld) (m : Nat) : Prop := ∀ j, j < m → nth (sorts a) j = 4 → Thg (nodeV a w j)
theorem all_snoc {P : Nat → Prop} {n : Nat} (h : ∀ i, i < n → P i) (hn : P n) : ∀ i, i < n + 1 → P i := fun i hi => by
  by_cases e : i = n
  · rw [e]; exact hn
  · exact h i (by omega)
theorem val_of {b : Ask} {v : Wld} {i : Nat} {n : Node} (hn : nth b.Nodes i = n) (hK : ∀ x ∈ n.Kids, 0 ≤ x ∧ x < i) {y : Val × Bool} (hy : ∀ t, valueV b v n (n.Kids.map fun x => nodeV b v x.toNat) t = y) : nodeV b v i = y.1 ∧ nodeOk b v i = y.2 := by
  subst hn
  unfold nodeV nodeOk valAt
  rw [kid_vals hK, hy]
  exact ⟨rfl, rfl⟩
include h hD hag
theorem getL_mean {to : List Int} {x : Int} {N : List Node} (ht : Told a b to N.length m) (hm : Meant a b w v to m) (hth : Things a w m) (hx : 0 ≤ x ∧ x < N.length) (hX : Thg (nodeV b v x.toNat)) :
    ∀ k, k < a.Nodes.length → nth (sorts a) k = 5 → k ≤ m → getL a to x N k <+: b.Nodes → (∀ i, N.length ≤ i → i < (getL a to x N k).length → nodeOk b v i = true) ∧ N.length < (getL a to x N k).length ∧
      nodeV b v ((getL a to x N k).length - 1) = numV (gotV (nodeV a w k) (nodeV b v x.toNat).VNum) := by
  intro k
  induction k using Nat.strongRecOn with
  | _ k ih =>
    intro hk hs hkm hp
    rcases arr_at h.ask hk hs with h9 | ⟨h25, _⟩
    · rw [getL_name h9] at hp ⊢
      have hd := decl_at h.ask hk h9
      have hso := (sort_at h.ask hk).2
      rw [hs, outS, h9, declOf_yes h9] at hso
      have h5 : (nth a.Decls (findD a.Decls (nth a.Nodes k).Name).toNat).Srt = 5 := hso.symm
      have hv := val_of (b := b) (v := v) (pre_snoc hp).2.1 (fun y hy => by rw [List.mem_singleton.1 hy]; exact ⟨hx.1, by omega⟩) (y := (numV (gotV (nodeV a w k) (nodeV b v x.toNat).VNum), true)) (fun t => by
        rw [vv_9 (n := nameNd _ _) rfl]
        show (toldV (nth v.Means (findD b.Decls (nth a.Nodes k).Name).toNat) [nodeV b v x.toNat], true) = _
        rw [hD, findD_declA, ((hag _ hd.1).2 h5) _ hX, (arr_name h hk h9 hs).1])
      rw [List.length_append, List.length_singleton]
      refine ⟨fun i h1 h2 => ?_, by omega, by rw [Nat.add_sub_cancel]; exact hv.1⟩
      rw [show i = N.length by omega]; exact hv.2
    · obtain ⟨hl, s0, s1, s2⟩ := put_kids h.ask hk h25
      have k0 := kid_lt h.ask hk (j := 0) (by omega)
      have k1 := kid_lt h.ask hk (j := 1) (by omega)
      have k2 := kid_lt h.ask hk (j := 2) (by omega)
      have h9 : ¬ (nth a.Nodes k).Op = 9 := by omega
      rw [(arr_put h hk h25).1, got_put]
      rw [getL_put h9 k0.2] at hp ⊢
      obtain ⟨p1, p2, p3⟩ := pre_snoc hp
      obtain ⟨q1, q2, q3⟩ := pre_snoc p1
      obtain ⟨i1, i2, i3⟩ := ih _ k0.2 (by omega) s0 (by omega) q1
      have t1 := ht _ (show kidN (nth a.Nodes k) 1 < m by omega) (by omega)
      have t2 := ht _ (show kidN (nth a.Nodes k) 2 < m by omega) (by omega)
      have m1 := hm _ (show kidN (nth a.Nodes k) 1 < m by omega) (by omega)
      have m2 := hm _ (show kidN (nth a.Nodes k) 2 < m by omega) (by omega)
      have g1 := hth _ (show kidN (nth a.Nodes k) 1 < m by omega) s1
      have g2 := hth _ (show kidN (nth a.Nodes k) 2 < m by omega) s2
      generalize getL a to x N (kidN (nth a.Nodes k) 0) = R at *
      have len1 : (R ++ [sameNd (nth to (kidN (nth a.Nodes k) 1)) x]).length = R.length + 1 := by rw [List.length_append, List.length_singleton]
      rw [len1] at p2 p3
      have v1 := val_of (b := b) (v := v) q2 (fun y hy => by
        rcases List.mem_cons.1 hy with e | hy
        · rw [e]; exact ⟨t1.1.1, by omega⟩
        · rw [List.mem_singleton.1 hy]; exact ⟨hx.1, by omega⟩) (y := (truthV ((nodeV b v x.toNat).VNum = (nodeV a w (kidN (nth a.Nodes k) 1)).VNum), true)) (fun t => by
        rw [vv_8 (n := sameNd _ _) rfl]
        show (truthV ((nodeV b v (nth to (kidN (nth a.Nodes k) 1)).toNat).VNum = (nodeV b v x.toNat).VNum ∧ (nodeV b v (nth to (kidN (nth a.Nodes k) 1)).toNat).VDen = (nodeV b v x.toNat).VDen), true) = _
        rw [m1]
        have e1 : (nodeV a w (kidN (nth a.Nodes k) 1)).VDen = 1 := by rw [g1]; rfl
        have e2 : (nodeV b v x.toNat).VDen = 1 := by rw [hX]; rfl
        rw [e1, e2]
        unfold truthV bitP
        by_cases hz : (nodeV b v x.toNat).VNum = (nodeV a w (kidN (nth a.Nodes k) 1)).VNum
        · rw [if_pos hz, if_pos ⟨hz.symm, rfl⟩]
        · rw [if_neg hz, if_neg fun e => hz e.1.symm])
      have v2 := val_of (b := b) (v := v) p2 (fun y hy => by
        rcases List.mem_cons.1 hy with e | hy
        · rw [e]; exact ⟨by omega, by omega⟩
        rcases List.mem_cons.1 hy with e | hy
        · rw [e]; exact ⟨t2.1.1, by omega⟩
        · rw [List.mem_singleton.1 hy]; exact ⟨by omega, by omega⟩) (y := (if (nodeV b v x.toNat).VNum = (nodeV a w (kidN (nth a.Nodes k) 1)).VNum then numV (nodeV a w (kidN (nth a.Nodes k) 2)).VNum else numV (gotV (nodeV a w (kidN (nth a.Nodes k) 0)) (nodeV b v x.toNat).VNum), true)) (fun t => by
        rw [vv_7 (n := pickNd _ _ _) rfl]
        show (if (nodeV b v ((R.length : Int)).toNat).VNum = 1 then nodeV b v (nth to (kidN (nth a.Nodes k) 2)).toNat else nodeV b v ((R.length : Int) - 1).toNat, true) = _
        rw [Int.toNat_natCast, v1.1, show ((R.length : Int) - 1).toNat = R.length - 1 from by omega, i3, m2]
        show (if bitP _ = 1 then _ else _, true) = _
        by_cases hz : (nodeV b v x.toNat).VNum = (nodeV a w (kidN (nth a.Nodes k) 1)).VNum
        · rw [bitP_yes hz, if_pos rfl, if_pos hz]; exact congrArg (·, true) g2
        · rw [bitP_no hz, if_neg (by decide), if_neg hz])
      rw [List.length_append, len1, List.length_singleton]
      refine ⟨fun i j1 j2 => ?_, by omega, ?_⟩
      · by_cases hi2 : i < R.length
        · exact i1 i j1 hi2
        · by_cases hi3 : i = R.length
          · rw [hi3]; exact v1.2
          · rw [show i = R.length + 1 by omega]; exact v2.2
      · rw [Nat.add_sub_cancel, v2.1]
        show (if _ then _ else _ : Val) = _
        split <;> rfl
theorem turn_mean (hb : b.Nodes = (turned a).Nodes) : ∀ k, k ≤ a.Nodes.length → Meant a b w v (turnTo a k).To k ∧ Things a w k ∧ ((∀ i, i < (turnTo a k).Nodes.length → nodeOk b v i = true) ↔ ∀ j, j < k → nodeOk a w j = true) := by
  intro k
  induction k with
  | zero => intro _; exact ⟨fun j hj => absurd hj (Nat.not_lt_zero j), fun j hj => absurd hj (Nat.not_lt_zero j), ⟨fun _ j hj => absurd hj (Nat.not_lt_zero j), fun _ j hj => absurd hj (Nat.not_lt_zero j)⟩⟩
  | succ k ih =>
    intro hk
    have htl := turnTo_to (a := a) k
    obtain ⟨i1, i2, i3⟩ := ih (by omega)
    have hA := h.ask
    have hp0 : (turnTo a k).Nodes <+: b.Nodes := by rw [hb]; exact turn_pre _ (by omega)
    have hp : (turnTo a (k + 1)).Nodes <+: b.Nodes := by rw [hb]; exact turn_pre _ hk
    obtain ⟨f1, f2⟩ := turn_flatN hA hD k (by omega) hp0
    have meant : ∀ {y : Int}, (nth (sorts a) k ≠ 5 → nodeV b v y.toNat = nodeV a w k) → Meant a b w v ((turnTo a k).To ++ [y]) (k + 1) := by
      intro y hy j hj hs
      by_cases hjk : j = k
      · subst hjk
        have e := nth_last (l := (turnTo a j).To) (x := y)
        rw [htl] at e
        rw [e]; exact hy hs
      · rw [nth_app1 (by omega)]; exact i1 j (by omega) hs
    by_cases h5 : nth (sorts a) k = 5
    · have hok : nodeOk a w k = true := by
        rcases arr_at hA (k := k) (by omega) h5 with h9 | ⟨h25, _⟩
        · exact (arr_name h (by omega) h9 h5).2
        · exact (arr_put h (by omega) h25).2
      rw [(turn_arr h5).1, (turn_arr h5).2]
      exact ⟨meant fun hs => absurd h5 hs, all_snoc i2 fun e => by rw [h5] at e; exact absurd e (by decide), i3.trans ⟨fun hh => all_snoc hh hok, fun hh j hj => hh j (by omega)⟩⟩
    · by_cases h24 : (nth a.Nodes k).Op = 24
      · obtain ⟨hl, g0, g1⟩ := got_kids hA (by omega) h24
        have k0 := kid_lt hA (k := k) (by omega) (j := 0) (by omega)
        have k1 := kid_lt hA (k := k) (by omega) (j := 1) (by omega)
        rw [(turn_get h5 h24).1] at hp ⊢
        rw [(turn_get h5 h24).2]
        have t1 := f2 _ k1.2 (by omega)
        have m1 := i1 _ k1.2 (by omega)
        have gl := getL_mean h hD hag f2 i1 i2 t1.1 (by rw [m1]; exact i2 _ k1.2 g1) _ (by omega) g0 (by omega) hp
        have va : nodeV a w k = numV (gotV (nodeV a w (kidN (nth a.Nodes k) 0)) (nodeV a w (kidN (nth a.Nodes k) 1)).VNum) ∧ nodeOk a w k = true := by
          have e : ∀ j, j < 2 → nth (kidV (valTo a w k) (nth a.Nodes k).Kids) j = nodeV a w (kidN (nth a.Nodes k) j) := fun j hj => by
            rw [nth_kidV (by omega)]
            have := kid_lt hA (k := k) (by omega) (j := j) (by omega)
            exact valTo_pre this.2
          unfold nodeV nodeOk valAt at *
          rw [vv_24 h24, e 0 (by omega), e 1 (by omega)]
          exact ⟨rfl, rfl⟩
        refine ⟨meant fun _ => ?_, all_snoc i2 fun _ => by rw [va.1]; exact thg_num, ⟨fun hh => all_snoc (i3.1 fun i hi => hh i (by omega)) va.2, fun hh i hi => ?_⟩⟩
        · rw [show ∀ n : Nat, ((n : Int) - 1).toNat = n - 1 from fun n => by omega, gl.2.2, va.1, m1]
        · by_cases hi2 : i < (turnTo a k).Nodes.length
          · exact i3.2 (fun j hj => hh j (by omega)) i hi2
          · exact gl.1 i (by omega) hi
      · rw [(turn_flat h5 h24).1] at hp ⊢
        rw [(turn_flat h5 h24).2]
        obtain ⟨p1, p2, p3⟩ := pre_snoc hp
        have hn := hA.nodes k (by omega)
        have hso := sort_at hA (k := k) (by omega)
        have hfk := flat_kids hA (k := k) (by omega) h5 h24
        have hkk : ∀ x ∈ (nth a.Nodes k).Kids, 0 ≤ x ∧ x.toNat < k := fun x hx => by have := hn.kids x hx; omega
        have hKm : (kidS (turnTo a k).To (nth a.Nodes k).Kids).map (fun x => nodeV b v x.toNat) = kidV (valTo a w k) (nth a.Nodes k).Kids := by
          rw [kid_vals hn.kids]
          unfold kidS
          rw [List.map_map]
          exact List.map_congr_left fun x hx => i1 _ (hkk x hx).2 (hfk x hx)
        have hKr : ∀ y ∈ kidS (turnTo a k).To (nth a.Nodes k).Kids, 0 ≤ y ∧ y < (turnTo a k).Nodes.length := fun y hy => by
          obtain ⟨x, hx, rfl⟩ := List.mem_map.1 hy
          exact (f2 _ (hkk x hx).2 (hfk x hx)).1
        have hlt : (turnTo a k).Nodes.length < b.Nodes.length := p3
        have hbits : bitsTo (sortsTo b b.Nodes.length) (nth (sortsTo b b.Nodes.length) (turnTo a k).Nodes.length) (nth b.Nodes (turnTo a k).Nodes.length).Kids (nth b.Nodes (turnTo a k).Nodes.length).Kids.length =
            bitsTo (sortsTo a a.Nodes.length) (nth (sortsTo a a.Nodes.length) k) (nth a.Nodes k).Kids (nth a.Nodes k).Kids.length := by
          rw [p2]
          show bitsTo _ _ (kidS (turnTo a k).To (nth a.Nodes k).Kids) (kidS (turnTo a k).To (nth a.Nodes k).Kids).length = _
          rw [kidS_len]
          refine bitsTo_congr ?_ _ fun j hj => ?_
          · rw [sortAt_pre hlt]
            obtain ⟨_, f2'⟩ := turn_flatN hA hD (k + 1) hk (by rw [hb]; exact turn_pre _ hk)
            have := (f2' k (by omega) h5).2
            rw [(turn_flat h5 h24).2] at this
            have e := nth_last (l := (turnTo a k).To) (x := ((turnTo a k).Nodes.length : Int))
            rw [htl] at e
            rw [e, Int.toNat_natCast] at this
            exact this
          · rw [nth_kidS hj]
            have hx := nth_mem hj
            have t := f2 _ (hkk _ hx).2 (hfk _ hx)
            rw [sortAt_pre (by have := t.1; omega)]
            exact t.2
        have hv : valueV b v (nth b.Nodes (turnTo a k).Nodes.length) (kidV (valTo b v (turnTo a k).Nodes.length) (nth b.Nodes (turnTo a k).Nodes.length).Kids) (bitsTo (sortsTo b b.Nodes.length) (nth (sortsTo b b.Nodes.length) (turnTo a k).Nodes.length) (nth b.Nodes (turnTo a k).Nodes.length).Kids (nth b.Nodes (turnTo a k).Nodes.length).Kids.length) =
            valueV a w (nth a.Nodes k) (kidV (valTo a w k) (nth a.Nodes k).Kids) (bitsTo (sortsTo a a.Nodes.length) (nth (sortsTo a a.Nodes.length) k) (nth a.Nodes k).Kids (nth a.Nodes k).Kids.length) := by
          rw [hbits]
          have hkv : kidV (valTo b v (turnTo a k).Nodes.length) (nth b.Nodes (turnTo a k).Nodes.length).Kids = kidV (valTo a w k) (nth a.Nodes k).Kids := by
            rw [p2, ← hKm]
            exact kid_vals hKr
          rw [hkv]
          refine (valueV_congr (fun h9 => ?_) ?_ ?_ ?_).symm
          · have hd := decl_at hA (k := k) (by omega) h9
            have h9n : (nth a.Decls (findD a.Decls (nth a.Nodes k).Name).toNat).Srt ≠ 5 := by
              intro e
              have := hso.2
              rw [outS, h9, declOf_yes h9] at this
              exact h5 (this.trans e)
            rw [p2, hD]
            show _ = toldV (nth v.Means (findD (a.Decls.map declA) (nth a.Nodes k).Name).toNat) _
            rw [findD_declA]
            exact (hag _ hd.1).1 h9n _
          · rw [p2]
          · rw [p2]
          · rw [p2]
        have hval : nodeV b v (turnTo a k).Nodes.length = nodeV a w k := congrArg Prod.fst hv
        have hok : nodeOk b v (turnTo a k).Nodes.length = nodeOk a w k := congrArg Prod.snd hv
        refine ⟨meant fun _ => by rw [Int.toNat_natCast]; exact hval, all_snoc i2 fun h4 => ?_, ?_⟩
        · -- a thing: a name, or one of two things
          have e4 := hso.2
          rw [h4] at e4
          by_cases h9 : (nth a.Nodes k).Op = 9
          · have hd := decl_at hA (k := k) (by omega) h9
            rw [outS, h9, declOf_yes h9] at e4
            have e5 : (nth a.Decls (findD a.Decls (nth a.Nodes k).Name).toNat).Srt = 4 := e4.symm
            unfold nodeV valAt
            rw [vv_9 h9]
            have := told_is (h.code _ hd.1) (kidV (valTo a w k) (nth a.Nodes k).Kids)
            rw [e5] at this
            exact thg_is this
          · by_cases h7 : (nth a.Nodes k).Op = 7
            · have hl3 := (kidsLen (n := nth a.Nodes k) (K := (nth a.Nodes k).Kids) fun _ h0 => by rw [hn.size (by rw [wantN_no h9]; exact h0), wantN_no h9]).1 h7
              have hoks := hso.1
              simp only [okS, h7] at hoks
              have ho2 : (nth (kidS (sorts a) (nth a.Nodes k).Kids) 0 = 1 ∧ nth (kidS (sorts a) (nth a.Nodes k).Kids) 1 = nth (kidS (sorts a) (nth a.Nodes k).Kids) 2) ∧ nth (kidS (sorts a) (nth a.Nodes k).Kids) 1 ≠ 5 := of_decide_eq_true hoks
              rw [outS, h7] at e4
              have e5 : nth (kidS (sorts a) (nth a.Nodes k).Kids) 1 = 4 := e4.symm
              have e6 := ho2.1.2
              rw [e5] at e6
              have d1 := nth_kidS (S := sorts a) (l := (nth a.Nodes k).Kids) (j := 1) (by omega)
              have d2 := nth_kidS (S := sorts a) (l := (nth a.Nodes k).Kids) (j := 2) (by omega)
              have k1 := kid_lt hA (k := k) (by omega) (j := 1) (by omega)
              have k2 := kid_lt hA (k := k) (by omega) (j := 2) (by omega)
              unfold nodeV valAt
              rw [vv_7 h7]
              show Thg (if _ then _ else _)
              split
              · rw [nth_kidV (by omega)]
                rw [show nth (valTo a w k) (nth (nth a.Nodes k).Kids 1).toNat = nodeV a w (kidN (nth a.Nodes k) 1) from valTo_pre k1.2]
                exact i2 _ k1.2 (by unfold kidN; rw [← d1]; exact e5)
              · rw [nth_kidV (by omega)]
                rw [show nth (valTo a w k) (nth (nth a.Nodes k).Kids 2).toNat = nodeV a w (kidN (nth a.Nodes k) 2) from valTo_pre k2.2]
                exact i2 _ k2.2 (by unfold kidN; rw [← d2]; exact e6.symm)
            · exact absurd e4.symm (out_no4 hn.op h9 h7 h24 (fun h25 => h5 (put5 hA (by omega) h25)) hso.1 (fun e => (sort_D (by simp [hn.nums]) e).2))
        · rw [List.length_append, List.length_singleton]
          exact ⟨fun hh => all_snoc (i3.1 fun i hi => hh i (by omega)) (by rw [← hok]; exact hh _ (by omega)), fun hh => all_snoc (i3.2 fun j hj => hh j (by omega)) (by rw [hok]; exact hh k (by omega))⟩
end
end Go.Um
