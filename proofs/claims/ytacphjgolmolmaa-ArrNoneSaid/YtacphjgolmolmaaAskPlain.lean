/- Questions: what is wrong with one, and the sorts of its nodes. No program is in sight. -/
import Derived.Test.YtacphjgolmolmaaAskData
import Derived.Test.YtacphjgolmolmaaUmHas
import Derived.Test.YtacphjgolmolmaaUmPlain
namespace Go.Um
/-! ### Names -/
def letter (c : Int) : Prop := (c = 95 ∨ (97 ≤ c ∧ c ≤ 122)) ∨ (65 ≤ c ∧ c ≤ 90)
instance {c : Int} : Decidable (letter c) := by unfold letter; infer_instance
def nameBad (s : Str) (i : Nat) : Prop := ¬ letter (bAt s i) ∧ (((i : Int) = 0 ∨ bAt s i < 48) ∨ 57 < bAt s i)
instance {s : Str} {i : Nat} : Decidable (nameBad s i) := by unfold nameBad; infer_instance
def isName (s : Str) : Prop := (∀ i, i < s.size → ¬ nameBad s i) ∧ (1 ≤ (s.size : Int) ∧ (s.size : Int) ≤ 12)
instance {s : Str} : Decidable (isName s) := by unfold isName; infer_instance
def noText : Str := ByteArray.mk #[]
/-! ### Sorts and declarations -/
def wordS (s : Int) : Prop := 10 < s ∧ s ≤ 18
instance {s : Int} : Decidable (wordS s) := by unfold wordS; infer_instance
def isSortS (s : Int) : Prop := (1 ≤ s ∧ s ≤ 5) ∨ wordS s
instance {s : Int} : Decidable (isSortS s) := by unfold isSortS; infer_instance
def sameName (nm : Str) (d : Decl) : Bool := decide (sEq d.Name nm)
def argsBad (d : Decl) : Bool := d.Args.any fun s => decide (s ≠ 4)
def codeD (l : List Decl) (i : Nat) : Int :=
  if ¬ isName (nth l i).Name then 12 else if (l.take i).any (sameName (nth l i).Name) = true then 7 else if 8 < ((nth l i).Args.length : Int) then 9
  else if ¬ isSortS (nth l i).Srt then 4 else if argsBad (nth l i) = true then 4 else if (nth l i).Srt = 5 ∧ 0 < ((nth l i).Args.length : Int) then 4 else 0
def declBad (l : List Decl) (i : Nat) : Option (Int × Int) := if codeD l i ≠ 0 then some (codeD l i, (i : Int)) else none
def declsF (l : List Decl) : Int × Int := if 30 < (l.length : Int) then (2, 0) else (fst1 (declBad l) 0 l.length).getD (0, 0)
def findD (l : List Decl) (nm : Str) : Int := idxOf (sameName nm) l
/-! ### Nodes -/
def kidsN (op : Int) : Int :=
  if op = 1 then 0 else if op = 2 then 0 else if op = 10 then 0 else if op = 15 then 0 else if op = 3 then 1 else if op = 12 then 1 else if op = 16 then 1 else if op = 23 then 1
  else if op = 7 then 3 else if op = 25 then 3 else if op = 4 then -1 else if op = 5 then -1 else if op = 11 then -1 else 2
theorem tmod_natAbs (a b : Int) : (a.tmod b).natAbs = a.natAbs % b.natAbs := by
  rw [Int.natAbs_tmod]
def gcdT (a b : Int) : Int := if b = 0 then max a (-a) else gcdT b (a.tmod b)
termination_by b.natAbs
decreasing_by
  rw [tmod_natAbs]
  exact Nat.mod_lt _ (by omega)
theorem gcdT_zero {a b : Int} (h : b = 0) : gcdT a b = max a (-a) := by rw [gcdT, if_pos h]
theorem gcdT_step {a b : Int} (h : ¬ b = 0) : gcdT a b = gcdT b (a.tmod b) := by rw [gcdT, if_neg h]
theorem tmodR {a b N : Int} (ha : -N ≤ a ∧ a ≤ N) : -N ≤ a.tmod b ∧ a.tmod b ≤ N := by
  have h1 := tmod_natAbs a b
  have h2 := Nat.mod_le a.natAbs b.natAbs
  omega
theorem tmodL {a b : Int} (hb : ¬ b = 0) : (a.tmod b).natAbs < b.natAbs := by
  rw [tmod_natAbs]; exact Nat.mod_lt _ (by omega)
def hasD (op : Int) : Prop := (op = 10 ∨ op = 12) ∨ op = 15
instance {op : Int} : Decidable (hasD op) := by unfold hasD; infer_instance
def formedN (n : Node) : Prop := ((sEq n.Name noText ∨ n.Op = 9) ∧ ((n.N = 0 ∨ hasD n.Op) ∨ n.Op = 23)) ∧ (n.D = 0 ∨ hasD n.Op)
instance {n : Node} : Decidable (formedN n) := by unfold formedN; infer_instance
def fracN (n : Node) : Prop := (((-1000000 ≤ n.N ∧ n.N ≤ 1000000) ∧ 1 ≤ n.D) ∧ n.D ≤ 1000000) ∧ gcdT n.N n.D = 1
instance {n : Node} : Decidable (fracN n) := by unfold fracN; infer_instance
def bitsOk (n : Node) : Prop := ((1 ≤ n.D ∧ n.D ≤ 8) ∧ 0 ≤ n.N) ∧ n.N < ((2 ^ n.D.toNat : Nat) : Int)
instance {n : Node} : Decidable (bitsOk n) := by unfold bitsOk; infer_instance
def numsB (n : Node) : Bool := if n.Op = 10 then decide (fracN n) else if n.Op = 12 then decide (fracN n) else if n.Op = 15 then decide (bitsOk n) else if n.Op = 23 then decide (0 ≤ n.N ∧ n.N ≤ 8) else true
def numS (s : Int) : Prop := s = 2 ∨ s = 3
instance {s : Int} : Decidable (numS s) := by unfold numS; infer_instance
def wholeS (p : Prop) [Decidable p] : Int := if p then 2 else 3
def oneB (s : Int) : Bool := decide (s = 1)
def intB (s : Int) : Bool := decide (s = 2)
def numB' (s : Int) : Bool := decide (numS s)
def sameK (K : List Int) : Prop := (K.length : Int) = 2 ∧ nth K 0 = nth K 1
instance {K : List Int} : Decidable (sameK K) := by unfold sameK; infer_instance
def okS (n : Node) (K : List Int) (d : Decl) : Bool :=
  if n.Op = 1 then true else if n.Op = 2 then true else if n.Op = 3 then K.all oneB else if n.Op = 4 then K.all oneB else if n.Op = 5 then K.all oneB else if n.Op = 6 then K.all oneB
  else if n.Op = 7 then decide ((nth K 0 = 1 ∧ nth K 1 = nth K 2) ∧ nth K 1 ≠ 5)
  else if n.Op = 8 then decide (K.all numB' = true ∨ (sameK K ∧ (nth K 0 = 4 ∨ wordS (nth K 0))))
  else if n.Op = 9 then decide (K = d.Args) else if n.Op = 10 then true else if n.Op = 11 then K.all numB' else if n.Op = 12 then decide (numS (nth K 0))
  else if n.Op = 13 then K.all numB' else if n.Op = 14 then K.all numB' else if n.Op = 15 then true else if n.Op = 16 then decide (wordS (nth K 0)) else if n.Op = 23 then decide (wordS (nth K 0))
  else if n.Op = 17 then decide (sameK K ∧ wordS (nth K 0)) else if n.Op = 18 then decide (sameK K ∧ wordS (nth K 0)) else if n.Op = 19 then decide (sameK K ∧ wordS (nth K 0))
  else if n.Op = 20 then decide (sameK K ∧ wordS (nth K 0)) else if n.Op = 21 then decide (sameK K ∧ wordS (nth K 0)) else if n.Op = 22 then decide (sameK K ∧ wordS (nth K 0))
  else if n.Op = 24 then decide (K = [5, 4]) else if n.Op = 25 then decide (K = [5, 4, 4]) else false
def outS (n : Node) (K : List Int) (d : Decl) : Int :=
  if n.Op = 7 then nth K 1 else if n.Op = 9 then d.Srt else if n.Op = 10 then wholeS (n.D = 1) else if n.Op = 11 then wholeS (K.all intB = true) else if n.Op = 12 then wholeS (nth K 0 = 2 ∧ n.D = 1)
  else if n.Op = 15 then 10 + n.D else if n.Op = 16 then nth K 0 else if n.Op = 23 then nth K 0 else if n.Op = 17 then nth K 0 else if n.Op = 18 then nth K 0 else if n.Op = 19 then nth K 0 else if n.Op = 20 then nth K 0 else if n.Op = 21 then nth K 0
  else if n.Op = 24 then 4 else if n.Op = 25 then 5 else 1
def sortN (n : Node) (K : List Int) (d : Decl) : Int := if okS n K d = true then outS n K d else 0
def declOf (a : Ask) (n : Node) : Decl := if n.Op = 9 then nth a.Decls (findD a.Decls n.Name).toNat else ⟨noText, [], 0⟩
def wantN (a : Ask) (n : Node) : Int := if n.Op = 9 then ((declOf a n).Args.length : Int) else kidsN n.Op
def kidS (S : List Int) (l : List Int) : List Int := l.map fun k => nth S k.toNat
def kidBad (i : Int) (k : Int) : Prop := k < 0 ∨ i ≤ k
instance {i k : Int} : Decidable (kidBad i k) := by unfold kidBad; infer_instance
def nodeF (a : Ask) (i : Nat) (S : List Int) : Int × Int :=
  if (nth a.Nodes i).Op < 1 ∨ 25 < (nth a.Nodes i).Op then (0, 4)
  else if (nth a.Nodes i).Op = 9 ∧ findD a.Decls (nth a.Nodes i).Name < 0 then (0, 6)
  else if (0 ≤ wantN a (nth a.Nodes i) ∧ ((nth a.Nodes i).Kids.length : Int) ≠ wantN a (nth a.Nodes i)) ∨ 8 < ((nth a.Nodes i).Kids.length : Int) then (0, 9)
  else if ∃ k ∈ (nth a.Nodes i).Kids, kidBad i k then (0, 3)
  else if ¬ formedN (nth a.Nodes i) then (0, 5)
  else if ¬ numsB (nth a.Nodes i) = true then (0, 3)
  else if sortN (nth a.Nodes i) (kidS S (nth a.Nodes i).Kids) (declOf a (nth a.Nodes i)) = 0 then (0, 8)
  else (sortN (nth a.Nodes i) (kidS S (nth a.Nodes i).Kids) (declOf a (nth a.Nodes i)), 0)
def sortsTo (a : Ask) : Nat → List Int
  | 0 => []
  | k + 1 => sortsTo a k ++ [(nodeF a k (sortsTo a k)).1]
def nodeBad (a : Ask) (k : Nat) : Option (Int × Int) := if (nodeF a k (sortsTo a k)).2 ≠ 0 then some ((nodeF a k (sortsTo a k)).2, (k : Int)) else none
def holdBad (a : Ask) (k : Nat) : Option (Int × Int) :=
  if nth a.Hold k < 0 ∨ (a.Nodes.length : Int) ≤ nth a.Hold k then some (3, (k : Int)) else if nth (sortsTo a a.Nodes.length) (nth a.Hold k).toNat ≠ 1 then some (8, (k : Int)) else none
def sortsF (a : Ask) : Int × Int :=
  if (declsF a.Decls).1 ≠ 0 then declsF a.Decls else if 200 < (a.Nodes.length : Int) then (2, 0)
  else match fst1 (nodeBad a) 0 a.Nodes.length with
    | some x => x
    | none => if 200 < (a.Hold.length : Int) then (2, 0) else (fst1 (holdBad a) 0 a.Hold.length).getD (0, 0)
def sortsL (a : Ask) : List Int := if (sortsF a).1 ≠ 0 then [] else sortsTo a a.Nodes.length
section
variable {a : Ask} {l : List Decl} {i k : Nat} {S : List Int} {n : Node}
theorem declsF_many (h : 30 < (l.length : Int)) : declsF l = (2, 0) := if_pos h
theorem declsF_at (h : ¬ 30 < (l.length : Int)) (hi : i < l.length) (hp : ∀ j, j < i → codeD l j = 0) {c : Int} (hc : codeD l i = c) (h0 : c ≠ 0) : declsF l = (c, (i : Int)) := by
  subst hc
  rw [declsF, if_neg h, fst1_some (g := declBad l) (k := i) (y := (codeD l i, (i : Int))) (if_pos h0) (Nat.zero_le _) (by omega) fun j _ hj => if_neg (not_not_intro (hp j hj))]; rfl
theorem declsF_no (h : ¬ 30 < (l.length : Int)) (hp : ∀ j, j < l.length → codeD l j = 0) : declsF l = (0, 0) := by
  rw [declsF, if_neg h, fst1_none (g := declBad l) fun j _ hj => if_neg (not_not_intro (hp j (by omega)))]; rfl
theorem sortsTo_len : ∀ k, (sortsTo a k).length = k
  | 0 => rfl
  | k + 1 => by rw [sortsTo, List.length_append, sortsTo_len k]; rfl
theorem sortsF_decl (h : (declsF a.Decls).1 ≠ 0) : sortsF a = declsF a.Decls := if_pos h
theorem sortsF_many (h : ¬ (declsF a.Decls).1 ≠ 0) (h2 : 200 < (a.Nodes.length : Int)) : sortsF a = (2, 0) := by rw [sortsF, if_neg h, if_pos h2]
theorem sortsF_node (h : ¬ (declsF a.Decls).1 ≠ 0) (h2 : ¬ 200 < (a.Nodes.length : Int)) (hi : i < a.Nodes.length) (hp : ∀ j, j < i → (nodeF a j (sortsTo a j)).2 = 0) (hc : (nodeF a i (sortsTo a i)).2 ≠ 0) : sortsF a = ((nodeF a i (sortsTo a i)).2, (i : Int)) := by
  rw [sortsF, if_neg h, if_neg h2, fst1_some (g := nodeBad a) (k := i) (y := ((nodeF a i (sortsTo a i)).2, (i : Int))) (if_pos hc) (Nat.zero_le _) (by omega) fun j _ hj => if_neg (not_not_intro (hp j hj))]
theorem sortsF_nodes (h : ¬ (declsF a.Decls).1 ≠ 0) (h2 : ¬ 200 < (a.Nodes.length : Int)) (hp : ∀ j, j < a.Nodes.length → (nodeF a j (sortsTo a j)).2 = 0) :
    sortsF a = if 200 < (a.Hold.length : Int) then (2, 0) else (fst1 (holdBad a) 0 a.Hold.length).getD (0, 0) := by
  rw [sortsF, if_neg h, if_neg h2, fst1_none (g := nodeBad a) fun j _ hj => if_neg (not_not_intro (hp j (by omega)))]
theorem sortsF_holds (h : ¬ (declsF a.Decls).1 ≠ 0) (h2 : ¬ 200 < (a.Nodes.length : Int)) (hp : ∀ j, j < a.Nodes.length → (nodeF a j (sortsTo a j)).2 = 0) (h3 : 200 < (a.Hold.length : Int)) : sortsF a = (2, 0) := by
  rw [sortsF_nodes h h2 hp, if_pos h3]
theorem sortsF_hold (h : ¬ (declsF a.Decls).1 ≠ 0) (h2 : ¬ 200 < (a.Nodes.length : Int)) (hp : ∀ j, j < a.Nodes.length → (nodeF a j (sortsTo a j)).2 = 0) (h3 : ¬ 200 < (a.Hold.length : Int))
    (hi : i < a.Hold.length) (hq : ∀ j, j < i → holdBad a j = none) {x : Int × Int} (hx : holdBad a i = some x) : sortsF a = x := by
  rw [sortsF_nodes h h2 hp, if_neg h3, fst1_some (k := i) hx (Nat.zero_le _) (by omega) fun j _ hj => hq j hj]; rfl
theorem sortsF_ok (h : ¬ (declsF a.Decls).1 ≠ 0) (h2 : ¬ 200 < (a.Nodes.length : Int)) (hp : ∀ j, j < a.Nodes.length → (nodeF a j (sortsTo a j)).2 = 0) (h3 : ¬ 200 < (a.Hold.length : Int))
    (hq : ∀ j, j < a.Hold.length → holdBad a j = none) : sortsF a = (0, 0) := by
  rw [sortsF_nodes h h2 hp, if_neg h3, fst1_none fun j _ hj => hq j (by omega)]; rfl
theorem sortsL_bad (h : (sortsF a).1 ≠ 0) : sortsL a = [] := if_pos h
theorem sortsL_ok (h : sortsF a = (0, 0)) : sortsL a = sortsTo a a.Nodes.length := by rw [sortsL, h]; rfl
theorem holdBad_range (h : nth a.Hold k < 0 ∨ (a.Nodes.length : Int) ≤ nth a.Hold k) : holdBad a k = some (3, (k : Int)) := if_pos h
theorem holdBad_sort (h : ¬ (nth a.Hold k < 0 ∨ (a.Nodes.length : Int) ≤ nth a.Hold k)) (h2 : nth (sortsTo a a.Nodes.length) (nth a.Hold k).toNat ≠ 1) : holdBad a k = some (8, (k : Int)) := by rw [holdBad, if_neg h, if_pos h2]
theorem holdBad_no (h : ¬ (nth a.Hold k < 0 ∨ (a.Nodes.length : Int) ≤ nth a.Hold k)) (h2 : ¬ nth (sortsTo a a.Nodes.length) (nth a.Hold k).toNat ≠ 1) : holdBad a k = none := by rw [holdBad, if_neg h, if_neg h2]
end
end Go.Um
