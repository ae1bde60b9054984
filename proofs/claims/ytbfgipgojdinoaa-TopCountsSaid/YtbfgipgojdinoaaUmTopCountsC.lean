import Derived.WalkKit
import Derived.Laws.BytesArg
import Derived.MapKept
import Derived.RangeFuncLeaves
import Derived.RangeFuncSeq
import Derived.LoopNIn
import Derived.TacticsIn
import Derived.Test.YtbfgipgojdinoaaUmTopCountsB
namespace Go.Um
def marks (T : List Int) : List (Int × Bool) := T.foldl (fun m l => mset m l true) []
theorem marks_app {T : List Int} {l : Int} : marks (T ++ [l]) = mset (marks T) l true := by simp [marks, List.foldl_append]
theorem marks_acc {T : List Int} {x : Int} : ∀ {m : List (Int × Bool)}, mget (T.foldl (fun m l => mset m l true) m) x = if x ∈ T then some true else mget m x := by
  induction T with
  | nil => intro m; simp
  | cons l T ih =>
    intro m
    rw [List.foldl_cons, ih, mget_mset]
    by_cases h1 : x ∈ T
    · simp [h1]
    · by_cases h2 : l = x
      · simp [h2]
      · have : ¬ x = l := fun e => h2 e.symm
        simp [h1, h2, this]
theorem marks_get {T : List Int} {x : Int} : (mget (marks T) x).getD false = decide (x ∈ T) := by
  rw [marks, marks_acc]
  by_cases h : x ∈ T <;> simp [h, mget]
theorem marks_yes {T : List Int} {x : Int} (h : (mget (marks T) x).getD false = true) : x ∈ T := by rw [marks_get] at h; exact of_decide_eq_true h
theorem marks_no {T : List Int} {x : Int} (h : ¬ (mget (marks T) x).getD false = true) : x ∉ T := fun e => h (by rw [marks_get]; exact decide_eq_true e)
theorem marks_nf {T : List Int} {x : Int} (h : (mget (marks T) x).getD false = false) : x ∉ T := marks_no (by rw [h]; exact Bool.false_ne_true)
section
variable {T c : List Int} {k : Nat} {o : Int}
theorem stF_early (hk : k < c.length) (h1 : ¬ -nth c k ∈ T) (h2 : nth c k ∈ T ∨ o ≠ 0) : stateF T (c.drop k) o = (false, 0) := by
  rw [drop_nth hk, stateF, if_neg h1, if_pos h2]
theorem stF_skip (hk : k < c.length) (h1 : -nth c k ∈ T) : stateF T (c.drop k) o = stateF T (c.drop (k + 1)) o := by
  rw [drop_nth hk, stateF, if_pos h1]
theorem stF_open (hk : k < c.length) (h1 : ¬ -nth c k ∈ T) (h2 : ¬ (nth c k ∈ T ∨ o ≠ 0)) : stateF T (c.drop k) o = stateF T (c.drop (k + 1)) (nth c k) := by
  rw [drop_nth hk, stateF, if_neg h1, if_neg h2]
theorem stF_end (hk : c.length ≤ k) : stateF T (c.drop k) o = (decide (o = 0), o) := by
  rw [List.drop_of_length_le hk, stateF]
variable {C : List (List Int)} {f : Int}
theorem scF_no (hk : k < C.length) (h : (stateL T (nth C k)).1 = true) : scanF T (C.drop k) k f = (true, (k : Int)) := by
  rw [drop_nth hk, scanF, if_pos h]
theorem scF_next (hk : k < C.length) (h : ¬ (stateL T (nth C k)).1 = true) : scanF T (C.drop k) k f = scanF T (C.drop (k + 1)) ((k + 1 : Nat) : Int) (if (stateL T (nth C k)).2 ≠ 0 ∧ f < 0 then (k : Int) else f) := by
  rw [drop_nth hk, scanF, if_neg h]
  rfl
theorem scF_end (hk : C.length ≤ k) : scanF T (C.drop k) k f = (false, f) := by
  rw [List.drop_of_length_le hk, scanF]
theorem scanF_lt : ∀ {C : List (List Int)} {i f : Int}, 0 ≤ i → f < i + C.length → (scanF T C i f).2 < i + C.length ∨ C = [] ∧ (scanF T C i f).2 = f
  | [], i, f, _, _ => .inr ⟨rfl, rfl⟩
  | c :: C, i, f, h0, h => by
    refine .inl ?_
    simp only [List.length_cons] at h ⊢
    rw [scanF]
    split
    · show i < _
      omega
    · have hf : (if (stateL T c).2 ≠ 0 ∧ f < 0 then i else f) < i + 1 + C.length := by split <;> omega
      rcases scanF_lt (C := C) (i := i + 1) (by omega) hf with h1 | ⟨h1, h2⟩
      · omega
      · rw [h2]; omega
theorem scanL_lt : (scanL C T).2 < C.length := by
  rcases scanF_lt (T := T) (C := C) (i := 0) (f := -1) (Int.le_refl 0) (by omega) with h | ⟨h1, h2⟩
  · unfold scanL; omega
  · subst h1
    show (-1 : Int) < 0
    decide
end
section
variable {l : List Int} {s i m : Nat}
theorem neg_next (hi : i < l.length) : negL (l.take (i + 1)) = negL (l.take i) ++ [-nth l i] := by rw [negL, take_succ_nth hi, List.map_append]; rfl
theorem lit_in {vars : Int} (h : litsOk vars l) (hv : vars ≤ 120) (hi : i < l.length) : -120 ≤ nth l i ∧ nth l i ≤ 120 := by
  obtain ⟨_, a, b, _⟩ := h i hi
  omega
end
section
variable {C : List (List Int)} {T W : List Int} {n : Nat} {X : List Int × List Int × Int} {fi i : Int}
theorem run_no (h : runF C n T W = some X) (hs : scanL C T = (true, i)) : X = (T, W, i) := by
  cases n with
  | zero => cases h
  | succ n =>
    rw [runF, hs, if_pos rfl] at h
    exact (Option.some.inj h).symm
theorem run_done (h : runF C n T W = some X) (hs : scanL C T = (false, fi)) (hn : fi < 0) : X = (T, W, -1) := by
  cases n with
  | zero => cases h
  | succ n =>
    rw [runF, hs, if_neg (show ¬ (false = true) from Bool.false_ne_true), if_pos hn] at h
    exact (Option.some.inj h).symm
theorem run_step (h : runF C n T W = some X) (hs : scanL C T = (false, fi)) (hn : ¬ fi < 0) : ∃ m, m < n ∧ runF C m (T ++ [(stateL T (nth C fi.toNat)).2]) (W ++ [fi]) = some X := by
  cases n with
  | zero => cases h
  | succ n =>
    rw [runF, hs, if_neg (show ¬ (false = true) from Bool.false_ne_true), if_neg hn] at h
    exact ⟨n, Nat.lt_succ_self n, h⟩
def litsIn (c : List Int) : Prop := ∀ i, i < c.length → -120 ≤ nth c i ∧ nth c i ≤ 120
theorem scan_lt (hs : scanL C T = (false, fi)) : fi < C.length := by
  have := scanL_lt (C := C) (T := T)
  rw [hs] at this
  exact this
theorem state_in {c : List Int} (hc : litsIn c) : ∀ {k : Nat} {o : Int}, (-120 ≤ o ∧ o ≤ 120) → -120 ≤ (stateF T (c.drop k) o).2 ∧ (stateF T (c.drop k) o).2 ≤ 120 := by
  intro k o ho
  by_cases hk : k < c.length
  · by_cases h1 : -nth c k ∈ T
    · rw [stF_skip hk h1]; exact state_in hc ho
    · by_cases h2 : nth c k ∈ T ∨ o ≠ 0
      · rw [stF_early hk h1 h2]; decide
      · rw [stF_open hk h1 h2]; exact state_in hc (hc k hk)
  · rw [stF_end (by omega)]; exact ho
termination_by k => c.length - k
end
theorem St.freshN {H0 H : Heap} {S : Nat → Prop} {A' : List Ent} (h : St H0 NoB (fun b => S b ∧ b < H0.size) A' H) : Fresh S A' H0 H ∧ A'.Pairwise fun e e' => ∀ b, e.blocks b → ¬ e'.blocks b :=
  ⟨⟨h.ok, fun b ⟨e', he, hb⟩ => (h.ge e' he b hb).1.elim id (fun h => h.elim)⟩, h.dj⟩
theorem run_len {C : List (List Int)} {T2 W2 : List Int} {b : Int} : ∀ {n : Nat} {T W : List Int}, runF C n T W = some (T2, W2, b) → T2.length ≤ T.length + n ∧ W2.length ≤ W.length + n
  | 0, _, _, h => by cases h
  | n + 1, T, W, h => by
    rw [runF] at h
    split at h
    · cases h; exact ⟨Nat.le_add_right _ _, Nat.le_add_right _ _⟩
    split at h
    · cases h; exact ⟨Nat.le_add_right _ _, Nat.le_add_right _ _⟩
    · have := run_len h
      simp only [List.length_append, List.length_singleton] at this
      omega
section
variable {T A : List Int} {i j : Nat} {nx : Int} {ph : Bool} {n : Nat} {v : Int}
theorem ask_no (hi : i < A.length) (h : -nth A i ∈ T) : askF T (A.drop i) nx = (nth A i, 0) := by rw [drop_nth hi, askF, if_pos h]
theorem ask_next (hi : i < A.length) (h : ¬ -nth A i ∈ T) : askF T (A.drop i) nx = askF T (A.drop (i + 1)) (if nx = 0 ∧ nth A i ∉ T then nth A i else nx) := by rw [drop_nth hi, askF, if_neg h]
theorem ask_end (hi : A.length ≤ i) : askF T (A.drop i) nx = (0, nx) := by rw [List.drop_of_length_le hi, askF]
theorem var_stop (h : nx ≠ 0) : varF T ph n v nx = nx := by
  cases n with
  | zero => rfl
  | succ n => rw [varF, if_pos h]
theorem var_next (h : nx = 0) (hn : 0 < n) : varF T ph n v nx = varF T ph (n - 1) (v + 1) (if v ∉ T ∧ -v ∉ T then (if ph then v else -v) else 0) := by
  cases n with
  | zero => exact absurd hn (Nat.lt_irrefl 0)
  | succ n => rw [varF, if_neg (not_not_intro h)]; rfl
theorem var_end : varF T ph 0 v nx = nx := rfl
theorem ask_in (hA : litsIn A) : ∀ {i : Nat} {nx : Int}, (-120 ≤ nx ∧ nx ≤ 120) → (-120 ≤ (askF T (A.drop i) nx).1 ∧ (askF T (A.drop i) nx).1 ≤ 120) ∧ (-120 ≤ (askF T (A.drop i) nx).2 ∧ (askF T (A.drop i) nx).2 ≤ 120) := by
  intro i nx hn
  by_cases hi : i < A.length
  · by_cases h : -nth A i ∈ T
    · rw [ask_no hi h]; exact ⟨hA i hi, ⟨show (-120 : Int) ≤ 0 by decide, show (0 : Int) ≤ 120 by decide⟩⟩
    · rw [ask_next hi h]
      have := hA i hi
      exact ask_in hA (by split <;> omega)
  · rw [ask_end (by omega)]; exact ⟨⟨show (-120 : Int) ≤ 0 by decide, show (0 : Int) ≤ 120 by decide⟩, hn⟩
termination_by i => A.length - i
end
section
variable {T W A Lv : List Int} {ph : Bool} {V : Nat} {lv : Int}
def decN (T A : List Int) (ph : Bool) (V : Nat) : Int := varF T ph V 1 (askF T A 0).2
def decS (T A : List Int) (ph : Bool) (V : Nat) : Prop := (askF T A 0).1 ≠ 0 ∨ decN T A ph V = 0
instance : Decidable (decS T A ph V) := by unfold decS; infer_instance
def decT (T A : List Int) (ph : Bool) (V : Nat) (X : List Int) (x : Int) : List Int := if decS T A ph V then X else X ++ [x]
def decL (T A : List Int) (ph : Bool) (V : Nat) (lv : Int) : Int := if decS T A ph V then lv else lv + 1
theorem dec_stay (h : decS T A ph V) : (∀ X x, decT T A ph V X x = X) ∧ decL T A ph V lv = lv := ⟨fun _ _ => if_pos h, if_pos h⟩
theorem dec_go (h : ¬ decS T A ph V) : (∀ X x, decT T A ph V X x = X ++ [x]) ∧ decL T A ph V lv = lv + 1 := ⟨fun _ _ => if_neg h, if_neg h⟩
theorem dec_no {x : Int} (h : (x, (0 : Int)) = askF T A 0) (hx : x ≠ 0) : decS T A ph V ∧ (askF T A 0).1 = x := by
  rw [decS, ← h]
  exact ⟨.inl hx, rfl⟩
theorem dec_end {nx ny : Int} (hq : askF T A 0 = (0, nx)) (hw : varF T ph V 1 nx = ny) : (decS T A ph V ↔ ny = 0) ∧ decN T A ph V = ny ∧ (askF T A 0).1 = 0 := by
  have h2 : decN T A ph V = ny := by rw [decN, hq]; exact hw
  refine ⟨?_, h2, by rw [hq]⟩
  rw [decS, h2, hq]
  exact ⟨fun h => h.elim (fun h => absurd rfl h) id, .inr⟩
end
section
variable {C : List (List Int)} {T W td sn O c : List Int} {n i : Nat} {x : Int}
theorem core_step (h : (coreF C T W n (x :: td) sn O).isSome = true) : (0 ≤ idxOf (fun y => decide (y = x)) T ∧ idxOf (fun y => decide (y = x)) T < W.length) ∧ ∃ m, m < n ∧
    (nth W (idxOf (fun y => decide (y = x)) T).toNat < 0 → (coreF C T W m td sn (if x ∈ O then O else O ++ [x])).isSome = true) ∧
    (¬ nth W (idxOf (fun y => decide (y = x)) T).toNat < 0 → nth W (idxOf (fun y => decide (y = x)) T).toNat < C.length ∧
      (coreF C T W m (moreF x (nth C (nth W (idxOf (fun y => decide (y = x)) T).toNat).toNat) td sn).1 (moreF x (nth C (nth W (idxOf (fun y => decide (y = x)) T).toNat).toNat) td sn).2 O).isSome = true) := by
  cases n with
  | zero => cases h
  | succ n =>
    rw [coreF] at h
    unfold idxI at h
    by_cases h1 : idxOf (fun y => decide (y = x)) T < 0 ∨ (W.length : Int) ≤ idxOf (fun y => decide (y = x)) T
    · rw [if_pos h1] at h; cases h
    · rw [if_neg h1] at h
      refine ⟨by omega, n, Nat.lt_succ_self n, fun h2 => ?_, fun h2 => ?_⟩
      · rw [if_pos h2] at h; exact h
      · rw [if_neg h2] at h
        by_cases h3 : (C.length : Int) ≤ nth W (idxOf (fun y => decide (y = x)) T).toNat
        · rw [if_pos h3] at h; cases h
        · rw [if_neg h3] at h; exact ⟨by omega, h⟩
theorem cons_drop (h : 0 < td.length) : td = nth td 0 :: td.drop 1 := by
  have := drop_nth h
  rwa [List.drop_zero] at this
theorem more_yes (hi : i < c.length) (h : nth c i ≠ x ∧ -nth c i ∉ sn) : moreF x (c.drop i) td sn = moreF x (c.drop (i + 1)) (td ++ [-nth c i]) (sn ++ [-nth c i]) := by rw [drop_nth hi, moreF, if_pos h]
theorem more_no (hi : i < c.length) (h : ¬ (nth c i ≠ x ∧ -nth c i ∉ sn)) : moreF x (c.drop i) td sn = moreF x (c.drop (i + 1)) td sn := by rw [drop_nth hi, moreF, if_neg h]
theorem more_end (hi : c.length ≤ i) : moreF x (c.drop i) td sn = (td, sn) := by rw [List.drop_of_length_le hi, moreF]
theorem lits_drop (h : litsIn td) : litsIn (td.drop 1) := fun i hi => by
  have := h (i + 1) (by rw [List.length_drop] at hi; omega)
  have e : nth (td.drop 1) i = nth td (i + 1) := by simp [nth]
  rwa [e]
theorem lits_app (h : litsIn td) (hx : -120 ≤ x ∧ x ≤ 120) : litsIn (td ++ [x]) := fun i hi => by
  by_cases h1 : i < td.length
  · have e : nth (td ++ [x]) i = nth td i := by simp [nth, List.getElem?_append_left h1]
    rw [e]; exact h i h1
  · rw [List.length_append, List.length_singleton] at hi
    have e : nth (td ++ [x]) i = x := by simp [nth, show i = td.length by omega]
    rw [e]; exact hx
theorem lits_one (hx : -120 ≤ x ∧ x ≤ 120) : litsIn [x] := lits_app (td := []) (fun i hi => absurd hi (Nat.not_lt_zero i)) hx
end
theorem lits_perm {a b : List Int} (h : litsIn b) (hp : a.Perm b) : litsIn a := fun i hi => by
  obtain ⟨j, hj, e⟩ := nth_of_mem (hp.mem_iff.1 (nth_mem hi))
  rw [← e]; exact h j hj
theorem cnf_lits {V : Int} {C : List (List Int)} (h : cnfOk V C) : (∀ c ∈ C, litsIn c) ∧ ∀ c ∈ C, c.length ≤ 24 := ⟨fun c hc _ hi => lit_in (h.2.2.2 c hc).2 h.2.1 hi, fun c hc => (h.2.2.2 c hc).1⟩
theorem var_rng {V l : Int} (h : ¬ l = 0 ∧ -V ≤ l ∧ l ≤ V) : 1 ≤ varA l ∧ varA l ≤ V := by
  unfold varA
  obtain ⟨h1, h2, h3⟩ := h
  omega
section
variable {C : List (List Int)} {A T W : List Int} {V n : Nat} {ph : Bool} {lv st : Int}
theorem go_step (h : goF C A V ph n T W lv = some st) : ∃ m T2 W2 b, m + 1 = n ∧ runF C 8 T W = some (T2, W2, b) ∧ (0 ≤ b → lv = 0 ∧ st = 2) ∧
    (¬ 0 ≤ b → trailOk V T2 ∧ ((askF T2 A 0).1 ≠ 0 → st = 2 ∧ (coreF C T2 W2 12 [-(askF T2 A 0).1] [-(askF T2 A 0).1] [(askF T2 A 0).1]).isSome = true) ∧
      (¬ (askF T2 A 0).1 ≠ 0 → (decN T2 A ph V = 0 → st = 1) ∧ (¬ decN T2 A ph V = 0 → goF C A V ph m (T2 ++ [decN T2 A ph V]) (W2 ++ [-1]) (lv + 1) = some st))) := by
  cases n with
  | zero => cases h
  | succ m =>
    rw [goF] at h
    cases hr : runF C 8 T W with
    | none => rw [hr] at h; cases h
    | some X =>
      obtain ⟨T2, W2, b⟩ := X
      rw [hr] at h
      dsimp only at h
      refine ⟨m, T2, W2, b, rfl, rfl, fun hb => ?_, fun hb => ?_⟩
      · rw [if_pos hb] at h
        by_cases hl : lv = 0
        · rw [if_pos hl] at h; exact ⟨hl, (Option.some.inj h).symm⟩
        · rw [if_neg hl] at h; cases h
      · rw [if_neg hb] at h
        by_cases ht : trailOk V T2
        · rw [if_pos ht] at h
          refine ⟨ht, fun ha => ?_, fun ha => ?_⟩
          · rw [if_pos ha] at h
            by_cases hc : (coreF C T2 W2 12 [-(askF T2 A 0).1] [-(askF T2 A 0).1] [(askF T2 A 0).1]).isSome = true
            · rw [if_pos hc] at h; exact ⟨(Option.some.inj h).symm, hc⟩
            · rw [if_neg hc] at h; cases h
          · rw [if_neg ha] at h
            have h : (if decN T2 A ph V = 0 then some 1 else goF C A V ph m (T2 ++ [decN T2 A ph V]) (W2 ++ [-1]) (lv + 1)) = some st := h
            refine ⟨fun hd => ?_, fun hd => ?_⟩
            · rw [if_pos hd] at h; exact (Option.some.inj h).symm
            · rw [if_neg hd] at h; exact h
        · rw [if_neg ht] at h; cases h
end
theorem dec_list {T A Lv W : List Int} {ph : Bool} {V : Nat} {lv : Int} (h : decS T A ph V) : decT T A ph V T (decN T A ph V) = T ∧ decT T A ph V W (-1) = W ∧ decT T A ph V Lv (lv + 1) = Lv ∧ decL T A ph V lv = lv :=
  ⟨(dec_stay (lv := lv) h).1 _ _, (dec_stay (lv := lv) h).1 _ _, (dec_stay (lv := lv) h).1 _ _, (dec_stay h).2⟩
theorem dec_more {T A Lv W : List Int} {ph : Bool} {V : Nat} {lv : Int} (h : ¬ decS T A ph V) : decT T A ph V T (decN T A ph V) = T ++ [decN T A ph V] ∧ decT T A ph V W (-1) = W ++ [-1] ∧ decT T A ph V Lv (lv + 1) = Lv ++ [lv + 1] ∧ decL T A ph V lv = lv + 1 :=
  ⟨(dec_go (lv := lv) h).1 _ _, (dec_go (lv := lv) h).1 _ _, (dec_go (lv := lv) h).1 _ _, (dec_go h).2⟩
theorem sure_go : cnfOk (1 : Nat) [[1], [-1]] ∧ litsOk (1 : Nat) [] ∧ goF [[1], [-1]] [] 1 (decide ((0 : Int) = 1)) 2 [] [] 0 = some 2 := by decide +kernel
theorem q_neqF {P : Program} {o : Oper} {U : Nat → Prop} {f : Fr} {H : Heap} {t u : TypeId} {x y : Operand} {a b : Int} (ho : o.op = .binOp .neq t x y u) (hx : ev f x = I a) (hy : ev f y = I b) (h : a = b) : Quiet P o U f H (B false) := by
  have := q_neq (P := P) (U := U) (H := H) ho hx hy
  rwa [decide_eq_false (not_not_intro h)] at this
section
variable {p i n : Nat}
end
end Go.Um
namespace Go.Um
open Go.RowKit
def andNotN (a b : Nat) : Nat := a ^^^ (a &&& b)
section
variable {P : Program} {o : Oper} {U : Nat → Prop} {f : Fr} {H : Heap} {a b : Nat}
theorem ofNat64 (a : Nat) : BitVec.ofInt 64 (a : Int) = BitVec.ofNat 64 a := by
  apply BitVec.eq_of_toNat_eq
  simp [BitVec.toNat_ofInt]
theorem bv64 {a : Nat} (h : a < 4611686018427387904) : (BitVec.ofInt 64 (a : Int)).toNat = a := by
  rw [ofNat64, BitVec.toNat_ofNat]; omega
theorem lt62_and {a b : Nat} (ha : a < 4611686018427387904) : a &&& b < 4611686018427387904 := Nat.lt_of_le_of_lt Nat.and_le_left ha
theorem lt62_andNot {a b : Nat} (ha : a < 4611686018427387904) (hb : b < 4611686018427387904) : andNotN a b < 4611686018427387904 := Nat.xor_lt_two_pow (n := 62) ha (lt62_and ha)
theorem shr_lt {a k : Nat} (ha : a < 4611686018427387904) : a >>> k < 4611686018427387904 := Nat.lt_of_le_of_lt (Nat.shiftRight_le _ _) ha
theorem wrap62 {a : Nat} (h : a < 4611686018427387904) : IntKind.i64.wrap (a : Int) = (a : Int) := wrap_in (by constructor <;> omega)
theorem run_and {w : World} (ha : a < 4611686018427387904) (hb : b < 4611686018427387904) : (Op.intBits .and .i64 (a : Int) (b : Int)).run P w = .ok (I ((a &&& b : Nat) : Int)) w := by
  have h : (BitVec.ofInt 64 (a : Int) &&& BitVec.ofInt 64 (b : Int)).toNat = a &&& b := by rw [BitVec.toNat_and, bv64 ha, bv64 hb]
  have h2 := wrap62 (lt62_and (b := b) ha)
  show (pure (Value.int .i64 (IntKind.i64.wrap ((BitVec.ofInt 64 (a : Int) &&& BitVec.ofInt 64 (b : Int) : BitVec 64).toNat : Int))) : Sem Value).run P w = _
  rw [h, h2]; simp
theorem q_andN {t u : TypeId} {x y : Operand} (ho : o.op = .binOp .and t x y u) (hx : ev f x = I ((a : Nat) : Int)) (hy : ev f y = I ((b : Nat) : Int)) (ha : a < 4611686018427387904) (hb : b < 4611686018427387904) : Quiet P o U f H (I ((a &&& b : Nat) : Int)) := by
  intro w _; simp [execOp, ho, hx, hy, eqGuard, binOp, run_and ha hb]
theorem q_shl1 {t u : TypeId} {x y : Operand} {b : Int} (ho : o.op = .binOp .shl t x y u) (hx : ev f x = I 1) (hy : ev f y = I b) (h0 : 0 ≤ b) (h1 : b ≤ 61) : Quiet P o U f H (I ((2 ^ b.toNat : Nat) : Int)) := by
  intro w _
  have hlt : 2 ^ b.toNat < 4611686018427387904 := Nat.pow_lt_pow_right (a := 2) (n := 62) (by decide) (by omega)
  have h2 := wrap62 hlt
  have hm : min b.toNat 64 = b.toNat := by omega
  have hn : ¬ b < 0 := by omega
  simp only [execOp, ho, hx, hy, eqGuard, binOp, Op.shift, IntKind.bits, hm, if_neg hn]
  simp at h2 ⊢
  rw [h2]
theorem q_shrN {t u : TypeId} {x y : Operand} {b : Int} (ho : o.op = .binOp .shr t x y u) (hx : ev f x = I ((a : Nat) : Int)) (hy : ev f y = I b) (h0 : 0 ≤ b) (h1 : b ≤ 61) : Quiet P o U f H (I ((a >>> b.toNat : Nat) : Int)) := by
  intro w _
  have hm : min b.toNat 64 = b.toNat := by omega
  have hn : ¬ b < 0 := by omega
  have e : ((a : Int).fdiv (2 ^ b.toNat)) = ((a >>> b.toNat : Nat) : Int) := by
    rw [Nat.shiftRight_eq_div_pow]
    rw [Int.fdiv_eq_ediv_of_nonneg _ (by exact_mod_cast Nat.zero_le _)]
    norm_cast
  simp only [execOp, ho, hx, hy, eqGuard, binOp, Op.shift, IntKind.bits, hm, if_neg hn]
  simp [e]
end
theorem bit_one (s f : Nat) : decide ((((s >>> f) &&& 1 : Nat) : Int) = 1) = s.testBit f := by
  rw [Nat.testBit, Nat.and_comm 1, Nat.and_one_is_mod]
  have : (s >>> f) % 2 < 2 := Nat.mod_lt _ (by decide)
  by_cases h : (s >>> f) % 2 = 1
  · simp [h]
  · have h0 : (s >>> f) % 2 = 0 := by omega
    simp [h0]
end Go.Um
namespace Go.Um
theorem sk {α : Type} {a : α} {l m : List α} (h : l.Sublist m) : (a :: l).Sublist (a :: m) := List.Sublist.cons_cons a h
theorem sn {α : Type} {a : α} {l m : List α} (h : l.Sublist m) : l.Sublist (a :: m) := List.Sublist.cons a h
end Go.Um
namespace Go.Um
section
variable {P : Program} {N : Nat} {ops : Array Oper} {o : Oper} {rest : List Oper} {n r : FP} {x : Nat → FP} {f : Fr} {H : Heap}
theorem lq {v : Value} (hg : o.guard = none) (hQ : Quiet P o NoB f H v) (h : wpL P ops n rest (updO f o.dst v) H) : wpL P ops n (o :: rest) f H := wpL_q hg hQ h
theorem lo (hg : o.guard = none) (h : OpE P o (wpL P ops n rest) f H) : wpL P ops n (o :: rest) f H := wpL_o hg h
theorem sc {c d : Code} (J : FP) (h : wpF P N c J x r f H) (hJ : ∀ f H, J f H → wpF P N d n x r f H) : wpF P N (.seq c d) n x r f H := wpF_seq (wpF_cut J h hJ)
theorem fcr {id : Nat} {d : Code} {l : List Oper} (J : FP) (h : wpL P l.toArray J l f H) (hJ : ∀ f H, J f H → wpF P N d n x r f H) : wpF P N (.seq (.region id l.toArray false) d) n x r f H := wpF_seq (wpF_cut J (wpF_region h) hJ)
theorem rq {lab : List (Option Nat)} {ul : List (List Nat)} {blk : Nat → Nat → Prop} {l : List Nat} {v : Value} (q : Nat)
    (hd : (decide (l.length < ops.size) && readyB ops (mkL ops.size l) q) = true) (hq : ops[q]? = some o) (hg : o.guard = none) (hQ : Quiet P o (labU ul blk q) f H v)
    (h : wpR P ops lab ul blk n (q :: l) (updO f o.dst v) H) : wpR P ops lab ul blk n l f H := wpR_q q hd hq (quietAt hq hg hQ) h
theorem fa {α : Type} {p : α → Prop} {a : α} {l : List α} (h : p a) (t : ∀ x ∈ l, p x) : ∀ x ∈ a :: l, p x := List.forall_mem_cons.2 ⟨h, t⟩
theorem fe {α : Type} {p : α → Prop} : ∀ x ∈ ([] : List α), p x := fun _ h => by cases h
theorem la {e : Operand} {v : Value} (hg : o.guard = none) (ho : o.op = .assign e) (hx : ev f e = v) (h : wpL P ops n rest (updO f o.dst v) H) : wpL P ops n (o :: rest) f H := wpL_q (U := NoB) hg (q_assign ho hx) h
theorem lm {e : Operand} {v : Value} (hg : o.guard = none) (ho : o.op = .move e) (hx : ev f e = v) (h : wpL P ops n rest (updO f o.dst v) H) : wpL P ops n (o :: rest) f H := wpL_q (U := NoB) hg (q_move ho hx) h
theorem gq {v : Value} {j : Nat} {b : Bool} {oj : Oper} {d : Nat} (hg : o.guard = some (j, b)) (hj : ops[j]? = some oj) (hjd : oj.dst = some d) (hv : f d = .bool b)
    (hQ : Quiet P o NoB f H v) (h : wpL P ops n rest (updO f o.dst v) H) : wpL P ops n (o :: rest) f H := wpL_gq hg hj hjd hv hQ h
theorem rs {lab : List (Option Nat)} {ul : List (List Nat)} {blk : Nat → Nat → Prop} {l : List Nat} {j : Nat} {b c : Bool} {oj : Oper} {d : Nat} (q : Nat)
    (hd : (decide (l.length < ops.size) && readyB ops (mkL ops.size l) q) = true) (hv : f d = .bool c) (hq : ops[q]? = some o) (hg : o.guard = some (j, b)) (hj : ops[j]? = some oj) (hjd : oj.dst = some d)
    (hne : (c == b) = false) (h : wpR P ops lab ul blk n (q :: l) (updO f o.dst undef) H) : wpR P ops lab ul blk n l f H := wpR_q q hd hq (quietAt_s hq hg hj hjd hv hne) h
end
abbrev Vg : Array Value → Value := .agg
abbrev bE (g : Nat) (cs : Array Value) (t : TypeId) : Ent := blkE g (.cells cs t)
abbrev nS : Value := .slice none 0 0
abbrev SZ (S : Nat → Prop) (H0 : Heap) : Nat → Prop := fun b => S b ∧ b < H0.size
end Go.Um
namespace Go.Um
abbrev Cho := Nat × Nat × Nat
section
variable (N : Nat)
def lev (ch : List Cho) (i : Nat) : Nat := if i < 2 then N + 1 else (nth ch (i - 2)).1
def tab (ch : List Cho) : Nat → Nat → List Bool
  | 0, i => [decide (i = 1)]
  | d + 1, i => if lev N ch i = N - d then tab ch d (nth ch (i - 2)).2.1 ++ tab ch d (nth ch (i - 2)).2.2 else tab ch d i ++ tab ch d i
structure ChoOk (ch : List Cho) (k : Nat) : Prop where
  v1 : 1 ≤ (nth ch k).1
  vN : (nth ch k).1 ≤ N
  lo : (nth ch k).2.1 < k + 2
  hi : (nth ch k).2.2 < k + 2
  ne : (nth ch k).2.1 ≠ (nth ch k).2.2
  llo : (nth ch k).1 < lev N ch (nth ch k).2.1
  lhi : (nth ch k).1 < lev N ch (nth ch k).2.2
structure WFc (ch : List Cho) : Prop where
  each : ∀ k, k < ch.length → ChoOk N ch k
  nd : ch.Nodup
def putC (ch : List Cho) (c : Cho) : Nat × List Cho := if c ∈ ch then (ch.idxOf c + 2, ch) else (ch.length + 2, ch ++ [c])
structure Bd where
  ch : List Cho
  sn : List Bool → Option Nat
def nodeB : Nat → List Bool → Bd → Nat × Bd
  | 0, t, b => (if nth t 0 then 1 else 0, b)
  | d + 1, t, b =>
    match b.sn t with
    | some i => (i, b)
    | none =>
      let r1 := nodeB d (t.take (2 ^ d)) b
      let r2 := nodeB d (t.drop (2 ^ d)) r1.2
      let r3 := if r1.1 = r2.1 then (r1.1, r2.2.ch) else putC r2.2.ch (N - d, r1.1, r2.1)
      (r3.1, ⟨r3.2, fun s => if s = t then some r3.1 else r2.2.sn s⟩)
end
section
variable {N : Nat} {ch new : List Cho} {i j d k : Nat} {b : Bd}
theorem tab_len : (tab N ch d i).length = 2 ^ d := by
  induction d generalizing i with
  | zero => rfl
  | succ d ih =>
    rw [tab]
    split <;> simp only [List.length_append, ih, Nat.pow_succ, Nat.mul_two]
theorem lev_app (h : i < ch.length + 2) : lev N (ch ++ new) i = lev N ch i := by
  unfold lev
  by_cases h2 : i < 2
  · rw [if_pos h2, if_pos h2]
  · rw [if_neg h2, if_neg h2]
    simp [nth, List.getElem?_append_left (show i - 2 < ch.length by omega)]
theorem nth_app (h : k < ch.length) : nth (ch ++ new) k = nth ch k := by simp [nth, List.getElem?_append_left h]
theorem lev_pos (h : WFc N ch) (hi : i < ch.length + 2) : 1 ≤ lev N ch i := by
  unfold lev
  by_cases h2 : i < 2
  · rw [if_pos h2]; omega
  · rw [if_neg h2]; exact (h.each (i - 2) (by omega)).v1
theorem lev_two (h : WFc N ch) (hi : i < ch.length + 2) (hl : N < lev N ch i) : i < 2 := by
  unfold lev at hl
  by_cases h2 : i < 2
  · exact h2
  · rw [if_neg h2] at hl
    have := (h.each (i - 2) (by omega)).vN
    omega
theorem tab_app (h : WFc N ch) (hi : i < ch.length + 2) : tab N (ch ++ new) d i = tab N ch d i := by
  induction d generalizing i with
  | zero => rfl
  | succ d ih =>
    rw [tab, tab, lev_app hi]
    by_cases hl : lev N ch i = N - d
    · rw [if_pos hl, if_pos hl]
      have h2 : ¬ i < 2 := fun h2 => by
        unfold lev at hl
        rw [if_pos h2] at hl
        omega
      have hk : i - 2 < ch.length := by omega
      have hc := h.each _ hk
      have := hc.lo
      have := hc.hi
      rw [nth_app hk, ih (by omega), ih (by omega)]
    · rw [if_neg hl, if_neg hl, ih hi]
theorem nd_inj (h : ch.Nodup) (hi : i < ch.length) (hj : j < ch.length) (e : nth ch i = nth ch j) : i = j := by
  have g1 : nth ch i = ch[i] := by simp [nth, hi]
  have g2 : nth ch j = ch[j] := by simp [nth, hj]
  rw [g1, g2] at e
  have hp := List.pairwise_iff_getElem.1 h
  rcases Nat.lt_trichotomy i j with hl | hl | hl
  · exact absurd e (hp i j hi hj hl)
  · exact hl
  · exact absurd e.symm (hp j i hj hi hl)
theorem app_inj {α : Type} {a b c e : List α} (h : a ++ b = c ++ e) (hl : a.length = c.length) : a = c ∧ b = e := List.append_inj h hl
theorem canon (h : WFc N ch) (hd : d ≤ N) : ∀ {i j}, i < ch.length + 2 → j < ch.length + 2 → N < lev N ch i + d → N < lev N ch j + d → tab N ch d i = tab N ch d j → i = j := by
  induction d with
  | zero =>
    intro i j hi hj li lj e
    have a := lev_two h hi (by omega)
    have b := lev_two h hj (by omega)
    simp only [tab, List.cons.injEq, and_true, decide_eq_decide] at e
    omega
  | succ d ih =>
    intro i j hi hj li lj e
    have ih := @ih (by omega)
    rw [tab, tab] at e
    have two : ∀ {x}, lev N ch x = N - d → ¬ x < 2 := fun {x} hx h2 => by
      unfold lev at hx
      rw [if_pos h2] at hx
      omega
    have kids : ∀ {x}, x < ch.length + 2 → lev N ch x = N - d → ((nth ch (x - 2)).2.1 < ch.length + 2 ∧ (nth ch (x - 2)).2.2 < ch.length + 2 ∧ N < lev N ch (nth ch (x - 2)).2.1 + d ∧ N < lev N ch (nth ch (x - 2)).2.2 + d) := by
      intro x hx hl
      have h2 := two hl
      have hk : x - 2 < ch.length := by omega
      have hc := h.each _ hk
      have a1 := hc.lo
      have a2 := hc.hi
      have a3 := hc.llo
      have a4 := hc.lhi
      have a5 : lev N ch x = (nth ch (x - 2)).1 := by unfold lev; rw [if_neg h2]
      refine ⟨by omega, by omega, by omega, by omega⟩
    have half : ∀ {x y z u}, tab N ch d x ++ tab N ch d y = tab N ch d z ++ tab N ch d u → tab N ch d x = tab N ch d z ∧ tab N ch d y = tab N ch d u := fun h => app_inj h (by rw [tab_len, tab_len])
    by_cases ei : lev N ch i = N - d <;> by_cases ej : lev N ch j = N - d
    · rw [if_pos ei, if_pos ej] at e
      obtain ⟨e1, e2⟩ := half e
      obtain ⟨a1, a2, a3, a4⟩ := kids hi ei
      obtain ⟨b1, b2, b3, b4⟩ := kids hj ej
      have q1 := ih a1 b1 a3 b3 e1
      have q2 := ih a2 b2 a4 b4 e2
      have hi2 := two ei
      have hj2 := two ej
      have q0 : (nth ch (i - 2)).1 = (nth ch (j - 2)).1 := by
        unfold lev at ei ej
        rw [if_neg hi2] at ei
        rw [if_neg hj2] at ej
        omega
      have hk : i - 2 < ch.length := by omega
      have hk2 : j - 2 < ch.length := by omega
      have hq : nth ch (i - 2) = nth ch (j - 2) := Prod.ext q0 (Prod.ext q1 q2)
      have := nd_inj h.nd hk hk2 hq
      omega
    · rw [if_pos ei, if_neg ej] at e
      obtain ⟨e1, e2⟩ := half e
      obtain ⟨a1, a2, a3, a4⟩ := kids hi ei
      have hi2 := two ei
      exact absurd (ih a1 a2 a3 a4 (e1.trans e2.symm)) (h.each (i - 2) (by omega)).ne
    · rw [if_neg ei, if_pos ej] at e
      obtain ⟨e1, e2⟩ := half e
      obtain ⟨a1, a2, a3, a4⟩ := kids hj ej
      have hj2 := two ej
      exact absurd (ih a1 a2 a3 a4 (e1.symm.trans e2)) (h.each (j - 2) (by omega)).ne
    · rw [if_neg ei, if_neg ej] at e
      exact ih hi hj (by omega) (by omega) (half e).1
structure Inv (N : Nat) (b : Bd) : Prop where
  wf : WFc N b.ch
  sn : ∀ t i, b.sn t = some i → ∃ d, t.length = 2 ^ (d + 1) ∧ d + 1 ≤ N ∧ i < b.ch.length + 2 ∧ N < lev N b.ch i + (d + 1) ∧ tab N b.ch (d + 1) i = t
theorem wf_nil : WFc N [] := ⟨fun k hk => absurd hk (Nat.not_lt_zero k), List.nodup_nil⟩
theorem inv_nil : Inv N ⟨[], fun _ => none⟩ := ⟨wf_nil, fun _ _ h => by cases h⟩
theorem pow_inj2 {a b : Nat} (h : 2 ^ a = 2 ^ b) : a = b := (Nat.pow_right_inj (show 1 < 2 by decide)).1 h
theorem Inv.at (h : Inv N b) {t : List Bool} {i : Nat} (hs : b.sn t = some i) (ht : t.length = 2 ^ (d + 1)) : i < b.ch.length + 2 ∧ N < lev N b.ch i + (d + 1) ∧ tab N b.ch (d + 1) i = t := by
  obtain ⟨e, h1, _, h2, h3, h4⟩ := h.sn t i hs
  have : e + 1 = d + 1 := pow_inj2 (h1.symm.trans ht)
  obtain rfl : e = d := by omega
  exact ⟨h2, h3, h4⟩
theorem one_bit {t : List Bool} (h : t.length = 1) : [decide ((if nth t 0 = true then 1 else 0) = 1)] = t := by
  match t, h with
  | [x], _ => cases x <;> rfl
theorem putC_in {c : Cho} (h : c ∈ ch) : putC ch c = (ch.idxOf c + 2, ch) := if_pos h
theorem putC_new {c : Cho} (h : c ∉ ch) : putC ch c = (ch.length + 2, ch ++ [c]) := if_neg h
theorem idx_at {c : Cho} (h : c ∈ ch) : ch.idxOf c < ch.length ∧ nth ch (ch.idxOf c) = c := by
  have h1 := List.idxOf_lt_length_of_mem h
  refine ⟨h1, ?_⟩
  have : nth ch (ch.idxOf c) = ch[ch.idxOf c] := by simp [nth, h1]
  rw [this, List.getElem_idxOf]
theorem half_len {t : List Bool} (h : t.length = 2 ^ (d + 1)) : (t.take (2 ^ d)).length = 2 ^ d ∧ (t.drop (2 ^ d)).length = 2 ^ d := by
  rw [List.length_take, List.length_drop, h, Nat.pow_succ]
  omega
theorem WFc.add (h : WFc N ch) {c : Cho} (hv : 1 ≤ c.1 ∧ c.1 ≤ N) (hlo : c.2.1 < ch.length + 2) (hhi : c.2.2 < ch.length + 2) (hne : c.2.1 ≠ c.2.2) (hll : c.1 < lev N ch c.2.1) (hlh : c.1 < lev N ch c.2.2) (hc : c ∉ ch) : WFc N (ch ++ [c]) where
  each k hk := by
    rw [List.length_append, List.length_singleton] at hk
    by_cases hl : k < ch.length
    · have o := h.each k hl
      have a1 := o.lo
      have a2 := o.hi
      refine ⟨by rw [nth_app hl]; exact o.v1, by rw [nth_app hl]; exact o.vN, by rw [nth_app hl]; exact o.lo, by rw [nth_app hl]; exact o.hi, by rw [nth_app hl]; exact o.ne, ?_, ?_⟩
      · rw [nth_app hl, lev_app (by omega)]; exact o.llo
      · rw [nth_app hl, lev_app (by omega)]; exact o.lhi
    · have e : nth (ch ++ [c]) k = c := by
        rw [show k = ch.length by omega]
        simp [nth]
      refine ⟨by rw [e]; exact hv.1, by rw [e]; exact hv.2, by rw [e]; omega, by rw [e]; omega, by rw [e]; exact hne, ?_, ?_⟩
      · rw [e, lev_app hlo]; exact hll
      · rw [e, lev_app hhi]; exact hlh
  nd := by
    rw [List.nodup_append]
    exact ⟨h.nd, by simp, fun a ha b hb => by rw [List.mem_singleton.1 hb]; exact fun e => hc (e ▸ ha)⟩
structure Made (N : Nat) (d : Nat) (t : List Bool) (b : Bd) (r : Nat × Bd) : Prop where
  inv : Inv N r.2
  app : ∃ new, r.2.ch = b.ch ++ new ∧ ∀ c ∈ new, N < c.1 + d
  lt : r.1 < r.2.ch.length + 2
  lev : N < lev N r.2.ch r.1 + d
  tab : tab N r.2.ch d r.1 = t
theorem node_ok : ∀ {d : Nat} {t : List Bool} {b : Bd}, Inv N b → d ≤ N → t.length = 2 ^ d → Made N d t b (nodeB N d t b) := by
  intro d
  induction d with
  | zero =>
    intro t b hb _ ht
    have hlt : (if nth t 0 = true then 1 else 0) < 2 := by split <;> omega
    exact ⟨hb, ⟨[], by rw [List.append_nil]; rfl, fun c hc => by cases hc⟩, show (if nth t 0 = true then 1 else 0) < _ by omega, by
      show N < Go.Um.lev N b.ch (if nth t 0 = true then 1 else 0) + 0
      unfold Go.Um.lev
      rw [if_pos hlt]
      omega, one_bit ht⟩
  | succ d ih =>
    intro t b hb hd ht
    obtain ⟨hl1, hl2⟩ := half_len ht
    rw [nodeB]
    cases hs : b.sn t with
    | some i =>
      obtain ⟨h1, h2, h3⟩ := hb.at hs ht
      exact ⟨hb, ⟨[], by rw [List.append_nil], fun c hc => by cases hc⟩, h1, h2, h3⟩
    | none =>
      dsimp only
      have m1 := ih hb (by omega) hl1
      generalize nodeB N d (t.take (2 ^ d)) b = r1 at m1
      have m2 := ih m1.inv (by omega) hl2
      generalize nodeB N d (t.drop (2 ^ d)) r1.2 = r2 at m2
      obtain ⟨n1, e1, v1⟩ := m1.app
      obtain ⟨n2, e2, v2⟩ := m2.app
      have lt1 : r1.1 < r2.2.ch.length + 2 := by have := m1.lt; rw [e2, List.length_append]; omega
      have lev1 : Go.Um.lev N r2.2.ch r1.1 = Go.Um.lev N r1.2.ch r1.1 := by rw [e2]; exact lev_app m1.lt
      have tab1 : Go.Um.tab N r2.2.ch d r1.1 = t.take (2 ^ d) := by rw [e2, tab_app m1.inv.wf m1.lt]; exact m1.tab
      have hL1 := m1.lev
      have hL2 := m2.lev
      have fin : ∀ (i : Nat) (ch : List Cho) (new : List Cho), ch = r2.2.ch ++ new → (∀ c ∈ new, N < c.1 + (d + 1)) → WFc N ch → i < ch.length + 2 → N < Go.Um.lev N ch i + (d + 1) → Go.Um.tab N ch (d + 1) i = t →
          Made N (d + 1) t b (i, ⟨ch, fun s => if s = t then some i else r2.2.sn s⟩) := by
        intro i ch new e hv hw hi hl ht'
        refine ⟨⟨hw, fun s j hj => ?_⟩, ⟨n1 ++ n2 ++ new, by show ch = _; rw [e, e2, e1]; simp, fun c hc => ?_⟩, hi, hl, ht'⟩
        · by_cases hst : s = t
          · simp only [hst, if_true, Option.some.injEq] at hj
            subst hj
            exact ⟨d, by rw [hst]; exact ht, hd, hi, hl, by rw [hst]; exact ht'⟩
          · simp only [hst, if_false] at hj
            obtain ⟨e', q1, q0, q2, q3, q4⟩ := m2.inv.sn s j hj
            refine ⟨e', q1, q0, by show j < ch.length + 2; rw [e, List.length_append]; omega, by show N < Go.Um.lev N ch j + _; rw [e, lev_app q2]; exact q3, by show Go.Um.tab N ch _ j = s; rw [e, tab_app m2.inv.wf q2]; exact q4⟩
        · simp only [List.mem_append] at hc
          rcases hc with (hc | hc) | hc
          · have := v1 c hc; omega
          · have := v2 c hc; omega
          · exact hv c hc
      by_cases hq : r1.1 = r2.1
      · rw [if_pos hq]
        refine fin _ _ [] (by simp) (fun c hc => by cases hc) m2.inv.wf lt1 (show N < Go.Um.lev N r2.2.ch r1.1 + (d + 1) by omega) ?_
        have hn : ¬ Go.Um.lev N r2.2.ch r1.1 = N - d := by omega
        rw [Go.Um.tab, if_neg hn]
        conv => lhs; arg 2; rw [hq, m2.tab]
        rw [tab1, List.take_append_drop]
      · rw [if_neg hq]
        have tnew : ∀ {ch : List Cho} {i : Nat} {new}, ch = r2.2.ch ++ new → 2 ≤ i → nth ch (i - 2) = (N - d, r1.1, r2.1) → Go.Um.lev N ch i = N - d ∧ Go.Um.tab N ch (d + 1) i = t := by
          intro ch i new e h2 hn
          have hl : Go.Um.lev N ch i = N - d := by unfold Go.Um.lev; rw [if_neg (by omega), hn]
          refine ⟨hl, ?_⟩
          rw [Go.Um.tab, if_pos hl, hn]
          show Go.Um.tab N ch d r1.1 ++ Go.Um.tab N ch d r2.1 = t
          rw [e, tab_app m2.inv.wf lt1, tab_app m2.inv.wf m2.lt, tab1, m2.tab, List.take_append_drop]
        by_cases hc : (N - d, r1.1, r2.1) ∈ r2.2.ch
        · rw [putC_in hc]
          obtain ⟨a1, a2⟩ := idx_at hc
          obtain ⟨b1, b2⟩ := tnew (new := []) (i := r2.2.ch.idxOf (N - d, r1.1, r2.1) + 2) (by simp) (by omega) a2
          exact fin _ _ [] (by simp) (fun c hc => by cases hc) m2.inv.wf (show r2.2.ch.idxOf (N - d, r1.1, r2.1) + 2 < r2.2.ch.length + 2 by omega) (show N < Go.Um.lev N r2.2.ch (r2.2.ch.idxOf (N - d, r1.1, r2.1) + 2) + (d + 1) by rw [b1]; omega) b2
        · rw [putC_new hc]
          obtain ⟨b1, b2⟩ := tnew (new := [(N - d, r1.1, r2.1)]) (i := r2.2.ch.length + 2) rfl (by omega) (by simp [nth])
          refine fin _ _ [(N - d, r1.1, r2.1)] rfl (fun c hc => by rw [List.mem_singleton.1 hc]; show N < N - d + (d + 1); omega) ?_ (by rw [List.length_append]; simp) (by rw [b1]; omega) b2
          exact m2.inv.wf.add ⟨show 1 ≤ N - d by omega, show N - d ≤ N by omega⟩ lt1 m2.lt hq (show N - d < Go.Um.lev N r2.2.ch r1.1 by omega) (show N - d < Go.Um.lev N r2.2.ch r2.1 by omega) hc
theorem node_old : ∀ {d : Nat} {t : List Bool} {b : Bd} {i : Nat}, Inv N b → d ≤ N → t.length = 2 ^ d → i < b.ch.length + 2 → N < lev N b.ch i + d → tab N b.ch d i = t → (nodeB N d t b).1 = i ∧ (nodeB N d t b).2.ch = b.ch := by
  intro d
  induction d with
  | zero =>
    intro t b i hb hd ht hi hl e
    have m := node_ok hb hd ht
    refine ⟨canon hb.wf hd ?_ hi ?_ hl (m.tab.trans e.symm), rfl⟩
    · exact m.lt
    · exact m.lev
  | succ d ih =>
    intro t b i hb hd ht hi hl e
    have m := node_ok hb hd ht
    have hch : (nodeB N (d + 1) t b).2.ch = b.ch := by
      obtain ⟨hl1, hl2⟩ := half_len ht
      rw [nodeB]
      cases hs : b.sn t with
      | some j => rfl
      | none =>
        dsimp only
        have hN : ∀ x, x < b.ch.length + 2 → lev N b.ch x = N - d → ¬ x < 2 := fun x _ hx h2 => by
          unfold lev at hx
          rw [if_pos h2] at hx
          omega
        by_cases hv : lev N b.ch i = N - d
        · have h2 := hN i hi hv
          have hk : i - 2 < b.ch.length := by omega
          have hc := hb.wf.each _ hk
          have c1 := hc.lo
          have c2 := hc.hi
          have c3 := hc.llo
          have c4 := hc.lhi
          have hvar : (nth b.ch (i - 2)).1 = N - d := by unfold lev at hv; rw [if_neg h2] at hv; exact hv
          rw [tab, if_pos hv] at e
          obtain ⟨e1, e2⟩ : tab N b.ch d (nth b.ch (i - 2)).2.1 = t.take (2 ^ d) ∧ tab N b.ch d (nth b.ch (i - 2)).2.2 = t.drop (2 ^ d) :=
            app_inj (e.trans (List.take_append_drop _ _).symm) (by rw [tab_len, hl1])
          obtain ⟨a1, a2⟩ := ih hb (by omega) hl1 (i := (nth b.ch (i - 2)).2.1) (by omega) (by omega) e1
          have m1 := node_ok hb (d := d) (by omega) hl1
          generalize nodeB N d (t.take (2 ^ d)) b = r1 at a1 a2 m1
          obtain ⟨b1, b2⟩ := ih m1.inv (by omega) hl2 (i := (nth b.ch (i - 2)).2.2) (by rw [a2]; omega) (by rw [a2]; omega) (by rw [a2]; exact e2)
          generalize nodeB N d (t.drop (2 ^ d)) r1.2 = r2 at b1 b2
          have hne : ¬ r1.1 = r2.1 := by rw [a1, b1]; exact hc.ne
          rw [if_neg hne, b2, a2, a1, b1]
          have hmem : ((N - d, (nth b.ch (i - 2)).2.1, (nth b.ch (i - 2)).2.2) : Cho) ∈ b.ch := by
            rw [← hvar]
            exact nth_mem hk
          rw [putC_in hmem]
        · rw [tab, if_neg hv] at e
          obtain ⟨e1, e2⟩ : tab N b.ch d i = t.take (2 ^ d) ∧ tab N b.ch d i = t.drop (2 ^ d) := app_inj (e.trans (List.take_append_drop _ _).symm) (by rw [tab_len, hl1])
          obtain ⟨a1, a2⟩ := ih hb (by omega) hl1 hi (by omega) e1
          have m1 := node_ok hb (d := d) (by omega) hl1
          generalize nodeB N d (t.take (2 ^ d)) b = r1 at a1 a2 m1
          obtain ⟨b1, b2⟩ := ih m1.inv (by omega) hl2 (i := i) (by rw [a2]; exact hi) (by rw [a2]; omega) (by rw [a2]; exact e2)
          generalize nodeB N d (t.drop (2 ^ d)) r1.2 = r2 at b1 b2
          rw [if_pos (a1.trans b1.symm), b2, a2]
    refine ⟨?_, hch⟩
    refine canon hb.wf hd ?_ hi ?_ hl ?_
    · have := m.lt; rw [hch] at this; exact this
    · have := m.lev; rw [hch] at this; exact this
    · have := m.tab; rw [hch] at this; exact this.trans e.symm
def visF (ch : List Cho) : Nat → Nat → Nat → Option Nat
  | 0, _, _ => none
  | n + 1, i, nx => if i < 2 ∨ i < nx then some nx
    else match visF ch n (nth ch (i - 2)).2.1 nx with
      | none => none
      | some n1 => match visF ch n (nth ch (i - 2)).2.2 n1 with
        | none => none
        | some n2 => if i = n2 then some (n2 + 1) else none
theorem vis_done {n nx : Nat} (h : i < nx) : visF ch (n + 1) i nx = some nx := by rw [visF, if_pos (.inr h)]
theorem vis_app (h : WFc N ch) : ∀ {n i nx}, i < ch.length + 2 → visF (ch ++ new) n i nx = visF ch n i nx := by
  intro n
  induction n with
  | zero => intros; rfl
  | succ n ih =>
    intro i nx hi
    rw [visF, visF]
    by_cases h2 : i < 2 ∨ i < nx
    · rw [if_pos h2, if_pos h2]
    · have hk : i - 2 < ch.length := by omega
      have hc := h.each _ hk
      have a1 := hc.lo
      have a2 := hc.hi
      rw [if_neg h2, if_neg h2, nth_app hk, ih (by omega)]
      cases visF ch n (nth ch (i - 2)).2.1 nx with
      | none => rfl
      | some n1 =>
        dsimp only
        rw [ih (by omega)]
theorem vis_more : ∀ {n i nx r}, visF ch n i nx = some r → ∀ {m}, n ≤ m → visF ch m i nx = some r := by
  intro n
  induction n with
  | zero => intro i nx r h; cases h
  | succ n ih =>
    intro i nx r h m hm
    obtain ⟨m, rfl⟩ : ∃ k, m = k + 1 := ⟨m - 1, by omega⟩
    rw [visF] at h ⊢
    by_cases h2 : i < 2 ∨ i < nx
    · rw [if_pos h2] at h ⊢; exact h
    · rw [if_neg h2] at h ⊢
      cases h1 : visF ch n (nth ch (i - 2)).2.1 nx with
      | none => rw [h1] at h; cases h
      | some n1 =>
        rw [h1] at h
        rw [ih h1 (by omega)]
        dsimp only at h ⊢
        cases h3 : visF ch n (nth ch (i - 2)).2.2 n1 with
        | none => rw [h3] at h; cases h
        | some n2 =>
          rw [h3] at h
          rw [ih h3 (by omega)]
          exact h
theorem node_vis : ∀ {d : Nat} {t : List Bool} {b : Bd}, Inv N b → d ≤ N → t.length = 2 ^ d → visF (nodeB N d t b).2.ch (d + 1) (nodeB N d t b).1 (b.ch.length + 2) = some ((nodeB N d t b).2.ch.length + 2) := by
  intro d
  induction d with
  | zero =>
    intro t b hb hd ht
    have m := node_ok hb hd ht
    exact vis_done m.lt
  | succ d ih =>
    intro t b hb hd ht
    obtain ⟨hl1, hl2⟩ := half_len ht
    have m := node_ok hb hd ht
    rw [nodeB] at m ⊢
    cases hs : b.sn t with
    | some j =>
      obtain ⟨h1, _, _⟩ := hb.at hs ht
      exact vis_done h1
    | none =>
      rw [hs] at m
      dsimp only at m ⊢
      have m1 := node_ok hb (d := d) (by omega) hl1
      have v1 := ih hb (by omega) hl1
      have o1 := fun i => node_old (i := i) hb (d := d) (by omega) hl1
      generalize nodeB N d (t.take (2 ^ d)) b = r1 at m1 v1 o1 m ⊢
      have m2 := node_ok m1.inv (d := d) (by omega) hl2
      have v2 := ih m1.inv (by omega) hl2
      have o2 := fun i => node_old (i := i) m1.inv (d := d) (by omega) hl2
      generalize nodeB N d (t.drop (2 ^ d)) r1.2 = r2 at m2 v2 o2 m ⊢
      obtain ⟨n1, e1, w1⟩ := m1.app
      obtain ⟨n2, e2, w2⟩ := m2.app
      have l1 := m1.lt
      have l2 := m2.lt
      have hL1 := m1.lev
      have hL2 := m2.lev
      have len1 : r1.2.ch.length = b.ch.length + n1.length := by rw [e1, List.length_append]
      have len2 : r2.2.ch.length = r1.2.ch.length + n2.length := by rw [e2, List.length_append]
      have v1' : visF r2.2.ch (d + 1) r1.1 (b.ch.length + 2) = some (r1.2.ch.length + 2) := by rw [e2, vis_app m1.inv.wf l1]; exact v1
      by_cases hq : r1.1 = r2.1
      · rw [if_pos hq]
        have hch : r2.2.ch = r1.2.ch := by
          have ltt : r2.1 < r1.2.ch.length + 2 := by omega
          refine (o2 r2.1 ltt ?_ ?_).2
          · rw [← hq]; exact hL1
          · have := m2.tab
            rwa [e2, tab_app m1.inv.wf ltt] at this
        refine vis_more (n := d + 1) ?_ (by omega)
        show visF r2.2.ch (d + 1) r1.1 (b.ch.length + 2) = some (r2.2.ch.length + 2)
        rw [v1', hch]
      · rw [if_neg hq]
        by_cases hc : (N - d, r1.1, r2.1) ∈ r2.2.ch
        · rw [putC_in hc]
          obtain ⟨a1, a2⟩ := idx_at hc
          have hk : r2.2.ch.idxOf (N - d, r1.1, r2.1) < b.ch.length := by
            rcases Nat.lt_or_ge (r2.2.ch.idxOf (N - d, r1.1, r2.1)) b.ch.length with h | h
            · exact h
            · exfalso
              have hmem : ((N - d, r1.1, r2.1) : Cho) ∈ n1 ++ n2 := by
                have h3 : r2.2.ch = b.ch ++ (n1 ++ n2) := by rw [e2, e1, List.append_assoc]
                have h4 : nth r2.2.ch (r2.2.ch.idxOf (N - d, r1.1, r2.1)) = nth (n1 ++ n2) (r2.2.ch.idxOf (N - d, r1.1, r2.1) - b.ch.length) := by
                  conv => lhs; arg 1; rw [h3]
                  simp [nth, List.getElem?_append_right h]
                rw [a2] at h4
                rw [h4]
                exact nth_mem (by rw [List.length_append]; omega)
              rcases List.mem_append.1 hmem with h5 | h5
              · have := w1 _ h5
                have : N < N - d + d := this
                omega
              · have := w2 _ h5
                have : N < N - d + d := this
                omega
          have hco := m2.inv.wf.each _ a1
          have c1 := hco.lo
          have c2 := hco.hi
          rw [a2] at c1 c2
          have h1 : r1.2.ch = b.ch := by
            have ltt : r1.1 < b.ch.length + 2 := Nat.lt_of_lt_of_le (show r1.1 < r2.2.ch.idxOf (N - d, r1.1, r2.1) + 2 from c1) (by omega)
            refine (o1 r1.1 ltt ?_ ?_).2
            · have := hL1; rwa [e1, lev_app ltt] at this
            · have := m1.tab; rwa [e1, tab_app hb.wf ltt] at this
          have h2 : r2.2.ch = r1.2.ch := by
            have ltt : r2.1 < r1.2.ch.length + 2 := Nat.lt_of_lt_of_le (show r2.1 < r2.2.ch.idxOf (N - d, r1.1, r2.1) + 2 from c2) (by omega)
            refine (o2 r2.1 ltt ?_ ?_).2
            · have := hL2; rwa [e2, lev_app ltt] at this
            · have := m2.tab; rwa [e2, tab_app m1.inv.wf ltt] at this
          show visF r2.2.ch (d + 1 + 1) (r2.2.ch.idxOf (N - d, r1.1, r2.1) + 2) (b.ch.length + 2) = some (r2.2.ch.length + 2)
          rw [vis_done (by omega), h2, h1]
        · rw [putC_new hc]
          show visF (r2.2.ch ++ [(N - d, r1.1, r2.1)]) (d + 1 + 1) (r2.2.ch.length + 2) (b.ch.length + 2) = some ((r2.2.ch ++ [(N - d, r1.1, r2.1)]).length + 2)
          have e0 : nth (r2.2.ch ++ [(N - d, r1.1, r2.1)]) (r2.2.ch.length + 2 - 2) = (N - d, r1.1, r2.1) := by simp [nth]
          rw [visF, if_neg (by omega), e0]
          show (match visF (r2.2.ch ++ [(N - d, r1.1, r2.1)]) (d + 1) r1.1 (b.ch.length + 2) with | none => none | some n1 => _) = _
          rw [vis_app m2.inv.wf (show r1.1 < r2.2.ch.length + 2 by omega), v1']
          show (match visF (r2.2.ch ++ [(N - d, r1.1, r2.1)]) (d + 1) r2.1 (r1.2.ch.length + 2) with | none => none | some n2 => _) = _
          rw [vis_app m2.inv.wf l2, v2]
          show (if r2.2.ch.length + 2 = r2.2.ch.length + 2 then _ else _) = _
          rw [if_pos rfl, List.length_append]
          rfl
end
end Go.Um
namespace Go.Um
open Go.RowKit
abbrev Str := ByteArray
abbrev SB (s : Str) : Value := .string s
abbrev U8 (n : Int) : Value := .int .u8 n
instance instStr : GoT ByteArray where
  sz := 1
  bytes := 16
  ag := false
  rdc _ _ cs x := cs = [SB x] ∧ x.size ≤ maxLen
  pos := by decide
  one _ := rfl
  len h := by rw [h.1]; rfl
  cell h := by rw [h.1]; simp [Value.oneCell']
  ext h _ _ := h
instance limStr : LimT ByteArray := ⟨fun _ => True⟩
section
variable {P : Program} {o : Oper} {U : Nat → Prop} {f : Fr} {H : Heap}
theorem q_eql8 {t u : TypeId} {x y : Operand} {a b : Int} (ho : o.op = .binOp .eql t x y u) (hx : ev f x = U8 a) (hy : ev f y = U8 b) : Quiet P o U f H (B (decide (a = b))) := by
  intro w _; simp [execOp, ho, hx, hy, eqGuard, binOp, Op.intCmp]; rfl
end
end Go.Um
namespace Go.Um
open GoT (sz ag rdc)
open Go.RowKit
open KeyT (kv)
structure Chc where
  Var : Int
  Low : Int
  High : Int
  deriving Inhabited, DecidableEq
instance instChc : GoT Chc where
  sz := 3
  bytes := 24
  ag := true
  rdc S H cs x := cs = [I x.Var, I x.Low, I x.High] ∧ In64 x.Var ∧ In64 x.Low ∧ In64 x.High
  pos := by decide
  one h := by cases h
  len h := by obtain ⟨rfl, _⟩ := h; rfl
  cell h := by
    obtain ⟨rfl, _, _, _⟩ := h
    simp [Value.oneCell']
  ext h hx hs := by obtain ⟨rfl, h0, h1, h2⟩ := h; exact ⟨rfl, h0, h1, h2⟩
theorem Rd.chc {S : Nat → Prop} {H : Heap} {v : Value} {a : Chc} :
    Rd S H v a ↔ v = .agg #[I a.Var, I a.Low, I a.High] ∧ In64 a.Var ∧ In64 a.Low ∧ In64 a.High := by
  constructor
  · rintro ⟨cs, ⟨rfl, h0, h1, h2⟩, rfl⟩
    exact ⟨rfl, h0, h1, h2⟩
  · rintro ⟨rfl, h0, h1, h2⟩
    exact ⟨_, ⟨rfl, h0, h1, h2⟩, rfl⟩
instance limChc : LimT Chc := ⟨fun a => True⟩
structure Bt where
  b : Bool
  deriving Inhabited, DecidableEq
def bv (x : Bt) : Int := if x.b then 1 else 0
instance instBt : GoT Bt where
  sz := 1
  bytes := 1
  ag := false
  rdc _ _ cs x := cs = [U8 (bv x)]
  pos := by decide
  one _ := rfl
  len h := by rw [h]; rfl
  cell h := by rw [h]; simp [Value.oneCell']
  ext h _ _ := h
theorem Rd.bt {S : Nat → Prop} {H : Heap} {v : Value} {x : Bt} : Rd S H v x ↔ v = U8 (bv x) := by
  constructor
  · rintro ⟨cs, rfl, rfl⟩; rfl
  · rintro rfl; exact ⟨[U8 (bv x)], rfl, rfl⟩
theorem bv_in (x : Bt) : 0 ≤ bv x ∧ bv x ≤ 1 := by unfold bv; split <;> decide
section
variable {P : Program} {o : Oper} {U : Nat → Prop} {f : Fr} {H : Heap} {S : Nat → Prop}
theorem q_loadBt {t : TypeId} {x : Operand} {v : Value} {l : List Bt} {k : Nat} (ho : o.op = .load t x) (hx : ev f x = eptr 1 v k) (hE : ElT P Bt t) (hR : RdL S H v l) (hlt : k < l.length)
    (hU : ∀ b, U b → S b) : Quiet P o U f H (U8 (bv (nth l k))) := by
  obtain ⟨u, hu, hl⟩ := hR.elem k hlt
  obtain rfl := Rd.bt.1 hu
  exact q_loadE ho hx (hl P t U hE hU)
theorem q_conv8 {s d : TypeId} {x : Operand} {a : Int} (ho : o.op = .convert s d x) (hs : P.underlying s = some (.int .u8)) (hd : P.underlying d = some (.int .i64)) (hx : ev f x = U8 a) (h0 : 0 ≤ a ∧ a ≤ 255) : Quiet P o U f H (I a) := by
  intro w _
  have h2 := wrap_in (n := a) (by constructor <;> omega)
  simp [execOp, ho, hx, convert, run_underlying hs, run_underlying hd, Conv.intToInt, h2]
def strT (l : List Bt) : Str := strOfNums (l.map bv)
theorem strT_inj {a b : List Bt} (h : strT a = strT b) : a = b := by
  have h1 : (a.map bv).map (fun n => UInt8.ofNat n.toNat) = (b.map bv).map (fun n => UInt8.ofNat n.toNat) := by
    have := congrArg (fun s : ByteArray => s.data.toList) h
    simpa only [strT, strOfNums_data] using this
  rw [List.map_map, List.map_map] at h1
  refine List.map_inj_right (f := (fun n : Int => UInt8.ofNat n.toNat) ∘ bv) ?_ |>.1 h1
  rintro ⟨x⟩ ⟨y⟩ e
  cases x <;> cases y <;> first | rfl | (exfalso; revert e; decide)
theorem q_convT {s d e : TypeId} {x : Operand} {v : Value} {l : List Bt} (ho : o.op = .convert s d x) (hs : P.underlying s = some (.slice e)) (he : P.underlying e = some (.int .u8)) (hd : P.underlying d = some .string) (hx : ev f x = v)
    (hR : RdL S H v l) (hne : l ≠ []) (hU : ∀ b, U b → S b) : Quiet P o U f H (SB (strT l)) := by
  intro w hw
  obtain ⟨a, n, c, cl, rfl, hn, hnc, hcm, hby, hcl, hp⟩ := hR
  obtain ⟨b, off, rfl, hb, hcells⟩ := hp hne
  have hcv : ∀ {l : List Bt} {cl : List Value}, RdCs S H cl l → cl = l.map fun x => U8 (bv x) := by
    intro l
    induction l with
    | nil => intro cl h; exact h
    | cons x l ih =>
      rintro cl ⟨c1, c2, rfl, h1, h2⟩
      have h1 : c1 = [U8 (bv x)] := h1
      rw [h1, ih h2]; rfl
  have hcl2 := hcv hcl
  have hlen : (l.map bv).length = n := by simp [hn]
  have := run_convert_bytes_arg (P := P) w s e hs he b off n c (l.map bv) hlen (fun i hi => by
    have hi2 : i < cl.length := by rw [hcl2]; simp; omega
    have h1 := hcells i hi2
    have h2 : hcell w.heap b (off + i) = hcell H b (off + i) := by
      have h3 : hcell H b (off + i) = some (cl[i]) := by rw [h1, List.getElem?_eq_getElem hi2]
      rw [h3]
      exact hw.hcell h3 (fun hu => hb (hU b hu))
    rw [cell_hcell, h2, h1, hcl2, List.getElem?_map, List.getD_eq_getElem?_getD, List.getElem?_map]
    rw [List.getElem?_eq_getElem (show i < l.length by omega)]
    rfl) d hd
  simp [execOp, ho, hx, this, strT]
end
instance instKeyStr : KeyT Str where
  kv := SB
  inj h := by cases h; rfl
  bits a := by simp only [Instr.sameBits]; exact (Go.MapKept.bytes_beq a a).2 rfl
theorem findNow_str (k : Str) : ∀ (es : List MapEntry) (ks : List Str) (i : Nat), es.map (·.key) = ks.map kv →
    Instr.findNow .string (SB k) es i = some ((midx (ks.map fun a => (a, ())) k).bind fun j => (es[j]?).map fun e => (i + j, e.val)) := by
  intro es
  induction es with
  | nil => intro ks i h; cases ks with | nil => rfl | cons a ks => simp at h
  | cons e es ih =>
    intro ks i h
    cases ks with
    | nil => simp at h
    | cons a ks =>
      simp only [List.map_cons, List.cons.injEq] at h
      have hk : e.key = SB a := h.1
      simp only [Instr.findNow, hk, Instr.sameNow, List.map_cons, midx]
      by_cases hak : a = k
      · subst hak
        rw [(Go.MapKept.bytes_beq a a).2 rfl]
        simp
      · have : (k == a) = false := Bool.eq_false_iff.2 fun e => hak ((Go.MapKept.bytes_beq k a).1 e).symm
        rw [this, if_neg hak]
        simp only
        rw [ih ks (i + 1) h.2]
        cases midx (ks.map fun a => (a, ())) k with
        | none => rfl
        | some j => simp [Nat.add_comm 1 j, Nat.add_assoc]
theorem keyLaw_str {P : Program} {t : TypeId} (ht : P.underlying t = some .string) : KeyLaw P t Str where
  check b k w := by unfold Instr.checkKey; rw [run_bind_ok (run_underlying ht w)]; rfl
  find k es ks w h := by
    have := findNow_str k es ks 0 h
    simp only [Nat.zero_add] at this
    simp [Instr.findKey, run_underlying ht, kv, this]
instance instKeyChc : KeyT Chc where
  kv p := .agg #[I p.Var, I p.Low, I p.High]
  inj h := by
    rename_i a b
    obtain ⟨a1, a2, a3⟩ := a
    obtain ⟨b1, b2, b3⟩ := b
    simp at h
    simp [h]
  bits a := by simp [Instr.sameBits]
section
variable {P : Program} {t e : TypeId} {kd : IntKind} {f0 f1 f2 : Field}
theorem findAsking_chc (heq : ∀ (a b c a' b' c' : Int) (w : World), (Op.equalIn 10000 t (.agg #[I a, I b, I c]) (.agg #[I a', I b', I c'])).run P w = .ok (decide (a = a' ∧ b = b' ∧ c = c')) w) (k : Chc) :
    ∀ (es : List MapEntry) (ks : List Chc) (i : Nat) (w : World), es.map (·.key) = ks.map kv →
      (Instr.findAsking t (kv k) es i).run P w = .ok ((midx (ks.map fun a => (a, ())) k).bind fun j => (es[j]?).map fun e => (i + j, e.val)) w := by
  intro es
  induction es with
  | nil => intro ks i w h; cases ks with | nil => simp [Instr.findAsking, midx] | cons a ks => simp at h
  | cons e es ih =>
    intro ks i w h
    cases ks with
    | nil => simp at h
    | cons a ks =>
      simp only [List.map_cons, List.cons.injEq] at h
      have hk : e.key = .agg #[I a.Var, I a.Low, I a.High] := h.1
      have hkv : kv k = .agg #[I k.Var, I k.Low, I k.High] := rfl
      simp only [Instr.findAsking, hk, List.map_cons, midx, Op.equal, Op.maxDepth, hkv]
      rw [run_bind_ok (heq k.Var k.Low k.High a.Var a.Low a.High w)]
      by_cases hak : a = k
      · subst hak; simp
      · have hne : ¬ (k.Var = a.Var ∧ k.Low = a.Low ∧ k.High = a.High) := fun h => hak (by
          obtain ⟨h1, h2, h3⟩ := h
          cases a; cases k; simp_all)
        have hih := ih ks (i + 1) w h.2
        rw [hkv] at hih
        simp only [hne, decide_false, Bool.false_eq_true, if_false, hak]
        rw [hih]
        cases midx (ks.map fun a => (a, ())) k with
        | none => rfl
        | some j => simp [Nat.add_comm 1 j, Nat.add_assoc]
theorem eq3_run {k0 k1 k2 : IntKind} (ht : P.underlying t = some (.struct #[f0, f1, f2])) (h0 : P.underlying f0.type = some (.int k0)) (h1 : P.underlying f1.type = some (.int k1)) (h2 : P.underlying f2.type = some (.int k2))
    (b0 : f0.name ≠ "_") (b1 : f1.name ≠ "_") (b2 : f2.name ≠ "_") (o0 : f0.offset = 0) (o1 : f1.offset = 1) (o2 : f2.offset = 2) (a0 : ∀ w, (isAgg f0.type).run P w = .ok false w) (a1 : ∀ w, (isAgg f1.type).run P w = .ok false w) (a2 : ∀ w, (isAgg f2.type).run P w = .ok false w)
    (hp : P.stoodInHeld t = false) (a b c a' b' c' : Int) (w : World) : (Op.equalIn 10000 t (.agg #[I a, I b, I c]) (.agg #[I a', I b', I c'])).run P w = .ok (decide (a = a' ∧ b = b' ∧ c = c')) w := by
  have hf : P.fieldsOf t = #[f0, f1, f2] := by simp [Program.fieldsOf, ht]
  rw [show (10000 : Nat) = 9998 + 1 + 1 from rfl, run_equalIn_agg w (9998 + 1) t _ _ (by rw [ht, hf]) hp, hf]
  simp [Op.eqFields, b0, b1, b2, o0, o1, o2, part, a0, a1, a2, run_equalIn_int _ _ _ _ _ _ _ h0, run_equalIn_int _ _ _ _ _ _ _ h1, run_equalIn_int _ _ _ _ _ _ _ h2]
  by_cases hac : a = a' <;> by_cases hbd : b = b' <;> by_cases hce : c = c' <;> simp [hac, hbd, hce]
theorem keyLaw_chc {k0 k1 k2 : IntKind} (ht : P.underlying t = some (.struct #[f0, f1, f2])) (h0 : P.underlying f0.type = some (.int k0)) (h1 : P.underlying f1.type = some (.int k1)) (h2 : P.underlying f2.type = some (.int k2))
    (b0 : f0.name ≠ "_") (b1 : f1.name ≠ "_") (b2 : f2.name ≠ "_") (o0 : f0.offset = 0) (o1 : f1.offset = 1) (o2 : f2.offset = 2) (a0 : ∀ w, (isAgg f0.type).run P w = .ok false w) (a1 : ∀ w, (isAgg f1.type).run P w = .ok false w) (a2 : ∀ w, (isAgg f2.type).run P w = .ok false w)
    (hp : P.stoodInHeld t = false) : KeyLaw P t Chc where
  check b k w := by
    unfold Instr.checkKey
    rw [run_bind_ok (run_underlying ht w)]
    have hkv : kv k = .agg #[I k.Var, I k.Low, I k.High] := rfl
    have hin : ∀ (e : TypeId) (kd : IntKind), P.underlying e = some (.int kd) → ∀ x : Int, ∀ w : World, (Instr.checkKey b 9999 e (I x)).run P w = .ok () w := fun e kd he x w => by
      unfold Instr.checkKey
      rw [run_bind_ok (run_underlying he w)]; rfl
    simp [hkv, part, o0, o1, o2, a0, a1, a2, b0, b1, b2, hin _ _ h0, hin _ _ h1, hin _ _ h2]
  find k es ks w h := by
    have heq := eq3_run (P := P) ht h0 h1 h2 b0 b1 b2 o0 o1 o2 a0 a1 a2 hp
    have hf := findAsking_chc heq k es ks 0 w h
    simp only [Nat.zero_add] at hf
    cases es with
    | nil =>
      cases ks with
      | nil => simp [Instr.findKey, run_underlying ht, Instr.findNow, midx]
      | cons a ks => simp at h
    | cons e0 es =>
      have hn : Instr.findNow (.struct #[f0, f1, f2]) (kv k) (e0 :: es) 0 = none := by simp [Instr.findNow, Instr.sameNow]
      simp only [Instr.findKey]
      rw [run_bind_ok (run_underlying ht w), hn]
      exact hf
end
end Go.Um
namespace Go.Um
def litSet (V : Int) (c : List Int) : Prop := (∀ l ∈ c, ¬ l = 0 ∧ -V ≤ l ∧ l ≤ V) ∧ c.Pairwise fun x y => varA x ≠ varA y
section
variable {V v : Int} {c c' : List Int} {i j : Nat}
theorem litSet_nil : litSet V [] := ⟨fun _ h => absurd h List.not_mem_nil, List.Pairwise.nil⟩
theorem litSet_perm (hp : c'.Perm c) (h : litSet V c) : litSet V c' := ⟨fun l hl => h.1 l (hp.mem_iff.1 hl), (hp.pairwise_iff (fun h e => h e.symm)).2 h.2⟩
theorem litSet_ok (h : litSet V c) : litsOk V c := fun i hi => by
  obtain ⟨a, b, d⟩ := h.1 _ (nth_mem hi)
  refine ⟨a, by omega, by omega, fun y hy e => ?_⟩
  obtain ⟨j, hj, rfl⟩ := nth_of_mem hy
  rw [List.length_take] at hj
  have hp := List.pairwise_iff_getElem.1 h.2 j i (by omega) hi (by omega)
  have g1 : nth (c.take i) j = c[j]'(by omega) := by simp [nth, show j < i by omega, show j < c.length by omega]
  have g2 : nth c i = c[i] := by simp [nth, hi]
  rw [g1, g2] at e
  exact hp e
theorem litSet_app (h : litSet 6 c) (hv : 1 ≤ v ∧ v ≤ 6) (hn : ∀ y ∈ c, ¬ (y = v ∨ y = -v)) : litSet 6 (c ++ [v]) ∧ litSet 6 (c ++ [-v]) := by
  have key : ∀ w, (w = v ∨ w = -v) → litSet 6 (c ++ [w]) := by
    intro w hw
    refine ⟨fun l hl => ?_, ?_⟩
    · rcases List.mem_append.1 hl with h1 | h1
      · exact h.1 l h1
      · rw [List.mem_singleton.1 h1]; omega
    · rw [List.pairwise_append]
      refine ⟨h.2, List.pairwise_singleton .., fun y hy z hz => ?_⟩
      rw [List.mem_singleton.1 hz]
      have := hn y hy
      unfold varA
      omega
  exact ⟨key v (.inl rfl), key (-v) (.inr rfl)⟩
def hadB (c : List Int) (v : Int) (i : Nat) : Bool := (c.take i).any fun y => decide (y = v ∨ y = -v)
theorem hadB_next (hi : i < c.length) : hadB c v (i + 1) = (hadB c v i || decide (nth c i = v ∨ nth c i = -v)) := by
  rw [hadB, take_succ_nth hi, List.any_append, hadB]; simp
theorem hadB_no (h : hadB c v c.length = false) : ∀ y ∈ c, ¬ (y = v ∨ y = -v) := by
  rw [hadB, List.take_length, List.any_eq_false] at h
  exact fun y hy e => h y hy (decide_eq_true e)
theorem swap_perm (hi : i < c.length) (hj : j < c.length) : ((c.set j (nth c i)).set i (nth c j)).Perm c := by
  have g1 : nth c i = c[i] := by simp [nth, hi]
  have g2 : nth c j = c[j] := by simp [nth, hj]
  rw [g1, g2]
  exact List.set_set_perm hj hi
end
def bitsL (s n : Nat) : List Bool := (List.range n).map fun i => s.testBit i
def asgL (n k : Nat) : List Bool := (List.range n).map fun i => k.testBit (n - 1 - i)
def asgTo (n k i : Nat) : List Bool := (List.range n).map fun j => if j < i then k.testBit (n - 1 - j) else false
def litH (a : List Bool) (l : Int) : Bool := if l < 0 then !nth a (-l - 1).toNat else nth a (l - 1).toNat
def clausesH (C : List (List Int)) (a : List Bool) : Bool := C.all fun c => c.any (litH a)
def modTo (C : List (List Int)) (V : Nat) : Nat → Nat
  | 0 => 0
  | s + 1 => if clausesH C (bitsL s V) then modTo C V s + 1 else modTo C V s
def trueH (a : List Bool) (l : Int) : Bool := decide (nth a (varA l - 1).toNat = decide (0 < l))
def allH (C : List (List Int)) (a : List Bool) : Bool := !C.any fun c => !c.any (trueH a)
def fitA (a : List Bool) (c : List Int) : Prop := a.length ≤ 120 ∧ ∀ l ∈ c, ¬ l = 0 ∧ -(a.length : Int) ≤ l ∧ l ≤ a.length
section
variable {C : List (List Int)} {c : List Int} {a : List Bool} {n k i V s : Nat} {l : Int}
theorem bitsL_len : (bitsL s n).length = n := by simp [bitsL]
theorem bitsL_next : bitsL s (n + 1) = bitsL s n ++ [s.testBit n] := by rw [bitsL, List.range_succ, List.map_append]; rfl
theorem asgL_len : (asgL n k).length = n := by simp [asgL]
theorem asgTo_len : (asgTo n k i).length = n := by simp [asgTo]
theorem asgTo_zero : asgTo n k 0 = List.replicate n false := by
  apply List.ext_getElem?
  intro j
  simp only [asgTo, List.getElem?_map, List.getElem?_replicate]
  by_cases h : j < n <;> simp [h]
theorem asgTo_end : asgTo n k n = asgL n k := by
  apply List.ext_getElem?
  intro j
  simp only [asgTo, asgL, List.getElem?_map]
  by_cases h : j < n <;> simp [h]
theorem asgTo_next (hi : i < n) : (asgTo n k i).set i (k.testBit (n - 1 - i)) = asgTo n k (i + 1) := by
  apply List.ext_getElem?
  intro j
  rw [List.getElem?_set, asgTo_len]
  simp only [asgTo, List.getElem?_map]
  by_cases h : i = j
  · subst h; simp [hi]
  · by_cases h2 : j < n
    · have e : j < i ↔ j < i + 1 := by omega
      simp [h, h2, e]
    · simp [h, h2]
theorem asgTo_step (hi : i < n) : (asgTo n k i).set i (decide ((((k >>> ((n : Int) - 1 - (i : Int)).toNat) &&& 1 : Nat) : Int) = 1)) = asgTo n k (i + 1) := by
  rw [bit_one, show ((n : Int) - 1 - (i : Int)).toNat = n - 1 - i by omega, asgTo_next hi]
theorem clausesH_no (hi : i < C.length) (h : ¬ (nth C i).any (litH a) = true) : clausesH C a = false := by
  rw [clausesH, List.all_eq_false]
  exact ⟨nth C i, nth_mem hi, h⟩
theorem clausesH_yes (h : ∀ j, j < C.length → (nth C j).any (litH a) = true) : clausesH C a = true := by
  rw [clausesH, List.all_eq_true]
  intro c hc
  obtain ⟨j, hj, rfl⟩ := nth_of_mem hc
  exact h j hj
theorem any_next {f : Int → Bool} (hi : i < c.length) : (c.take (i + 1)).any f = ((c.take i).any f || f (nth c i)) := by
  rw [take_succ_nth hi, List.any_append]; simp
theorem mod_yes (h : clausesH C (bitsL s V) = true) : ((modTo C V (s + 1) : Nat) : Int) = ((modTo C V s : Nat) : Int) + 1 := by rw [modTo, if_pos h]; rfl
theorem mod_no (h : ¬ clausesH C (bitsL s V) = true) : ((modTo C V (s + 1) : Nat) : Int) = ((modTo C V s : Nat) : Int) := by rw [modTo, if_neg h]
theorem modTo_le : modTo C V s ≤ s := by
  induction s with
  | zero => exact Nat.le_refl _
  | succ s ih => rw [modTo]; split <;> omega
theorem fit_of {V : Nat} (ha : a.length = V) (hV : V ≤ 120) (h : litsOk V c) : fitA a c := ⟨by omega, fun l hl => by
  obtain ⟨j, hj, rfl⟩ := nth_of_mem hl
  obtain ⟨a1, a2, a3, _⟩ := h j hj
  rw [ha]
  omega⟩
theorem trueH_lit (h : ¬ l = 0) : trueH a l = litH a l := by
  unfold trueH litH varA
  by_cases h0 : l < 0
  · rw [if_pos h0, decide_eq_false (show ¬ 0 < l by omega), show max l (-l) - 1 = -l - 1 by omega]
    cases nth a (-l - 1).toNat <;> rfl
  · rw [if_neg h0, decide_eq_true (show 0 < l by omega), show max l (-l) - 1 = l - 1 by omega]
    cases nth a (l - 1).toNat <;> rfl
theorem allH_eq (h : ∀ c ∈ C, ∀ l ∈ c, ¬ l = 0) : allH C a = clausesH C a := by
  unfold allH clausesH
  rw [List.not_any_eq_all_not]
  rw [Bool.eq_iff_iff, List.all_eq_true, List.all_eq_true]
  have e : ∀ c ∈ C, c.any (trueH a) = c.any (litH a) := fun c hc => by
    rw [Bool.eq_iff_iff, List.any_eq_true, List.any_eq_true]
    constructor
    · rintro ⟨l, hl, ht⟩; exact ⟨l, hl, by rw [← trueH_lit (h c hc l hl)]; exact ht⟩
    · rintro ⟨l, hl, ht⟩; exact ⟨l, hl, by rw [trueH_lit (h c hc l hl)]; exact ht⟩
  constructor
  · intro hh c hc
    have := hh c hc
    rw [Bool.not_not] at this
    rw [← e c hc]; exact this
  · intro hh c hc
    rw [Bool.not_not, e c hc]; exact hh c hc
end
def toI (c : Cho) : Chc := ⟨c.1, c.2.1, c.2.2⟩
def chI (ch : List Cho) : List Chc := ch.map toI
def madeTo (n : Nat) (gp : List Bool → Bool) (k : Nat) : List Bt := (List.range (2 ^ n)).map fun j => Bt.mk (if j < k then gp (asgL n j) else false)
def madeL (n : Nat) (gp : List Bool → Bool) : List Bt := (List.range (2 ^ n)).map fun j => Bt.mk (gp (asgL n j))
def valF (ch : List Cho) : Nat → Nat → List Bool → Nat
  | 0, i, _ => i
  | n + 1, i, a => if i < 2 then i else valF ch n (if nth a ((nth ch (i - 2)).1 - 1) then (nth ch (i - 2)).2.2 else (nth ch (i - 2)).2.1) a
def levD (ch : List Cho) (i : Nat) : Nat := if i < 2 then 17 else (nth ch (i - 2)).1
section
variable {ch : List Cho} {gp : List Bool → Bool} {n k i m : Nat} {a : List Bool}
theorem chI_len : (chI ch).length = ch.length := by simp [chI]
theorem nth_chI (h : k < ch.length) : nth (chI ch) k = toI (nth ch k) := by simp [chI, nth, h]
theorem chI_at (h : k < ch.length) : (nth (chI ch) k).Var = ((nth ch k).1 : Int) ∧ (nth (chI ch) k).Low = ((nth ch k).2.1 : Int) ∧ (nth (chI ch) k).High = ((nth ch k).2.2 : Int) := by rw [nth_chI h]; exact ⟨rfl, rfl, rfl⟩
theorem madeTo_len : (madeTo n gp k).length = 2 ^ n := by simp [madeTo]
theorem madeL_len : (madeL n gp).length = 2 ^ n := by simp [madeL]
theorem madeTo_zero : madeTo n gp 0 = List.replicate (2 ^ n) (Bt.mk false) := by
  apply List.ext_getElem?
  intro j
  simp only [madeTo, List.getElem?_map, List.getElem?_replicate]
  by_cases h : j < 2 ^ n <;> simp [h]
theorem madeTo_end : madeTo n gp (2 ^ n) = madeL n gp := by
  apply List.ext_getElem?
  intro j
  simp only [madeTo, madeL, List.getElem?_map]
  by_cases h : j < 2 ^ n <;> simp [h]
theorem made_yes (hk : k < 2 ^ n) (h : gp (asgL n k) = true) : (madeTo n gp k).set k (Bt.mk true) = madeTo n gp (k + 1) := by
  apply List.ext_getElem?
  intro j
  rw [List.getElem?_set, madeTo_len]
  simp only [madeTo, List.getElem?_map]
  by_cases hj : k = j
  · subst hj; simp [hk, h]
  · by_cases h2 : j < 2 ^ n
    · have e : j < k ↔ j < k + 1 := by omega
      simp [hj, h2, e]
    · simp [hj, h2]
theorem made_no (h : gp (asgL n k) = false) : madeTo n gp k = madeTo n gp (k + 1) := by
  apply List.ext_getElem?
  intro j
  simp only [madeTo, List.getElem?_map]
  by_cases h2 : j < 2 ^ n
  · by_cases hj : j = k
    · subst hj; simp [h2, h]
    · have e : j < k ↔ j < k + 1 := by omega
      simp [h2, e]
  · simp [h2]
theorem val_low (h : i < 2) : valF ch m i a = i := by
  cases m with
  | zero => rfl
  | succ m => rw [valF, if_pos h]
theorem val_next (h : ¬ i < 2) (hm : i ≤ m) : valF ch m i a = valF ch (m - 1) (if nth a ((nth ch (i - 2)).1 - 1) then (nth ch (i - 2)).2.2 else (nth ch (i - 2)).2.1) a := by
  cases m with
  | zero => omega
  | succ m => rw [valF, if_neg h]; rfl
end
def doneL (len nx : Nat) : List Bool := (List.range len).map fun j => decide (2 ≤ j ∧ j < nx)
section
variable {ch : List Cho} {len nx i n r : Nat}
theorem doneL_len : (doneL len nx).length = len := by simp [doneL]
theorem doneL_zero : doneL len 2 = List.replicate len false := by
  apply List.ext_getElem?
  intro j
  simp only [doneL, List.getElem?_map, List.getElem?_replicate]
  by_cases h : j < len
  · simp [h]
  · simp [h]
theorem doneL_at (h : i < len) : nth (doneL len nx) i = decide (2 ≤ i ∧ i < nx) := by simp [doneL, nth, h]
theorem doneL_set (h2 : 2 ≤ nx) (h : nx < len) : (doneL len nx).set nx true = doneL len (nx + 1) := by
  apply List.ext_getElem?
  intro j
  rw [List.getElem?_set, doneL_len]
  simp only [doneL, List.getElem?_map]
  by_cases hj : nx = j
  · subst hj; simp [h, h2]
  · by_cases hl : j < len
    · simp [hj, hl]
      rw [Bool.eq_iff_iff]
      simp
      omega
    · simp [hj, hl]
theorem vis_stop (h : visF ch n i nx = some r) (hn : i < 2 ∨ i < nx) : r = nx := by
  cases n with
  | zero => cases h
  | succ n => rw [visF, if_pos hn] at h; exact (Option.some.inj h).symm
theorem vis_step1 (h : visF ch (n + 1) i nx = some r) (hn : ¬ (i < 2 ∨ i < nx)) : ∃ n1, visF ch n (nth ch (i - 2)).2.1 nx = some n1 ∧ visF ch n (nth ch (i - 2)).2.2 n1 = some i ∧ r = i + 1 := by
  rw [visF, if_neg hn] at h
  cases h1 : visF ch n (nth ch (i - 2)).2.1 nx with
  | none => rw [h1] at h; cases h
  | some n1 =>
    rw [h1] at h
    dsimp only at h
    cases h2 : visF ch n (nth ch (i - 2)).2.2 n1 with
    | none => rw [h2] at h; cases h
    | some n2 =>
      rw [h2] at h
      dsimp only at h
      by_cases h3 : i = n2
      · rw [if_pos h3] at h
        refine ⟨n1, rfl, by rw [h2, h3], ?_⟩
        rw [h3]; exact (Option.some.inj h).symm
      · rw [if_neg h3] at h; cases h
theorem vis_step (h : visF ch n i nx = some r) (hn : ¬ (i < 2 ∨ i < nx)) : ∃ m n1, visF ch m (nth ch (i - 2)).2.1 nx = some n1 ∧ visF ch m (nth ch (i - 2)).2.2 n1 = some i ∧ r = i + 1 := by
  cases n with
  | zero => cases h
  | succ m =>
    obtain ⟨n1, h1, h2, h3⟩ := vis_step1 h hn
    exact ⟨m, n1, h1, h2, h3⟩
theorem vis_le : ∀ {n i nx r}, visF ch n i nx = some r → nx ≤ r := by
  intro n
  induction n with
  | zero => intro i nx r h; cases h
  | succ n ih =>
    intro i nx r h
    by_cases hn : i < 2 ∨ i < nx
    · rw [vis_stop h hn]; exact Nat.le_refl _
    · obtain ⟨n1, h1, h2, h3⟩ := vis_step1 h hn
      have := ih h1
      have := ih h2
      omega
theorem vis_or (hl : i < len) (h : (i : Int) < 2 ∨ nth (doneL len nx) (i : Int).toNat = true) : i < 2 ∨ i < nx := by
  rcases h with h | h
  · left; omega
  · right
    rw [Int.toNat_natCast, doneL_at hl] at h
    exact (of_decide_eq_true h).2
theorem vis_nor (hl : i < len) (h : ¬ ((i : Int) < 2 ∨ nth (doneL len nx) (i : Int).toNat = true)) : ¬ (i < 2 ∨ i < nx) := by
  intro e
  apply h
  by_cases h2 : i < 2
  · left; omega
  · right
    rw [Int.toNat_natCast, doneL_at hl]
    exact decide_eq_true (by omega)
theorem levD_ge {N : Nat} (hN : N ≤ 16) : lev N ch i ≤ levD ch i := by
  unfold lev levD
  by_cases h : i < 2
  · rw [if_pos h, if_pos h]; omega
  · rw [if_neg h, if_neg h]; exact Nat.le_refl _
theorem chI_inj {k j : Nat} (h : ch.Nodup) (hk : k < ch.length) (hj : j < ch.length) (e : nth (chI ch) k = nth (chI ch) j) : k = j := by
  rw [nth_chI hk, nth_chI hj] at e
  refine nd_inj h hk hj ?_
  simp only [toI, Chc.mk.injEq] at e
  obtain ⟨a, b, c⟩ := e
  exact Prod.ext (by omega) (Prod.ext (by omega) (by omega))
theorem seen_step {m : List (Chc × Bool)} {k : Nat} {c0 : Chc} (h : ∀ c, (mget m c).getD false = true → ∃ j, j < k ∧ c = nth (chI ch) j) (hc : c0 = nth (chI ch) k) : ∀ c, (mget (mset m c0 true) c).getD false = true → ∃ j, j < k + 1 ∧ c = nth (chI ch) j := by
  intro c hs
  rw [mget_mset] at hs
  by_cases e : c0 = c
  · exact ⟨k, Nat.lt_succ_self k, by rw [← e, hc]⟩
  · rw [if_neg e] at hs
    obtain ⟨j, hj, hh⟩ := h c hs
    exact ⟨j, by omega, hh⟩
theorem chk_twice {m : List (Chc × Bool)} {k : Nat} (hn : ch.Nodup) (hk : k < ch.length) (h : ∀ c, (mget m c).getD false = true → ∃ j, j < k ∧ c = nth (chI ch) j) {c : Chc} (hs : (mget m c).getD false = true) (hc : c = nth (chI ch) k := by rfl) : False := by
  obtain ⟨j, hj, e⟩ := h c hs
  have := chI_inj hn hk (by omega) (hc.symm.trans e)
  omega
end
def sumB (l : List Bt) (k : Nat) : Int := ((l.take k).map bv).sum
def tblD (ch : List Cho) (rt N : Nat) : List Bt := madeL N fun a => decide (valF ch rt rt a = 1)
section
variable {l : List Bt} {k : Nat}
theorem sumB_next (hk : k < l.length) : sumB l (k + 1) = sumB l k + bv (nth l k) := by
  rw [sumB, take_succ_nth hk, List.map_append, List.sum_append, sumB]; simp
theorem sumB_rng : 0 ≤ sumB l k ∧ sumB l k ≤ k := by
  induction k with
  | zero => simp [sumB]
  | succ k ih =>
    by_cases hk : k < l.length
    · rw [sumB_next hk]
      have := bv_in (nth l k)
      omega
    · have : sumB l (k + 1) = sumB l k := by rw [sumB, sumB, List.take_of_length_le (by omega), List.take_of_length_le (by omega)]
      omega
theorem bv_one {x : Bt} : bv x = 1 ↔ x.b = true := by
  obtain ⟨b⟩ := x
  cases b <;> decide
end
def bools (t : List Bt) : List Bool := t.map (·.b)
def KnRel (kn : List (Chc × Int)) (ch : List Cho) : Prop := ∀ c : Cho, mget kn (toI c) = if c ∈ ch then some (((ch.idxOf c + 2 : Nat)) : Int) else none
def SnRel (sm : List (Str × Int)) (sn : List Bool → Option Nat) : Prop := ∀ t : List Bt, mget sm (strT t) = Option.map (fun i : Nat => (i : Int)) (sn (bools t))
section
variable {N d i : Nat} {t : List Bool} {b : Bd} {ch : List Cho} {c : Cho} {kn : List (Chc × Int)} {sm : List (Str × Int)} {sn : List Bool → Option Nat} {tt : List Bt}
theorem chI_app : chI (ch ++ [c]) = chI ch ++ [toI c] := by simp [chI]
theorem toI_inj {c e : Cho} (h : toI c = toI e) : c = e := by
  simp only [toI, Chc.mk.injEq] at h
  obtain ⟨h1, h2, h3⟩ := h
  exact Prod.ext (by omega) (Prod.ext (by omega) (by omega))
theorem bools_inj {a b : List Bt} (h : bools a = bools b) : a = b := by
  refine List.map_inj_right (f := fun x : Bt => x.b) ?_ |>.1 h
  rintro ⟨x⟩ ⟨y⟩ e
  exact congrArg Bt.mk e
theorem knRel_nil : KnRel [] [] := fun c => by simp [mget]
theorem snRel_nil : SnRel [] (fun _ => none) := fun _ => rfl
theorem knRel_add (h : KnRel kn ch) (hc : c ∉ ch) {k : Chc} (hk : k = toI c) {z : Int} (hz : z = ((ch.length + 2 : Nat) : Int)) : KnRel (mset kn k z) (ch ++ [c]) := by
  intro e
  rw [mget_mset, hk, hz]
  by_cases he : toI c = toI e
  · have := toI_inj he
    subst this
    rw [if_pos rfl, if_pos (by simp), List.idxOf_append, if_neg hc]
    simp
  · rw [if_neg he, h e]
    have hne : e ≠ c := fun h => he (by rw [h])
    by_cases hm : e ∈ ch
    · rw [if_pos hm, if_pos (by simp [hm]), List.idxOf_append, if_pos hm]
    · rw [if_neg hm, if_neg (by simp [hm, hne])]
theorem snRel_add (h : SnRel sm sn) {z : Int} (hz : z = ((i : Nat) : Int)) : SnRel (mset sm (strT tt) z) (fun s => if s = bools tt then some i else sn s) := by
  intro u
  rw [mget_mset, hz]
  dsimp only
  by_cases hu : tt = u
  · subst hu; rw [if_pos rfl, if_pos rfl]; rfl
  · have hne : ¬ bools u = bools tt := fun e => hu (bools_inj e.symm)
    rw [if_neg (fun e => hu (strT_inj e)), h u, if_neg hne]
theorem knRel_some (h : KnRel kn ch) {k : Chc} (hk : k = toI c) (hs : (mget kn k).isSome = true) : c ∈ ch ∧ (mget kn k).getD 0 = ((ch.idxOf c + 2 : Nat) : Int) := by
  rw [hk, h c] at hs ⊢
  by_cases hm : c ∈ ch
  · rw [if_pos hm]; exact ⟨hm, rfl⟩
  · rw [if_neg hm] at hs; cases hs
theorem knRel_none (h : KnRel kn ch) {k : Chc} (hk : k = toI c) (hs : (mget kn k).isSome = false) : c ∉ ch := by
  intro hm
  rw [hk, h c, if_pos hm] at hs
  cases hs
theorem snRel_some (h : SnRel sm sn) (hs : (mget sm (strT tt)).isSome = true) : ∃ i, sn (bools tt) = some i ∧ (mget sm (strT tt)).getD 0 = ((i : Nat) : Int) := by
  rw [h tt] at hs ⊢
  cases hq : sn (bools tt) with
  | none => rw [hq] at hs; cases hs
  | some i => exact ⟨i, rfl, rfl⟩
theorem snRel_none (h : SnRel sm sn) (hs : (mget sm (strT tt)).isSome = false) : sn (bools tt) = none := by
  rw [h tt] at hs
  cases hq : sn (bools tt) with
  | none => rfl
  | some i => rw [hq] at hs; cases hs
theorem bv_nat (h : tt.length = 1) : bv (nth tt 0) = (((if nth (bools tt) 0 = true then 1 else 0 : Nat)) : Int) := by
  match tt, h with
  | [⟨x⟩], _ => cases x <;> rfl
theorem node_memo (h : b.sn t = some i) : nodeB N (d + 1) t b = (i, b) := by rw [nodeB, h]
variable {a1 a2 : Nat} {b1 b2 : Bd}
theorem node_same (h : b.sn t = none) (h1 : nodeB N d (t.take (2 ^ d)) b = (a1, b1)) (h2 : nodeB N d (t.drop (2 ^ d)) b1 = (a2, b2)) (hq : a1 = a2) : nodeB N (d + 1) t b = (a1, ⟨b2.ch, fun s => if s = t then some a1 else b2.sn s⟩) := by
  rw [nodeB, h]
  dsimp only
  rw [h1]
  dsimp only
  rw [h2]
  dsimp only
  rw [if_pos hq]
theorem node_have (h : b.sn t = none) (h1 : nodeB N d (t.take (2 ^ d)) b = (a1, b1)) (h2 : nodeB N d (t.drop (2 ^ d)) b1 = (a2, b2)) (hq : ¬ a1 = a2) (hc : (N - d, a1, a2) ∈ b2.ch) :
    nodeB N (d + 1) t b = (b2.ch.idxOf (N - d, a1, a2) + 2, ⟨b2.ch, fun s => if s = t then some (b2.ch.idxOf (N - d, a1, a2) + 2) else b2.sn s⟩) := by
  rw [nodeB, h]
  dsimp only
  rw [h1]
  dsimp only
  rw [h2]
  dsimp only
  rw [if_neg hq, putC_in hc]
theorem node_new (h : b.sn t = none) (h1 : nodeB N d (t.take (2 ^ d)) b = (a1, b1)) (h2 : nodeB N d (t.drop (2 ^ d)) b1 = (a2, b2)) (hq : ¬ a1 = a2) (hc : (N - d, a1, a2) ∉ b2.ch) :
    nodeB N (d + 1) t b = (b2.ch.length + 2, ⟨b2.ch ++ [(N - d, a1, a2)], fun s => if s = t then some (b2.ch.length + 2) else b2.sn s⟩) := by
  rw [nodeB, h]
  dsimp only
  rw [h1]
  dsimp only
  rw [h2]
  dsimp only
  rw [if_neg hq, putC_new hc]
theorem node_len : ∀ {d : Nat} {t : List Bool} {b : Bd}, (nodeB N d t b).2.ch.length + 1 ≤ b.ch.length + 2 ^ d := by
  intro d
  induction d with
  | zero => intro t b; exact Nat.le_refl _
  | succ d ih =>
    intro t b
    have hp : 1 ≤ 2 ^ d := Nat.one_le_two_pow
    rw [nodeB, Nat.pow_succ]
    cases hs : b.sn t with
    | some i => show b.ch.length + 1 ≤ _; omega
    | none =>
      dsimp only
      have h1 := @ih (t.take (2 ^ d)) b
      have h2 := @ih (t.drop (2 ^ d)) (nodeB N d (t.take (2 ^ d)) b).2
      split
      · show (nodeB N d (t.drop (2 ^ d)) (nodeB N d (t.take (2 ^ d)) b).2).2.ch.length + 1 ≤ _; omega
      · unfold putC
        split
        · show (nodeB N d (t.drop (2 ^ d)) (nodeB N d (t.take (2 ^ d)) b).2).2.ch.length + 1 ≤ _; omega
        · show (_ ++ [_]).length + 1 ≤ _
          rw [List.length_append, List.length_singleton]; omega
theorem pow_one {d : Nat} (h : 2 ^ d = 1) : d = 0 := by
  cases d with
  | zero => rfl
  | succ d => have := Nat.one_le_two_pow (n := d); rw [Nat.pow_succ] at h; omega
theorem half_q (h : tt.length = 2 ^ (d + 1)) : ((tt.length : Int).tdiv 2) = ((2 ^ d : Nat) : Int) := by
  rw [h, Int.tdiv_eq_ediv_of_nonneg (by omega), Nat.pow_succ]
  omega
theorem half_tt1 (h : tt.length = 2 ^ (d + 1)) : (tt.take (2 ^ d)).length = 2 ^ d := by rw [List.length_take, h, Nat.pow_succ]; omega
theorem half_tt2 (h : tt.length = 2 ^ (d + 1)) : (tt.drop (2 ^ d)).length = 2 ^ d := by rw [List.length_drop, h, Nat.pow_succ]; omega
theorem bools_take {k : Nat} : bools (tt.take k) = (bools tt).take k := by simp [bools, List.map_take]
theorem bools_drop {k : Nat} : bools (tt.drop k) = (bools tt).drop k := by simp [bools, List.map_drop]
end
end Go.Um
namespace Go.Um.In
open Go.Um
def fen (ro : Option Nat) : Fence := { Fence.wide with round := ro }
abbrev FD := List Deferred → Fr → Heap → Prop
structure IsFrD (d : List Deferred) (N : Nat) (a : Go.Act) (f : Fr) : Prop where
  dz : a.defers = d
  sz : a.tmps.size = N
  tm : ∀ t, a.tmps.getD t undef = f t
def noDef (o : Oper) : Bool := match o.op with | .defer _ => false | _ => true
def opsOkI (N : Nat) (l : List Oper) : Bool := l.all fun o => noDef o && (match o.dst with | some d => decide (d < N) | none => true)
def codeOkI (N : Nat) : Code → Bool
  | .region _ ops _ => opsOkI N ops.toList
  | .seq a b => codeOkI N a && codeOkI N b
  | .cond _ a b => codeOkI N a && codeOkI N b
  | .block _ b => codeOkI N b
  | .loop b => codeOkI N b
  | .rangeFunc _ ps a b => ps.all (fun p => decide (p < N)) && codeOkI N a && codeOkI N b
  | _ => true
def liftD (N : Nat) (w : World) (n : FD) (x : Nat → FD) (r : FD) : Exit → Go.Act → World → Prop
  | .normal, a', w' => Amb w w' ∧ ∃ d' f', IsFrD d' N a' f' ∧ n d' f' w'.heap
  | .exit id, a', w' => Amb w w' ∧ ∃ d' f', IsFrD d' N a' f' ∧ x id d' f' w'.heap
  | .ret, a', w' => Amb w w' ∧ ∃ d' f', IsFrD d' N a' f' ∧ r d' f' w'.heap
  | _, _, _ => False
def wpI (ro : Option Nat) (d : List Deferred) (P : Program) (N : Nat) (c : Code) (n : FD) (x : Nat → FD) (r : FD) (f : Fr) (H : Heap) : Prop :=
  codeOkI N c = true → ∀ (m : Nat) (a : Go.Act) (w : World), IsFrD d N a f → w.heap = H → c.wpIn (fen ro) m P (liftD N w n x r) a w
section
variable {P : Program} {N : Nat} {ro : Option Nat} {d : List Deferred} {n : FD} {x : Nat → FD} {r : FD} {f : Fr} {H : Heap}
theorem IsFrD.eval {a : Go.Act} (h : IsFrD d N a f) (y : Operand) : a.eval y = ev f y := by
  cases y with
  | tmp t => exact h.tm t
  | _ => rfl
theorem IsFrD.evalF {a : Go.Act} (h : IsFrD d N a f) : a.eval = ev f := funext h.eval
theorem IsFrD.put {a : Go.Act} (h : IsFrD d N a f) (e : Option Nat) (v : Value) (hd : ∀ t, e = some t → t < N) : IsFrD d N (a.put e v) (updO f e v) := by
  have hf : IsFr N { a with defers := [] } f := ⟨rfl, h.sz, h.tm⟩
  have h2 := hf.put e v hd
  cases e with
  | none => exact h
  | some t => exact ⟨h.dz, h2.sz, h2.tm⟩
theorem IsFrD.yielded {a : Go.Act} (h : IsFrD d N a f) (ops : Array Oper) : Go.yielded ops a.tmps = yieldF ops f :=
  IsFr.yielded (a := { a with defers := [] }) ⟨rfl, h.sz, h.tm⟩ ops
theorem liftD_trans {w w1 : World} (h : Amb w w1) {e : Exit} {a : Go.Act} {w2 : World} (hq : liftD N w1 n x r e a w2) : liftD N w n x r e a w2 := by
  cases e <;> first
    | exact hq
    | exact ⟨h.trans hq.1, hq.2⟩
theorem wpI_mono {c : Code} {n' : FD} {x' : Nat → FD} {r' : FD} (h : wpI ro d P N c n x r f H) (hn : ∀ d f H, n d f H → n' d f H)
    (hx : ∀ i d f H, x i d f H → x' i d f H) (hr : ∀ d f H, r d f H → r' d f H) : wpI ro d P N c n' x' r' f H :=
  fun hc m a w ha hw => wpIn_mono (h hc m a w ha hw) fun e a w q => by
    cases e <;> first
      | exact q.elim
      | (obtain ⟨q1, d', f', q2, q3⟩ := q; exact ⟨q1, d', f', q2, hn _ _ _ q3⟩)
      | (obtain ⟨q1, d', f', q2, q3⟩ := q; exact ⟨q1, d', f', q2, hx _ _ _ _ q3⟩)
      | (obtain ⟨q1, d', f', q2, q3⟩ := q; exact ⟨q1, d', f', q2, hr _ _ _ q3⟩)
theorem wpF_cut {c : Code} (J : FP) (h : wpI ro d P N c (fun d' f H => d' = d ∧ J f H) x r f H) (hJ : ∀ f H, J f H → n d f H) : wpI ro d P N c n x r f H :=
  wpI_mono h (fun _ _ _ h => by rw [h.1]; exact hJ _ _ h.2) (fun _ _ _ _ h => h) (fun _ _ _ h => h)
theorem wpF_skip (h : n d f H) : wpI ro d P N .skip n x r f H := fun _ _ _ w ha hw => wpIn_skip ⟨.refl w, d, f, ha, hw ▸ h⟩
theorem wpF_exit {id : Nat} (h : x id d f H) : wpI ro d P N (.exit id) n x r f H := fun _ _ _ w ha hw => wpIn_exit ⟨.refl w, d, f, ha, hw ▸ h⟩
theorem wpF_ret (h : r d f H) : wpI ro d P N .ret n x r f H := fun _ _ _ w ha hw => wpIn_ret ⟨.refl w, d, f, ha, hw ▸ h⟩
theorem wpF_seq {c e : Code} (h : wpI ro d P N c (fun d f H => wpI ro d P N e n x r f H) x r f H) : wpI ro d P N (.seq c e) n x r f H := by
  intro hok m a w ha hw
  simp only [codeOkI, Bool.and_eq_true] at hok
  refine wpIn_seq (wpIn_mono (h hok.1 m a w ha hw) fun e a1 w1 q => ?_)
  cases e with
  | normal =>
    obtain ⟨hamb, d1, f1, hf1, hq⟩ := q
    exact wpIn_mono (hq hok.2 m a1 w1 hf1 rfl) fun e a w q => liftD_trans hamb q
  | exit _ => exact q
  | goto _ => exact q
  | ret => exact q
  | panic _ => exact q
  | outgrown => exact q
theorem wpF_cond {s : Operand} {c e : Code} {t : Bool} (hs : ev f s = .bool t) (ht : t = true → wpI ro d P N c n x r f H)
    (hf : t = false → wpI ro d P N e n x r f H) : wpI ro d P N (.cond s c e) n x r f H := by
  intro hok m a w ha hw
  simp only [codeOkI, Bool.and_eq_true] at hok
  exact wpIn_cond_split (t := t) (by rw [ha.eval]; exact hs) (fun h => ht h hok.1 m a w ha hw) (fun h => hf h hok.2 m a w ha hw)
theorem wpF_condP {s : Operand} {c e : Code} {p : Prop} [Decidable p] (hs : ev f s = .bool (decide p)) (ht : p → wpI ro d P N c n x r f H)
    (hf : ¬ p → wpI ro d P N e n x r f H) : wpI ro d P N (.cond s c e) n x r f H :=
  wpF_cond hs (fun h => ht (of_decide_eq_true h)) (fun h => hf (of_decide_eq_false h))
theorem wpF_condF {s : Operand} {c e : Code} (hs : ev f s = .bool false) (hf : wpI ro d P N e n x r f H) : wpI ro d P N (.cond s c e) n x r f H :=
  wpF_cond hs (fun h => by cases h) (fun _ => hf)
def atX (id : Nat) (n : FD) (x : Nat → FD) : Nat → FD := fun i => if i = id then n else x i
theorem atX_here {id : Nat} (h : n d f H) : atX id n x id d f H := by simp only [atX, if_true]; exact h
theorem atX_else {id i : Nat} (hi : i ≠ id) (h : x i d f H) : atX id n x i d f H := by simp only [atX, hi, if_false]; exact h
theorem wpF_block {id : Nat} {c : Code} (h : wpI ro d P N c n (atX id n x) r f H) : wpI ro d P N (.block id c) n x r f H := by
  intro hok m a w ha hw
  refine wpIn_block (wpIn_mono (h hok m a w ha hw) fun e a1 w1 q => ?_)
  cases e with
  | exit i =>
    simp only [Exit.inBlock]
    by_cases hi : i = id
    · simp only [liftD, atX, hi, if_true] at q ⊢
      exact q
    · simp only [hi, if_false]
      simp only [liftD, atX, hi, if_false] at q
      exact q
  | normal => exact q
  | goto _ => exact q
  | ret => exact q
  | panic _ => exact q
  | outgrown => exact q
theorem wpF_loop {c : Code} (I : Nat → FP) (m0 : Nat) (h0 : I m0 f H)
    (round : ∀ m f H, I m f H → wpI ro d P N c (fun d' f' H' => d' = d ∧ ∃ m', m' < m ∧ I m' f' H') x r f H) : wpI ro d P N (.loop c) n x r f H := by
  intro hok k a w ha hw
  have hok' : codeOkI N c = true := hok
  have key : ∀ (M m : Nat) (a : Go.Act) (w1 : World) (f : Fr), m < M → Amb w w1 → IsFrD d N a f → I m f w1.heap →
      Code.roundsIn (fen ro) k P c (liftD N w n x r) M a w1 := by
    intro M
    induction M with
    | zero => intro m a w1 f hm; omega
    | succ M ih =>
      intro m a w1 f hm hamb ha hI
      rw [roundsIn_succ]
      refine wpIn_mono (round m f _ hI hok' k a w1 ha rfl) fun e a2 w2 q => ?_
      cases e with
      | normal =>
        obtain ⟨hamb1, d1, f1, hf1, rfl, m', hlt, hI1⟩ := q
        exact ih m' a2 w2 f1 (by omega) (hamb.trans hamb1) hf1 hI1
      | exit id => exact ⟨hamb.trans q.1, q.2⟩
      | ret => exact ⟨hamb.trans q.1, q.2⟩
      | goto l => exact q.elim
      | panic ch => exact q.elim
      | outgrown => exact q.elim
  exact wpIn_loop_rounds (m0 + 1) (key (m0 + 1) m0 a w f (by omega) (.refl w) ha (hw ▸ h0))
variable {ops : Array Oper} {o : Oper} {rest : List Oper}
theorem sem_at (h : noDef o = true) (ρ : Operand → Value) : o.semAt ro ρ = execOp ρ o := by
  refine Oper.semAt_eq ro ρ o fun c hc => ?_
  unfold noDef at h
  rw [hc] at h
  cases h
theorem callsI {k : FuncId} {args : Array Value} {w : World} {R : Ending → World → Prop} (m : Nat) (h : Calls P k args w R) : CallsIn (fen ro) m P k args w R :=
  (callsIn_wide (n := m)).2 h
theorem opE_in {next : FP} {a : Go.Act} {w : World} {m : Nat} {K : Go.Act → World → Prop} {Q : Exit → Go.Act → World → Prop}
    (h : OpE P o next f w.heap) (ha : IsFrD d N a f) (hn : noDef o = true) (hd : ∀ e, o.dst = some e → e < N)
    (hK : ∀ a' w' f', Amb w w' → IsFrD d N a' f' → next f' w'.heap → K a' w') : o.wpIn (fen ro) m P a w K Q := by
  refine ⟨fun _ _ => trivial, ?_⟩
  show Oper.uponIn (fen ro) m P o a K Q ((o.semAt ro a.eval).run P w)
  rw [sem_at hn, ha.evalF]
  have := h w rfl
  generalize (execOp (ev f) o).run P w = r at *
  cases r with
  | ok n w' =>
    cases n with
    | value v => exact hK _ _ _ this.1 (ha.put _ _ hd) this.2
    | skip => exact hK _ _ _ this.1 (ha.put _ _ hd) this.2
    | enter k args =>
      refine ⟨fun h => (by cases h), (callsI (m - 1) (Calls.mono (this.2 w' rfl) ?_))⟩
      rintro e w'' ⟨v, rfl, hamb, hv⟩
      exact hK _ _ _ (this.1.trans hamb) (ha.put _ _ hd) hv
    | _ => exact this.elim
  | halt e w' => exact this.elim
theorem opsOkI_head (h : opsOkI N (o :: rest) = true) : (noDef o = true ∧ ∀ e, o.dst = some e → e < N) ∧ opsOkI N rest = true := by
  simp only [opsOkI, List.all_cons, Bool.and_eq_true] at h
  refine ⟨⟨h.1.1, fun e he => ?_⟩, h.2⟩
  have := h.1.2
  rw [he] at this
  exact of_decide_eq_true this
def wpLI (ro : Option Nat) (d : List Deferred) (P : Program) (N : Nat) (ops : Array Oper) (n : FD) (x : Nat → FD) (r : FD) (l : List Oper) (f : Fr) (H : Heap) : Prop :=
  opsOkI N l = true → ∀ (m : Nat) (a : Go.Act) (w0 w : World), Amb w0 w → IsFrD d N a f → w.heap = H → wpListIn (fen ro) m P ops (liftD N w0 n x r) l a w
theorem wpLI_all : ∀ {l : List Oper} {f : Fr} {H : Heap}, wpL P ops (n d) l f H → wpLI ro d P N ops n x r l f H := by
  intro l
  induction l with
  | nil => intro f H h _ m a w0 w hamb ha hw; exact ⟨hamb, d, f, ha, hw ▸ h⟩
  | cons o l ih =>
    intro f H h hok m a w0 w hamb ha hw
    obtain ⟨⟨h1, h2⟩, h3⟩ := opsOkI_head hok
    unfold wpListIn
    rw [ha.yielded]
    unfold wpL at h
    split
    · rename_i hw'
      rw [if_pos hw'] at h
      exact opE_in (hw ▸ h) ha h1 h2 fun a' w' f' hamb' ha' h' => ih h' h3 m a' w0 w' (hamb.trans hamb') ha' rfl
    · rename_i hw'
      rw [if_neg hw'] at h
      exact ⟨fun _ _ => trivial, ih h h3 m _ w0 w hamb (ha.put _ _ h2) hw⟩
theorem wpLI_o (hg : o.guard = none) (h : OpE P o (fun f H => wpLI ro d P N ops n x r rest f H) f H) : wpLI ro d P N ops n x r (o :: rest) f H := by
  intro hok m a w0 w hamb ha hw
  obtain ⟨⟨h1, h2⟩, h3⟩ := opsOkI_head hok
  unfold wpListIn
  rw [if_pos (by simp [Region.wanted, hg])]
  exact opE_in (hw ▸ h) ha h1 h2 fun a' w' f' hamb' ha' h' => h' h3 m a' w0 w' (hamb.trans hamb') ha' rfl
theorem wpLI_q {U : Nat → Prop} {v : Value} (hg : o.guard = none) (hQ : Quiet P o U f H v) (h : wpLI ro d P N ops n x r rest (updO f o.dst v) H) : wpLI ro d P N ops n x r (o :: rest) f H :=
  wpLI_o hg (OpE.quiet hQ h)
theorem wpLI_go {j : Nat} {b : Bool} {oj : Oper} {e : Nat} (hg : o.guard = some (j, b)) (hj : ops[j]? = some oj) (hjd : oj.dst = some e) (hv : f e = .bool b)
    (h : OpE P o (fun f H => wpLI ro d P N ops n x r rest f H) f H) : wpLI ro d P N ops n x r (o :: rest) f H := by
  intro hok m a w0 w hamb ha hw
  obtain ⟨⟨h1, h2⟩, h3⟩ := opsOkI_head hok
  unfold wpListIn
  rw [ha.yielded, if_pos (by simp [Region.wanted, hg, yieldF, hj, hjd, hv])]
  exact opE_in (hw ▸ h) ha h1 h2 fun a' w' f' hamb' ha' h' => h' h3 m a' w0 w' (hamb.trans hamb') ha' rfl
theorem wpLI_gq {U : Nat → Prop} {v : Value} {j : Nat} {b : Bool} {oj : Oper} {e : Nat} (hg : o.guard = some (j, b)) (hj : ops[j]? = some oj) (hjd : oj.dst = some e) (hv : f e = .bool b)
    (hQ : Quiet P o U f H v) (h : wpLI ro d P N ops n x r rest (updO f o.dst v) H) : wpLI ro d P N ops n x r (o :: rest) f H :=
  wpLI_go hg hj hjd hv (OpE.quiet hQ h)
def YieldH (P : Program) (l : Nat) (args : Array Value) (H : Heap) (R : Value → Heap → Prop) : Prop :=
  ∀ (m : Nat) (w : World), w.heap = H → YieldAt Fence.wide m P l args w fun e w' => ∃ v, e = .returned v ∧ Amb w w' ∧ R v w'.heap
theorem YieldH.mono {l : Nat} {args : Array Value} {R R' : Value → Heap → Prop} (h : YieldH P l args H R) (hr : ∀ v H', R v H' → R' v H') : YieldH P l args H R' := by
  intro m w hw
  obtain ⟨fn, tmps, assign, body, h1, h2⟩ := h m w hw
  refine ⟨fn, tmps, assign, body, h1, h2.mono ?_⟩
  rintro e w' ⟨v, he, ha, hv⟩
  exact ⟨v, he, ha, hr _ _ hv⟩
theorem wpLI_yield {l : Nat} {fo : Operand} {xs : Array Operand} {ts : Array TypeId} {args : Array Value} {j : Nat} {b : Bool} {oj : Oper} {e : Nat}
    (ho : o.op = .call { callee := .value fo, args := xs, argTypes := ts }) (hg : o.guard = some (j, b)) (hj : ops[j]? = some oj) (hjd : oj.dst = some e) (hv : f e = .bool b)
    (hf : ev f fo = .func (.yield l) #[] #[]) (hx : xs.map (ev f) = args) (hY : YieldH P l args H fun v H' => wpLI ro d P N ops n x r rest (updO f o.dst v) H') :
    wpLI ro d P N ops n x r (o :: rest) f H := by
  intro hok m a w0 w hamb ha hw
  obtain ⟨⟨h1, h2⟩, h3⟩ := opsOkI_head hok
  unfold wpListIn
  rw [ha.yielded, if_pos (by simp [Region.wanted, hg, yieldF, hj, hjd, hv])]
  refine ⟨fun _ _ => trivial, ?_⟩
  show Oper.uponIn (fen ro) m P o a _ _ ((o.semAt ro a.eval).run P w)
  obtain ⟨fn, tmps, assign, body, hy, hR⟩ := hY (m - 1) w hw
  have hrun : (execOp (ev f) o).run P w = .ok (.round l fn tmps assign body) w := by
    subst hx
    rw [← hy]
    unfold execOp
    rw [ho]
    simp [go_sem, resolve, hf, invoke]
  rw [sem_at h1, ha.evalF, hrun]
  refine ⟨fun h => (by cases h), ?_⟩
  have hR' : RoundIn (fen ro) (m - 1) P l fn tmps assign body w (fun e w' => ∃ v, e = .returned v ∧ Amb w w' ∧ wpLI ro d P N ops n x r rest (updO f o.dst v) w'.heap) := hR
  refine hR'.mono ?_
  rintro e w' ⟨v, rfl, hamb', hh⟩
  exact hh h3 m _ w0 w' (hamb.trans hamb') (ha.put _ _ h2) rfl
theorem wpLI_gs {j : Nat} {b c : Bool} {oj : Oper} {e : Nat} (hg : o.guard = some (j, b)) (hj : ops[j]? = some oj) (hjd : oj.dst = some e) (hv : f e = .bool c) (hne : (c == b) = false)
    (h : wpLI ro d P N ops n x r rest (updO f o.dst undef) H) : wpLI ro d P N ops n x r (o :: rest) f H := by
  intro hok m a w0 w hamb ha hw
  obtain ⟨⟨h1, h2⟩, h3⟩ := opsOkI_head hok
  unfold wpListIn
  have : Region.wanted o (yieldF ops f) = false := by simpa [Region.wanted, hg, yieldF, hj, hjd, hv] using hne
  rw [ha.yielded, if_neg (by rw [this]; simp)]
  exact ⟨fun _ _ => trivial, h h3 m _ w0 w hamb (ha.put _ _ h2) hw⟩
theorem wpLI_nil (h : n d f H) : wpLI ro d P N ops n x r [] f H := wpLI_all h
theorem wpI_region {id : Nat} {l : List Oper} (h : wpLI ro d P N l.toArray n x r l f H) : wpI ro d P N (.region id l.toArray false) n x r f H := by
  intro hok m a w ha hw
  exact wpIn_region_lit (h hok m a w w (.refl w) ha hw)
theorem wpF_region {id : Nat} {l : List Oper} (h : wpL P l.toArray (n d) l f H) : wpI ro d P N (.region id l.toArray false) n x r f H := wpI_region (wpLI_all h)
def mkD (D : Nat) : Deferred := { target := .collected D, args := #[] }
theorem wpI_rangeFunc {g : Operand} {p : Tmp} {assign body : Code} {gf : Nat} {lb : Array Value} (hg : ev f g = .func (.func gf) #[] lb) (eg : ∀ args w, (callFunc gf args).run P w = .ok (.enter gf args) w)
    (h : ∀ rec : Go.LoopState → Option Code → Obj,
      (∀ (v : Value) (H1 : Heap) (R : Value → Heap → Prop), H1[H.size + 1]? = some (rec .ready none) →
        wpI (some (H.size + 1)) [] P N assign (fun d1 f1 H2 => d1 = [] ∧ H2[H.size + 1]? = some (rec .ready none) ∧
          wpI (some (H.size + 1)) [] P N body (fun _ _ H3 => H3[H.size + 1]? = some (rec .busy none) ∧ R (.bool true) (H3.setIfInBounds (H.size + 1) (rec .ready none)))
            (fun i _ _ H3 => H3[H.size + 1]? = some (rec .busy none) ∧ R (.bool false) (H3.setIfInBounds (H.size + 1) (rec .done (some (.exit i))))) (fun _ _ _ => False) f1 (H2.setIfInBounds (H.size + 1) (rec .busy none)))
          (fun _ _ _ _ => False) (fun _ _ _ => False) (upd f p v) H1 →
        YieldH P (H.size + 1) #[v] H1 R) →
      CallsH P gf (#[.func (.yield (H.size + 1)) #[] #[]] ++ lb) ((H.push (.deferred (some []))).push (rec .ready none)) fun _ H2 =>
        (H2[H.size + 1]? = some (rec .ready none) ∧ n [mkD H.size] f (H2.setIfInBounds (H.size + 1) (rec .exhausted none))) ∨
        (∃ i, H2[H.size + 1]? = some (rec .done (some (.exit i))) ∧ x i [mkD H.size] f (H2.setIfInBounds (H.size + 1) (rec .exhausted (some (.exit i)))))) :
    wpI none [] P N (.rangeFunc g #[p] assign body) n x r f H := by
  intro hok m a w ha hw
  simp only [codeOkI, Bool.and_eq_true] at hok
  obtain ⟨⟨hp, hok1⟩, hok2⟩ := hok
  have hpN : p < N := by simpa using hp
  subst hw
  refine wpIn_rangeFunc (F := fen none) ?_
  intro fn _
  obtain ⟨rec, hrec⟩ : ∃ rec : Go.LoopState → Option Code → Go.Loop, rec = fun st pe => { state := st, pending := pe, fn, tmps := a.tmps, params := #[p], assign, body, defers := w.heap.size } := ⟨_, rfl⟩
  obtain ⟨W1, hW1⟩ : ∃ W1, W1 = (w.alloc (.deferred (some []))).alloc (.loop (rec .ready none)) := ⟨_, rfl⟩
  refine ⟨w.heap.size + 1, [mkD w.heap.size], W1, { target := .fn (.func gf) lb, args := #[.func (.yield (w.heap.size + 1)) #[] #[]] }, W1, gf,
    #[.func (.yield (w.heap.size + 1)) #[] #[]] ++ lb, W1, ?_, ?_, fun _ _ => trivial, ?_, fun h => (by cases h), ?_⟩
  · rw [hW1, hrec]; exact run_enterLoop_outer _ _ _ _ _
  · simp only [resolve, ha.eval, hg]
    simp [go_sem]
  · simp [invoke, go_sem, eg]
  · refine callsI (m - 1) (Calls.mono (h (fun st pe => .loop (rec st pe)) ?_ W1 (by rw [hW1]; rfl)) ?_)
    · intro v H1 R hl hA k W hW
      subst hW
      have hy := run_yield (P := P) (args := #[v]) hl (by rw [hrec]; rfl)
      rw [hrec] at hy
      refine ⟨fn, _, assign, body, hy, roundIn_of_wpIn (F := Fence.wide) trivial ?_⟩
      have hfr : IsFrD [] N { tmps := a.tmps.setIfInBounds p v, defers := [] } (upd f p v) := by
        have := ha.put (some p) v (fun t e => by cases e; exact hpN)
        exact ⟨rfl, this.sz, this.tm⟩
      refine wpIn_mono (hA hok1 k _ W (by simpa using hfr) rfl) ?_
      intro e a1 W1 q
      cases e with
      | normal =>
        obtain ⟨hamb1, d1, f1, hf1, rfl, hl1, hb⟩ := q
        refine ⟨_, run_beginRound hl1 (by rw [hrec]), ?_⟩
        have hlt : w.heap.size + 1 < W1.heap.size := (Array.getElem?_eq_some_iff.1 hl1).1
        have hbusy : (Obj.loop { rec .ready none with state := .busy }) = .loop (rec .busy none) := by rw [hrec]
        rw [hbusy]
        refine wpIn_mono (hb hok2 k a1 (W1.putObj (w.heap.size + 1) (.loop (rec .busy none))) hf1 rfl) ?_
        intro e a2 W2 q2
        cases e with
        | normal =>
          obtain ⟨hamb2, d2, f2, hf2, hl2, hR⟩ := q2
          have he := run_endRound (P := P) none hl2
          rw [hrec] at he
          exact ⟨_, _, he, _, rfl, (hamb1.trans ⟨hamb2.os, hamb2.tape, hamb2.output⟩).trans ⟨rfl, rfl, rfl⟩, by rw [hrec] at hR; exact hR⟩
        | exit i =>
          obtain ⟨hamb2, d2, f2, hf2, hl2, hR⟩ := q2
          have he := run_endRound (P := P) (some (.exit i)) hl2
          rw [hrec] at he
          exact ⟨_, _, he, _, rfl, (hamb1.trans ⟨hamb2.os, hamb2.tape, hamb2.output⟩).trans ⟨rfl, rfl, rfl⟩, by rw [hrec] at hR; exact hR⟩
        | ret => obtain ⟨_, _, _, _, hf⟩ := q2; exact hf.elim
        | goto t => exact q2.elim
        | panic ch => exact q2.elim
        | outgrown => exact q2.elim
      | exit i => obtain ⟨_, _, _, _, hf⟩ := q; exact hf.elim
      | ret => obtain ⟨_, _, _, _, hf⟩ := q; exact hf.elim
      | goto t => exact q.elim
      | panic ch => exact q.elim
      | outgrown => exact q.elim
    · have hambW : ∀ {W2 W3 : World}, Amb W1 W2 → W3.os = W2.os ∧ W3.tape = W2.tape ∧ W3.output = W2.output → Amb w W3 := fun {W2 W3} hh e => by
        have h0 : Amb w W1 := by rw [hW1]; exact ⟨rfl, rfl, rfl⟩
        exact h0.trans (hh.trans ⟨e.1, e.2.1, e.2.2⟩)
      rintro e W2 ⟨v, rfl, hamb, (⟨hl, hn⟩ | ⟨i, hl, hx⟩)⟩
      · have he := run_endLoop (P := P) hl (by rw [hrec]; simp)
        rw [hrec] at he
        refine ⟨none, _, he, hambW hamb ⟨rfl, rfl, rfl⟩, [mkD w.heap.size], f, ⟨by show mkD _ :: a.defers = _; rw [ha.dz], ha.sz, ha.tm⟩, ?_⟩
        rw [hrec] at hn
        exact hn
      · have he := run_endLoop (P := P) hl (by rw [hrec]; simp)
        rw [hrec] at he
        refine ⟨some (.exit i), _, he, wpIn_exit ⟨hambW hamb ⟨rfl, rfl, rfl⟩, [mkD w.heap.size], f, ⟨by show mkD _ :: a.defers = _; rw [ha.dz], ha.sz, ha.tm⟩, ?_⟩⟩
        rw [hrec] at hx
        exact hx
def RetD : List Deferred → (Heap → Prop) → Heap → Prop
  | [], K, H => K H
  | dd :: ds, K, H => ∃ D, dd = mkD D ∧ H[D]? = some (.deferred (some [])) ∧ RetD ds K (H.setIfInBounds D (.deferred none))
theorem retD_nil {K : Heap → Prop} {H : Heap} (h : K H) : RetD [] K H := h
theorem retD_one {K : Heap → Prop} {H : Heap} {D : Nat} (hb : H[D]? = some (.deferred (some []))) (h : K (H.setIfInBounds D (.deferred none))) : RetD [mkD D] K H := ⟨D, rfl, hb, h⟩
theorem leavesM {fn : Func} {tmps : Array Value} {R : Ending → World → Prop} {K : Heap → Prop} {m : Nat} : ∀ (ds : List Deferred) (w : World), RetD ds K w.heap →
    (∀ w', Amb w w' → K w'.heap → ∃ v, (results fn tmps).run P w' = .ok v w' ∧ R (.returned v) w') → LeavesInM (fen none) m P fn tmps R ds .returning w := by
  intro ds
  induction ds with
  | nil => exact fun w h hK => hK w (.refl w) h
  | cons dd ds ih =>
    rintro w ⟨D, rfl, hb, h⟩ hK
    refine ⟨by simp, .inl ⟨D, _, rfl, run_takeDeferred hb, ih (w.putObj D (.deferred none)) h fun w' hamb hk => hK w' ⟨hamb.os, hamb.tape, hamb.output⟩ hk⟩⟩
theorem callsH_of_wpF {P : Program} {k : FuncId} {fn : Func} {c : Code} {N : Nat} {args : List Value} {rs : List ResultVar} {H : Heap} {R : Value → Heap → Prop}
    (hf : P.funcs[k]? = some fn) (hb : fn.body = some c) (hn : fn.ntmps = N) (hrs : fn.results = rs.toArray) (hok : codeOkI N c = true) (hl : args.length ≤ N)
    (h : wpI none [] P N c (fun d f H => RetD d (fun H => ∃ vs, ResVs P f H rs vs ∧ R (retV vs) H) H) (fun _ _ _ _ => False)
      (fun d f H => RetD d (fun H => ∃ vs, ResVs P f H rs vs ∧ R (retV vs) H) H) (argF args) H) :
    CallsH P k args.toArray H R := by
  have hrl : fn.results.toList = rs := by rw [hrs]
  rw [← hrl] at h
  intro w hw
  refine (callsIn_wide (n := 3)).1 (callsIn_of_wp_marks (F := fen none) hf hb trivial ?_ rfl)
  have hfr : IsFrD [] N { tmps := args.toArray ++ Array.replicate (fn.ntmps - args.toArray.size) undef, defers := [] } (argF args) := by
    refine ⟨rfl, ?_, fun t => ?_⟩
    · simp [hn]; omega
    · simp only [argF, Array.getD_eq_getD_getElem?, List.getD_eq_getElem?_getD, Array.getElem?_append, List.size_toArray]
      by_cases ht : t < args.length
      · simp [ht]
      · simp only [ht, if_false]
        rw [List.getElem?_eq_none (by omega)]
        simp only [Array.getElem?_replicate]
        split <;> rfl
  refine wpIn_mono (h hok 3 _ w hfr hw) ?_
  have fin : ∀ (d' : List Deferred) (f' : Fr) (a' : Go.Act) (w' : World), Amb w w' → IsFrD d' N a' f' → RetD d' (fun H => ∃ vs, ResVs P f' H fn.results.toList vs ∧ R (retV vs) H) w'.heap →
      LeavesInM (fen none) 3 P fn a'.tmps (fun e w' => ∃ v, e = .returned v ∧ Amb w w' ∧ R v w'.heap) a'.defers .returning w' := by
    intro d' f' a' w' hamb hf' hr
    rw [hf'.dz]
    refine leavesM d' w' hr fun w2 hamb2 ⟨vs, hvs, hR⟩ => ⟨_, ?_, _, rfl, hamb.trans hamb2, hR⟩
    exact results_run (a := { tmps := a'.tmps, defers := [] }) ⟨rfl, hf'.sz, hf'.tm⟩ hvs
  intro e a' w' q
  cases e with
  | normal => obtain ⟨hamb, d', f', hf', hr⟩ := q; exact fin d' f' a' w' hamb hf' hr
  | ret => obtain ⟨hamb, d', f', hf', hr⟩ := q; exact fin d' f' a' w' hamb hf' hr
  | exit _ => obtain ⟨_, _, _, _, h⟩ := q; exact h
  | goto _ => exact q
  | panic _ => exact q.elim
  | outgrown => exact q.elim
end
end Go.Um.In
namespace Go.Um
theorem St.putObj {H0 H : Heap} {M S0 : Nat → Prop} {L : List Ent} {g : Nat} {o : Obj} (h : St H0 M S0 (blkE g o :: L) H) (o' : Obj) : St H0 M S0 (blkE g o' :: L) (H.setIfInBounds g o') := by
  have hb : H[g]? = some o := h.get 0 rfl
  have hlt : g < H.size := (Array.getElem?_eq_some_iff.1 hb).1
  refine h.upd0 (by simp) (fun b hb hne => ?_) (fun b hb => .inl hb) ?_
  · rw [Array.getElem?_setIfInBounds_ne (fun e => hne e.symm)]
  · show (H.setIfInBounds g o')[g]? = some o'
    simp [hlt]
end Go.Um
namespace Go.Um
def modsTo (C : List (List Int)) (n k : Nat) : List (List Bool) := ((List.range k).map (asgL n)).filter (allH C)
section
variable {C : List (List Int)} {n k : Nat}
theorem mods_yes (h : allH C (asgL n k) = true) : modsTo C n (k + 1) = modsTo C n k ++ [asgL n k] := by
  simp [modsTo, List.range_succ, List.filter_append, h]
theorem mods_no (h : ¬ allH C (asgL n k) = true) : modsTo C n (k + 1) = modsTo C n k := by
  simp [modsTo, List.range_succ, List.filter_append, h]
theorem mods_le : (modsTo C n k).length ≤ k := by
  refine Nat.le_trans (List.length_filter_le _ _) ?_
  simp
theorem mods_cnt (h : allH C (asgL n k) = true) : ((modsTo C n (k + 1)).length : Int) = ((modsTo C n k).length : Int) + 1 := by
  rw [mods_yes h, List.length_append, List.length_singleton]; omega
end
end Go.Um
namespace Go.Um
section
variable {C : List (List Int)} {N n k i m d j rt : Nat} {ch : List Cho} {a : List Bool}
theorem modTo_count : modTo C n k = ((List.range k).map fun s => bitsL s n).countP (clausesH C) := by
  induction k with
  | zero => rfl
  | succ k ih =>
    rw [modTo, List.range_succ, List.map_append, List.countP_append, ← ih]
    by_cases h : clausesH C (bitsL k n) = true
    · rw [if_pos h]; simp [h]
    · rw [if_neg h]; simp [h]
theorem mods_count : (modsTo C n k).length = ((List.range k).map (asgL n)).countP (allH C) := by rw [modsTo, List.countP_eq_length_filter]
theorem bits_perm : ((List.range 64).map fun s => bitsL s 6).Perm ((List.range 64).map (asgL 6)) := by decide +kernel
theorem mod_mods (h : ∀ c ∈ C, ∀ l ∈ c, ¬ l = 0) : modTo C 6 64 = (modsTo C 6 64).length := by
  have e : allH C = clausesH C := funext fun a => allH_eq h
  rw [modTo_count, mods_count, e]
  exact bits_perm.countP_eq _
theorem madeL_at {p : List Bool → Bool} (h : k < 2 ^ N) : nth (madeL N p) k = Bt.mk (p (asgL N k)) := by simp [madeL, nth, h]
theorem bools_at {p : List Bool → Bool} (h : k < 2 ^ N) : nth (bools (madeL N p)) k = p (asgL N k) := by simp [bools, madeL, nth, h]
theorem sum_mods (h : k ≤ 2 ^ N) : sumB (madeL N (allH C)) k = ((modsTo C N k).length : Int) := by
  induction k with
  | zero => rfl
  | succ k ih =>
    rw [sumB_next (by rw [madeL_len]; omega), ih (by omega), madeL_at (by omega)]
    by_cases hh : allH C (asgL N k) = true
    · rw [mods_cnt hh, hh]; rfl
    · rw [mods_no hh, Bool.eq_false_iff.2 hh]; show _ + 0 = _; omega
theorem mods_at (hh : allH C (asgL N i) = true) : ∀ {m}, i < m → ∃ r, modsTo C N m = modsTo C N i ++ asgL N i :: r := by
  intro m
  induction m with
  | zero => intro h; omega
  | succ m ih =>
    intro h
    by_cases e : i = m
    · subst e; exact ⟨[], mods_yes hh⟩
    · obtain ⟨r, hr⟩ := ih (by omega)
      by_cases h2 : allH C (asgL N m) = true
      · exact ⟨r ++ [asgL N m], by rw [mods_yes h2, hr]; simp⟩
      · exact ⟨r, by rw [mods_no h2, hr]⟩
theorem mods_nth (hh : allH C (asgL N i) = true) (h : i < m) : nth (modsTo C N m) (modsTo C N i).length = asgL N i := by
  obtain ⟨r, hr⟩ := mods_at hh h
  rw [hr]; simp [nth]
theorem nth_app1 {α : Type} [Inhabited α] {x y : List α} (h : j < x.length) : nth (x ++ y) j = nth x j := by simp [nth, List.getElem?_append_left h]
theorem nth_app2 {α : Type} [Inhabited α] {x y : List α} (h : x.length ≤ j) : nth (x ++ y) j = nth y (j - x.length) := by simp [nth, List.getElem?_append_right h]
theorem val_tab (hW : WFc N ch) : ∀ {d i m j}, d ≤ N → i < ch.length + 2 → N < lev N ch i + d → i ≤ m → j < 2 ^ d → (∀ t, t < d → nth a (N - d + t) = j.testBit (d - 1 - t)) → nth (tab N ch d i) j = decide (valF ch m i a = 1) := by
  intro d
  induction d with
  | zero =>
    intro i m j _ hi hl hm hj _
    have h2 := lev_two hW hi (by omega)
    have : j = 0 := by simp at hj; omega
    rw [this, val_low h2]
    rfl
  | succ d ih =>
    intro i m j hd hi hl hm hj hb
    have hp : 2 ^ (d + 1) = 2 ^ d * 2 := Nat.pow_succ ..
    have hb0 : nth a (N - (d + 1)) = j.testBit d := by have := hb 0 (by omega); simpa using this
    have hlow : ∀ j' : Nat, (∀ t, t < d → j'.testBit t = j.testBit t) → ∀ t, t < d → nth a (N - d + t) = j'.testBit (d - 1 - t) := by
      intro j' hj' t ht
      rw [hj' _ (by omega), show N - d + t = N - (d + 1) + (t + 1) by omega, hb (t + 1) (by omega)]
      congr 1
      omega
    have hjl : j < 2 ^ d → j.testBit d = false := fun h => Nat.testBit_lt_two_pow h
    have hjh : ¬ j < 2 ^ d → j.testBit d = true ∧ j - 2 ^ d < 2 ^ d ∧ ∀ t, t < d → (j - 2 ^ d).testBit t = j.testBit t := by
      intro h
      have e : j = 2 ^ d + (j - 2 ^ d) := by omega
      have hlt : j - 2 ^ d < 2 ^ d := by omega
      refine ⟨?_, hlt, fun t ht => ?_⟩
      · rw [e, Nat.testBit_two_pow_add_eq, Nat.testBit_lt_two_pow hlt]; rfl
      · conv => rhs; rw [e]
        rw [Nat.testBit_two_pow_add_gt ht]
    rw [tab]
    by_cases hv : lev N ch i = N - d
    · rw [if_pos hv]
      have h2 : ¬ i < 2 := fun h2 => by
        unfold lev at hv
        rw [if_pos h2] at hv
        omega
      have hv' : (nth ch (i - 2)).1 = N - d := by unfold lev at hv; rw [if_neg h2] at hv; exact hv
      have hc := hW.each (i - 2) (by omega)
      have a1 := hc.lo
      have a2 := hc.hi
      have a3 := hc.llo
      have a4 := hc.lhi
      rw [val_next h2 hm, hv', show N - d - 1 = N - (d + 1) by omega, hb0]
      by_cases hjj : j < 2 ^ d
      · rw [nth_app1 (by rw [tab_len]; exact hjj), hjl hjj]
        simp only [Bool.false_eq_true, if_false]
        exact ih (by omega) (by omega) (by omega) (by omega) hjj (hlow j fun _ _ => rfl)
      · obtain ⟨q1, q2, q3⟩ := hjh hjj
        rw [nth_app2 (by rw [tab_len]; omega), tab_len, q1]
        simp only [if_true]
        exact ih (by omega) (by omega) (by omega) (by omega) q2 (hlow _ q3)
    · rw [if_neg hv]
      by_cases hjj : j < 2 ^ d
      · rw [nth_app1 (by rw [tab_len]; exact hjj)]
        exact ih (by omega) hi (by omega) hm hjj (hlow j fun _ _ => rfl)
      · obtain ⟨q1, q2, q3⟩ := hjh hjj
        rw [nth_app2 (by rw [tab_len]; omega), tab_len]
        exact ih (by omega) hi (by omega) hm q2 (hlow _ q3)
theorem asgL_at {t : Nat} (h : t < N) : nth (asgL N k) t = k.testBit (N - 1 - t) := by simp [asgL, nth, h]
theorem tbl_is (hW : WFc N ch) (hrt : rt < ch.length + 2) (ht : tab N ch N rt = bools (madeL N (allH C))) : tblD ch rt N = madeL N (allH C) := by
  unfold tblD madeL
  refine List.map_congr_left fun k hk => ?_
  have hk := List.mem_range.1 hk
  have h1 := val_tab (a := asgL N k) (m := rt) hW (Nat.le_refl N) hrt (by have := lev_pos hW hrt; omega) (Nat.le_refl _) hk (fun t ht => by rw [Nat.sub_self, Nat.zero_add]; exact asgL_at ht)
  rw [ht, bools_at hk] at h1
  rw [h1]
end
end Go.Um
