import Derived.Orders
import Derived.Tactics
import Derived.WalkKit
import Derived.ProofKit
import Derived.SizedLaws
namespace Go.Um
abbrev Heap := Array Obj
abbrev Fr := Nat → Value
abbrev FP := Fr → Heap → Prop
def upd (f : Fr) (d : Nat) (v : Value) : Fr := fun t => if t = d then v else f t
def updO (f : Fr) (d : Option Nat) (v : Value) : Fr :=
  match d with
  | some d => upd f d v
  | none => f
def ev (f : Fr) : Operand → Value
  | .tmp t => f t
  | .const v => v
  | .global g => .pointer (some ⟨g, 0, none⟩)
  | .func k => .func (.func k) #[] #[]
theorem upd_comm (f : Fr) {d e : Nat} (u v : Value) (h : d ≠ e) : upd (upd f d u) e v = upd (upd f e v) d u := by
  funext t
  simp only [upd]
  split
  · split
    · rename_i h1 h2; exact absurd (h2.symm.trans h1) h
    · rfl
  · rfl
structure Amb (w w' : World) : Prop where
  os : w'.os = w.os
  tape : w'.tape = w.tape
  output : w'.output = w.output
theorem Amb.refl (w : World) : Amb w w := ⟨rfl, rfl, rfl⟩
theorem Amb.trans {a b c : World} (h : Amb a b) (k : Amb b c) : Amb a c :=
  ⟨k.os.trans h.os, k.tape.trans h.tape, k.output.trans h.output⟩
structure IsFr (N : Nat) (a : Act) (f : Fr) : Prop where
  dz : a.defers = []
  sz : a.tmps.size = N
  tm : ∀ t, a.tmps.getD t undef = f t
theorem IsFr.eval {N : Nat} {a : Act} {f : Fr} (h : IsFr N a f) (x : Operand) : a.eval x = ev f x := by
  cases x with
  | tmp t => exact h.tm t
  | _ => rfl
theorem IsFr.evalF {N : Nat} {a : Act} {f : Fr} (h : IsFr N a f) : a.eval = ev f := funext h.eval
theorem IsFr.put {N : Nat} {a : Act} {f : Fr} (h : IsFr N a f) (d : Option Nat) (v : Value) (hd : ∀ e, d = some e → e < N) :
    IsFr N (a.put d v) (updO f d v) := by
  cases d with
  | none => exact h
  | some e =>
    have he := hd e rfl
    refine ⟨h.dz, by simp [Act.put, h.sz], fun t => ?_⟩
    have hs := h.sz
    by_cases ht : t = e
    · subst ht
      simp [Act.put, updO, upd, Array.getD, hs, he]
    · have h2 := h.tm t
      simp only [Act.put, updO, upd, ht, if_false]
      rw [← h2]
      simp only [Array.getD_eq_getD_getElem?]
      rw [Array.getElem?_setIfInBounds_ne (fun e' => ht e'.symm)]
def opsOk (N : Nat) (l : List Oper) : Bool := l.all fun o => match o.dst with | some d => decide (d < N) | none => true
def codeOk (N : Nat) : Code → Bool
  | .region _ ops _ => opsOk N ops.toList
  | .seq a b => codeOk N a && codeOk N b
  | .cond _ a b => codeOk N a && codeOk N b
  | .block _ b => codeOk N b
  | .loop b => codeOk N b
  | _ => true
def liftQ (N : Nat) (w : World) (n : FP) (x : Nat → FP) (r : FP) : Exit → Act → World → Prop
  | .normal, a', w' => Amb w w' ∧ ∃ f', IsFr N a' f' ∧ n f' w'.heap
  | .exit id, a', w' => Amb w w' ∧ ∃ f', IsFr N a' f' ∧ x id f' w'.heap
  | .ret, a', w' => Amb w w' ∧ ∃ f', IsFr N a' f' ∧ r f' w'.heap
  | _, _, _ => False
def wpF (P : Program) (N : Nat) (c : Code) (n : FP) (x : Nat → FP) (r : FP) (f : Fr) (H : Heap) : Prop :=
  codeOk N c = true → ∀ (a : Act) (w : World), IsFr N a f → w.heap = H → c.wp P (liftQ N w n x r) a w
section
variable {P : Program} {N : Nat} {n : FP} {x : Nat → FP} {r : FP} {f : Fr} {H : Heap}
theorem liftQ_trans {w w1 : World} (h : Amb w w1) {e : Exit} {a : Act} {w2 : World} (hq : liftQ N w1 n x r e a w2) : liftQ N w n x r e a w2 := by
  cases e <;> first
    | exact hq
    | exact ⟨h.trans hq.1, hq.2⟩
theorem wpF_mono {c : Code} {n' : FP} {x' : Nat → FP} {r' : FP} (h : wpF P N c n x r f H) (hn : ∀ f H, n f H → n' f H)
    (hx : ∀ i f H, x i f H → x' i f H) (hr : ∀ f H, r f H → r' f H) : wpF P N c n' x' r' f H :=
  fun hc a w ha hw => wp_mono (h hc a w ha hw) fun e a w q => by
    cases e <;> first
      | exact q.elim
      | exact ⟨q.1, q.2.imp fun _ h => ⟨h.1, hn _ _ h.2⟩⟩
      | exact ⟨q.1, q.2.imp fun _ h => ⟨h.1, hx _ _ _ h.2⟩⟩
      | exact ⟨q.1, q.2.imp fun _ h => ⟨h.1, hr _ _ h.2⟩⟩
theorem wpF_cut {c : Code} (J : FP) (h : wpF P N c J x r f H) (hJ : ∀ f H, J f H → n f H) : wpF P N c n x r f H :=
  wpF_mono h hJ (fun _ _ _ h => h) (fun _ _ h => h)
theorem wpF_skip (h : n f H) : wpF P N .skip n x r f H := fun _ _ w ha hw => wp_skip ⟨.refl w, f, ha, hw ▸ h⟩
theorem wpF_exit {id : Nat} (h : x id f H) : wpF P N (.exit id) n x r f H := fun _ _ w ha hw => wp_exit ⟨.refl w, f, ha, hw ▸ h⟩
theorem wpF_ret (h : r f H) : wpF P N .ret n x r f H := fun _ _ w ha hw => wp_ret ⟨.refl w, f, ha, hw ▸ h⟩
theorem wpF_seq {c d : Code} (h : wpF P N c (fun f H => wpF P N d n x r f H) x r f H) : wpF P N (.seq c d) n x r f H := by
  intro hok a w ha hw
  simp only [codeOk, Bool.and_eq_true] at hok
  refine wp_seq (wp_mono (h hok.1 a w ha hw) fun e a1 w1 q => ?_)
  cases e with
  | normal =>
    obtain ⟨hamb, f1, hf1, hq⟩ := q
    exact wp_mono (hq hok.2 a1 w1 hf1 rfl) fun e a w q => liftQ_trans hamb q
  | exit _ => exact q
  | goto _ => exact q
  | ret => exact q
  | panic _ => exact q
  | outgrown => exact q
theorem wpF_cond {s : Operand} {c d : Code} {t : Bool} (hs : ev f s = .bool t) (ht : t = true → wpF P N c n x r f H)
    (hf : t = false → wpF P N d n x r f H) : wpF P N (.cond s c d) n x r f H := by
  intro hok a w ha hw
  simp only [codeOk, Bool.and_eq_true] at hok
  exact wp_cond_split (t := t) (by rw [ha.eval]; exact hs) (fun h => ht h hok.1 a w ha hw) (fun h => hf h hok.2 a w ha hw)
theorem wpF_condP {s : Operand} {c d : Code} {p : Prop} [Decidable p] (hs : ev f s = .bool (decide p)) (ht : p → wpF P N c n x r f H)
    (hf : ¬ p → wpF P N d n x r f H) : wpF P N (.cond s c d) n x r f H :=
  wpF_cond hs (fun h => ht (of_decide_eq_true h)) (fun h => hf (of_decide_eq_false h))
theorem wpF_condT {s : Operand} {c d : Code} (hs : ev f s = .bool true) (ht : wpF P N c n x r f H) : wpF P N (.cond s c d) n x r f H :=
  wpF_cond hs (fun _ => ht) (fun h => by cases h)
theorem wpF_condF {s : Operand} {c d : Code} (hs : ev f s = .bool false) (hf : wpF P N d n x r f H) : wpF P N (.cond s c d) n x r f H :=
  wpF_cond hs (fun h => by cases h) (fun _ => hf)
def atX (id : Nat) (n : FP) (x : Nat → FP) : Nat → FP := fun i => if i = id then n else x i
theorem atX_here {id : Nat} (h : n f H) : atX id n x id f H := by simp only [atX, if_true]; exact h
theorem wpF_block {id : Nat} {c : Code} (h : wpF P N c n (atX id n x) r f H) : wpF P N (.block id c) n x r f H := by
  intro hok a w ha hw
  refine wp_block (wp_mono (h hok a w ha hw) fun e a1 w1 q => ?_)
  cases e with
  | exit i =>
    simp only [Exit.inBlock]
    by_cases hi : i = id
    · simp only [liftQ, atX, hi, if_true] at q ⊢
      exact q
    · simp only [hi, if_false]
      simp only [liftQ, atX, hi, if_false] at q
      exact q
  | normal => exact q
  | goto _ => exact q
  | ret => exact q
  | panic _ => exact q
  | outgrown => exact q
theorem wpF_loop {c : Code} (I : Nat → FP) (m : Nat) (h0 : I m f H)
    (round : ∀ m f H, I m f H → wpF P N c (fun f' H' => ∃ m', m' < m ∧ I m' f' H') x r f H) : wpF P N (.loop c) n x r f H := by
  intro hok a w ha hw b k cs
  have hok' : codeOk N c = true := hok
  have key : ∀ m (a : Act) (w1 : World) (f : Fr), Amb w w1 → IsFr N a f → I m f w1.heap →
      ∃ e a' w', liftQ N w n x r e a' w' ∧ Arrives P (lone (b.at a (.code c :: .inLoop c :: k)) cs w1) b k cs e a' w' := by
    intro m
    induction m using Nat.strongRecOn with
    | _ m ih =>
      intro a w1 f hamb ha hI
      obtain ⟨e, a₁, w₁, hq, harr⟩ := round m f _ hI hok' a w1 ha rfl b (.inLoop c :: k) cs
      cases e with
      | normal =>
        obtain ⟨hamb1, f1, hf1, m', hlt, hI1⟩ := hq
        obtain ⟨e₂, a₂, w₂, hq₂, harr₂⟩ := ih m' hlt a₁ w₁ f1 (hamb.trans hamb1) hf1 hI1
        exact ⟨e₂, a₂, w₂, hq₂, .of_steps (Steps.trans harr (.one step_inLoop)) harr₂⟩
      | exit id => exact ⟨.exit id, a₁, w₁, ⟨hamb.trans hq.1, hq.2⟩, .pass (x := .inLoop c) rfl (fun _ _ => .inl (by simp)) harr⟩
      | ret => exact ⟨.ret, a₁, w₁, ⟨hamb.trans hq.1, hq.2⟩, .pass (x := .inLoop c) rfl (fun _ _ => .inl (by simp)) harr⟩
      | goto l => exact hq.elim
      | panic ch => exact hq.elim
      | outgrown => exact hq.elim
  obtain ⟨e, a', w', hq, harr⟩ := key m a w f (.refl w) ha (hw ▸ h0)
  exact ⟨e, a', w', hq, .of_steps (.one step_loop) harr⟩
end
end Go.Um
namespace Go.Um
structure Ext (S : Nat → Prop) (H H' : Heap) : Prop where
  size : H.size ≤ H'.size
  same : ∀ b, b < H.size → ¬ S b → H'[b]? = H[b]?
theorem Ext.refl (S : Nat → Prop) (H : Heap) : Ext S H H := ⟨Nat.le_refl _, fun _ _ _ => rfl⟩
theorem Ext.trans {S : Nat → Prop} {A B C : Heap} (h : Ext S A B) (k : Ext S B C) : Ext S A C :=
  ⟨Nat.le_trans h.size k.size, fun b hb hs => (k.same b (Nat.lt_of_lt_of_le hb h.size) hs).trans (h.same b hb hs)⟩
theorem Ext.mono {S T : Nat → Prop} {H H' : Heap} (h : Ext S H H') (hst : ∀ b, S b → T b) : Ext T H H' :=
  ⟨h.size, fun b hb ht => h.same b hb fun hs => ht (hst b hs)⟩
def NoB : Nat → Prop := fun _ => False
theorem Ext.push (S : Nat → Prop) (H : Heap) (o : Obj) : Ext S H (H.push o) :=
  ⟨by simp, fun b hb _ => by rw [Array.getElem?_push, if_neg (by omega)]⟩
def CallsH (P : Program) (k : FuncId) (args : Array Value) (H : Heap) (R : Value → Heap → Prop) : Prop :=
  ∀ w : World, w.heap = H → Calls P k args w fun e w' => ∃ v, e = .returned v ∧ Amb w w' ∧ R v w'.heap
theorem CallsH.mono {P : Program} {k : FuncId} {args : Array Value} {H : Heap} {R R' : Value → Heap → Prop} (h : CallsH P k args H R)
    (hr : ∀ v H', R v H' → R' v H') : CallsH P k args H R' :=
  fun w hw => (h w hw).mono fun _ _ ⟨v, he, ha, hv⟩ => ⟨v, he, ha, hr _ _ hv⟩
def yieldF (ops : Array Oper) (f : Fr) (j : Nat) : Option Bool :=
  match (ops[j]?).bind (·.dst) with
  | some d => match f d with
    | .bool b => some b
    | _ => none
  | none => none
theorem IsFr.yielded {N : Nat} {a : Act} {f : Fr} (h : IsFr N a f) (ops : Array Oper) : Go.yielded ops a.tmps = yieldF ops f := by
  funext j
  unfold Go.yielded yieldF
  cases hd : (ops[j]?).bind (·.dst) with
  | none => rfl
  | some d =>
    simp only [Option.bind_some]
    rw [← h.tm d]
    simp only [Array.getD_eq_getD_getElem?]
    cases ht : a.tmps[d]? with
    | none => rfl
    | some v => cases v <;> rfl
def OpRes (P : Program) (o : Oper) (next : FP) (f : Fr) (w : World) : Result Next → Prop
  | .ok (.value v) w' => Amb w w' ∧ next (updO f o.dst v) w'.heap
  | .ok .skip w' => Amb w w' ∧ next (updO f o.dst undef) w'.heap
  | .ok (.enter k args) w' => Amb w w' ∧ CallsH P k args w'.heap fun v H' => next (updO f o.dst v) H'
  | _ => False
def OpE (P : Program) (o : Oper) (next : FP) (f : Fr) (H : Heap) : Prop :=
  ∀ w : World, w.heap = H → OpRes P o next f w ((execOp (ev f) o).run P w)
theorem OpE.mono {P : Program} {o : Oper} {next next' : FP} {f : Fr} {H : Heap} (h : OpE P o next f H) (hn : ∀ f H, next f H → next' f H) :
    OpE P o next' f H := by
  intro w hw
  have := h w hw
  generalize (execOp (ev f) o).run P w = r at *
  cases r with
  | ok n w' =>
    cases n <;> first
      | exact this.elim
      | exact ⟨this.1, hn _ _ this.2⟩
      | exact ⟨this.1, this.2.mono fun _ _ h => hn _ _ h⟩
  | halt e w' => exact this.elim
def ExE (P : Program) (ops : Array Oper) (i : Nat) (next : FP) (f : Fr) (H : Heap) : Prop :=
  match ops[i]? with
  | none => next f H
  | some o => if Region.wanted o (yieldF ops f) then OpE P o next f H else next (updO f o.dst undef) H
theorem ExE.mono {P : Program} {ops : Array Oper} {i : Nat} {next next' : FP} {f : Fr} {H : Heap} (h : ExE P ops i next f H)
    (hn : ∀ f H, next f H → next' f H) : ExE P ops i next' f H := by
  unfold ExE at *
  split
  · rename_i ho; rw [ho] at h; exact hn _ _ h
  · rename_i o ho
    rw [ho] at h
    simp only at h
    split
    · rename_i hw; rw [if_pos hw] at h; exact h.mono hn
    · rename_i hw; rw [if_neg hw] at h; exact hn _ _ h
section
variable {P : Program} {N : Nat} {ops : Array Oper}
theorem OpE.wp {o : Oper} {next : FP} {f : Fr} {a : Act} {w : World} {K : Act → World → Prop} {Q : Exit → Act → World → Prop}
    (h : OpE P o next f w.heap) (ha : IsFr N a f) (hd : ∀ e, o.dst = some e → e < N)
    (hK : ∀ a' w' f', Amb w w' → IsFr N a' f' → next f' w'.heap → K a' w') : o.wp P a w K Q := by
  unfold Oper.wp
  rw [ha.evalF]
  have := h w rfl
  generalize (execOp (ev f) o).run P w = r at *
  cases r with
  | ok n w' =>
    cases n with
    | value v => exact hK _ _ _ this.1 (ha.put _ _ hd) this.2
    | skip => exact hK _ _ _ this.1 (ha.put _ _ hd) this.2
    | enter k args =>
      refine Calls.mono (this.2 w' rfl) ?_
      rintro e w'' ⟨v, rfl, hamb, hv⟩
      exact hK _ _ _ (this.1.trans hamb) (ha.put _ _ hd) hv
    | _ => exact this.elim
  | halt e w' => exact this.elim
theorem ExE.wpOp {i : Nat} {next : FP} {f : Fr} {a : Act} {w : World} {K : Act → World → Prop} {Q : Exit → Act → World → Prop}
    (h : ExE P ops i next f w.heap) (ha : IsFr N a f) (hd : opsOk N ops.toList = true)
    (hK : ∀ a' w' f', Amb w w' → IsFr N a' f' → next f' w'.heap → K a' w') : Go.wpOp P ops Q i K a w := by
  unfold ExE at h
  unfold Go.wpOp
  split
  · rename_i ho; rw [ho] at h; exact hK _ _ _ (.refl w) ha h
  · rename_i o ho
    rw [ho] at h
    simp only at h
    have hdo : ∀ e, o.dst = some e → e < N := by
      intro e he
      have hm : o ∈ ops.toList := Array.mem_toList_iff.2 (Array.mem_of_getElem? ho)
      have := List.all_eq_true.1 hd o hm
      rw [he] at this
      exact of_decide_eq_true this
    rw [ha.yielded]
    split
    · rename_i hw; rw [if_pos hw] at h; exact .inl (h.wp ha hdo hK)
    · rename_i hw; rw [if_neg hw] at h; exact hK _ _ _ (.refl w) (ha.put _ _ hdo) h
def wpL (P : Program) (ops : Array Oper) (n : FP) : List Oper → Fr → Heap → Prop
  | [], f, H => n f H
  | o :: rest, f, H => if Region.wanted o (yieldF ops f) then OpE P o (wpL P ops n rest) f H else wpL P ops n rest (updO f o.dst undef) H
theorem wpL_lift {n : FP} {x : Nat → FP} {r : FP} : ∀ (l : List Oper) (k : Nat), (∀ j, l[j]? = ops[k + j]?) → opsOk N ops.toList = true →
    ∀ (f : Fr) (w0 w : World) (a : Act), Amb w0 w → IsFr N a f → wpL P ops n l f w.heap →
      wpOps P ops (liftQ N w0 n x r) (List.range' k l.length) a w := by
  intro l
  induction l with
  | nil => intro k _ _ f w0 w a hamb ha h; exact ⟨hamb, f, ha, h⟩
  | cons o l ih =>
    intro k hl hok f w0 w a hamb ha h
    have h0 : ops[k]? = some o := by simpa using (hl 0).symm
    have ih' := ih (k + 1) (fun j => by have := hl (j + 1); simpa [Nat.add_assoc, Nat.add_comm 1 j] using this) hok
    simp only [List.length_cons, List.range'_succ]
    rw [wpOps_cons]
    refine ExE.wpOp (f := f) (next := wpL P ops n l) ?_ ha hok ?_
    · unfold ExE; rw [h0]; exact h
    · intro a' w' f' hamb' ha' h'
      exact ih' f' w0 w' a' (hamb.trans hamb') ha' h'
theorem wpF_region {id : Nat} {l : List Oper} {n : FP} {x : Nat → FP} {r : FP} {f : Fr} {H : Heap} (h : wpL P l.toArray n l f H) :
    wpF P N (.region id l.toArray false) n x r f H := by
  intro hok a w ha hw
  have hok' : opsOk N l.toArray.toList = true := hok
  subst hw
  refine wp_region ?_
  have := wpL_lift (P := P) (N := N) (ops := l.toArray) (n := n) (x := x) (r := r) l 0 (by simp) hok' f w w a (.refl w) ha h
  simpa [List.range_eq_range'] using this
def wpG (P : Program) (ops : Array Oper) (MS : Nat → Nat → Prop) (n : FP) : Nat → Array Bool → Fr → Heap → Prop
  | 0, listed, f, H => Region.ready .any ops listed = [] ∧ n f H
  | k + 1, listed, f, H =>
    (Region.ready .any ops listed = [] → n f H) ∧
    ∀ i ∈ Region.ready .any ops listed, ExE P ops i (fun f' H' => Ext (MS i) H H' ∧ wpG P ops MS n k (listed.setIfInBounds i true) f' H') f H
theorem wpG_lift {MS : Nat → Nat → Prop} {n : FP} {x : Nat → FP} {r : FP} (hok : opsOk N ops.toList = true) : ∀ (k : Nat) (listed : Array Bool)
    (f : Fr) (w0 w : World) (a : Act), Amb w0 w → IsFr N a f → wpG P ops MS n k listed f w.heap → wpAny P .any ops (liftQ N w0 n x r) k listed a w := by
  intro k
  induction k with
  | zero => intro listed f w0 w a hamb ha h; exact ⟨h.1, hamb, f, ha, h.2⟩
  | succ k ih =>
    intro listed f w0 w a hamb ha h
    refine ⟨fun hr => ⟨hamb, f, ha, h.1 hr⟩, fun i hi => ?_⟩
    refine ExE.wpOp (h.2 i hi) ha hok ?_
    intro a' w' f' hamb' ha' h'
    exact ih _ f' w0 w' a' (hamb.trans hamb') ha' h'.2
theorem wpF_draw {id : Nat} {l : List Oper} {MS : Nat → Nat → Prop} {n : FP} {x : Nat → FP} {r : FP} {f : Fr} {H : Heap}
    (hm : P.follows .mixedOrders = true) (h : wpG P l.toArray MS n l.length (Array.replicate l.length false) f H) :
    wpF P N (.region id l.toArray true) n x r f H := by
  intro hok a w ha hw
  have hok' : opsOk N l.toArray.toList = true := hok
  subst hw
  refine wp_region_any hm ?_
  have := wpG_lift (P := P) (N := N) (ops := l.toArray) (MS := MS) (n := n) (x := x) (r := r) hok' l.length (Array.replicate l.length false) f w { w with drawn := w.drawn + 1 } a
    ⟨rfl, rfl, rfl⟩ ha h
  simpa using this
def QuietAt (P : Program) (ops : Array Oper) (q : Nat) (U : Nat → Prop) (f : Fr) (H : Heap) (v : Value) : Prop :=
  ∃ o, ops[q]? = some o ∧
    ((Region.wanted o (yieldF ops f) = true ∧ ∀ w : World, Ext U H w.heap → (execOp (ev f) o).run P w = .ok (.value v) w) ∨
     (Region.wanted o (yieldF ops f) = false ∧ v = undef))
def isSel : Op → Bool
  | .select _ _ => true
  | _ => false
def apartB (ops : Array Oper) (i j : Nat) : Bool :=
  match ops[i]?, ops[j]? with
  | some a, some b => a.apart ops b && !isSel a.op && !isSel b.op
  | _, _ => true
theorem ev_updO {f : Fr} {d : Option Nat} {v : Value} {x : Operand} (h : ∀ e, d = some e → x ≠ .tmp e) : ev (updO f d v) x = ev f x := by
  cases d with
  | none => rfl
  | some e =>
    cases x with
    | tmp t =>
      have hne : t ≠ e := fun he => h e rfl (he ▸ rfl)
      simp [ev, updO, upd, hne]
    | _ => rfl
theorem execOp_updO {o b : Oper} {f : Fr} {v : Value} (hap : o.apart ops b = true) (hs : isSel o.op = false) :
    execOp (ev (updO f b.dst v)) o = execOp (ev f) o := by
  have hsp := Oper.apart_spec hap
  refine execOp_congr o (fun cs bl he => by rw [he] at hs; cases hs) fun x hx => ev_updO fun e he => ?_
  rintro rfl
  refine hsp.2.2 e he ?_
  unfold Oper.looksAt
  refine List.mem_append.2 (.inl (List.mem_filterMap.2 ⟨.tmp e, Array.mem_toList_iff.2 hx, rfl⟩))
theorem wanted_updO {o b : Oper} {f : Fr} {v : Value} (hap : o.apart ops b = true) :
    Region.wanted o (yieldF ops (updO f b.dst v)) = Region.wanted o (yieldF ops f) := by
  have hsp := Oper.apart_spec hap
  unfold Region.wanted
  cases hg : o.guard with
  | none => rfl
  | some p =>
    obtain ⟨j, want⟩ := p
    simp only
    have : yieldF ops (updO f b.dst v) j = yieldF ops f j := by
      unfold yieldF
      cases hd : (ops[j]?).bind (·.dst) with
      | none => rfl
      | some d =>
        simp only
        have hne : ∀ e, b.dst = some e → d ≠ e := by
          rintro e he rfl
          refine hsp.2.2 d he ?_
          unfold Oper.looksAt
          rw [hg]
          refine List.mem_append.2 (.inr ?_)
          simp only [hd]
          simp
        cases hb : b.dst with
        | none => rfl
        | some e => simp [updO, upd, hne e hb]
    rw [this]
theorem updO_comm {f : Fr} {a b : Oper} (u v : Value) (hap : a.apart ops b = true) :
    updO (updO f a.dst u) b.dst v = updO (updO f b.dst v) a.dst u := by
  have hsp := Oper.apart_spec hap
  cases ha : a.dst with
  | none => rfl
  | some d =>
    cases hb : b.dst with
    | none => rfl
    | some e => exact upd_comm f u v fun he => hsp.2.1 d ha (he ▸ hb)
theorem apart_symm {a b : Oper} (h : a.apart ops b = true) : b.apart ops a = true := by
  simp only [Oper.apart, Bool.and_eq_true] at h ⊢
  obtain ⟨h1, h2⟩ := h
  cases ha : a.dst with
  | none =>
    cases hb : b.dst with
    | none => simp
    | some e => simp [ha, hb] at h1 h2 ⊢; exact h2
  | some d =>
    cases hb : b.dst with
    | none => simp [ha, hb] at h1 h2 ⊢; exact h1
    | some e =>
      simp [ha, hb] at h1 h2 ⊢
      exact ⟨⟨h2, fun e' => h1.2 e'.symm⟩, h1.1⟩
theorem ExE.before {i q : Nat} {oq : Oper} {next : FP} {f : Fr} {H : Heap} {v : Value} (hq : ops[q]? = some oq) (hap : apartB ops i q = true)
    (h : ExE P ops i next (updO f oq.dst v) H) : ExE P ops i (fun f' H' => next (updO f' oq.dst v) H') f H := by
  unfold ExE at *
  cases ho : ops[i]? with
  | none => rw [ho] at h; exact h
  | some o =>
    rw [ho] at h
    simp only [apartB, ho, hq, Bool.and_eq_true, Bool.not_eq_true'] at hap
    obtain ⟨⟨hap, hs⟩, _⟩ := hap
    simp only at h ⊢
    rw [wanted_updO hap] at h
    have hcm : ∀ u, updO (updO f oq.dst v) o.dst u = updO (updO f o.dst u) oq.dst v := fun u => (updO_comm u v hap).symm
    split
    · rename_i hw
      rw [if_pos hw] at h
      intro w hwH
      have := h w hwH
      rw [execOp_updO hap hs] at this
      generalize (execOp (ev f) o).run P w = rr at *
      cases rr with
      | ok n w' =>
        cases n <;> first
          | exact this.elim
          | exact ⟨this.1, by have h2 := this.2; rw [hcm] at h2; exact h2⟩
          | exact ⟨this.1, this.2.mono fun u H' hh => by rw [hcm] at hh; exact hh⟩
      | halt e w' => exact this.elim
    · rename_i hw
      rw [if_neg hw] at h
      rw [← hcm]
      exact h
theorem QuietAt.exE {q : Nat} {oq : Oper} {U : Nat → Prop} {next : FP} {f : Fr} {H : Heap} {v : Value} (hq : ops[q]? = some oq)
    (h : QuietAt P ops q U f H v) (hn : next (updO f oq.dst v) H) : ExE P ops q next f H := by
  obtain ⟨o, ho, hh⟩ := h
  rw [hq] at ho
  cases ho
  unfold ExE
  rw [hq]
  simp only
  rcases hh with ⟨hw, hr⟩ | ⟨hw, rfl⟩
  · rw [if_pos hw]
    intro w hwH
    subst hwH
    rw [hr w (Ext.refl U _)]
    exact ⟨.refl w, hn⟩
  · rw [if_neg (by rw [hw]; simp)]
    exact hn
theorem QuietAt.after {i q : Nat} {o : Oper} {U : Nat → Prop} {f : Fr} {H H' : Heap} {u v : Value} (h : QuietAt P ops q U f H v) (ho : ops[i]? = some o)
    (hap : apartB ops i q = true) (he : Ext U H H') : QuietAt P ops q U (updO f o.dst u) H' v := by
  obtain ⟨oq, hq, hh⟩ := h
  simp only [apartB, ho, hq, Bool.and_eq_true, Bool.not_eq_true'] at hap
  obtain ⟨⟨hap, _⟩, hs⟩ := hap
  have hap' := apart_symm hap
  refine ⟨oq, hq, ?_⟩
  rw [wanted_updO hap', execOp_updO hap' hs]
  rcases hh with ⟨hw, hr⟩ | hh
  · exact .inl ⟨hw, fun w hx => hr w (he.trans hx)⟩
  · exact .inr hh
theorem ExE.shape {i : Nat} {o : Oper} {next : FP} {f : Fr} {H : Heap} (ho : ops[i]? = some o) (h : ExE P ops i next f H) :
    ExE P ops i (fun f' H' => (∃ u, f' = updO f o.dst u) ∧ next f' H') f H := by
  unfold ExE at *
  rw [ho] at h ⊢
  simp only at h ⊢
  split
  · rename_i hw
    rw [if_pos hw] at h
    intro w hwH
    have := h w hwH
    generalize (execOp (ev f) o).run P w = rr at *
    cases rr with
    | ok n w' =>
      cases n <;> first
        | exact this.elim
        | exact ⟨this.1, ⟨_, rfl⟩, this.2⟩
        | exact ⟨this.1, this.2.mono fun u H' hh => ⟨⟨_, rfl⟩, hh⟩⟩
    | halt e w' => exact this.elim
  · rename_i hw
    rw [if_neg hw] at h
    exact ⟨⟨_, rfl⟩, h⟩
def unordB (ops : Array Oper) (i j : Nat) : Bool :=
  let b := Region.before ops
  i != j && !(b.getD i 0).testBit j && !(b.getD j 0).testBit i
def readyB (ops : Array Oper) (listed : Array Bool) (i : Nat) : Bool :=
  decide (i < ops.size) && !listed.getD i true && ((ops[i]?).map (·.after.all fun e => !Region.binds .any e || listed.getD e.on false)).getD false
theorem ready_iff {listed : Array Bool} {i : Nat} : i ∈ Region.ready .any ops listed ↔ readyB ops listed i = true := by
  unfold Region.ready readyB
  rw [List.mem_filter]
  simp [and_assoc]
def befOk (ops : Array Oper) : Bool :=
  let b := Region.before ops
  (List.range ops.size).all fun i => match ops[i]? with
    | some o => b.getD i 0 == o.after.toList.foldl (fun s e => if Region.binds .any e then s ||| 2 ^ e.on ||| b.getD e.on 0 else s) 0
    | none => true
theorem foldl_bit (b : Nat → Nat) (j : Nat) : ∀ (l : List Edge) (s : Nat),
    (l.foldl (fun s e => if Region.binds .any e then s ||| 2 ^ e.on ||| b e.on else s) s).testBit j = true →
    s.testBit j = true ∨ ∃ e ∈ l, Region.binds .any e = true ∧ (e.on = j ∨ (b e.on).testBit j = true) := by
  intro l
  induction l with
  | nil => intro s h; exact .inl h
  | cons e l ih =>
    intro s h
    simp only [List.foldl_cons] at h
    rcases ih _ h with h1 | ⟨e', he', hb⟩
    · split at h1
      · rename_i hb
        simp only [Nat.testBit_or, Bool.or_eq_true, Nat.testBit_two_pow, decide_eq_true_eq] at h1
        rcases h1 with (h1 | h1) | h1
        · exact .inl h1
        · exact .inr ⟨e, by simp, hb, .inl h1⟩
        · exact .inr ⟨e, by simp, hb, .inr h1⟩
      · exact .inl h1
    · exact .inr ⟨e', by simp [he'], hb⟩
def Shut (ops : Array Oper) (listed : Array Bool) : Prop :=
  ∀ i j, listed.getD i false = true → ((Region.before ops).getD i 0).testBit j = true → listed.getD j false = true
theorem ready_before {listed : Array Bool} (hb : befOk ops = true) (hs : Shut ops listed) {i : Nat} (hr : readyB ops listed i = true) {j : Nat}
    (hj : ((Region.before ops).getD i 0).testBit j = true) : listed.getD j false = true := by
  unfold readyB at hr
  simp only [Bool.and_eq_true, decide_eq_true_eq] at hr
  obtain ⟨⟨hlt, _⟩, hal⟩ := hr
  have hi := Array.getElem?_eq_getElem hlt
  rw [hi] at hal
  simp only [Option.map_some, Option.getD_some] at hal
  have hbi := List.all_eq_true.1 hb i (List.mem_range.2 hlt)
  simp only [hi, beq_iff_eq] at hbi
  rw [hbi] at hj
  rcases foldl_bit (fun k => (Region.before ops).getD k 0) j _ _ hj with h | ⟨e, he, hbind, h⟩
  · simp at h
  · have := Array.all_eq_true_iff_forall_mem.1 hal e (Array.mem_toList_iff.1 he)
    simp only [hbind, Bool.not_true, Bool.false_or] at this
    rcases h with rfl | h
    · exact this
    · exact hs e.on j this h
theorem getD_set_same {l : Array Bool} {i : Nat} (h : i < l.size) (d : Bool) : (l.setIfInBounds i true).getD i d = true := by
  simp [Array.getD, h]
theorem getD_set_ne {l : Array Bool} {i j : Nat} (h : i ≠ j) (d : Bool) : (l.setIfInBounds i true).getD j d = l.getD j d := by
  simp only [Array.getD_eq_getD_getElem?]
  rw [Array.getElem?_setIfInBounds_ne h]
theorem ready_lt {listed : Array Bool} {i : Nat} (h : readyB ops listed i = true) : i < ops.size := by
  unfold readyB at h
  simp only [Bool.and_eq_true, decide_eq_true_eq] at h
  exact h.1.1
theorem ready_not {listed : Array Bool} {i : Nat} (h : readyB ops listed i = true) : listed.getD i true = false := by
  unfold readyB at h
  simp only [Bool.and_eq_true, Bool.not_eq_true'] at h
  exact h.1.2
theorem ready_step {listed : Array Bool} {i q : Nat} (hi : readyB ops listed i = true) (hne : q ≠ i) :
    readyB ops (listed.setIfInBounds q true) i = true := by
  have hn := ready_not hi
  unfold readyB at *
  rw [getD_set_ne hne, hn]
  simp only [Bool.and_eq_true, decide_eq_true_eq, Bool.not_false, and_true] at hi ⊢
  refine ⟨hi.1.1, ?_⟩
  have h2 := hi.2
  have hlt := hi.1.1
  rw [Array.getElem?_eq_getElem hlt] at h2 ⊢
  simp only [Option.map_some, Option.getD_some] at h2 ⊢
  rw [Array.all_eq_true_iff_forall_mem] at h2 ⊢
  intro e he
  have := h2 e he
  simp only [Bool.or_eq_true] at this ⊢
  rcases this with h | h
  · exact .inl h
  · right
    by_cases hq : q = e.on
    · by_cases hlq : q < listed.size
      · rw [← hq]; exact getD_set_same hlq _
      · rw [← hq] at h; simp [Array.getD, hlq] at h
    · rw [getD_set_ne hq]; exact h
theorem Shut.step {listed : Array Bool} (hb : befOk ops = true) (hs : Shut ops listed) {q : Nat} (hq : readyB ops listed q = true)
    (hz : listed.size = ops.size) : Shut ops (listed.setIfInBounds q true) := by
  intro i j hi hj
  have key : ∀ k, listed.getD k false = true → (listed.setIfInBounds q true).getD k false = true := by
    intro k hk
    by_cases h : q = k
    · subst h; exact getD_set_same (by rw [hz]; exact ready_lt hq) _
    · rw [getD_set_ne h]; exact hk
  by_cases h : q = i
  · subst h; exact key j (ready_before hb hs hq hj)
  · rw [getD_set_ne h] at hi; exact key j (hs i j hi hj)
theorem unord_of_ready {listed : Array Bool} (hb : befOk ops = true) (hs : Shut ops listed) {i q : Nat} (hi : readyB ops listed i = true)
    (hq : readyB ops listed q = true) (hne : i ≠ q) (hz : listed.size = ops.size) : unordB ops i q = true := by
  have nl : ∀ k, readyB ops listed k = true → listed.getD k false = false := by
    intro k hk
    have h1 := ready_not hk
    have h2 : k < listed.size := by rw [hz]; exact ready_lt hk
    simp only [Array.getD, h2, dite_true] at h1 ⊢
    exact h1
  unfold unordB
  simp only [Bool.and_eq_true, bne_iff_ne, ne_eq, Bool.not_eq_true']
  refine ⟨⟨hne, ?_⟩, ?_⟩
  · cases h : ((Region.before ops).getD i 0).testBit q with
    | false => rfl
    | true => have := ready_before hb hs hi h; rw [nl q hq] at this; cases this
  · cases h : ((Region.before ops).getD q 0).testBit i with
    | false => rfl
    | true => have := ready_before hb hs hq h; rw [nl i hi] at this; cases this
theorem wpG_quiet {MS : Nat → Nat → Prop} {n : FP} {U : Nat → Prop} {q : Nat} {oq : Oper} (hb : befOk ops = true) (hq : ops[q]? = some oq)
    (hst : ∀ i, i < ops.size → unordB ops i q = true → apartB ops i q = true ∧ ∀ b, MS i b → U b) :
    ∀ (k : Nat) (listed : Array Bool) (f : Fr) (H : Heap) (v : Value), Shut ops listed → listed.size = ops.size → readyB ops listed q = true →
      QuietAt P ops q U f H v → wpG P ops MS n k (listed.setIfInBounds q true) (updO f oq.dst v) H → wpG P ops MS n (k + 1) listed f H := by
  intro k
  induction k with
  | zero =>
    intro listed f H v hs hz hr hQ h
    refine ⟨fun he => ?_, fun i hi => ?_⟩
    · have := ready_iff.2 hr; rw [he] at this; cases this
    · by_cases hiq : i = q
      · subst hiq; exact hQ.exE hq ⟨.refl _ _, h⟩
      · have := ready_iff.2 (ready_step (q := q) (ready_iff.1 hi) (fun e => hiq e.symm))
        rw [h.1] at this
        cases this
  | succ k ih =>
    intro listed f H v hs hz hr hQ h
    refine ⟨fun he => ?_, fun i hi => ?_⟩
    · have := ready_iff.2 hr; rw [he] at this; cases this
    · by_cases hiq : i = q
      · subst hiq; exact hQ.exE hq ⟨.refl _ _, h⟩
      · have hri := ready_iff.1 hi
        have hun := unord_of_ready hb hs hri hr hiq hz
        obtain ⟨hap, hms⟩ := hst i (ready_lt hri) hun
        have hi' := ready_iff.2 (ready_step (q := q) hri (fun e => hiq e.symm))
        have h2 := h.2 i hi'
        have hio := Array.getElem?_eq_getElem (ready_lt hri)
        refine ((h2.before hq hap).shape hio).mono ?_
        rintro f' H' ⟨⟨u, rfl⟩, hx, hw⟩
        refine ⟨hx, ?_⟩
        refine ih _ _ _ v (hs.step hb hri hz) (by simpa using hz) (ready_step hr hiq) (hQ.after hio hap (hx.mono hms)) ?_
        rw [Array.setIfInBounds_comm _ _ (fun e => hiq e)]
        exact hw
def mkL (n : Nat) (l : List Nat) : Array Bool := l.foldr (fun i a => a.setIfInBounds i true) (Array.replicate n false)
theorem mkL_size (n : Nat) : ∀ l : List Nat, (mkL n l).size = n
  | [] => by simp [mkL]
  | i :: l => by have := mkL_size n l; simp only [mkL, List.foldr_cons, Array.size_setIfInBounds] at this ⊢; exact this
def labS (lab : List (Option Nat)) (blk : Nat → Nat → Prop) (i : Nat) : Nat → Prop := fun b => ∃ l, lab[i]? = some (some l) ∧ blk l b
def labU (ul : List (List Nat)) (blk : Nat → Nat → Prop) (q : Nat) : Nat → Prop := fun b => ∃ l, l ∈ ul.getD q [] ∧ blk l b
def regOk (ops : Array Oper) (lab : List (Option Nat)) (ul : List (List Nat)) : Bool :=
  befOk ops && (List.range ops.size).all fun q => (List.range ops.size).all fun i =>
    !unordB ops i q || (apartB ops i q && match lab[i]? with | some (some l) => (ul.getD q []).contains l | _ => true)
def wpR (P : Program) (ops : Array Oper) (lab : List (Option Nat)) (ul : List (List Nat)) (blk : Nat → Nat → Prop) (n : FP) (l : List Nat) (f : Fr) (H : Heap) : Prop :=
  regOk ops lab ul = true → Shut ops (mkL ops.size l) → wpG P ops (labS lab blk) n (ops.size - l.length) (mkL ops.size l) f H
theorem wpF_drawn {id : Nat} {l : List Oper} (lab : List (Option Nat)) (ul : List (List Nat)) (blk : Nat → Nat → Prop) {n : FP} {x : Nat → FP} {r : FP} {f : Fr} {H : Heap}
    (hm : P.follows .mixedOrders = true) (hok : regOk l.toArray lab ul = true) (h : wpR P l.toArray lab ul blk n [] f H) :
    wpF P N (.region id l.toArray true) n x r f H := by
  refine wpF_draw (MS := labS lab blk) hm ?_
  have := h hok (fun i j hi _ => by simp [mkL, Array.getD] at hi)
  simpa [mkL] using this
theorem wpR_end {lab : List (Option Nat)} {ul : List (List Nat)} {blk : Nat → Nat → Prop} {n : FP} {l : List Nat} {f : Fr} {H : Heap}
    (he : Region.ready .any ops (mkL ops.size l) = []) (h : n f H) : wpR P ops lab ul blk n l f H := by
  intro _ _
  cases hk : ops.size - l.length with
  | zero => exact ⟨he, h⟩
  | succ k => exact ⟨fun _ => h, fun i hi => by rw [he] at hi; cases hi⟩
theorem ready_length {l : List Nat} {i : Nat} (_hr : readyB ops (mkL ops.size l) i = true) (hd : l.length < ops.size) : ops.size - l.length = (ops.size - (i :: l).length) + 1 := by
  simp only [List.length_cons]; omega
theorem wpR_q {lab : List (Option Nat)} {ul : List (List Nat)} {blk : Nat → Nat → Prop} {n : FP} {l : List Nat} {f : Fr} {H : Heap} {v : Value} {oq : Oper} (q : Nat)
    (hd : (decide (l.length < ops.size) && readyB ops (mkL ops.size l) q) = true) (hq : ops[q]? = some oq) (hQ : QuietAt P ops q (labU ul blk q) f H v)
    (h : wpR P ops lab ul blk n (q :: l) (updO f oq.dst v) H) : wpR P ops lab ul blk n l f H := by
  intro hok hs
  simp only [Bool.and_eq_true, decide_eq_true_eq] at hd
  have hok' := hok
  unfold regOk at hok'
  rw [Bool.and_eq_true] at hok'
  obtain ⟨hb, hall⟩ := hok'
  rw [ready_length (i := q) hd.2 hd.1]
  refine wpG_quiet hb hq ?_ _ _ _ _ _ hs (mkL_size _ _) hd.2 hQ (h hok (hs.step hb hd.2 (mkL_size _ _)))
  intro i hi hun
  have h1 := List.all_eq_true.1 (List.all_eq_true.1 hall q (List.mem_range.2 (ready_lt hd.2))) i (List.mem_range.2 hi)
  rw [hun] at h1
  simp only [Bool.not_true, Bool.false_or, Bool.and_eq_true] at h1
  refine ⟨h1.1, ?_⟩
  rintro b ⟨lb, hl, hb'⟩
  have h2 := h1.2
  rw [hl] at h2
  exact ⟨lb, by simpa using h2, hb'⟩
theorem wpR_n {lab : List (Option Nat)} {ul : List (List Nat)} {blk : Nat → Nat → Prop} {n : FP} {l : List Nat} {f : Fr} {H : Heap} (rs : List Nat)
    (hd : (decide (l.length < ops.size) && (List.range ops.size).all (fun i => !readyB ops (mkL ops.size l) i || rs.contains i) && rs.any fun i => readyB ops (mkL ops.size l) i) = true)
    (h : ∀ i ∈ rs, ExE P ops i (fun f' H' => Ext (labS lab blk i) H H' ∧ wpR P ops lab ul blk n (i :: l) f' H') f H) : wpR P ops lab ul blk n l f H := by
  intro hok hs
  simp only [Bool.and_eq_true, decide_eq_true_eq] at hd
  have hok' := hok
  unfold regOk at hok'
  rw [Bool.and_eq_true] at hok'
  obtain ⟨hb, _⟩ := hok'
  obtain ⟨⟨hlen, hall⟩, hany⟩ := hd
  obtain ⟨i0, _, hi0⟩ := List.any_eq_true.1 hany
  rw [ready_length (i := i0) hi0 hlen]
  refine ⟨fun he => ?_, fun i hi => ?_⟩
  · have := ready_iff.2 hi0; rw [he] at this; cases this
  · have hr := ready_iff.1 hi
    have h1 := List.all_eq_true.1 hall i (List.mem_range.2 (ready_lt hr))
    rw [hr] at h1
    simp only [Bool.not_true, Bool.false_or] at h1
    refine (h i (by simpa using h1)).mono ?_
    rintro f' H' ⟨hx, hw⟩
    exact ⟨hx, hw hok (hs.step hb hr (mkL_size _ _))⟩
def Quiet (P : Program) (o : Oper) (U : Nat → Prop) (f : Fr) (H : Heap) (v : Value) : Prop :=
  ∀ w : World, Ext U H w.heap → (execOp (ev f) o).run P w = .ok (.value v) w
theorem OpE.quiet {o : Oper} {U : Nat → Prop} {f : Fr} {H : Heap} {v : Value} {next : FP} (h : Quiet P o U f H v) (hn : next (updO f o.dst v) H) : OpE P o next f H := by
  intro w hw
  subst hw
  rw [h w (.refl U _)]
  exact ⟨.refl w, hn⟩
section
variable {o : Oper} {rest : List Oper} {n : FP} {f : Fr} {H : Heap}
theorem wpL_nil (h : n f H) : wpL P ops n [] f H := h
theorem wpL_q {U : Nat → Prop} {v : Value} (hg : o.guard = none) (hQ : Quiet P o U f H v) (h : wpL P ops n rest (updO f o.dst v) H) : wpL P ops n (o :: rest) f H := by
  unfold wpL
  rw [if_pos (by simp [Region.wanted, hg])]
  exact OpE.quiet hQ h
theorem wpL_o (hg : o.guard = none) (h : OpE P o (wpL P ops n rest) f H) : wpL P ops n (o :: rest) f H := by
  unfold wpL
  rw [if_pos (by simp [Region.wanted, hg])]
  exact h
theorem wpL_gq {U : Nat → Prop} {v : Value} {j : Nat} {b : Bool} {oj : Oper} {d : Nat} (hg : o.guard = some (j, b)) (hj : ops[j]? = some oj) (hjd : oj.dst = some d) (hv : f d = .bool b)
    (hQ : Quiet P o U f H v) (h : wpL P ops n rest (updO f o.dst v) H) : wpL P ops n (o :: rest) f H := by
  unfold wpL
  rw [if_pos (by simp [Region.wanted, hg, yieldF, hj, hjd, hv])]
  exact OpE.quiet hQ h
theorem wpL_go {j : Nat} {b : Bool} {oj : Oper} {d : Nat} (hg : o.guard = some (j, b)) (hj : ops[j]? = some oj) (hjd : oj.dst = some d) (hv : f d = .bool b)
    (h : OpE P o (wpL P ops n rest) f H) : wpL P ops n (o :: rest) f H := by
  unfold wpL
  rw [if_pos (by simp [Region.wanted, hg, yieldF, hj, hjd, hv])]
  exact h
theorem wpL_gs {j : Nat} {b c : Bool} {oj : Oper} {d : Nat} (hg : o.guard = some (j, b)) (hj : ops[j]? = some oj) (hjd : oj.dst = some d) (hv : f d = .bool c) (hne : (c == b) = false)
    (h : wpL P ops n rest (updO f o.dst undef) H) : wpL P ops n (o :: rest) f H := by
  unfold wpL
  have : Region.wanted o (yieldF ops f) = false := by simpa [Region.wanted, hg, yieldF, hj, hjd, hv] using hne
  rw [if_neg (by rw [this]; simp)]
  exact h
theorem wpL_gs' {j : Nat} {b : Bool} {oj : Oper} {d : Nat} (hg : o.guard = some (j, b)) (hj : ops[j]? = some oj) (hjd : oj.dst = some d) (hv : f d = undef)
    (h : wpL P ops n rest (updO f o.dst undef) H) : wpL P ops n (o :: rest) f H := by
  unfold wpL
  have : Region.wanted o (yieldF ops f) = false := by simp [Region.wanted, hg, yieldF, hj, hjd, hv, undef]
  rw [if_neg (by rw [this]; simp)]
  exact h
theorem quietAt {q : Nat} {U : Nat → Prop} {v : Value} (ho : ops[q]? = some o) (hg : o.guard = none) (hQ : Quiet P o U f H v) : QuietAt P ops q U f H v :=
  ⟨o, ho, .inl ⟨by simp [Region.wanted, hg], hQ⟩⟩
theorem quietAt_g {q : Nat} {U : Nat → Prop} {v : Value} {j : Nat} {b : Bool} {oj : Oper} {d : Nat} (ho : ops[q]? = some o) (hg : o.guard = some (j, b)) (hj : ops[j]? = some oj) (hjd : oj.dst = some d)
    (hv : f d = .bool b) (hQ : Quiet P o U f H v) : QuietAt P ops q U f H v :=
  ⟨o, ho, .inl ⟨by simp [Region.wanted, hg, yieldF, hj, hjd, hv], hQ⟩⟩
theorem quietAt_s {q : Nat} {U : Nat → Prop} {j : Nat} {b c : Bool} {oj : Oper} {d : Nat} (ho : ops[q]? = some o) (hg : o.guard = some (j, b)) (hj : ops[j]? = some oj) (hjd : oj.dst = some d)
    (hv : f d = .bool c) (hne : (c == b) = false) : QuietAt P ops q U f H undef :=
  ⟨o, ho, .inr ⟨by simpa [Region.wanted, hg, yieldF, hj, hjd, hv] using hne, rfl⟩⟩
theorem quietAt_s' {q : Nat} {U : Nat → Prop} {j : Nat} {b : Bool} {oj : Oper} {d : Nat} (ho : ops[q]? = some o) (hg : o.guard = some (j, b)) (hj : ops[j]? = some oj) (hjd : oj.dst = some d)
    (hv : f d = undef) : QuietAt P ops q U f H undef :=
  ⟨o, ho, .inr ⟨by simp [Region.wanted, hg, yieldF, hj, hjd, hv, undef], rfl⟩⟩
theorem exE {i : Nat} (ho : ops[i]? = some o) (hg : o.guard = none) (h : OpE P o n f H) : ExE P ops i n f H := by
  unfold ExE; rw [ho]; simp only; rw [if_pos (by simp [Region.wanted, hg])]; exact h
theorem exE_g {i : Nat} {j : Nat} {b : Bool} {oj : Oper} {d : Nat} (ho : ops[i]? = some o) (hg : o.guard = some (j, b)) (hj : ops[j]? = some oj) (hjd : oj.dst = some d) (hv : f d = .bool b)
    (h : OpE P o n f H) : ExE P ops i n f H := by
  unfold ExE; rw [ho]; simp only; rw [if_pos (by simp [Region.wanted, hg, yieldF, hj, hjd, hv])]; exact h
end
end
end Go.Um
namespace Go.Um
def argF (args : List Value) : Fr := fun t => args.getD t undef
def LoadV (P : Program) (H : Heap) (t : TypeId) (a : Addr) (v : Value) : Prop :=
  ∀ w : World, w.heap = H → (loadVar t a).run P w = .ok v w
def ResVs (P : Program) (f : Fr) (H : Heap) : List ResultVar → List Value → Prop
  | [], vs => vs = []
  | .tmp t :: rs, vs => ∃ v vs', f t = v ∧ vs = v :: vs' ∧ ResVs P f H rs vs'
  | .cell t ty :: rs, vs => ∃ a v vs', f t = .pointer (some a) ∧ LoadV P H ty a v ∧ vs = v :: vs' ∧ ResVs P f H rs vs'
def retV (vs : List Value) : Value :=
  match vs with
  | [v] => v
  | vs => .tuple vs.toArray
theorem run_bind_ok {α β : Type} {P : Program} {m : Sem α} {k : α → Sem β} {w w' : World} {x : α} (h : m.run P w = .ok x w') : (m >>= k).run P w = (k x).run P w' := by
  rw [Sem.run_bind, h]; rfl
theorem resVs_run {P : Program} {N : Nat} {f : Fr} {a : Act} {w : World} (ha : IsFr N a f) : ∀ (rs : List ResultVar) (vs : List Value),
    ResVs P f w.heap rs vs →
    (rs.mapM (m := Sem) fun | .tmp t => pure (a.tmps.getD t undef) | .cell b t => do loadVar t (← asAddr (a.tmps.getD b undef))).run P w = .ok vs w := by
  intro rs
  induction rs with
  | nil => intro vs h; cases h; simp
  | cons r rs ih =>
    intro vs h
    cases r with
    | tmp t =>
      obtain ⟨v, vs', hv, rfl, h'⟩ := h
      subst hv
      have hh := ih vs' h'
      simp only [List.mapM_cons, ha.tm]
      rw [run_bind_ok (x := f t) (w' := w) (by simp)]
      simp only [ha.tm] at hh
      rw [run_bind_ok hh]
      simp
    | cell t ty =>
      obtain ⟨ad, v, vs', hp, hl, rfl, h'⟩ := h
      have hh := ih vs' h'
      simp only [List.mapM_cons, ha.tm]
      have h1 : (do loadVar ty (← asAddr (f t)) : Sem Value).run P w = .ok v w := by
        rw [hp, run_bind_ok (x := ad) (w' := w) (by simp [asAddr])]
        exact hl w rfl
      rw [run_bind_ok h1]
      simp only [ha.tm] at hh
      rw [run_bind_ok hh]
      simp
theorem results_run {P : Program} {N : Nat} {fn : Func} {f : Fr} {a : Act} {w : World} (ha : IsFr N a f) {vs : List Value}
    (h : ResVs P f w.heap fn.results.toList vs) : (results fn a.tmps).run P w = .ok (retV vs) w := by
  unfold results
  have hh := resVs_run ha _ _ h
  have h2 : (fn.results.mapM (m := Sem) fun | .tmp t => pure (a.tmps.getD t undef) | .cell b t => do loadVar t (← asAddr (a.tmps.getD b undef))).run P w = .ok vs.toArray w := by
    rw [← Array.toArray_toList (xs := fn.results), List.mapM_toArray]
    rw [show ∀ (m : Sem (List Value)), (Functor.map List.toArray m) = (m >>= fun l => pure l.toArray) from fun m => (bind_pure_comp _ _).symm]
    rw [run_bind_ok (by simpa using hh)]
    simp
  refine (run_bind_ok h2).trans ?_
  unfold retV
  match vs with
  | [] => simp
  | [v] => simp
  | v :: u :: vs => simp
theorem resN {P : Program} {f : Fr} {H : Heap} : ResVs P f H [] [] := rfl
theorem resT {P : Program} {f : Fr} {H : Heap} {t : Nat} {rs : List ResultVar} {v : Value} {vs : List Value} (h : f t = v) (hr : ResVs P f H rs vs) : ResVs P f H (.tmp t :: rs) (v :: vs) :=
  ⟨v, vs, h, rfl, hr⟩
theorem resC {P : Program} {f : Fr} {H : Heap} {t : Nat} {ty : TypeId} {rs : List ResultVar} {a : Addr} {v : Value} {vs : List Value} (h : f t = .pointer (some a)) (hl : LoadV P H ty a v)
    (hr : ResVs P f H rs vs) : ResVs P f H (.cell t ty :: rs) (v :: vs) := ⟨a, v, vs, h, hl, rfl, hr⟩
theorem callsH_of_wpF {P : Program} {k : FuncId} {fn : Func} {c : Code} {N : Nat} {args : List Value} {rs : List ResultVar} {H : Heap} {R : Value → Heap → Prop}
    (hf : P.funcs[k]? = some fn) (hb : fn.body = some c) (hn : fn.ntmps = N) (hrs : fn.results = rs.toArray) (hok : codeOk N c = true) (hl : args.length ≤ N)
    (h : wpF P N c (fun f H => ∃ vs, ResVs P f H rs vs ∧ R (retV vs) H) (fun _ _ _ => False)
      (fun f H => ∃ vs, ResVs P f H rs vs ∧ R (retV vs) H) (argF args) H) :
    CallsH P k args.toArray H R := by
  have hrl : fn.results.toList = rs := by rw [hrs]
  rw [← hrl] at h
  intro w hw
  refine calls_of_wp hf hb ?_
  have hfr : IsFr N { tmps := args.toArray ++ Array.replicate (fn.ntmps - args.toArray.size) undef, defers := [] } (argF args) := by
    refine ⟨rfl, ?_, fun t => ?_⟩
    · simp [hn]; omega
    · simp only [argF, Array.getD_eq_getD_getElem?, List.getD_eq_getElem?_getD, Array.getElem?_append, List.size_toArray]
      by_cases ht : t < args.length
      · simp [ht]
      · simp only [ht, if_false]
        rw [List.getElem?_eq_none (by omega)]
        simp only [Array.getElem?_replicate]
        split <;> rfl
  refine wp_mono (h hok _ w hfr hw) ?_
  intro e a' w' q
  cases e with
  | normal =>
    obtain ⟨hamb, f', hf', vs, hr, hR⟩ := q
    exact ⟨hf'.dz, _, results_run hf' hr, _, rfl, hamb, hR⟩
  | ret =>
    obtain ⟨hamb, f', hf', vs, hr, hR⟩ := q
    exact ⟨hf'.dz, _, results_run hf' hr, _, rfl, hamb, hR⟩
  | exit _ => obtain ⟨_, _, _, h⟩ := q; exact h
  | goto _ => exact q
  | panic _ => exact q.elim
  | outgrown => exact q.elim
end Go.Um
namespace Go.Um
open Go.RowKit
abbrev I (n : Int) : Value := .int .i64 n
abbrev B (b : Bool) : Value := .bool b
abbrev PT (b o : Nat) : Value := .pointer (some ⟨b, o, none⟩)
abbrev In64 (n : Int) : Prop := -9223372036854775808 ≤ n ∧ n ≤ 9223372036854775807
theorem wrap_in {n : Int} (h : In64 n) : IntKind.i64.wrap n = n := by
  obtain ⟨h1, h2⟩ := h
  simp [IntKind.wrap, IntKind.bits, IntKind.signed]
  omega
section
variable {P : Program} {o : Oper} {U : Nat → Prop} {f : Fr} {H : Heap}
theorem q_move {x : Operand} {v : Value} (ho : o.op = .move x) (hx : ev f x = v) : Quiet P o U f H v := by
  intro w _; simp [execOp, ho, hx]
theorem q_assign {x : Operand} {v : Value} (ho : o.op = .assign x) (hx : ev f x = v) : Quiet P o U f H v := by
  intro w _; simp [execOp, ho, hx]
theorem q_pickT {c a b : Operand} {v : Value} (ho : o.op = .pick c a b) (hc : ev f c = .bool true) (hx : ev f a = v) : Quiet P o U f H v := by
  intro w _; simp [execOp, ho, hx, hc, asBool]
theorem q_pickF {c a b : Operand} {v : Value} (ho : o.op = .pick c a b) (hc : ev f c = .bool false) (hx : ev f b = v) : Quiet P o U f H v := by
  intro w _; simp [execOp, ho, hx, hc, asBool]
theorem q_nilCheck {x : Operand} {a : Addr} (ho : o.op = .nilCheck x) (hx : ev f x = .pointer (some a)) : Quiet P o U f H (.pointer (some a)) := by
  intro w _; simp [execOp, ho, hx]
theorem decide_congr_of {p q : Prop} [Decidable p] [Decidable q] (h : p ↔ q) : decide p = decide q := decide_eq_decide.2 h
theorem bool_congr_of {b : Bool} {q : Prop} [Decidable q] (h : b = true ↔ q) : b = decide q := by
  rw [← decide_eq_decide.2 h]; cases b <;> rfl
theorem q_add {t u : TypeId} {x y : Operand} {a b : Int} (ho : o.op = .binOp .add t x y u) (hx : ev f x = I a) (hy : ev f y = I b) (hr : In64 (a + b)) : Quiet P o U f H (I (a + b)) := by
  intro w _; simp [execOp, ho, hx, hy, eqGuard, binOp, Op.intArith, wrap_in hr]
theorem q_sub {t u : TypeId} {x y : Operand} {a b : Int} (ho : o.op = .binOp .sub t x y u) (hx : ev f x = I a) (hy : ev f y = I b) (hr : In64 (a - b)) : Quiet P o U f H (I (a - b)) := by
  intro w _; simp [execOp, ho, hx, hy, eqGuard, binOp, Op.intArith, wrap_in hr]
theorem q_mul {t u : TypeId} {x y : Operand} {a b : Int} (ho : o.op = .binOp .mul t x y u) (hx : ev f x = I a) (hy : ev f y = I b) (hr : In64 (a * b)) : Quiet P o U f H (I (a * b)) := by
  intro w _; simp [execOp, ho, hx, hy, eqGuard, binOp, Op.intArith, wrap_in hr]
theorem q_neg {t : TypeId} {x : Operand} {a : Int} (ho : o.op = .unOp .neg t x) (hx : ev f x = I a) (hr : In64 (-a)) : Quiet P o U f H (I (-a)) := by
  intro w _; simp [execOp, ho, hx, Op.unary, Op.intArith, wrap_in hr]
theorem q_not {t : TypeId} {x : Operand} {a : Bool} (ho : o.op = .unOp .not t x) (hx : ev f x = B a) : Quiet P o U f H (B (!a)) := by
  intro w _; simp [execOp, ho, hx, Op.unary]
theorem q_notP {t : TypeId} {x : Operand} {p : Prop} [Decidable p] (ho : o.op = .unOp .not t x) (hx : ev f x = B (decide p)) : Quiet P o U f H (B (decide (¬ p))) := by
  intro w _; simp [execOp, ho, hx, Op.unary]
theorem q_eql {t u : TypeId} {x y : Operand} {a b : Int} (ho : o.op = .binOp .eql t x y u) (hx : ev f x = I a) (hy : ev f y = I b) : Quiet P o U f H (B (decide (a = b))) := by
  intro w _; simp [execOp, ho, hx, hy, eqGuard, binOp, Op.intCmp]; rfl
theorem q_neq {t u : TypeId} {x y : Operand} {a b : Int} (ho : o.op = .binOp .neq t x y u) (hx : ev f x = I a) (hy : ev f y = I b) : Quiet P o U f H (B (decide (a ≠ b))) := by
  intro w _; simp [execOp, ho, hx, hy, eqGuard, binOp, Op.intCmp, bne]; rfl
theorem q_lss {t u : TypeId} {x y : Operand} {a b : Int} (ho : o.op = .binOp .lss t x y u) (hx : ev f x = I a) (hy : ev f y = I b) : Quiet P o U f H (B (decide (a < b))) := by
  intro w _; simp [execOp, ho, hx, hy, eqGuard, binOp, Op.intCmp]
theorem q_leq {t u : TypeId} {x y : Operand} {a b : Int} (ho : o.op = .binOp .leq t x y u) (hx : ev f x = I a) (hy : ev f y = I b) : Quiet P o U f H (B (decide (a ≤ b))) := by
  intro w _; simp [execOp, ho, hx, hy, eqGuard, binOp, Op.intCmp]
theorem q_gtr {t u : TypeId} {x y : Operand} {a b : Int} (ho : o.op = .binOp .gtr t x y u) (hx : ev f x = I a) (hy : ev f y = I b) : Quiet P o U f H (B (decide (b < a))) := by
  intro w _; simp [execOp, ho, hx, hy, eqGuard, binOp, Op.intCmp]
theorem q_geq {t u : TypeId} {x y : Operand} {a b : Int} (ho : o.op = .binOp .geq t x y u) (hx : ev f x = I a) (hy : ev f y = I b) : Quiet P o U f H (B (decide (b ≤ a))) := by
  intro w _; simp [execOp, ho, hx, hy, eqGuard, binOp, Op.intCmp]
theorem q_eqlB {t u : TypeId} {x y : Operand} {a b : Bool} (ho : o.op = .binOp .eql t x y u) (ht : P.underlying t = some .bool) (hx : ev f x = B a) (hy : ev f y = B b) : Quiet P o U f H (B (decide (a = b))) := by
  intro w _; simp [execOp, ho, hx, hy, eqGuard, binOp, Op.equal, Op.maxDepth, run_equalIn_bool' _ _ _ _ _ ht]; cases a <;> cases b <;> rfl
theorem q_neqB {t u : TypeId} {x y : Operand} {a b : Bool} (ho : o.op = .binOp .neq t x y u) (ht : P.underlying t = some .bool) (hx : ev f x = B a) (hy : ev f y = B b) : Quiet P o U f H (B (decide (a ≠ b))) := by
  intro w _; simp [execOp, ho, hx, hy, eqGuard, binOp, Op.equal, Op.maxDepth, run_equalIn_bool' _ _ _ _ _ ht]; cases a <;> cases b <;> rfl
theorem q_extract {x : Operand} {i : Nat} {vs : Array Value} {v : Value} (ho : o.op = .extract x i) (hx : ev f x = .tuple vs) (hv : vs[i]? = some v) : Quiet P o U f H v := by
  intro w _; simp [execOp, ho, hx, Instr.extract, hv]
theorem q_makeFunc {k : FuncId} {fi ca : Array Operand} {fi' ca' : Array Value} (ho : o.op = .makeFunc (.func k) fi ca) (hf : fi.map (ev f) = fi') (hc : ca.map (ev f) = ca') :
    Quiet P o U f H (.func (.func k) fi' ca') := by
  intro w _; simp [execOp, ho, Instr.makeFunc, hf, hc]
theorem q_len {x : Operand} {t e : TypeId} {a : Option Addr} {n c : Nat} (ho : o.op = .call { callee := .builtin .len, args := #[x], argTypes := #[t] }) (ht : P.underlying t = some (.slice e))
    (hx : ev f x = .slice a n c) : Quiet P o U f H (I n) := by
  intro w _; simp [execOp, ho, hx, resolve, invoke, builtin, Builtin.len_, run_underlying ht, goInt]
end
def hcell (H : Heap) (b o : Nat) : Option Value :=
  match H[b]? with
  | some (.cells c _ _) => c[o]?
  | _ => none
theorem cell_hcell (w : World) (b o : Nat) : w.cell? ⟨b, o, none⟩ = hcell w.heap b o := by
  unfold World.cell? hcell
  cases w.heap[b]? with
  | none => rfl
  | some o => cases o <;> rfl
theorem hcell_lt {H : Heap} {b o : Nat} {v : Value} (h : hcell H b o = some v) : b < H.size := by
  unfold hcell at h
  split at h
  · rename_i hb; exact (Array.getElem?_eq_some_iff.1 hb).1
  · cases h
theorem Ext.hcell {S : Nat → Prop} {H H' : Heap} (h : Ext S H H') {b o : Nat} {v : Value} (hv : hcell H b o = some v) (hs : ¬ S b) : hcell H' b o = some v := by
  unfold Um.hcell at *
  rw [h.same b (hcell_lt hv) hs]
  exact hv
def LoadS (P : Program) (U : Nat → Prop) (H : Heap) (t : TypeId) (b o : Nat) (v : Value) : Prop :=
  ∀ w : World, Ext U H w.heap → (loadVar t ⟨b, o, none⟩).run P w = .ok v w
theorem LoadS.now {P : Program} {U : Nat → Prop} {H : Heap} {t : TypeId} {b o : Nat} {v : Value} (h : LoadS P U H t b o v) : LoadV P H t ⟨b, o, none⟩ v :=
  fun w hw => h w (hw ▸ .refl _ _)
theorem loadS_one {P : Program} {U : Nat → Prop} {H : Heap} {t : TypeId} {b o : Nat} {v : Value} (ha : ∀ w, (isAgg t).run P w = .ok false w)
    (hv : hcell H b o = some v) (hs : ¬ U b) : LoadS P U H t b o v := by
  intro w hw
  have h1 := hw.hcell hv hs
  rw [← cell_hcell] at h1
  simp [loadVar, ha, h1]
theorem add_off (b o j : Nat) : (⟨b, o, none⟩ : Addr).add j = ⟨b, o + j, none⟩ := by
  unfold Addr.add; split <;> simp_all
theorem loadS_agg {P : Program} {U : Nat → Prop} {H : Heap} {t : TypeId} {b o : Nat} (cs : List Value) (ha : ∀ w, (isAgg t).run P w = .ok true w)
    (hz : ∀ w, (sizeOf t).run P w = .ok cs.length w) (hv : ∀ j, j < cs.length → hcell H b (o + j) = cs[j]?) (hs : ¬ U b) : LoadS P U H t b o (.agg cs.toArray) := by
  intro w hw
  have h1 : ∀ j v, cs[j]? = some v → w.cell? ((⟨b, o, none⟩ : Addr).add j) = some v := by
    intro j v hj
    rw [add_off, cell_hcell]
    have hlt : j < cs.length := by
      rcases Nat.lt_or_ge j cs.length with h | h
      · exact h
      · rw [List.getElem?_eq_none h] at hj; cases hj
    exact hw.hcell ((hv j hlt).trans hj) hs
  have h2 := run_loadCells_list (P := P) w ⟨b, o, none⟩ cs h1
  simp [loadVar, ha, hz, h2]
section
variable {P : Program} {o : Oper} {U : Nat → Prop} {f : Fr} {H : Heap}
theorem q_load {t : TypeId} {x : Operand} {b i : Nat} {v : Value} (ho : o.op = .load t x) (hx : ev f x = PT b i) (hl : LoadS P U H t b i v) : Quiet P o U f H v := by
  intro w hw; simp [execOp, ho, hx, Instr.loadAt, Instr.sureAddr, hl w hw]
theorem q_indexAddr {t e : TypeId} {x i : Operand} {b off n c k sz : Nat} {z : Int} (ho : o.op = .indexAddr t x i) (ht : P.underlying t = some (.slice e)) (hz : ∀ w, (sizeOf e).run P w = .ok sz w)
    (hx : ev f x = .slice (some ⟨b, off, none⟩) n c) (hi : ev f i = I z) (hk : z = (k : Int)) (hlt : k < n) : Quiet P o U f H (PT b (off + k * sz)) := by
  intro w _
  subst hk
  have h1 : (0 : Int) ≤ (k : Int) ∧ (k : Int) < (n : Int) := ⟨by omega, by omega⟩
  simp [execOp, ho, hx, hi, Instr.indexAt, asIntOf, run_underlying ht, hz, h1, add_off, hlt]
theorem q_fieldAddr {t : TypeId} {x : Operand} {b off i k : Nat} {fs : Array Field} {fd : Field} (ho : o.op = .fieldAddr t x i) (ht : P.underlying t = some (.struct fs)) (hf : fs[i]? = some fd)
    (hs : ∀ w, (sizeOf fd.type).run P w = .ok (k + 1) w) (hx : ev f x = PT b off) : Quiet P o U f H (PT b (off + fd.offset)) := by
  intro w _
  simp [execOp, ho, hx, Instr.fieldAt, run_underlying ht, hf, Instr.sureAddr, fieldPlace, hs, add_off]
theorem q_build {t : TypeId} {ps : Array (Nat × Operand)} {ps' : Array (Nat × Value)} {v : Value} (ho : o.op = .build t ps) (hp : (ps.map fun (i, x) => (i, ev f x)) = ps')
    (hb : ∀ w, (Instr.build t ps').run P w = .ok v w) : Quiet P o U f H v := by
  intro w _
  simp [execOp, ho, hp, hb]
end
section
variable {P : Program} {o : Oper} {f : Fr} {H : Heap} {next : FP}
theorem e_call {k : FuncId} {xs : Array Operand} {ts : Array TypeId} {args : Array Value} {R : Value → Heap → Prop} (ho : o.op = .call { callee := .value (.func k), args := xs, argTypes := ts })
    (hc : ∀ args w, (callFunc k args).run P w = .ok (.enter k args) w) (hx : xs.map (ev f) = args) (hC : CallsH P k args H R)
    (h : ∀ v H', R v H' → next (updO f o.dst v) H') : OpE P o next f H := by
  intro w hw
  subst hw
  have : (execOp (ev f) o).run P w = .ok (.enter k args) w := by
    simp [execOp, ho, resolve, ev, Deferred.ofValue, invoke, hx, hc]
  rw [this]
  exact ⟨.refl w, hC.mono h⟩
theorem e_callV {k : FuncId} {fo : Operand} {ca : Array Value} {xs : Array Operand} {ts : Array TypeId} {args : Array Value} {R : Value → Heap → Prop} (ho : o.op = .call { callee := .value fo, args := xs, argTypes := ts })
    (hf : ev f fo = .func (.func k) #[] ca) (hc : ∀ args w, (callFunc k args).run P w = .ok (.enter k args) w) (hx : xs.map (ev f) = args) (hC : CallsH P k (args ++ ca) H R)
    (h : ∀ v H', R v H' → next (updO f o.dst v) H') : OpE P o next f H := by
  intro w hw
  subst hw
  have : (execOp (ev f) o).run P w = .ok (.enter k (args ++ ca)) w := by
    simp [execOp, ho, resolve, hf, Deferred.ofValue, invoke, hx, hc]
  rw [this]
  exact ⟨.refl w, hC.mono h⟩
end
section
variable {P : Program} {o : Oper} {U : Nat → Prop} {f : Fr} {H : Heap}
theorem eq2_run {t : TypeId} {f0 f1 : Field} {k0 k1 : IntKind} (ht : P.underlying t = some (.struct #[f0, f1])) (h0 : P.underlying f0.type = some (.int k0)) (h1 : P.underlying f1.type = some (.int k1))
    (b0 : f0.name ≠ "_") (b1 : f1.name ≠ "_") (o0 : f0.offset = 0) (o1 : f1.offset = 1) (a0 : ∀ w, (isAgg f0.type).run P w = .ok false w) (a1 : ∀ w, (isAgg f1.type).run P w = .ok false w)
    (hp : P.stoodInHeld t = false) (a b c d : Int) (w : World) : (Op.equalIn 10000 t (.agg #[I a, I b]) (.agg #[I c, I d])).run P w = .ok (decide (a = c ∧ b = d)) w := by
  have hf : P.fieldsOf t = #[f0, f1] := by simp [Program.fieldsOf, ht]
  rw [show (10000 : Nat) = 9998 + 1 + 1 from rfl, run_equalIn_agg w (9998 + 1) t _ _ (by rw [ht, hf]) hp, hf]
  simp [Op.eqFields, b0, b1, o0, o1, part, a0, a1, run_equalIn_int _ _ _ _ _ _ _ h0, run_equalIn_int _ _ _ _ _ _ _ h1]
  by_cases hac : a = c <;> by_cases hbd : b = d <;> simp [hac, hbd]
theorem q_eqlF2 {t u : TypeId} {x y : Operand} {a b c d : Int} (ho : o.op = .binOp .eql t x y u) (hg : P.eqGuardType P.depth t = false) (hr : ∀ w : World, (Op.equalIn 10000 t (.agg #[I a, I b]) (.agg #[I c, I d])).run P w = .ok (decide (a = c ∧ b = d)) w)
    (hx : ev f x = .agg #[I a, I b]) (hy : ev f y = .agg #[I c, I d]) : Quiet P o U f H (B (decide (a = c ∧ b = d))) := by
  intro w _
  simp only [execOp, ho, hx, hy, Sem.run_bind, run_eqGuard_agg w _ t _ _ _ _ hg, Result.andThen_ok, run_eql_struct w t, hr w]
  rfl
theorem q_neqF2 {t u : TypeId} {x y : Operand} {a b c d : Int} (ho : o.op = .binOp .neq t x y u) (hg : P.eqGuardType P.depth t = false) (hr : ∀ w : World, (Op.equalIn 10000 t (.agg #[I a, I b]) (.agg #[I c, I d])).run P w = .ok (decide (a = c ∧ b = d)) w)
    (hx : ev f x = .agg #[I a, I b]) (hy : ev f y = .agg #[I c, I d]) : Quiet P o U f H (B (decide (¬ (a = c ∧ b = d)))) := by
  intro w _
  simp only [execOp, ho, hx, hy, Sem.run_bind, run_eqGuard_agg w _ t _ _ _ _ hg, Result.andThen_ok, run_neq_struct w t, hr w]
  simp
end
end Go.Um
namespace Go.Um
open Go.RowKit
def nth {α : Type} [Inhabited α] (l : List α) (k : Nat) : α := l.getD k default
def CellsAt (H : Heap) (b off : Nat) (cs : List Value) : Prop := ∀ j, j < cs.length → hcell H b (off + j) = cs[j]?
theorem CellsAt.ext {S : Nat → Prop} {H H' : Heap} {b off : Nat} {cs : List Value} (h : CellsAt H b off cs) (hx : Ext S H H') (hs : ¬ S b) : CellsAt H' b off cs := by
  intro j hj
  have := h j hj
  rw [List.getElem?_eq_getElem hj] at this ⊢
  exact hx.hcell this hs
class GoT (α : Type) extends Inhabited α where
  sz : Nat
  bytes : Nat
  ag : Bool
  rdc : (Nat → Prop) → Heap → List Value → α → Prop
  pos : 0 < sz
  one : ag = false → sz = 1
  len : ∀ {S H cs x}, rdc S H cs x → cs.length = sz
  cell : ∀ {S H cs x}, rdc S H cs x → ∀ v ∈ cs, v.oneCell' = true
  ext : ∀ {S S' : Nat → Prop} {H H' cs x}, rdc S H cs x → Ext S H H' → (∀ b, b < H.size → S' b → S b) → rdc S' H' cs x
open GoT (sz ag rdc)
variable {α β : Type}
def RdCs [GoT α] (S : Nat → Prop) (H : Heap) : List Value → List α → Prop
  | cl, [] => cl = []
  | cl, x :: xs => ∃ c1 c2, cl = c1 ++ c2 ∧ rdc S H c1 x ∧ RdCs S H c2 xs
section
variable [GoT α] {S S' : Nat → Prop} {H H' : Heap}
theorem RdCs.len {xs : List α} : ∀ {cl : List Value}, RdCs S H cl xs → cl.length = xs.length * sz α := by
  induction xs with
  | nil => intro cl h; cases h; simp
  | cons x xs ih =>
    rintro cl ⟨c1, c2, rfl, h1, h2⟩
    simp [ih h2, GoT.len h1, Nat.add_mul, Nat.add_comm]
theorem RdCs.cell {xs : List α} : ∀ {cl : List Value}, RdCs S H cl xs → ∀ v ∈ cl, v.oneCell' = true := by
  induction xs with
  | nil => intro cl h; cases h; simp
  | cons x xs ih =>
    rintro cl ⟨c1, c2, rfl, h1, h2⟩ v hv
    rcases List.mem_append.1 hv with h | h
    · exact GoT.cell h1 v h
    · exact ih h2 v h
theorem RdCs.ext {xs : List α} (hx : Ext S H H') (hs : ∀ b, b < H.size → S' b → S b) : ∀ {cl : List Value}, RdCs S H cl xs → RdCs S' H' cl xs := by
  induction xs with
  | nil => intro cl h; exact h
  | cons x xs ih => rintro cl ⟨c1, c2, rfl, h1, h2⟩; exact ⟨c1, c2, rfl, GoT.ext h1 hx hs, ih h2⟩
theorem RdCs.app {xs ys : List α} {cl dl : List Value} (h : RdCs S H cl xs) (k : RdCs S H dl ys) : RdCs S H (cl ++ dl) (xs ++ ys) := by
  induction xs generalizing cl with
  | nil => cases h; simpa using k
  | cons x xs ih =>
    obtain ⟨c1, c2, rfl, h1, h2⟩ := h
    exact ⟨c1, c2 ++ dl, by simp, h1, ih h2⟩
theorem RdCs.nth {xs : List α} {k : Nat} (hk : k < xs.length) {cl : List Value} (h : RdCs S H cl xs) :
    ∃ cs, rdc S H cs (nth xs k) ∧ ∀ j, j < cs.length → cl[k * sz α + j]? = cs[j]? := by
  induction xs generalizing cl k with
  | nil => simp at hk
  | cons x xs ih =>
    obtain ⟨c1, c2, rfl, h1, h2⟩ := h
    have hl := GoT.len h1
    cases k with
    | zero => refine ⟨c1, by simpa [Um.nth] using h1, fun j hj => ?_⟩; simp [List.getElem?_append_left hj]
    | succ k =>
      obtain ⟨cs, hr, hc⟩ := ih (by simpa using hk) h2
      refine ⟨cs, by simpa [Um.nth] using hr, fun j hj => ?_⟩
      rw [← hc j hj, List.getElem?_append_right (by rw [hl, Nat.succ_mul]; omega)]
      congr 1
      rw [hl, Nat.succ_mul]; omega
theorem RdCs.take {xs : List α} (k : Nat) {cl : List Value} (h : RdCs S H cl xs) : RdCs S H (cl.take (k * sz α)) (xs.take k) := by
  induction xs generalizing cl k with
  | nil => cases h; simp [RdCs]
  | cons x xs ih =>
    obtain ⟨c1, c2, rfl, h1, h2⟩ := h
    have hl := GoT.len h1
    cases k with
    | zero => simp [RdCs]
    | succ k =>
      refine ⟨c1, c2.take (k * sz α), ?_, h1, ih k h2⟩
      rw [List.take_append]
      rw [List.take_of_length_le (by rw [hl, Nat.succ_mul]; omega)]
      congr 2
      rw [hl, Nat.succ_mul]; omega
theorem RdCs.drop {xs : List α} (k : Nat) {cl : List Value} (h : RdCs S H cl xs) : RdCs S H (cl.drop (k * sz α)) (xs.drop k) := by
  induction xs generalizing cl k with
  | nil => cases h; simp [RdCs]
  | cons x xs ih =>
    obtain ⟨c1, c2, rfl, h1, h2⟩ := h
    have hl := GoT.len h1
    cases k with
    | zero => exact ⟨c1, c2, by simp, h1, h2⟩
    | succ k =>
      have := ih k h2
      rw [List.drop_append, List.drop_of_length_le (by rw [hl, Nat.succ_mul]; omega)]
      simp only [List.nil_append, List.drop_succ_cons]
      rw [show (k + 1) * sz α - c1.length = k * sz α from by rw [hl, Nat.succ_mul]; omega]
      exact this
theorem RdCs.one {x : α} {cs : List Value} (h : rdc S H cs x) : RdCs S H cs [x] := ⟨cs, [], by simp, h, rfl⟩
end
def RdL [GoT α] (S : Nat → Prop) (H : Heap) (v : Value) (l : List α) : Prop :=
  ∃ a n c cl, v = .slice a n c ∧ n = l.length ∧ n ≤ c ∧ c ≤ maxLen ∧ l.length * GoT.bytes α ≤ 140737488355328 ∧ RdCs S H cl l ∧
    (l ≠ [] → ∃ b off, a = some ⟨b, off, none⟩ ∧ ¬ S b ∧ CellsAt H b off cl)
theorem RdL.ext [GoT α] {S S' : Nat → Prop} {H H' : Heap} {v : Value} {l : List α} (h : RdL S H v l) (hx : Ext S H H') (hs : ∀ b, b < H.size → S' b → S b) : RdL S' H' v l := by
  obtain ⟨a, n, c, cl, rfl, hn, hc, hm, hb, hcl, hp⟩ := h
  refine ⟨a, n, c, cl, rfl, hn, hc, hm, hb, hcl.ext hx hs, fun hne => ?_⟩
  obtain ⟨b, off, ha, hsb, hcells⟩ := hp hne
  refine ⟨b, off, ha, fun h' => hsb (hs b ?_ h'), hcells.ext hx hsb⟩
  have hlen := hcl.len
  have : 0 < cl.length := by rw [hlen]; exact Nat.mul_pos (List.length_pos_iff.2 hne) (GoT.pos)
  have h0 := hcells 0 this
  rw [List.getElem?_eq_getElem this] at h0
  exact hcell_lt h0
instance instInt : GoT Int where
  sz := 1
  bytes := 8
  ag := false
  rdc _ _ cs x := cs = [I x] ∧ In64 x
  pos := by decide
  one _ := rfl
  len h := by rw [h.1]; rfl
  cell h := by rw [h.1]; simp [Value.oneCell']
  ext h _ _ := h
instance instBool : GoT Bool where
  sz := 1
  bytes := 1
  ag := false
  rdc _ _ cs x := cs = [B x]
  pos := by decide
  one _ := rfl
  len h := by rw [h]; rfl
  cell h := by rw [h]; simp [Value.oneCell']
  ext h _ _ := h
instance instList [GoT α] : GoT (List α) where
  sz := 1
  bytes := 24
  ag := false
  rdc S H cs x := ∃ v, cs = [v] ∧ RdL S H v x
  pos := by decide
  one _ := rfl
  len h := by obtain ⟨v, rfl, _⟩ := h; rfl
  cell h := by obtain ⟨v, rfl, a, n, c, cl, rfl, _⟩ := h; simp [Value.oneCell']
  ext h hx hs := by obtain ⟨v, rfl, h⟩ := h; exact ⟨v, rfl, h.ext hx hs⟩
def valOf (ag : Bool) (cs : List Value) : Value := if ag then .agg cs.toArray else cs.headD undef
def Rd [GoT α] (S : Nat → Prop) (H : Heap) (v : Value) (x : α) : Prop := ∃ cs, rdc S H cs x ∧ v = valOf (ag α) cs
theorem Rd.ext [GoT α] {S S' : Nat → Prop} {H H' : Heap} {v : Value} {x : α} (h : Rd S H v x) (hx : Ext S H H') (hs : ∀ b, b < H.size → S' b → S b) : Rd S' H' v x := by
  obtain ⟨cs, h, rfl⟩ := h
  exact ⟨cs, GoT.ext h hx hs, rfl⟩
theorem Rd.list [GoT α] {S : Nat → Prop} {H : Heap} {v : Value} {l : List α} : Rd S H v l ↔ RdL S H v l := by
  constructor
  · rintro ⟨cs, ⟨v, rfl, h⟩, rfl⟩; exact h
  · intro h; exact ⟨[v], ⟨v, rfl, h⟩, rfl⟩
theorem Rd.int {S : Nat → Prop} {H : Heap} {v : Value} {x : Int} : Rd S H v x ↔ v = I x ∧ In64 x := by
  constructor
  · rintro ⟨cs, ⟨rfl, h⟩, rfl⟩; exact ⟨rfl, h⟩
  · rintro ⟨rfl, h⟩; exact ⟨[I x], ⟨rfl, h⟩, rfl⟩
theorem Rd.bool {S : Nat → Prop} {H : Heap} {v : Value} {x : Bool} : Rd S H v x ↔ v = B x := by
  constructor
  · rintro ⟨cs, rfl, rfl⟩; rfl
  · rintro rfl; exact ⟨[B x], rfl, rfl⟩
structure Ent where
  blocks : Nat → Prop
  ok : (Nat → Prop) → Heap → Prop
  lt : ∀ {S H b}, ok S H → blocks b → b < H.size
  ext : ∀ {S S' : Nat → Prop} {H H' : Heap}, ok S H → H.size ≤ H'.size → (∀ b, b < H.size → (blocks b ∨ ¬ S b) → H'[b]? = H[b]?) →
    (∀ b, b < H.size → S' b → S b) → ok S' H'
def rdE [GoT α] (v : Value) (x : α) : Ent where
  blocks _ := False
  ok S H := Rd S H v x
  lt _ h := h.elim
  ext h hz hs ht := h.ext ⟨hz, fun b hb hn => hs b hb (.inr hn)⟩ ht
def blkE (g : Nat) (o : Obj) : Ent where
  blocks b := b = g
  ok _ H := H[g]? = some o
  lt h hb := by subst hb; exact (Array.getElem?_eq_some_iff.1 h).1
  ext h _ hs _ := by rw [hs g (Array.getElem?_eq_some_iff.1 h).1 (.inl rfl)]; exact h
def rowC (size : Nat) (t : TypeId) (v : Value) (n : Nat) (cl : List Value) (H : Heap) : Prop :=
  (v = .slice none 0 0 ∧ n = 0 ∧ cl = []) ∨
  ∃ g c cur, v = .slice (some ⟨g, 0, none⟩) n c ∧ H[g]? = some (.cells cur t (0, 0)) ∧ n ≤ c ∧ c ≤ maxLen ∧ cur.size = c * size ∧ cur.toList.take (n * size) = cl
def rowOk [GoT α] (t : TypeId) (v : Value) (l : List α) (S : Nat → Prop) (H : Heap) : Prop :=
  l.length * GoT.bytes α ≤ 140737488355328 ∧ ∃ cl, RdCs S H cl l ∧ rowC (sz α) t v l.length cl H
def rowB (v : Value) (b : Nat) : Prop := v.ownBlock = some b
theorem rowC.lt {size : Nat} {t : TypeId} {v : Value} {n : Nat} {cl : List Value} {H : Heap} (h : rowC size t v n cl H) {b : Nat} (hb : rowB v b) : b < H.size := by
  rcases h with ⟨rfl, _⟩ | ⟨g, c, cur, rfl, hg, _⟩
  · simp [rowB, Value.ownBlock] at hb
  · simp only [rowB, Value.ownBlock, Option.some.injEq] at hb; subst hb; exact (Array.getElem?_eq_some_iff.1 hg).1
theorem rowC.ext {size : Nat} {t : TypeId} {v : Value} {n : Nat} {cl : List Value} {H H' : Heap} (h : rowC size t v n cl H) (hs : ∀ b, b < H.size → rowB v b → H'[b]? = H[b]?) : rowC size t v n cl H' := by
  rcases h with h | ⟨g, c, cur, rfl, hg, hh⟩
  · exact .inl h
  · refine .inr ⟨g, c, cur, rfl, ?_, hh⟩
    rw [hs g (Array.getElem?_eq_some_iff.1 hg).1 (by simp [rowB, Value.ownBlock])]
    exact hg
def rowE [GoT α] (t : TypeId) (v : Value) (l : List α) : Ent where
  blocks := rowB v
  ok S H := rowOk t v l S H
  lt h hb := by obtain ⟨_, cl, _, h⟩ := h; exact h.lt hb
  ext h hz hs ht := by
    obtain ⟨hb, cl, hcl, hh⟩ := h
    exact ⟨hb, cl, hcl.ext ⟨hz, fun b hb hn => hs b hb (.inr hn)⟩ ht, hh.ext fun b hb hr => hs b hb (.inl hr)⟩
end Go.Um
namespace Go.Um
open GoT (sz ag rdc)
open Go.RowKit Go.ChangeShapes Go.WideShapes Go.ChangeAt
class LimT (α : Type) where
  lim : α → Prop
open LimT (lim)
instance limInt : LimT Int := ⟨fun _ => True⟩
instance limBool : LimT Bool := ⟨fun _ => True⟩
instance limList {α : Type} [GoT α] [LimT α] : LimT (List α) := ⟨fun l => l.length * GoT.bytes α ≤ 140737488351232 ∧ ∀ x ∈ l, lim x⟩
structure OpT (P : Program) (t : TypeId) (α : Type) [GoT α] [LimT α] : Prop where
  go : ∀ {H : Type} {enc : TypeId × Value → H} {w : World} {base : Nat} {spare : Nat → Bool} {held : Bool} {fuel : Nat} {cs : List Value} {x : DataW H × List MemPlace},
    DataW.trod enc P w base spare held fuel t cs = some x → (x.1.weights P t).all (· ≤ reachBytes) = true → ∃ y : α, rdc NoB w.heap cs y ∧ lim y
  val : ∀ {w : World} {base : Nat} {v : Value}, Value.okWide P w .any base t v → v = valOf (ag α) v.cells.toList
theorem opInt {P : Program} {t : TypeId} (ht : P.underlying t = some (.int .i64)) : OpT P t Int where
  go h _ := by
    obtain ⟨n, hn, _, hw⟩ := DataW.trod_int ht h
    refine ⟨n, ⟨hn, ?_⟩, trivial⟩
    simp only [Lit.wf, Bool.and_eq_true, decide_eq_true_eq] at hw
    simpa [IntKind.min, IntKind.max, IntKind.bits, IntKind.signed, In64] using hw
  val h := by
    simp only [Value.okWide, ht, Cell.okWide, Cell.ok] at h
    split at h <;> simp_all [valOf, Value.cells, ag]
theorem hcell_add {w : World} {a : Addr} {n : Nat} {v : Value} (h : w.cell? (a.add n) = some v) : hcell w.heap a.block (a.off + n) = some v := by
  have h2 : w.cell? ⟨a.block, a.off + n, none⟩ = some v := by
    by_cases hn : n = 0
    · subst hn
      simp only [Addr.add, if_true] at h
      unfold World.cell? at h ⊢
      split at h
      · rename_i hb
        split at h
        · cases h
        · rw [hb]; simpa using h
      · cases h
    · simpa [Addr.add, hn] using h
  rw [← cell_hcell]; exact h2
theorem spot_add {w : World} {a : Addr} {v : Value} (h : w.cell? (a.add 0) = some v) : a.spot = none := by
  simp only [Addr.add, if_true] at h
  unfold World.cell? at h
  split at h
  · split at h
    · cases h
    · rename_i h1; simpa using h1
  · cases h
theorem weightsAll_mem {H : Type} {P : Program} {e : TypeId} {d : DataW H} : ∀ {ds : List (DataW H)}, d ∈ ds → ∀ n ∈ d.weights P e, n ∈ DataW.weightsAll P e ds
  | d0 :: ds, hd, n, hn => by
    simp only [DataW.weightsAll, List.mem_append]
    rcases List.mem_cons.1 hd with rfl | hd
    · exact .inl hn
    · exact .inr (weightsAll_mem hd n hn)
theorem opList {P : Program} {t e : TypeId} {α : Type} [GoT α] [LimT α] (ht : P.underlying t = some (.slice e)) (he : OpT P e α) (hs : P.cellsOf e = sz α) (hb : P.bytesOf e = GoT.bytes α) : OpT P t (List α) where
  go h hw := by
    rename_i H enc w base spare held fuel cs x
    rcases DataW.trod_slice ht h with ⟨rfl, rfl⟩ | ⟨a, len, cap, elems, rest, n, _, rfl, rfl, hb0, hl, hm, hlen, hel, _, _⟩
    · exact ⟨[], ⟨_, rfl, none, 0, 0, [], rfl, rfl, Nat.le_refl _, Nat.zero_le _, by simp, rfl, fun h => absurd rfl h⟩, by simp, fun x hx => by cases hx⟩
    · have hw' : ∀ m ∈ ((elems.length + rest.length) * P.bytesOf e) :: (DataW.weightsAll P e (elems.map (·.1)) ++ DataW.weightsAll P e (rest.map (·.1))), m ≤ reachBytes := by
        intro m hm'
        have := List.all_eq_true.1 hw m (by simpa [DataW.weights, ht] using hm')
        simpa using this
      have key : ∀ m, m ≤ len → ∃ (xs : List α) (cl : List Value), xs.length = m ∧ RdCs NoB w.heap cl xs ∧ CellsAt w.heap a.block a.off cl ∧ (0 < m → a.spot = none) ∧ ∀ x ∈ xs, lim x := by
        intro m
        induction m with
        | zero => intro _; exact ⟨[], [], rfl, rfl, fun j hj => absurd hj (by simp), fun h => absurd h (by simp), fun x hx => by cases hx⟩
        | succ m ih =>
          intro hm1
          obtain ⟨xs, cl, h1, h2, h3, h4, h5⟩ := ih (by omega)
          have hi := hel m (by omega)
          obtain ⟨y, hy⟩ : ∃ y, elems[m]? = some y := ⟨elems[m]'(by omega), List.getElem?_eq_getElem (by omega)⟩
          rw [hy, Option.bind_eq_some_iff] at hi
          obtain ⟨cs', hcs, hty⟩ := hi
          obtain ⟨_, hcl, hc⟩ := World.cells?_some hcs
          obtain ⟨x', hx', hlx⟩ := he.go hty (by
            rw [List.all_eq_true]
            intro k hk
            refine decide_eq_true (hw' k ?_)
            refine List.mem_cons_of_mem _ (List.mem_append_left _ (weightsAll_mem (d := y.1) ?_ k hk))
            exact List.mem_map.2 ⟨y, List.mem_of_getElem? hy, rfl⟩)
          have hlc := h2.len
          have hcell : ∀ i, i < cs'.length → hcell w.heap a.block (a.off + m * sz α + i) = cs'[i]? := by
            intro i hi
            have := hc i (by omega)
            rw [List.getElem?_eq_getElem hi] at this ⊢
            have := hcell_add this
            by_cases h0 : m * P.cellsOf e = 0
            · rw [h0] at this; rw [← hs, h0]; simpa [Addr.add] using this
            · rw [← hs]; simpa [Addr.add, h0] using this
          refine ⟨xs ++ [x'], cl ++ cs', by simp [h1], h2.app (RdCs.one hx'), ?_, ?_, fun x hx => by
            rcases List.mem_append.1 hx with hx | hx
            · exact h5 x hx
            · rw [List.mem_singleton.1 hx]; exact hlx⟩
          · intro j hj
            by_cases hjl : j < cl.length
            · rw [List.getElem?_append_left hjl]; exact h3 j hjl
            · rw [List.getElem?_append_right (by omega)]
              rw [List.length_append] at hj
              have := hcell (j - cl.length) (by omega)
              rw [← this, show a.off + m * sz α + (j - cl.length) = a.off + j from by rw [hlc, h1] at hjl ⊢; omega]
          · intro _
            by_cases hm0 : 0 < m
            · exact h4 hm0
            · have hm00 : m = 0 := by omega
              subst hm00
              have hp : 0 < cs'.length := by rw [hcl, hs]; exact GoT.pos
              have := hc 0 (by omega)
              rw [List.getElem?_eq_getElem hp, Nat.zero_mul] at this
              exact spot_add (by simpa [Addr.add] using this)
      obtain ⟨xs, cl, h1, h2, h3, h4, hlim⟩ := key len (Nat.le_refl _)
      have hbnd : xs.length * GoT.bytes α ≤ 140737488351232 := by
        have := hw' _ (List.mem_cons_self ..)
        rw [hb] at this
        have h5 : xs.length * GoT.bytes α ≤ (elems.length + rest.length) * GoT.bytes α := Nat.mul_le_mul_right _ (by omega)
        have h6 : reachBytes ≤ 140737488351232 := by decide
        omega
      refine ⟨xs, ⟨_, rfl, some a, len, cap, cl, rfl, h1.symm, hl, hm, ?_, h2, fun hne => ?_⟩, hbnd, hlim⟩
      · have := hw' _ (List.mem_cons_self ..)
        rw [hb] at this
        have h5 : xs.length * GoT.bytes α ≤ (elems.length + rest.length) * GoT.bytes α := Nat.mul_le_mul_right _ (by omega)
        have h6 : reachBytes ≤ 140737488355328 := by decide
        omega
      · have hp : 0 < len := by rw [← h1]; exact List.length_pos_iff.2 hne
        obtain ⟨b, o, s⟩ := a
        have hs' : s = none := h4 hp
        subst hs'
        exact ⟨b, o, rfl, fun h => h, h3⟩
  val h := by
    simp only [Value.okWide, ht, Cell.okWide, Cell.ok] at h
    split at h <;> simp_all [valOf, Value.cells, ag]
theorem OpT.rd {P : Program} {t : TypeId} {α : Type} [GoT α] [LimT α] (ho : OpT P t α) {H : Type} {enc : TypeId × Value → H} {W : World} {base b0 : Nat} {spare : Nat → Bool} {held : Bool} {v : Value} {d : DataW H} {p : List MemPlace}
    (hv : Value.okWide P W .any b0 t v) (h : DataW.Trod enc P W base spare held t v d p) (hw : (d.weights P t).all (· ≤ reachBytes) = true) : ∃ y : α, Rd NoB W.heap v y ∧ lim y := by
  obtain ⟨fuel, hf⟩ := h
  obtain ⟨y, hy, hl⟩ := ho.go hf hw
  exact ⟨y, ⟨_, hy, ho.val hv⟩, hl⟩
theorem trodAll_stays {P : Program} (hl : laidOutB P = true) {H : Type} {enc : TypeId × Value → H} {W W' : World} {sp : Nat → Bool} :
    ∀ {ts : List TypeId} {vs : List Value} {ds : List (DataW H)} {ps : List MemPlace}, (∀ t ∈ ts, P.readableRec t = true ∧ t < P.types.size) →
      DataW.TrodAll enc P W 0 (fun _ => true) true ts vs ds ps → (∀ p ∈ ps, W.sameAt W' p) → (∀ p ∈ ps, sp p.block = true) → DataW.TrodAll enc P W' 0 sp true ts vs ds ps := by
  intro ts
  induction ts with
  | nil => intro vs ds ps _ h _ _; cases vs <;> cases ds <;> simp_all [DataW.TrodAll]
  | cons t ts ih =>
    intro vs ds ps hr h hs hp
    cases vs with
    | nil => simp [DataW.TrodAll] at h
    | cons v vs =>
      cases ds with
      | nil => simp [DataW.TrodAll] at h
      | cons d ds =>
        obtain ⟨p, q, h1, h2, rfl⟩ := h
        refine ⟨p, q, ?_, ?_, rfl⟩
        · obtain ⟨hr1, hr2⟩ := hr t (List.mem_cons_self ..)
          exact WideElems.Trod_stays hl hr1 hr2 h1 (fun x hx => hs x (List.mem_append_left _ hx)) (fun x hx => hp x (List.mem_append_left _ hx))
        · exact ih (fun t ht => hr t (List.mem_cons_of_mem _ ht)) h2 (fun x hx => hs x (List.mem_append_right _ hx)) (fun x hx => hp x (List.mem_append_right _ hx))
theorem below_of {W W' : World} (ha : Amb W W') (hx : Ext NoB W.heap W'.heap) : Below W.heap.size W W' :=
  ⟨ha.os, ha.tape, ha.output, hx.size, fun k hk => hx.same k hk (fun h => h)⟩
theorem post_law {P : Program} {H : Type} {enc : TypeId × Value → H} {f : Func} {s : ChangeSpec} {W W' : World} {args : Array Value} {ds : List (DataW H)} {before : List MemPlace} {tb : TypeId} {apart : Bool}
    (hl : laidOutB P = true) (hW : DataW.Whole enc P f.params.toList s.vars apart W args.toList ds [] before) (hv : s.vars = [])
    (hr : ∀ t ∈ f.params.toList, P.readableRec t = true ∧ t < P.types.size) (hrt : f.resultTypes = #[tb]) (hub : P.underlying tb = some .bool)
    (hres : (s.fn H (ds ++ [])).results = [.lit (.bool true)]) (hargs : (s.fn H (ds ++ [])).args = ds) (hvars : (s.fn H (ds ++ [])).vars = [])
    (ha : Amb W W') (hx : Ext NoB W.heap W'.heap) : s.post enc P f apart true false false W args (B true) W' := by
  have hb := below_of ha hx
  obtain ⟨p, q, h1, h2, rfl, h3, h4⟩ := id hW
  rw [hv] at h2
  obtain ⟨_, rfl⟩ := trodVars_none h2
  have hlt := hW.lt
  refine ⟨ds, [], _, [], p, [], hW, ?_, ?_, ?_, hb.frame _, fun h => by cases h⟩
  · rw [hres, hrt]
    exact ⟨[], [], ⟨1, by simp [Value.cells, DataW.trod, hub]⟩, rfl, rfl⟩
  · rw [hargs]
    exact trodAll_stays hl hr h1 (fun x hx => hb.same (hlt x (by simpa using hx))) (fun x hx => by simpa using hlt x (by simpa using hx))
  · rw [hvars, hv]; rfl
theorem weights_cut {H : Type} {P : Program} {ts : List TypeId} {ds : List (DataW H)} (h : (DataW.weightsEach P ts ds).all (· ≤ reachBytes) = true) {j : Nat} {t : TypeId} {d : DataW H} (ht : ts[j]? = some t) (hd : ds[j]? = some d) :
    (d.weights P t).all (· ≤ reachBytes) = true := by
  rw [List.all_eq_true] at h ⊢
  exact fun n hn => h n (DataW.weights_mem_each ht hd n hn)
end Go.Um
namespace Go.Um
open GoT (sz ag rdc)
open Go.RowKit
def SL (S0 : Nat → Prop) (L : List Ent) : Nat → Prop := fun b => S0 b ∨ ∃ e ∈ L, e.blocks b
structure St (H0 : Heap) (M S0 : Nat → Prop) (L : List Ent) (H : Heap) : Prop where
  size : H0.size ≤ H.size
  old : ∀ b, b < H0.size → ¬ M b → H[b]? = H0[b]?
  ok : ∀ e ∈ L, e.ok (SL S0 L) H
  ge : ∀ e ∈ L, ∀ b, e.blocks b → (H0.size ≤ b ∨ M b) ∧ ¬ S0 b
  dj : L.Pairwise fun e e' => ∀ b, e.blocks b → ¬ e'.blocks b
  s0 : ∀ b, S0 b → b < H0.size
section
variable {H0 H H' : Heap} {M S0 : Nat → Prop} {L L' : List Ent}
theorem SL.lt (h : St H0 M S0 L H) {b : Nat} (hb : SL S0 L b) : b < H.size := by
  rcases hb with hb | ⟨e, he, hb⟩
  · exact Nat.lt_of_lt_of_le (h.s0 b hb) h.size
  · exact e.lt (h.ok e he) hb
theorem St.start (hs0 : ∀ b, S0 b → b < H.size) : St H M S0 [] H :=
  ⟨Nat.le_refl _, fun _ _ _ => rfl, by simp, by simp, List.Pairwise.nil, hs0⟩
theorem St.ext (h : St H0 M S0 L H) (hx : Ext NoB H H') : St H0 M S0 L H' where
  size := Nat.le_trans h.size hx.size
  old b hb hm := (hx.same b (Nat.lt_of_lt_of_le hb h.size) id).trans (h.old b hb hm)
  ok e he := e.ext (h.ok e he) hx.size (fun b hb _ => hx.same b hb id) (fun _ _ hb => hb)
  ge := h.ge
  dj := h.dj
  s0 := h.s0
theorem St.drop (h : St H0 M S0 L H) (hs : L'.Sublist L) : St H0 M S0 L' H where
  size := h.size
  old := h.old
  ok e he := e.ext (h.ok e (hs.subset he)) (Nat.le_refl _) (fun _ _ _ => rfl) (fun b _ hb => by
    rcases hb with hb | ⟨e, he, hb⟩
    · exact .inl hb
    · exact .inr ⟨e, hs.subset he, hb⟩)
  ge e he := h.ge e (hs.subset he)
  dj := h.dj.sublist hs
  s0 := h.s0
theorem St.perm (h : St H0 M S0 L H) (hp : L.Perm L') : St H0 M S0 L' H where
  size := h.size
  old := h.old
  ok e he := e.ext (h.ok e (hp.mem_iff.2 he)) (Nat.le_refl _) (fun _ _ _ => rfl) (fun b _ hb => by
    rcases hb with hb | ⟨e, he, hb⟩
    · exact .inl hb
    · exact .inr ⟨e, hp.mem_iff.2 he, hb⟩)
  ge e he := h.ge e (hp.mem_iff.2 he)
  dj := hp.pairwise h.dj fun {_ _} hxy b h2 h1 => hxy b h1 h2
  s0 := h.s0
theorem St.cons0 (h : St H0 M S0 L H) (e : Ent) (he : ∀ b, ¬ e.blocks b) (hok : e.ok (SL S0 L) H) : St H0 M S0 (e :: L) H := by
  have hsub : ∀ b, SL S0 (e :: L) b → SL S0 L b := by
    rintro b (hb | ⟨e', he', hb⟩)
    · exact .inl hb
    · rcases List.mem_cons.1 he' with rfl | h'
      · exact (he b hb).elim
      · exact .inr ⟨e', h', hb⟩
  refine ⟨h.size, h.old, ?_, ?_, ?_, h.s0⟩
  · intro e' he'
    rcases List.mem_cons.1 he' with rfl | h'
    · exact Ent.ext _ hok (Nat.le_refl _) (fun _ _ _ => rfl) (fun b _ hb => hsub b hb)
    · exact e'.ext (h.ok e' h') (Nat.le_refl _) (fun _ _ _ => rfl) (fun b _ hb => hsub b hb)
  · intro e' he' b hb
    rcases List.mem_cons.1 he' with rfl | h'
    · exact (he b hb).elim
    · exact h.ge e' h' b hb
  · exact List.Pairwise.cons (fun e' _ b hb => (he b hb).elim) h.dj
theorem St.rd {α : Type} [GoT α] (h : St H0 M S0 L H) {v : Value} {x : α} (hr : Rd (SL S0 L) H v x) : St H0 M S0 (rdE v x :: L) H :=
  h.cons0 (rdE v x) (fun _ hb => hb) hr
theorem St.alloc (h : St H0 M S0 L H) (o : Obj) : St H0 M S0 (blkE H.size o :: L) (H.push o) := by
  have h1 := h.ext (Ext.push NoB H o)
  have hne : ∀ e ∈ L, ∀ b, e.blocks b → b < H.size := fun e he b hb => e.lt (h.ok e he) hb
  refine ⟨h1.size, h1.old, ?_, ?_, ?_, h.s0⟩
  · intro e he
    rcases List.mem_cons.1 he with rfl | h'
    · show (H.push o)[H.size]? = some o
      simp
    · refine e.ext (h.ok e h') (by simp) (fun b hb _ => by rw [Array.getElem?_push, if_neg (by omega)]) ?_
      rintro b hb (h2 | ⟨e', he', h2⟩)
      · exact .inl h2
      · rcases List.mem_cons.1 he' with rfl | h''
        · have : b = H.size := h2
          omega
        · exact .inr ⟨e', h'', h2⟩
  · intro e he b hb
    rcases List.mem_cons.1 he with rfl | h'
    · have : b = H.size := hb
      subst this
      exact ⟨.inl h.size, fun hs => by have := h.s0 _ hs; have := h.size; omega⟩
    · exact h.ge e h' b hb
  · refine List.Pairwise.cons (fun e' he' b hb hb' => ?_) h.dj
    have : b = H.size := hb
    have := hne e' he' b hb'
    omega
theorem St.upd0 {e e' : Ent} (h : St H0 M S0 (e :: L) H) (hz : H.size ≤ H'.size) (hsame : ∀ b, b < H.size → ¬ e.blocks b → H'[b]? = H[b]?)
    (hbl : ∀ b, e'.blocks b → e.blocks b ∨ H.size ≤ b) (hok : e'.ok (SL S0 (e' :: L)) H') : St H0 M S0 (e' :: L) H' := by
  have hL : ∀ e2 ∈ L, ∀ b, e2.blocks b → ¬ e.blocks b := fun e2 h2 b hb hb' => (List.pairwise_cons.1 h.dj).1 e2 h2 b hb' hb
  refine ⟨Nat.le_trans h.size hz, ?_, ?_, ?_, ?_, h.s0⟩
  · intro b hb hm
    rw [hsame b (Nat.lt_of_lt_of_le hb h.size) ?_]
    · exact h.old b hb hm
    · intro he
      rcases (h.ge e (by simp) b he).1 with h1 | h1
      · omega
      · exact hm h1
  · intro e2 he2
    rcases List.mem_cons.1 he2 with rfl | h2
    · exact hok
    · refine e2.ext (h.ok e2 (by simp [h2])) hz ?_ ?_
      · rintro b hb (h3 | h3)
        · exact hsame b hb (hL e2 h2 b h3)
        · exact hsame b hb fun he => h3 (.inr ⟨e, by simp, he⟩)
      · rintro b hb (h3 | ⟨e3, he3, h3⟩)
        · exact .inl h3
        · rcases List.mem_cons.1 he3 with rfl | h4
          · rcases hbl b h3 with h5 | h5
            · exact .inr ⟨e, by simp, h5⟩
            · omega
          · exact .inr ⟨e3, by simp [h4], h3⟩
  · intro e2 he2 b hb
    rcases List.mem_cons.1 he2 with rfl | h2
    · rcases hbl b hb with h3 | h3
      · exact h.ge e (by simp) b h3
      · have := h.size
        exact ⟨.inl (by omega), fun hs => by have := h.s0 _ hs; omega⟩
    · exact h.ge e2 (by simp [h2]) b hb
  · refine List.Pairwise.cons (fun e2 h2 b hb hb' => ?_) (List.pairwise_cons.1 h.dj).2
    rcases hbl b hb with h3 | h3
    · exact hL e2 h2 b hb' h3
    · have := e2.lt (h.ok e2 (by simp [h2])) hb'
      omega
theorem St.frame (h : St H0 NoB S0 L H) : Ext NoB H0 H := ⟨h.size, fun b hb _ => h.old b hb id⟩
theorem St.result {α : Type} [GoT α] (h : St H0 M S0 L H) {v : Value} {x : α} (hr : Rd (SL S0 L) H v x) : Rd S0 H v x :=
  hr.ext (.refl _ _) fun _ _ hb => .inl hb
theorem St.head {e : Ent} (h : St H0 M S0 (e :: L) H) : e.ok (SL S0 (e :: L)) H := h.ok e (by simp)
theorem St.get {e : Ent} (h : St H0 M S0 L H) (k : Nat) (hk : L[k]? = some e) : e.ok (SL S0 L) H := h.ok e (List.mem_of_getElem? hk)
theorem St.front {e : Ent} (h : St H0 M S0 L H) (k : Nat) (hk : L[k]? = some e) : St H0 M S0 (e :: L.eraseIdx k) H := by
  refine h.perm ?_
  obtain ⟨hlt, rfl⟩ := List.getElem?_eq_some_iff.1 hk
  clear h hk
  induction L generalizing k with
  | nil => simp at hlt
  | cons a L ih =>
    cases k with
    | zero => simp
    | succ k =>
      simp only [List.eraseIdx_cons_succ, List.getElem_cons_succ]
      exact (List.Perm.cons a (ih k (by simpa using hlt))).trans (List.Perm.swap _ _ _)
end
end Go.Um
namespace Go.Um
open GoT (sz ag rdc)
open Go.RowKit
section
variable {α : Type} [GoT α] {P : Program} {o : Oper} {f : Fr} {H0 H : Heap} {M S0 : Nat → Prop} {L : List Ent} {next : FP}
theorem rowOk.nil {t : TypeId} {S : Nat → Prop} : rowOk t (.slice none 0 0) ([] : List α) S H := ⟨by simp, [], rfl, .inl ⟨rfl, rfl, rfl⟩⟩
theorem St.row0 (h : St H0 M S0 L H) (t : TypeId) : St H0 M S0 (rowE t (.slice none 0 0) ([] : List α) :: L) H :=
  h.cons0 _ (fun b hb => by simp [rowE, rowB, Value.ownBlock] at hb) rowOk.nil
theorem rowC.rd {size : Nat} {t : TypeId} {v : Value} {n : Nat} {cl : List Value} (h : rowC size t v n cl H) :
    ∃ a c, v = .slice a n c ∧ n ≤ c ∧ c ≤ maxLen ∧ (cl ≠ [] → ∃ g, a = some ⟨g, 0, none⟩ ∧ rowB v g ∧ CellsAt H g 0 cl) := by
  rcases h with ⟨rfl, rfl, rfl⟩ | ⟨g, c, cur, rfl, hg, hc, hm, hz, ht⟩
  · exact ⟨none, 0, rfl, Nat.le_refl _, by simp [maxLen], fun h => (h rfl).elim⟩
  · refine ⟨_, c, rfl, hc, hm, fun _ => ⟨g, rfl, by simp [rowB, Value.ownBlock], ?_⟩⟩
    intro j hj
    rw [← ht] at hj ⊢
    simp only [hcell, hg, Nat.zero_add]
    rw [List.getElem?_take]
    simp only [List.length_take] at hj
    rw [if_pos (by omega)]
    simp
theorem RdCs.ne {S : Nat → Prop} {cl : List Value} {l : List α} (h : RdCs S H cl l) (hl : l ≠ []) : cl ≠ [] := by
  intro h0
  have h1 := h.len
  rw [h0] at h1
  have := Nat.mul_pos (List.length_pos_iff.2 hl) (GoT.pos (α := α))
  simp only [List.length_nil] at h1
  omega
theorem rowOk.rdL {t : TypeId} {v : Value} {xs : List α} {S S' : Nat → Prop} (h : rowOk t v xs S H) (hs : ∀ b, S' b → S b) (hb : ∀ b, rowB v b → ¬ S' b) : RdL S' H v xs := by
  obtain ⟨hby, cl, hcl, hr⟩ := h
  obtain ⟨a, c, hv, hc, hm, hp⟩ := hr.rd
  refine ⟨a, _, c, cl, hv, rfl, hc, hm, hby, hcl.ext (.refl _ _) (fun b _ hb => hs b hb), fun hne => ?_⟩
  obtain ⟨g, rfl, hg, hcells⟩ := hp (hcl.ne hne)
  exact ⟨g, 0, rfl, hb g hg, hcells⟩
theorem St.fin {t : TypeId} {v : Value} {xs : List α} (h : St H0 M S0 (rowE t v xs :: L) H) : St H0 M S0 (rdE v xs :: L) H := by
  refine h.upd0 (Nat.le_refl _) (fun _ _ _ => rfl) (fun b hb => hb.elim) ?_
  refine Rd.list.2 (rowOk.rdL (h.head) ?_ ?_)
  · rintro b (hb | ⟨e, he, hb⟩)
    · exact .inl hb
    · rcases List.mem_cons.1 he with rfl | h'
      · exact hb.elim
      · exact .inr ⟨e, List.mem_cons_of_mem _ h', hb⟩
  · rintro b hb (hs | ⟨e, he, hb'⟩)
    · exact (h.ge _ (List.mem_cons_self ..) b hb).2 hs
    · rcases List.mem_cons.1 he with rfl | h'
      · exact hb'.elim
      · exact (List.pairwise_cons.1 h.dj).1 e h' b hb hb'
theorem St.look {t : TypeId} {v : Value} {xs : List α} {k : Nat} (h : St H0 M S0 L H) (hk : L[k]? = some (rowE t v xs)) : Rd NoB H v xs :=
  Rd.list.2 (rowOk.rdL (h.get k hk) (fun _ h => h.elim) (fun _ _ h => h))
theorem St.lookR {v : Value} {x : α} {k : Nat} (h : St H0 M S0 L H) (hk : L[k]? = some (rdE v x)) : Rd (SL S0 L) H v x := h.get k hk
theorem Rd.no {S : Nat → Prop} {v : Value} {x : α} (h : Rd S H v x) : Rd NoB H v x := h.ext (.refl _ _) fun _ _ h => h.elim
theorem Rd.sub {S S' : Nat → Prop} {v : Value} {x : α} (h : Rd S H v x) (hs : ∀ b, S' b → S b) : Rd S' H v x := h.ext (.refl _ _) fun b _ h => hs b h
theorem St.rdLast {v : Value} {x : α} (h : St H0 M S0 L H) {S : Nat → Prop} (hr : Rd S H v x) (hs : ∀ b, SL S0 L b → S b) : St H0 M S0 (rdE v x :: L) H := h.rd (hr.sub hs)
theorem rowB_own {v : Value} {b : Nat} : rowB v b ↔ some b = v.ownBlock := by unfold rowB; exact eq_comm
theorem Ext.ofGrown {w w' : World} {v : Value} (h : w.grownBy w' v.ownBlock) : Ext (rowB v) w.heap w'.heap :=
  ⟨h.size, fun b hb hn => h.block b hb fun he => hn (rowB_own.2 he)⟩
structure ElemOk (P : Program) (α : Type) [GoT α] (e : TypeId) : Prop where
  info : ∃ i z, P.info? e = some i ∧ i.zero = some z ∧ i.size = sz α ∧ i.bytes = GoT.bytes α ∧ z.cells.size = sz α
theorem run_append_zero {t ty e : TypeId} {i : TypeInfo} (w : World) (ht : P.underlying t = some (.slice e)) (hi : P.info? e = some i) (b a : Option Addr) (n c c' : Nat) (hn : n ≤ c) :
    (Builtin.append_ #[t, t] ty #[.slice b n c, .slice a 0 c']).run P w = .ok (.slice b n c) w := by
  cases a <;> cases b <;> simp [Builtin.append_, run_underlying ht, sizeOf, typeInfo, hi, Builtin.lenOf, hn, Builtin.firstCells, loadCells, loadCellsFrom, storeCells]
theorem zeroCells_size (z : Array Value) (n : Nat) : (Builtin.zeroCells z n).size = n * z.size := by simp [Builtin.zeroCells]
theorem run_append_mine {t ty e : TypeId} {v : Value} {n : Nat} {cl : List Value} (w : World) (ht : P.underlying t = some (.slice e)) (hE : ElemOk P α e) (h : rowC (sz α) e v n cl w.heap)
    (hcl : cl.length = n * sz α)
    (a : Option Addr) (m c : Nat) (news : List Value) (hl : news.length = m * sz α) (hnews : m ≠ 0 → ∃ ad, a = some ad ∧ ∀ j u, news[j]? = some u → w.cell? (ad.add j) = some u)
    (h1 : ∀ u ∈ news, u.oneCell' = true) (hb : (n + m) * GoT.bytes α ≤ 140737488355328) (h63 : n + m ≤ maxLen) :
    ∃ v' w', (Builtin.append_ #[t, t] ty #[v, .slice a m c]).run P w = .ok v' w' ∧ rowC (sz α) e v' (n + m) (cl ++ news) w'.heap ∧ w.grownBy w' v.ownBlock ∧
      (∀ b, rowB v' b → rowB v b ∨ w.heap.size ≤ b) := by
  obtain ⟨i, z, hi, hz, hiz, hiby, hzz⟩ := hE.info
  have h63' : n + m ≤ 9223372036854775807 := by simp only [maxLen] at h63; omega
  by_cases hm : m = 0
  · subst hm
    have : news = [] := List.eq_nil_of_length_eq_zero (by simpa using hl)
    subst this
    refine ⟨v, w, ?_, by simpa using h, ⟨rfl, rfl, rfl, Nat.le_refl _, fun _ _ _ => rfl⟩, fun b hb => .inl hb⟩
    rcases h with ⟨rfl, rfl, rfl⟩ | ⟨g, cc, cur, rfl, hg, hc, hm, hz, ht'⟩
    · exact run_append_zero w ht hi none a 0 0 c (Nat.le_refl _)
    · exact run_append_zero w ht hi _ a _ cc c hc
  · obtain ⟨ad, rfl, hn⟩ := hnews hm
    have grown : ∀ old, old < n + m → ∀ row : Option Nat,
        rowC (sz α) e (.slice (some ⟨w.heap.size, 0, none⟩) (n + m) (grownCap w (n + m) old e)) (n + m) (cl ++ news)
          (w.drew.alloc (.cells (cl.toArray ++ news.toArray ++ Builtin.zeroCells z.cells (grownCap w (n + m) old e - (n + m))) e)).heap ∧
        w.grownBy (w.drew.alloc (.cells (cl.toArray ++ news.toArray ++ Builtin.zeroCells z.cells (grownCap w (n + m) old e - (n + m))) e)) row := by
      intro old ho row
      have hge := grownCap_ge w (n + m) old e
      have hcm : grownCap w (n + m) old e ≤ maxLen := grownCap_le_maxLen w (n + m) old e h63
      have hlen : (cl ++ news).length = (n + m) * sz α := by rw [List.length_append, hcl, hl, Nat.add_mul]
      refine ⟨.inr ⟨w.heap.size, _, _, rfl, heap_alloc_new w.drew _, hge, hcm, ?_, ?_⟩, ⟨rfl, rfl, rfl, by simp, fun k hk _ => Below.heap_alloc w.drew _ k hk⟩⟩
      · simp only [Array.size_append, List.size_toArray, zeroCells_size, hzz, hcl, hl, ← Nat.add_mul]
        congr 1
        omega
      · simp only [Array.toList_append, List.append_assoc]
        rw [← List.append_assoc, ← hlen]
        exact List.take_left
    rcases h with ⟨rfl, rfl, rfl⟩ | ⟨g, cap, cur, rfl, hg, hnc, hcm, hcs, htake⟩
    · have hr := run_append_nil (P := P) w t ty e i z ht hi hz ad m c news (by rw [hl, hiz]) hn (by omega) (by omega) (by rw [hiby]; have hb := hb; simp only [Nat.zero_add] at hb; omega)
      have hgr := grown 0 (by omega) (Value.ownBlock (.slice none 0 0))
      simp only [Nat.zero_add, List.nil_append, Array.empty_append] at hgr ⊢
      refine ⟨_, _, hr, hgr.1, hgr.2, fun b hb => ?_⟩
      simp only [rowB, Value.ownBlock, Option.some.injEq] at hb
      subst hb
      exact .inr (Nat.le_refl _)
    · by_cases hroom : n + m ≤ cap
      · have hfit : n * i.size + news.length ≤ cur.size := by rw [hl, hcs, hiz, ← Nat.add_mul]; exact Nat.mul_le_mul_right _ hroom
        have hr := run_append_room (P := P) w t ty e i ht hi g n cap cur hg ad m c news (by rw [hl, hiz]) hn h1 hroom hfit
        refine ⟨_, _, hr, .inr ⟨g, cap, _, rfl, setRow_heap w g cur _ e _ hg, hroom, hcm, ?_, ?_⟩, ⟨rfl, rfl, rfl, by simp, fun k _ hk => setRow_other w g k _ (fun e => hk (by simp [Value.ownBlock, e]))⟩, ?_⟩
        · simp only [List.size_toArray, List.length_append, List.length_take, List.length_drop, Array.length_toList]
          omega
        · rw [hiz, htake]
          have hlen : (cl ++ news).length = (n + m) * sz α := by rw [List.length_append, hcl, hl, Nat.add_mul]
          rw [← hlen]
          exact List.take_left
        · intro b hb
          simp only [rowB, Value.ownBlock] at hb ⊢
          exact .inl hb
      · have holds : ∀ j u, cl[j]? = some u → w.cell? ((⟨g, 0, none⟩ : Addr).add j) = some u := by
          intro j u hu
          rw [add_off, cell_hcell]
          simp only [hcell, hg, Nat.zero_add]
          rw [← htake, List.getElem?_take] at hu
          split at hu
          · simpa using hu
          · cases hu
        have hr := run_append_grow (P := P) w t ty e i z ht hi hz ⟨g, 0, none⟩ n cap cl (by rw [hcl, hiz]) holds ad m c news (by rw [hl, hiz]) hn (by omega) (by omega) (growslice_fits (by omega) (by rw [hiby]; exact hb))
        have hgr := grown cap (by omega) (Value.ownBlock (.slice (some ⟨g, 0, none⟩) n cap))
        refine ⟨_, _, hr, hgr.1, hgr.2, fun b hb => ?_⟩
        simp only [rowB, Value.ownBlock, Option.some.injEq] at hb
        subst hb
        exact .inr (Nat.le_refl _)
theorem SL.upd {e e' : Ent} (_h : St H0 M S0 (e :: L) H) (hbl : ∀ b, e'.blocks b → e.blocks b ∨ H.size ≤ b) {b : Nat} (hb : b < H.size) (hs : SL S0 (e' :: L) b) : SL S0 (e :: L) b := by
  rcases hs with hs | ⟨e2, he2, hs⟩
  · exact .inl hs
  · rcases List.mem_cons.1 he2 with rfl | h2
    · rcases hbl b hs with h3 | h3
      · exact .inr ⟨e, List.mem_cons_self .., h3⟩
      · omega
    · exact .inr ⟨e2, List.mem_cons_of_mem _ h2, hs⟩
theorem bytes_pos_len {n : Nat} (hb : n * GoT.bytes α ≤ 140737488355328) (hp : 0 < GoT.bytes α) : n ≤ maxLen := by
  have : n ≤ n * GoT.bytes α := Nat.le_mul_of_pos_right _ hp
  simp only [maxLen]; omega
theorem e_append {s x : Operand} {t e : TypeId} {v sv : Value} {xs ys : List α} {S : Nat → Prop} (ho : o.op = .call { callee := .builtin .append, args := #[s, x], argTypes := #[t, t] })
    (ht : P.underlying t = some (.slice e)) (hE : ElemOk P α e) (hsv : ev f s = v) (hxv : ev f x = sv) (h : St H0 M S0 (rowE e v xs :: L) H)
    (hr : Rd S H sv ys) (hS : ∀ b, SL S0 (rowE e v xs :: L) b → S b) (hb : (xs.length + ys.length) * GoT.bytes α ≤ 140737488355328) (hp : 0 < GoT.bytes α)
    (hK : ∀ v' H', St H0 M S0 (rowE e v' (xs ++ ys) :: L) H' → Ext (rowB v) H H' → next (updO f o.dst v') H') : OpE P o next f H := by
  intro w hw
  subst hw
  obtain ⟨hby0, cl, hcl, hrow⟩ := h.head
  obtain ⟨a, n, c, dl, rfl, hn, hnc, hcm, hby, hdl, hpp⟩ := Rd.list.1 (hr.sub hS)
  subst hn
  obtain ⟨v', w', hrun, hrow', hg, hbl⟩ := run_append_mine (P := P) (ty := o.type) w ht hE hrow hcl.len a ys.length c dl hdl.len (by
    intro hne
    obtain ⟨b, off, rfl, _, hcells⟩ := hpp (fun h0 => hne (by rw [h0]; rfl))
    refine ⟨_, rfl, fun j u hj => ?_⟩
    rw [add_off, cell_hcell]
    have hlt : j < dl.length := by
      rcases Nat.lt_or_ge j dl.length with h | h
      · exact h
      · rw [List.getElem?_eq_none h] at hj; cases hj
    rw [hcells j hlt, hj]) hdl.cell hb (bytes_pos_len hb hp)
  have : (execOp (ev f) o).run P w = .ok (.value v') w' := by
    simp [execOp, ho, resolve, invoke, builtin, hsv, hxv, hrun]
  rw [this]
  refine ⟨⟨hg.os, hg.tape, hg.output⟩, hK _ _ ?_ (.ofGrown hg)⟩
  refine h.upd0 hg.size (fun b hb hn => hg.block b hb fun he => hn (rowB_own.2 he)) hbl ?_
  have hx : Ext (SL S0 (rowE e v xs :: L)) w.heap w'.heap := (Ext.ofGrown hg).mono fun b hb => .inr ⟨_, List.mem_cons_self .., hb⟩
  refine ⟨by rw [List.length_append]; exact hb, cl ++ dl, RdCs.app (hcl.ext hx fun b hb => SL.upd h hbl hb) (hdl.ext hx fun b hb => SL.upd h hbl hb), ?_⟩
  rw [List.length_append]
  exact hrow'
def Bl0 (L : List Ent) : Prop := ∀ e ∈ L, ∀ b, ¬ e.blocks b
theorem Bl0.nil : Bl0 [] := by simp [Bl0]
theorem Bl0.cons {v : Value} {x : α} (h : Bl0 L) : Bl0 (rdE v x :: L) := by
  intro e he b hb
  rcases List.mem_cons.1 he with rfl | h'
  · exact hb
  · exact h e h' b hb
theorem St.arg {v : Value} {x : α} {S : Nat → Prop} (h : St H0 M S0 L H) (hn : Bl0 L) (hr : Rd S H v x) (hs : ∀ b, S0 b → S b) : St H0 M S0 (rdE v x :: L) H :=
  h.rdLast hr fun b hb => by
    rcases hb with hb | ⟨e, he, hb⟩
    · exact hs b hb
    · exact (hn e he b hb).elim
theorem St.res {v : Value} {x : α} {H' : Heap} (h : St H0 M S0 L H) (hx : Ext NoB H H') (hr : Rd (fun b => SL S0 L b ∧ b < H.size) H' v x) : St H0 M S0 (rdE v x :: L) H' :=
  (h.ext hx).rd (hr.sub fun b hb => ⟨hb, SL.lt h hb⟩)
end
end Go.Um
namespace Go.Um
open GoT (sz ag rdc)
open Go.RowKit
theorem labU_sub {ul : List (List Nat)} {blk : Nat → Nat → Prop} {q : Nat} {S : Nat → Prop} (ls : List Nat) (hu : ul.getD q [] = ls) (h : ∀ l ∈ ls, ∀ b, blk l b → S b) : ∀ b, labU ul blk q b → S b := by
  rintro b ⟨l, hl, hb⟩
  rw [hu] at hl
  exact h l hl b hb
theorem labU_not {ul : List (List Nat)} {blk : Nat → Nat → Prop} {q b : Nat} (ls : List Nat) (hu : ul.getD q [] = ls) (h : ∀ l ∈ ls, ¬ blk l b) : ¬ labU ul blk q b := by
  rintro ⟨l, hl, hb⟩
  rw [hu] at hl
  exact h l hl hb
theorem labS_of {lab : List (Option Nat)} {blk : Nat → Nat → Prop} {i : Nat} {S : Nat → Prop} (l : Nat) (h : lab[i]? = some (some l)) (hs : ∀ b, S b → blk l b) : ∀ b, S b → labS lab blk i b := fun b hb => ⟨l, h, hs b hb⟩
def eptr (s : Nat) (v : Value) (k : Nat) : Value :=
  match v with
  | .slice (some a) _ _ => .pointer (some ⟨a.block, a.off + k * s, none⟩)
  | _ => undef
def sliceV (s : Nat) (v : Value) (k m : Nat) : Value :=
  match v with
  | .slice a _ c => .slice (if c = k then a else a.map (·.add (k * s))) (m - k) (c - k)
  | _ => undef
def ElT (P : Program) (α : Type) [GoT α] (t : TypeId) : Prop := (∀ w, (isAgg t).run P w = .ok (ag α) w) ∧ ∀ w, (sizeOf t).run P w = .ok (sz α) w
def LoadE (P : Program) (U : Nat → Prop) (H : Heap) (t : TypeId) (s : Nat) (v : Value) (k : Nat) (u : Value) : Prop :=
  ∃ b off n c, v = .slice (some ⟨b, off, none⟩) n c ∧ LoadS P U H t b (off + k * s) u
section
variable {α : Type} [GoT α] {P : Program} {o : Oper} {U S : Nat → Prop} {f : Fr} {H H0 : Heap} {M S0 : Nat → Prop} {L : List Ent} {next : FP}
theorem St.rdl {v : Value} {l : List α} (h : St H0 M S0 L H) (k : Nat) (hk : L[k]? = some (rdE v l)) : RdL NoB H v l := Rd.list.1 (h.lookR hk).no
theorem St.rowl {t : TypeId} {v : Value} {l : List α} (h : St H0 M S0 L H) (k : Nat) (hk : L[k]? = some (rowE t v l)) : RdL NoB H v l := Rd.list.1 (h.look hk)
theorem St.rdS {v : Value} {x : α} (h : St H0 M S0 L H) (k : Nat) (hk : L[k]? = some (rdE v x)) : Rd (SL S0 L) H v x := h.lookR hk
theorem St.rdN {v : Value} {x : α} (h : St H0 M S0 L H) (k : Nat) (hk : L[k]? = some (rdE v x)) : Rd NoB H v x := (h.lookR hk).no
theorem St.rowN {t : TypeId} {v : Value} {l : List α} (h : St H0 M S0 L H) (k : Nat) (hk : L[k]? = some (rowE t v l)) : Rd NoB H v l := h.look hk
theorem St.blk {g : Nat} {ob : Obj} (h : St H0 M S0 L H) (k : Nat) (hk : L[k]? = some (blkE g ob)) : H[g]? = some ob := h.get k hk
theorem RdL.sub {v : Value} {l : List α} {S' : Nat → Prop} (h : RdL S H v l) (hs : ∀ b, S' b → S b) : RdL S' H v l := h.ext (.refl _ _) fun b _ h => hs b h
theorem RdL.bound {v : Value} {l : List α} (h : RdL S H v l) : l.length * GoT.bytes α ≤ 140737488355328 := by
  obtain ⟨a, n, c, cl, rfl, hn, hc, hm, hb, _⟩ := h; exact hb
theorem RdL.small {v : Value} {l : List α} (h : RdL S H v l) : l.length ≤ 9223372036854775807 := by
  obtain ⟨a, n, c, cl, rfl, hn, hc, hm, hb, _⟩ := h; simp only [maxLen] at hm; omega
theorem q_lenRd {x : Operand} {t e : TypeId} {v : Value} {l : List α} (ho : o.op = .call { callee := .builtin .len, args := #[x], argTypes := #[t] }) (ht : P.underlying t = some (.slice e))
    (hx : ev f x = v) (hR : RdL S H v l) : Quiet P o U f H (I l.length) := by
  obtain ⟨a, n, c, cl, rfl, hn, _⟩ := hR
  subst hn
  exact q_len ho ht hx
theorem q_indexRd {t e : TypeId} {x i : Operand} {v : Value} {l : List α} {z : Int} {k : Nat} (ho : o.op = .indexAddr t x i) (ht : P.underlying t = some (.slice e)) (hE : ElT P α e)
    (hx : ev f x = v) (hi : ev f i = I z) (hR : RdL S H v l) (hk : z = (k : Int)) (hlt : k < l.length) : Quiet P o U f H (eptr (sz α) v k) := by
  obtain ⟨a, n, c, cl, rfl, hn, hnc, hcm, hby, hcl, hp⟩ := hR
  obtain ⟨b, off, rfl, hsb, hcells⟩ := hp (fun h0 => by rw [h0] at hlt; simp at hlt)
  exact q_indexAddr ho ht hE.2 hx hi hk (by omega)
theorem RdL.loadS {v : Value} {l : List α} {k : Nat} (hR : RdL S H v l) (hlt : k < l.length) : ∃ cs, rdc S H cs (nth l k) ∧
    ∀ (P : Program) (t : TypeId) (U : Nat → Prop), ElT P α t → (∀ b, U b → S b) → LoadE P U H t (sz α) v k (valOf (ag α) cs) := by
  obtain ⟨a, n, c, cl, rfl, hn, hnc, hcm, hby, hcl, hp⟩ := hR
  obtain ⟨b, off, rfl, hsb, hcells⟩ := hp (fun h0 => by rw [h0] at hlt; simp at hlt)
  obtain ⟨cs, hr, hc⟩ := hcl.nth hlt
  have hlen := GoT.len hr
  refine ⟨cs, hr, fun P t U hE hU => ⟨b, off, n, c, rfl, ?_⟩⟩
  have hcell : ∀ j, j < cs.length → hcell H b (off + k * sz α + j) = cs[j]? := by
    intro j hj
    rw [← hc j hj, Nat.add_assoc]
    refine hcells _ ?_
    rw [hcl.len]
    have : (k + 1) * sz α ≤ l.length * sz α := Nat.mul_le_mul_right _ (by omega)
    rw [Nat.succ_mul] at this
    omega
  cases hag : ag α with
  | true =>
    have h1 := loadS_agg (P := P) (U := U) (H := H) (t := t) (b := b) (o := off + k * sz α) cs (by rw [← hag]; exact hE.1) (by rw [hlen]; exact hE.2) hcell (fun h => hsb (hU b h))
    simpa [valOf] using h1
  | false =>
    have h1 := GoT.one hag
    match cs, hlen, hcell with
    | [], hlen, _ => rw [h1] at hlen; cases hlen
    | c0 :: rest, hlen, hcell =>
      have h0 := hcell 0 (by simp)
      exact loadS_one (by rw [← hag]; exact hE.1) (by simpa [valOf] using h0) (fun h => hsb (hU b h))
theorem RdL.elem {v : Value} {l : List α} (hR : RdL S H v l) (k : Nat) (hlt : k < l.length) : ∃ u, Rd S H u (nth l k) ∧
    ∀ (P : Program) (t : TypeId) (U : Nat → Prop), ElT P α t → (∀ b, U b → S b) → LoadE P U H t (sz α) v k u := by
  obtain ⟨cs, hr, h⟩ := hR.loadS hlt
  exact ⟨_, ⟨cs, hr, rfl⟩, h⟩
theorem q_loadE {t : TypeId} {x : Operand} {s k : Nat} {v u : Value} (ho : o.op = .load t x) (hx : ev f x = eptr s v k) (hl : LoadE P U H t s v k u) : Quiet P o U f H u := by
  obtain ⟨b, off, n, c, rfl, hl⟩ := hl
  exact q_load ho hx hl
theorem q_loadInt {t : TypeId} {x : Operand} {v : Value} {l : List Int} {k : Nat} (ho : o.op = .load t x) (hx : ev f x = eptr 1 v k) (hE : ElT P Int t) (hR : RdL S H v l) (hlt : k < l.length)
    (hU : ∀ b, U b → S b) : Quiet P o U f H (I (nth l k)) := by
  obtain ⟨u, hu, hl⟩ := hR.elem k hlt
  obtain ⟨rfl, _⟩ := Rd.int.1 hu
  exact q_loadE ho hx (hl P t U hE hU)
theorem RdL.in64 {v : Value} {l : List Int} (hR : RdL S H v l) {k : Nat} (hlt : k < l.length) : In64 (nth l k) := by
  obtain ⟨u, hu, _⟩ := hR.elem k hlt
  exact (Rd.int.1 hu).2
theorem q_loadBlk {t t' : TypeId} {x : Operand} {g i : Nat} {cs : Array Value} {fr : Nat × Nat} {v : Value} (ho : o.op = .load t x) (hx : ev f x = PT g i) (hE : ∀ w, (isAgg t).run P w = .ok false w)
    (hb : H[g]? = some (.cells cs t' fr)) (hv : cs[i]? = some v) (hU : ¬ U g) : Quiet P o U f H v :=
  q_load ho hx (loadS_one hE (by simp [hcell, hb, hv]) hU)
theorem q_loadBlkA {t t' : TypeId} {x : Operand} {g n : Nat} {cs : Array Value} {fr : Nat × Nat} (ho : o.op = .load t x) (hx : ev f x = PT g 0) (hE : ∀ w, (isAgg t).run P w = .ok true w)
    (hz : ∀ w, (sizeOf t).run P w = .ok n w) (hn : cs.size = n) (hb : H[g]? = some (.cells cs t' fr)) (hU : ¬ U g) : Quiet P o U f H (.agg cs) := by
  have := loadS_agg (P := P) (U := U) (H := H) (t := t) (b := g) (o := 0) cs.toList hE (by simpa [hn] using hz) (fun j _ => by simp [hcell, hb]) hU
  exact q_load ho hx (by simpa using this)
theorem loadV_blkA {t t' : TypeId} {g n : Nat} {cs : Array Value} {fr : Nat × Nat} (hE : ∀ w, (isAgg t).run P w = .ok true w)
    (hz : ∀ w, (sizeOf t).run P w = .ok n w) (hn : cs.size = n) (hb : H[g]? = some (.cells cs t' fr)) : LoadV P H t ⟨g, 0, none⟩ (.agg cs) := by
  have := loadS_agg (P := P) (U := NoB) (H := H) (t := t) (b := g) (o := 0) cs.toList hE (by simpa [hn] using hz) (fun j _ => by simp [hcell, hb]) (fun h => h)
  simpa using this.now
theorem sliceV_rd {v : Value} {l : List α} {k m : Nat} (hR : RdL S H v l) (hk : k ≤ m) (hm : m ≤ l.length) : RdL S H (sliceV (sz α) v k m) ((l.take m).drop k) := by
  obtain ⟨a, n, c, cl, rfl, hn, hnc, hcm, hby, hcl, hp⟩ := hR
  refine ⟨_, _, _, (cl.take (m * sz α)).drop (k * sz α), rfl, by simp [List.length_take, Nat.min_eq_left hm], by omega, by omega, ?_, (hcl.take m).drop k, fun hne => ?_⟩
  · refine Nat.le_trans (Nat.mul_le_mul_right _ ?_) hby
    simp only [List.length_drop, List.length_take]; omega
  · have hlt : k < m := by
      rcases Nat.lt_or_ge k m with h | h
      · exact h
      · exact (hne (List.drop_of_length_le (by simp only [List.length_take]; omega))).elim
    obtain ⟨b, off, rfl, hsb, hcells⟩ := hp (fun h0 => by rw [h0] at hm; simp at hm; omega)
    refine ⟨b, off + k * sz α, by rw [if_neg (by omega)]; simp [add_off], hsb, ?_⟩
    intro j hj
    have hl := hcl.len
    simp only [List.length_drop, List.length_take] at hj
    rw [Nat.add_assoc, hcells _ (by omega), List.getElem?_drop, List.getElem?_take, if_pos (by omega)]
theorem sliceV_hi {v : Value} {l : List α} {m : Nat} (hR : RdL S H v l) (hm : m ≤ l.length) : RdL S H (sliceV (sz α) v 0 m) (l.take m) := by
  have := sliceV_rd (k := 0) (m := m) hR (Nat.zero_le _) hm
  rwa [List.drop_zero] at this
theorem q_sliceRd {t e : TypeId} {x : Operand} {lo hi : Option Operand} {v : Value} {l : List α} {k m : Nat} (ho : o.op = .slice t x lo hi none) (ht : P.underlying t = some (.slice e)) (hE : ElT P α e)
    (hx : ev f x = v) (hR : RdL S H v l) (hlo : (lo = none ∧ k = 0) ∨ ∃ y z, lo = some y ∧ ev f y = I z ∧ z = (k : Int)) (hhi : (hi = none ∧ m = l.length) ∨ ∃ y z, hi = some y ∧ ev f y = I z ∧ z = (m : Int))
    (hk : k ≤ m) (hm : m ≤ l.length) : Quiet P o U f H (sliceV (sz α) v k m) := by
  obtain ⟨a, n, c, cl, rfl, hn, hnc, hcm, hby, hcl, hp⟩ := hR
  subst hn
  intro w _
  have hz := hE.2
  have hmc : m ≤ c := by omega
  have e1 : (m : Int) ≤ (c : Int) := by omega
  have e2 : (k : Int) ≤ (m : Int) := by omega
  have e3 : (k : Int) ≤ (l.length : Int) := by omega
  rcases hlo with ⟨rfl, rfl⟩ | ⟨y, z, rfl, hy, rfl⟩ <;> rcases hhi with ⟨rfl, rfl⟩ | ⟨y', z', rfl, hy', rfl⟩ <;>
    simp [execOp, ho, hx, Instr.sliceAt, Instr.slice, Instr.sliceBounds, Instr.sliceBound, asIntOf, run_underlying ht, hz, sliceV, *]
theorem lo0 : ((none : Option Operand) = none ∧ 0 = 0) ∨ ∃ y z, (none : Option Operand) = some y ∧ ev f y = I z ∧ z = ((0 : Nat) : Int) := .inl ⟨rfl, rfl⟩
theorem lo1 {y : Operand} {z : Int} {k n : Nat} (hy : ev f y = I z) (hz : z = (k : Int)) : (some y = none ∧ k = n) ∨ ∃ y' z', some y = some y' ∧ ev f y' = I z' ∧ z' = (k : Int) := .inr ⟨y, z, rfl, hy, hz⟩
theorem hi0 {n : Nat} : ((none : Option Operand) = none ∧ n = n) ∨ ∃ y z, (none : Option Operand) = some y ∧ ev f y = I z ∧ z = (n : Int) := .inl ⟨rfl, rfl⟩
theorem e_alloc {t : TypeId} {z : Value} (ho : o.op = .alloc t) (hz : ∀ w, (zeroValue t).run P w = .ok z w) (h : St H0 M S0 L H)
    (hK : ∀ g H', St H0 M S0 (blkE g (.cells z.cells t) :: L) H' → Ext NoB H H' → next (updO f o.dst (PT g 0)) H') : OpE P o next f H := by
  intro w hw
  subst hw
  have : (execOp (ev f) o).run P w = .ok (.value (PT w.heap.size 0)) { w with heap := w.heap.push (.cells z.cells t) } := by
    simp [execOp, ho, Instr.alloc, hz, newVar, newRow, newObj, Sem.run]
  rw [this]
  exact ⟨⟨rfl, rfl, rfl⟩, hK _ _ (h.alloc _) (Ext.push _ _ _)⟩
theorem e_box {t : TypeId} {x : Operand} {v : Value} (ho : o.op = .box t x) (hx : ev f x = v) (h : St H0 M S0 L H)
    (hK : ∀ g H', St H0 M S0 (blkE g (.cells v.cells t) :: L) H' → Ext NoB H H' → next (updO f o.dst (PT g 0)) H') : OpE P o next f H := by
  intro w hw
  subst hw
  have : (execOp (ev f) o).run P w = .ok (.value (PT w.heap.size 0)) { w with heap := w.heap.push (.cells v.cells t) } := by
    simp [execOp, ho, hx, Instr.box, newVar, newRow, newObj, Sem.run]
  rw [this]
  exact ⟨⟨rfl, rfl, rfl⟩, hK _ _ (h.alloc _) (Ext.push _ _ _)⟩
theorem setCell_heap {w : World} {g i : Nat} {cs : Array Value} {t : TypeId} {fr : Nat × Nat} {v : Value} (hb : w.heap[g]? = some (.cells cs t fr)) :
    (w.setCell ⟨g, i, none⟩ v).heap[g]? = some (.cells (cs.setIfInBounds i v) t fr) := by
  simp [World.setCell, Array.getElem?_modify, hb]
theorem setCell_other {w : World} {g i b : Nat} {v : Value} (hne : b ≠ g) : (w.setCell ⟨g, i, none⟩ v).heap[b]? = w.heap[b]? := by
  simp only [World.setCell, Array.getElem?_modify]
  rw [if_neg (fun h => hne h.symm)]
theorem e_storeBlk {t t' : TypeId} {x y : Operand} {g i : Nat} {cs : Array Value} {v : Value} (ho : o.op = .store t x y) (hx : ev f x = PT g i) (hy : ev f y = v) (hv : v.oneCell' = true)
    (hz : ∀ w, (sizeOf t).run P w = .ok 1 w) (hi : i < cs.size) (h : St H0 M S0 (blkE g (.cells cs t') :: L) H)
    (hK : ∀ H', St H0 M S0 (blkE g (.cells (cs.setIfInBounds i v) t') :: L) H' → Ext (fun b => b = g) H H' → next (updO f o.dst undef) H') : OpE P o next f H := by
  intro w hw
  subst hw
  have hb : w.heap[g]? = some (.cells cs t' (0, 0)) := h.head
  have hc : w.cell? ⟨g, i, none⟩ = some cs[i] := by rw [cell_hcell]; simp [hcell, hb, Array.getElem?_eq_getElem hi]
  have hf : w.frozen? ⟨g, i, none⟩ = false := by simp [World.frozen?, hb]
  have hvc : v.cells = #[v] := by cases v <;> first | rfl | simp [Value.oneCell'] at hv
  have : (execOp (ev f) o).run P w = .ok .skip (w.setCell ⟨g, i, none⟩ v) := by
    have hadd : (⟨g, i, none⟩ : Addr).add 0 = ⟨g, i, none⟩ := by simp [add_off]
    simp [execOp, ho, hx, hy, Instr.storeAt, Instr.sureAddr, storeVar, hvc, hz, storeCells, hadd, run_store, hc, hf, hv]
  rw [this]
  have hsz : (w.setCell ⟨g, i, none⟩ v).heap.size = w.heap.size := by simp [World.setCell]
  have hsame : ∀ b, b < w.heap.size → ¬ b = g → (w.setCell ⟨g, i, none⟩ v).heap[b]? = w.heap[b]? := fun b _ hne => setCell_other hne
  refine ⟨⟨rfl, rfl, rfl⟩, hK _ (h.upd0 (by rw [hsz]; exact Nat.le_refl _) hsame (fun b hb => .inl hb) (setCell_heap hb)) ⟨by rw [hsz]; exact Nat.le_refl _, hsame⟩⟩
theorem arr0 : (#[] : Array Operand).map (ev f) = #[] := by simp
theorem par0 : (#[] : Array (Nat × Operand)).map (fun (i, x) => (i, ev f x)) = #[] := by simp
theorem arr1 {s0 : Operand} {v0 : Value} (h0 : ev f s0 = v0) : (#[s0] : Array Operand).map (ev f) = #[v0] := by subst h0; simp
theorem par1 {j0 : Nat} {s0 : Operand} {v0 : Value} (h0 : ev f s0 = v0) : (#[(j0, s0)] : Array (Nat × Operand)).map (fun (i, x) => (i, ev f x)) = #[(j0, v0)] := by subst h0; simp
theorem arr2 {s0 s1 : Operand} {v0 v1 : Value} (h0 : ev f s0 = v0) (h1 : ev f s1 = v1) : (#[s0, s1] : Array Operand).map (ev f) = #[v0, v1] := by subst h0 h1; simp
theorem par2 {j0 j1 : Nat} {s0 s1 : Operand} {v0 v1 : Value} (h0 : ev f s0 = v0) (h1 : ev f s1 = v1) : (#[(j0, s0), (j1, s1)] : Array (Nat × Operand)).map (fun (i, x) => (i, ev f x)) = #[(j0, v0), (j1, v1)] := by subst h0 h1; simp
theorem arr3 {s0 s1 s2 : Operand} {v0 v1 v2 : Value} (h0 : ev f s0 = v0) (h1 : ev f s1 = v1) (h2 : ev f s2 = v2) : (#[s0, s1, s2] : Array Operand).map (ev f) = #[v0, v1, v2] := by subst h0 h1 h2; simp
theorem par3 {j0 j1 j2 : Nat} {s0 s1 s2 : Operand} {v0 v1 v2 : Value} (h0 : ev f s0 = v0) (h1 : ev f s1 = v1) (h2 : ev f s2 = v2) : (#[(j0, s0), (j1, s1), (j2, s2)] : Array (Nat × Operand)).map (fun (i, x) => (i, ev f x)) = #[(j0, v0), (j1, v1), (j2, v2)] := by subst h0 h1 h2; simp
theorem arr4 {s0 s1 s2 s3 : Operand} {v0 v1 v2 v3 : Value} (h0 : ev f s0 = v0) (h1 : ev f s1 = v1) (h2 : ev f s2 = v2) (h3 : ev f s3 = v3) : (#[s0, s1, s2, s3] : Array Operand).map (ev f) = #[v0, v1, v2, v3] := by subst h0 h1 h2 h3; simp
theorem par5 {j0 j1 j2 j3 j4 : Nat} {s0 s1 s2 s3 s4 : Operand} {v0 v1 v2 v3 v4 : Value} (h0 : ev f s0 = v0) (h1 : ev f s1 = v1) (h2 : ev f s2 = v2) (h3 : ev f s3 = v3) (h4 : ev f s4 = v4) : (#[(j0, s0), (j1, s1), (j2, s2), (j3, s3), (j4, s4)] : Array (Nat × Operand)).map (fun (i, x) => (i, ev f x)) = #[(j0, v0), (j1, v1), (j2, v2), (j3, v3), (j4, v4)] := by subst h0 h1 h2 h3 h4; simp
theorem arr6 {s0 s1 s2 s3 s4 s5 : Operand} {v0 v1 v2 v3 v4 v5 : Value} (h0 : ev f s0 = v0) (h1 : ev f s1 = v1) (h2 : ev f s2 = v2) (h3 : ev f s3 = v3) (h4 : ev f s4 = v4) (h5 : ev f s5 = v5) : (#[s0, s1, s2, s3, s4, s5] : Array Operand).map (ev f) = #[v0, v1, v2, v3, v4, v5] := by subst h0 h1 h2 h3 h4 h5; simp
theorem q_max {x y : Operand} {ts : Array TypeId} {a b : Int} (ho : o.op = .call { callee := .builtin .max, args := #[x, y], argTypes := ts }) (hx : ev f x = I a) (hy : ev f y = I b) : Quiet P o U f H (I (max a b)) := by
  intro w _
  have : (if b > a then b else a) = max a b := by split <;> omega
  simp [execOp, ho, hx, hy, resolve, invoke, builtin, Builtin.max_, Builtin.max2, this]
theorem oneCell_rdL {v : Value} {l : List α} (h : RdL S H v l) : v.oneCell' = true := by
  obtain ⟨a, n, c, cl, rfl, _⟩ := h; rfl
theorem e_storeBlkA {t t' : TypeId} {x y : Operand} {g n : Nat} {cs cs' : Array Value} (ho : o.op = .store t x y) (hx : ev f x = PT g 0) (hy : ev f y = .agg cs')
    (hz : ∀ w, (sizeOf t).run P w = .ok n w) (hn : cs'.size = n) (hn2 : cs.size = n) (hv : ∀ v ∈ cs'.toList, v.oneCell' = true) (h : St H0 M S0 (blkE g (.cells cs t') :: L) H)
    (hK : ∀ H', St H0 M S0 (blkE g (.cells cs' t') :: L) H' → Ext (fun b => b = g) H H' → next (updO f o.dst undef) H') : OpE P o next f H := by
  intro w hw
  subst hw
  have hb : w.heap[g]? = some (.cells cs t' (0, 0)) := h.head
  have hst := run_storeCells_at P g 0 t' cs'.toList 0 cs w hb (by simp [hn, hn2]) hv
  have hset : cs.toList.take (0 + 0) ++ cs'.toList ++ cs.toList.drop (0 + 0 + cs'.toList.length) = cs'.toList := by
    simp [hn, ← hn2]
  have hrun : (execOp (ev f) o).run P w = .ok .skip (w.setRow g cs') := by
    simp only [hset, Array.toArray_toList] at hst
    have hcells : (Value.agg cs').cells = cs' := rfl
    have hst' : (storeCells ⟨g, 0, none⟩ cs'.toList).run P w = .ok () (w.setRow g cs') := by simpa using hst
    simp [execOp, ho, hx, hy, Instr.storeAt, Instr.sureAddr, storeVar, hcells, hz, hn, hst']
  rw [hrun]
  have hsz : (w.setRow g cs').heap.size = w.heap.size := by simp [World.setRow]
  have hsame : ∀ b, b < w.heap.size → ¬ b = g → (w.setRow g cs').heap[b]? = w.heap[b]? := fun b _ hne => setRow_other w g b _ hne
  refine ⟨⟨rfl, rfl, rfl⟩, hK _ (h.upd0 (by rw [hsz]; exact Nat.le_refl _) hsame (fun b hb => .inl hb) (setRow_heap w g cs cs' t' _ hb)) ⟨by rw [hsz]; exact Nat.le_refl _, hsame⟩⟩
theorem St.dis {e e' : Ent} (h : St H0 M S0 L H) (i j : Nat) (hij : i < j) (hi : L[i]? = some e) (hj : L[j]? = some e') : ∀ b, e.blocks b → ¬ e'.blocks b := by
  obtain ⟨h1, rfl⟩ := List.getElem?_eq_some_iff.1 hi
  obtain ⟨h2, rfl⟩ := List.getElem?_eq_some_iff.1 hj
  exact List.pairwise_iff_getElem.1 h.dj i j h1 h2 hij
theorem RdL.slc {v : Value} {l : List α} (h : RdL S H v l) (F : Value → Prop) (hF : ∀ a n c, F (.slice a n c)) : F v := by
  obtain ⟨a, n, c, cl, rfl, _⟩ := h; exact hF a n c
end
end Go.Um
