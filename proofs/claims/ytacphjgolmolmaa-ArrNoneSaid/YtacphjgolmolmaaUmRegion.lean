/- Regions: the operations one behind the other, and in whatever order the model draws. -/
import Derived.Test.YtacphjgolmolmaaUmFrame
namespace Go.Um

/-- H' is H with more blocks behind it, and other contents in blocks of S alone. -/
structure Ext (S : Nat → Prop) (H H' : Heap) : Prop where
  size : H.size ≤ H'.size
  same : ∀ b, b < H.size → ¬ S b → H'[b]? = H[b]?

theorem Ext.refl (S : Nat → Prop) (H : Heap) : Ext S H H := ⟨Nat.le_refl _, fun _ _ _ => rfl⟩
theorem Ext.trans {S : Nat → Prop} {A B C : Heap} (h : Ext S A B) (k : Ext S B C) : Ext S A C :=
  ⟨Nat.le_trans h.size k.size, fun b hb hs => (k.same b (Nat.lt_of_lt_of_le hb h.size) hs).trans (h.same b hb hs)⟩
theorem Ext.mono {S T : Nat → Prop} {H H' : Heap} (h : Ext S H H') (hst : ∀ b, S b → T b) : Ext T H H' :=
  ⟨h.size, fun b hb ht => h.same b hb fun hs => ht (hst b hs)⟩
def NoB : Nat → Prop := fun _ => False
theorem Ext.push (S : Nat → Prop) (H : Heap) (o : Obj) : Ext S H (H.push o) :=
  ⟨by simp, fun b hb _ => by rw [Array.getElem?_push, if_neg (by omega)]⟩

/-- A call that returns. -/
def CallsH (P : Program) (k : FuncId) (args : Array Value) (H : Heap) (R : Value → Heap → Prop) : Prop :=
  ∀ w : World, w.heap = H → Calls P k args w fun e w' => ∃ v, e = .returned v ∧ Amb w w' ∧ R v w'.heap

theorem CallsH.mono {P : Program} {k : FuncId} {args : Array Value} {H : Heap} {R R' : Value → Heap → Prop} (h : CallsH P k args H R)
    (hr : ∀ v H', R v H' → R' v H') : CallsH P k args H R' :=
  fun w hw => (h w hw).mono fun _ _ ⟨v, he, ha, hv⟩ => ⟨v, he, ha, hr _ _ hv⟩

def yieldF (ops : Array Oper) (f : Fr) (j : Nat) : Option Bool :=
  match (ops[j]?).bind (·.dst) with
  | some d => match f d with
    | .bool b => some b
    | _ => none
  | none => none

theorem IsFr.yielded {N : Nat} {a : Act} {f : Fr} (h : IsFr N a f) (ops : Array Oper) : Go.yielded ops a.tmps = yieldF ops f := by
  funext j
  unfold Go.yielded yieldF
  cases hd : (ops[j]?).bind (·.dst) with
  | none => rfl
  | some d =>
    simp only [Option.bind_some]
    rw [← h.tm d]
    simp only [Array.getD_eq_getD_getElem?]
    cases ht : a.tmps[d]? with
    | none => rfl
    | some v => cases v <;> rfl

def OpRes (P : Program) (o : Oper) (next : FP) (f : Fr) (w : World) : Result Next → Prop
  | .ok (.value v) w' => Amb w w' ∧ next (updO f o.dst v) w'.heap
  | .ok .skip w' => Amb w w' ∧ next (updO f o.dst undef) w'.heap
  | .ok (.enter k args) w' => Amb w w' ∧ CallsH P k args w'.heap fun v H' => next (updO f o.dst v) H'
  | _ => False

/-- One operation. -/
def OpE (P : Program) (o : Oper) (next : FP) (f : Fr) (H : Heap) : Prop :=
  ∀ w : World, w.heap = H → OpRes P o next f w ((execOp (ev f) o).run P w)

theorem OpE.mono {P : Program} {o : Oper} {next next' : FP} {f : Fr} {H : Heap} (h : OpE P o next f H) (hn : ∀ f H, next f H → next' f H) :
    OpE P o next' f H := by
  intro w hw
  have := h w hw
  generalize (execOp (ev f) o).run P w = r at *
  cases r with
  | ok n w' =>
    cases n <;> first
      | exact this.elim
      | exact ⟨this.1, hn _ _ this.2⟩
      | exact ⟨this.1, this.2.mono fun _ _ h => hn _ _ h⟩
  | halt e w' => exact this.elim

/-- The operation number i, if its guard lets it. -/
def ExE (P : Program) (ops : Array Oper) (i : Nat) (next : FP) (f : Fr) (H : Heap) : Prop :=
  match ops[i]? with
  | none => next f H
  | some o => if Region.wanted o (yieldF ops f) then OpE P o next f H else next (updO f o.dst undef) H

theorem ExE.mono {P : Program} {ops : Array Oper} {i : Nat} {next next' : FP} {f : Fr} {H : Heap} (h : ExE P ops i next f H)
    (hn : ∀ f H, next f H → next' f H) : ExE P ops i next' f H := by
  unfold ExE at *
  split
  · rename_i ho; rw [ho] at h; exact hn _ _ h
  · rename_i o ho
    rw [ho] at h
    simp only at h
    split
    · rename_i hw; rw [if_pos hw] at h; exact h.mono hn
    · rename_i hw; rw [if_neg hw] at h; exact hn _ _ h

section
variable {P : Program} {N : Nat} {ops : Array Oper}

/-- From frames to activations. -/
theorem OpE.wp {o : Oper} {next : FP} {f : Fr} {a : Act} {w : World} {K : Act → World → Prop} {Q : Exit → Act → World → Prop}
    (h : OpE P o next f w.heap) (ha : IsFr N a f) (hd : ∀ e, o.dst = some e → e < N)
    (hK : ∀ a' w' f', Amb w w' → IsFr N a' f' → next f' w'.heap → K a' w') : o.wp P a w K Q := by
  unfold Oper.wp
  rw [ha.evalF]
  have := h w rfl
  generalize (execOp (ev f) o).run P w = r at *
  cases r with
  | ok n w' =>
    cases n with
    | value v => exact hK _ _ _ this.1 (ha.put _ _ hd) this.2
    | skip => exact hK _ _ _ this.1 (ha.put _ _ hd) this.2
    | enter k args =>
      refine Calls.mono (this.2 w' rfl) ?_
      rintro e w'' ⟨v, rfl, hamb, hv⟩
      exact hK _ _ _ (this.1.trans hamb) (ha.put _ _ hd) hv
    | _ => exact this.elim
  | halt e w' => exact this.elim

theorem ExE.wpOp {i : Nat} {next : FP} {f : Fr} {a : Act} {w : World} {K : Act → World → Prop} {Q : Exit → Act → World → Prop}
    (h : ExE P ops i next f w.heap) (ha : IsFr N a f) (hd : opsOk N ops.toList = true)
    (hK : ∀ a' w' f', Amb w w' → IsFr N a' f' → next f' w'.heap → K a' w') : Go.wpOp P ops Q i K a w := by
  unfold ExE at h
  unfold Go.wpOp
  split
  · rename_i ho; rw [ho] at h; exact hK _ _ _ (.refl w) ha h
  · rename_i o ho
    rw [ho] at h
    simp only at h
    have hdo : ∀ e, o.dst = some e → e < N := by
      intro e he
      have hm : o ∈ ops.toList := Array.mem_toList_iff.2 (Array.mem_of_getElem? ho)
      have := List.all_eq_true.1 hd o hm
      rw [he] at this
      exact of_decide_eq_true this
    rw [ha.yielded]
    split
    · rename_i hw; rw [if_pos hw] at h; exact .inl (h.wp ha hdo hK)
    · rename_i hw; rw [if_neg hw] at h; exact hK _ _ _ (.refl w) (ha.put _ _ hdo) h

/-- One behind the other. -/
def wpL (P : Program) (ops : Array Oper) (n : FP) : List Oper → Fr → Heap → Prop
  | [], f, H => n f H
  | o :: rest, f, H => if Region.wanted o (yieldF ops f) then OpE P o (wpL P ops n rest) f H else wpL P ops n rest (updO f o.dst undef) H

theorem wpL_lift {n : FP} {x : Nat → FP} {r : FP} : ∀ (l : List Oper) (k : Nat), (∀ j, l[j]? = ops[k + j]?) → opsOk N ops.toList = true →
    ∀ (f : Fr) (w0 w : World) (a : Act), Amb w0 w → IsFr N a f → wpL P ops n l f w.heap →
      wpOps P ops (liftQ N w0 n x r) (List.range' k l.length) a w := by
  intro l
  induction l with
  | nil => intro k _ _ f w0 w a hamb ha h; exact ⟨hamb, f, ha, h⟩
  | cons o l ih =>
    intro k hl hok f w0 w a hamb ha h
    have h0 : ops[k]? = some o := by simpa using (hl 0).symm
    have ih' := ih (k + 1) (fun j => by have := hl (j + 1); simpa [Nat.add_assoc, Nat.add_comm 1 j] using this) hok
    simp only [List.length_cons, List.range'_succ]
    rw [wpOps_cons]
    refine ExE.wpOp (f := f) (next := wpL P ops n l) ?_ ha hok ?_
    · unfold ExE; rw [h0]; exact h
    · intro a' w' f' hamb' ha' h'
      exact ih' f' w0 w' a' (hamb.trans hamb') ha' h'

theorem wpF_region {id : Nat} {l : List Oper} {n : FP} {x : Nat → FP} {r : FP} {f : Fr} {H : Heap} (h : wpL P l.toArray n l f H) :
    wpF P N (.region id l.toArray false) n x r f H := by
  intro hok a w ha hw
  have hok' : opsOk N l.toArray.toList = true := hok
  subst hw
  refine wp_region ?_
  have := wpL_lift (P := P) (N := N) (ops := l.toArray) (n := n) (x := x) (r := r) l 0 (by simp) hok' f w w a (.refl w) ha h
  simpa [List.range_eq_range'] using this

/-! ### The order drawn -/

/-- Whatever is ready next: n at the end; MS i: the blocks that operation i may write. -/
def wpG (P : Program) (ops : Array Oper) (MS : Nat → Nat → Prop) (n : FP) : Nat → Array Bool → Fr → Heap → Prop
  | 0, listed, f, H => Region.ready .any ops listed = [] ∧ n f H
  | k + 1, listed, f, H =>
    (Region.ready .any ops listed = [] → n f H) ∧
    ∀ i ∈ Region.ready .any ops listed, ExE P ops i (fun f' H' => Ext (MS i) H H' ∧ wpG P ops MS n k (listed.setIfInBounds i true) f' H') f H

theorem wpG_lift {MS : Nat → Nat → Prop} {n : FP} {x : Nat → FP} {r : FP} (hok : opsOk N ops.toList = true) : ∀ (k : Nat) (listed : Array Bool)
    (f : Fr) (w0 w : World) (a : Act), Amb w0 w → IsFr N a f → wpG P ops MS n k listed f w.heap → wpAny P .any ops (liftQ N w0 n x r) k listed a w := by
  intro k
  induction k with
  | zero => intro listed f w0 w a hamb ha h; exact ⟨h.1, hamb, f, ha, h.2⟩
  | succ k ih =>
    intro listed f w0 w a hamb ha h
    refine ⟨fun hr => ⟨hamb, f, ha, h.1 hr⟩, fun i hi => ?_⟩
    refine ExE.wpOp (h.2 i hi) ha hok ?_
    intro a' w' f' hamb' ha' h'
    exact ih _ f' w0 w' a' (hamb.trans hamb') ha' h'.2

theorem wpF_draw {id : Nat} {l : List Oper} {MS : Nat → Nat → Prop} {n : FP} {x : Nat → FP} {r : FP} {f : Fr} {H : Heap}
    (hm : P.follows .mixedOrders = true) (h : wpG P l.toArray MS n l.length (Array.replicate l.length false) f H) :
    wpF P N (.region id l.toArray true) n x r f H := by
  intro hok a w ha hw
  have hok' : opsOk N l.toArray.toList = true := hok
  subst hw
  refine wp_region_any hm ?_
  have := wpG_lift (P := P) (N := N) (ops := l.toArray) (MS := MS) (n := n) (x := x) (r := r) hok' l.length (Array.replicate l.length false) f w { w with drawn := w.drawn + 1 } a
    ⟨rfl, rfl, rfl⟩ ha h
  simpa using this

/-! #### A quiet operation that is ready may be taken first -/

/-- Operation q yields v (or is not wanted: none) at every heap that extends H but for U. -/
def QuietAt (P : Program) (ops : Array Oper) (q : Nat) (U : Nat → Prop) (f : Fr) (H : Heap) (v : Value) : Prop :=
  ∃ o, ops[q]? = some o ∧
    ((Region.wanted o (yieldF ops f) = true ∧ ∀ w : World, Ext U H w.heap → (execOp (ev f) o).run P w = .ok (.value v) w) ∨
     (Region.wanted o (yieldF ops f) = false ∧ v = undef))

def isSel : Op → Bool
  | .select _ _ => true
  | _ => false

/-- The two share no temporary. -/
def apartB (ops : Array Oper) (i j : Nat) : Bool :=
  match ops[i]?, ops[j]? with
  | some a, some b => a.apart ops b && !isSel a.op && !isSel b.op
  | _, _ => true

theorem ev_updO {f : Fr} {d : Option Nat} {v : Value} {x : Operand} (h : ∀ e, d = some e → x ≠ .tmp e) : ev (updO f d v) x = ev f x := by
  cases d with
  | none => rfl
  | some e =>
    cases x with
    | tmp t =>
      have hne : t ≠ e := fun he => h e rfl (he ▸ rfl)
      simp [ev, updO, upd, hne]
    | _ => rfl

theorem execOp_updO {o b : Oper} {f : Fr} {v : Value} (hap : o.apart ops b = true) (hs : isSel o.op = false) :
    execOp (ev (updO f b.dst v)) o = execOp (ev f) o := by
  have hsp := Oper.apart_spec hap
  refine execOp_congr o (fun cs bl he => by rw [he] at hs; cases hs) fun x hx => ev_updO fun e he => ?_
  rintro rfl
  refine hsp.2.2 e he ?_
  unfold Oper.looksAt
  refine List.mem_append.2 (.inl (List.mem_filterMap.2 ⟨.tmp e, Array.mem_toList_iff.2 hx, rfl⟩))

theorem wanted_updO {o b : Oper} {f : Fr} {v : Value} (hap : o.apart ops b = true) :
    Region.wanted o (yieldF ops (updO f b.dst v)) = Region.wanted o (yieldF ops f) := by
  have hsp := Oper.apart_spec hap
  unfold Region.wanted
  cases hg : o.guard with
  | none => rfl
  | some p =>
    obtain ⟨j, want⟩ := p
    simp only
    have : yieldF ops (updO f b.dst v) j = yieldF ops f j := by
      unfold yieldF
      cases hd : (ops[j]?).bind (·.dst) with
      | none => rfl
      | some d =>
        simp only
        have hne : ∀ e, b.dst = some e → d ≠ e := by
          rintro e he rfl
          refine hsp.2.2 d he ?_
          unfold Oper.looksAt
          rw [hg]
          refine List.mem_append.2 (.inr ?_)
          simp only [hd]
          simp
        cases hb : b.dst with
        | none => rfl
        | some e => simp [updO, upd, hne e hb]
    rw [this]

theorem updO_comm {f : Fr} {a b : Oper} (u v : Value) (hap : a.apart ops b = true) :
    updO (updO f a.dst u) b.dst v = updO (updO f b.dst v) a.dst u := by
  have hsp := Oper.apart_spec hap
  cases ha : a.dst with
  | none => rfl
  | some d =>
    cases hb : b.dst with
    | none => rfl
    | some e => exact upd_comm f u v fun he => hsp.2.1 d ha (he ▸ hb)

theorem apart_symm {a b : Oper} (h : a.apart ops b = true) : b.apart ops a = true := by
  simp only [Oper.apart, Bool.and_eq_true] at h ⊢
  obtain ⟨h1, h2⟩ := h
  cases ha : a.dst with
  | none =>
    cases hb : b.dst with
    | none => simp
    | some e => simp [ha, hb] at h1 h2 ⊢; exact h2
  | some d =>
    cases hb : b.dst with
    | none => simp [ha, hb] at h1 h2 ⊢; exact h1
    | some e =>
      simp [ha, hb] at h1 h2 ⊢
      exact ⟨⟨h2, fun e' => h1.2 e'.symm⟩, h1.1⟩

/-- The swap: what operation i does at the frame where q has been put already, it does at the frame before, and q's value is put behind. -/
theorem ExE.before {i q : Nat} {oq : Oper} {next : FP} {f : Fr} {H : Heap} {v : Value} (hq : ops[q]? = some oq) (hap : apartB ops i q = true)
    (h : ExE P ops i next (updO f oq.dst v) H) : ExE P ops i (fun f' H' => next (updO f' oq.dst v) H') f H := by
  unfold ExE at *
  cases ho : ops[i]? with
  | none => rw [ho] at h; exact h
  | some o =>
    rw [ho] at h
    simp only [apartB, ho, hq, Bool.and_eq_true, Bool.not_eq_true'] at hap
    obtain ⟨⟨hap, hs⟩, _⟩ := hap
    simp only at h ⊢
    rw [wanted_updO hap] at h
    have hcm : ∀ u, updO (updO f oq.dst v) o.dst u = updO (updO f o.dst u) oq.dst v := fun u => (updO_comm u v hap).symm
    split
    · rename_i hw
      rw [if_pos hw] at h
      intro w hwH
      have := h w hwH
      rw [execOp_updO hap hs] at this
      generalize (execOp (ev f) o).run P w = rr at *
      cases rr with
      | ok n w' =>
        cases n <;> first
          | exact this.elim
          | exact ⟨this.1, by have h2 := this.2; rw [hcm] at h2; exact h2⟩
          | exact ⟨this.1, this.2.mono fun u H' hh => by rw [hcm] at hh; exact hh⟩
      | halt e w' => exact this.elim
    · rename_i hw
      rw [if_neg hw] at h
      rw [← hcm]
      exact h

theorem QuietAt.exE {q : Nat} {oq : Oper} {U : Nat → Prop} {next : FP} {f : Fr} {H : Heap} {v : Value} (hq : ops[q]? = some oq)
    (h : QuietAt P ops q U f H v) (hn : next (updO f oq.dst v) H) : ExE P ops q next f H := by
  obtain ⟨o, ho, hh⟩ := h
  rw [hq] at ho
  cases ho
  unfold ExE
  rw [hq]
  simp only
  rcases hh with ⟨hw, hr⟩ | ⟨hw, rfl⟩
  · rw [if_pos hw]
    intro w hwH
    subst hwH
    rw [hr w (Ext.refl U _)]
    exact ⟨.refl w, hn⟩
  · rw [if_neg (by rw [hw]; simp)]
    exact hn

theorem QuietAt.after {i q : Nat} {o : Oper} {U : Nat → Prop} {f : Fr} {H H' : Heap} {u v : Value} (h : QuietAt P ops q U f H v) (ho : ops[i]? = some o)
    (hap : apartB ops i q = true) (he : Ext U H H') : QuietAt P ops q U (updO f o.dst u) H' v := by
  obtain ⟨oq, hq, hh⟩ := h
  simp only [apartB, ho, hq, Bool.and_eq_true, Bool.not_eq_true'] at hap
  obtain ⟨⟨hap, _⟩, hs⟩ := hap
  have hap' := apart_symm hap
  refine ⟨oq, hq, ?_⟩
  rw [wanted_updO hap', execOp_updO hap' hs]
  rcases hh with ⟨hw, hr⟩ | hh
  · exact .inl ⟨hw, fun w hx => hr w (he.trans hx)⟩
  · exact .inr hh

/-- Frames behind operation i: some value is put into its slot. -/
theorem ExE.shape {i : Nat} {o : Oper} {next : FP} {f : Fr} {H : Heap} (ho : ops[i]? = some o) (h : ExE P ops i next f H) :
    ExE P ops i (fun f' H' => (∃ u, f' = updO f o.dst u) ∧ next f' H') f H := by
  unfold ExE at *
  rw [ho] at h ⊢
  simp only at h ⊢
  split
  · rename_i hw
    rw [if_pos hw] at h
    intro w hwH
    have := h w hwH
    generalize (execOp (ev f) o).run P w = rr at *
    cases rr with
    | ok n w' =>
      cases n <;> first
        | exact this.elim
        | exact ⟨this.1, ⟨_, rfl⟩, this.2⟩
        | exact ⟨this.1, this.2.mono fun u H' hh => ⟨⟨_, rfl⟩, hh⟩⟩
    | halt e w' => exact this.elim
  · rename_i hw
    rw [if_neg hw] at h
    exact ⟨⟨_, rfl⟩, h⟩

/-- Not ordered by the closure of 'after'. -/
def unordB (ops : Array Oper) (i j : Nat) : Bool :=
  let b := Region.before ops
  i != j && !(b.getD i 0).testBit j && !(b.getD j 0).testBit i

def readyB (ops : Array Oper) (listed : Array Bool) (i : Nat) : Bool :=
  decide (i < ops.size) && !listed.getD i true && ((ops[i]?).map (·.after.all fun e => !Region.binds .any e || listed.getD e.on false)).getD false

theorem ready_iff {listed : Array Bool} {i : Nat} : i ∈ Region.ready .any ops listed ↔ readyB ops listed i = true := by
  unfold Region.ready readyB
  rw [List.mem_filter]
  simp [and_assoc]

/-- The bits of the closure: each comes by a direct edge. -/
def befOk (ops : Array Oper) : Bool :=
  let b := Region.before ops
  (List.range ops.size).all fun i => match ops[i]? with
    | some o => b.getD i 0 == o.after.toList.foldl (fun s e => if Region.binds .any e then s ||| 2 ^ e.on ||| b.getD e.on 0 else s) 0
    | none => true

theorem foldl_bit (b : Nat → Nat) (j : Nat) : ∀ (l : List Edge) (s : Nat),
    (l.foldl (fun s e => if Region.binds .any e then s ||| 2 ^ e.on ||| b e.on else s) s).testBit j = true →
    s.testBit j = true ∨ ∃ e ∈ l, Region.binds .any e = true ∧ (e.on = j ∨ (b e.on).testBit j = true) := by
  intro l
  induction l with
  | nil => intro s h; exact .inl h
  | cons e l ih =>
    intro s h
    simp only [List.foldl_cons] at h
    rcases ih _ h with h1 | ⟨e', he', hb⟩
    · split at h1
      · rename_i hb
        simp only [Nat.testBit_or, Bool.or_eq_true, Nat.testBit_two_pow, decide_eq_true_eq] at h1
        rcases h1 with (h1 | h1) | h1
        · exact .inl h1
        · exact .inr ⟨e, by simp, hb, .inl h1⟩
        · exact .inr ⟨e, by simp, hb, .inr h1⟩
      · exact .inl h1
    · exact .inr ⟨e', by simp [he'], hb⟩

/-- All that is before what is listed is listed. -/
def Shut (ops : Array Oper) (listed : Array Bool) : Prop :=
  ∀ i j, listed.getD i false = true → ((Region.before ops).getD i 0).testBit j = true → listed.getD j false = true

theorem ready_before {listed : Array Bool} (hb : befOk ops = true) (hs : Shut ops listed) {i : Nat} (hr : readyB ops listed i = true) {j : Nat}
    (hj : ((Region.before ops).getD i 0).testBit j = true) : listed.getD j false = true := by
  unfold readyB at hr
  simp only [Bool.and_eq_true, decide_eq_true_eq] at hr
  obtain ⟨⟨hlt, _⟩, hal⟩ := hr
  have hi := Array.getElem?_eq_getElem hlt
  rw [hi] at hal
  simp only [Option.map_some, Option.getD_some] at hal
  have hbi := List.all_eq_true.1 hb i (List.mem_range.2 hlt)
  simp only [hi, beq_iff_eq] at hbi
  rw [hbi] at hj
  rcases foldl_bit (fun k => (Region.before ops).getD k 0) j _ _ hj with h | ⟨e, he, hbind, h⟩
  · simp at h
  · have := Array.all_eq_true_iff_forall_mem.1 hal e (Array.mem_toList_iff.1 he)
    simp only [hbind, Bool.not_true, Bool.false_or] at this
    rcases h with rfl | h
    · exact this
    · exact hs e.on j this h

theorem getD_set_same {l : Array Bool} {i : Nat} (h : i < l.size) (d : Bool) : (l.setIfInBounds i true).getD i d = true := by
  simp [Array.getD, h]
theorem getD_set_ne {l : Array Bool} {i j : Nat} (h : i ≠ j) (d : Bool) : (l.setIfInBounds i true).getD j d = l.getD j d := by
  simp only [Array.getD_eq_getD_getElem?]
  rw [Array.getElem?_setIfInBounds_ne h]

theorem ready_lt {listed : Array Bool} {i : Nat} (h : readyB ops listed i = true) : i < ops.size := by
  unfold readyB at h
  simp only [Bool.and_eq_true, decide_eq_true_eq] at h
  exact h.1.1

theorem ready_not {listed : Array Bool} {i : Nat} (h : readyB ops listed i = true) : listed.getD i true = false := by
  unfold readyB at h
  simp only [Bool.and_eq_true, Bool.not_eq_true'] at h
  exact h.1.2

theorem ready_step {listed : Array Bool} {i q : Nat} (hi : readyB ops listed i = true) (hne : q ≠ i) :
    readyB ops (listed.setIfInBounds q true) i = true := by
  have hn := ready_not hi
  unfold readyB at *
  rw [getD_set_ne hne, hn]
  simp only [Bool.and_eq_true, decide_eq_true_eq, Bool.not_false, and_true] at hi ⊢
  refine ⟨hi.1.1, ?_⟩
  have h2 := hi.2
  have hlt := hi.1.1
  rw [Array.getElem?_eq_getElem hlt] at h2 ⊢
  simp only [Option.map_some, Option.getD_some] at h2 ⊢
  rw [Array.all_eq_true_iff_forall_mem] at h2 ⊢
  intro e he
  have := h2 e he
  simp only [Bool.or_eq_true] at this ⊢
  rcases this with h | h
  · exact .inl h
  · right
    by_cases hq : q = e.on
    · by_cases hlq : q < listed.size
      · rw [← hq]; exact getD_set_same hlq _
      · rw [← hq] at h; simp [Array.getD, hlq] at h
    · rw [getD_set_ne hq]; exact h

theorem Shut.step {listed : Array Bool} (hb : befOk ops = true) (hs : Shut ops listed) {q : Nat} (hq : readyB ops listed q = true)
    (hz : listed.size = ops.size) : Shut ops (listed.setIfInBounds q true) := by
  intro i j hi hj
  have key : ∀ k, listed.getD k false = true → (listed.setIfInBounds q true).getD k false = true := by
    intro k hk
    by_cases h : q = k
    · subst h; exact getD_set_same (by rw [hz]; exact ready_lt hq) _
    · rw [getD_set_ne h]; exact hk
  by_cases h : q = i
  · subst h; exact key j (ready_before hb hs hq hj)
  · rw [getD_set_ne h] at hi; exact key j (hs i j hi hj)

theorem unord_of_ready {listed : Array Bool} (hb : befOk ops = true) (hs : Shut ops listed) {i q : Nat} (hi : readyB ops listed i = true)
    (hq : readyB ops listed q = true) (hne : i ≠ q) (hz : listed.size = ops.size) : unordB ops i q = true := by
  have nl : ∀ k, readyB ops listed k = true → listed.getD k false = false := by
    intro k hk
    have h1 := ready_not hk
    have h2 : k < listed.size := by rw [hz]; exact ready_lt hk
    simp only [Array.getD, h2, dite_true] at h1 ⊢
    exact h1
  unfold unordB
  simp only [Bool.and_eq_true, bne_iff_ne, ne_eq, Bool.not_eq_true']
  refine ⟨⟨hne, ?_⟩, ?_⟩
  · cases h : ((Region.before ops).getD i 0).testBit q with
    | false => rfl
    | true => have := ready_before hb hs hi h; rw [nl q hq] at this; cases this
  · cases h : ((Region.before ops).getD q 0).testBit i with
    | false => rfl
    | true => have := ready_before hb hs hq h; rw [nl i hi] at this; cases this

theorem wpG_quiet {MS : Nat → Nat → Prop} {n : FP} {U : Nat → Prop} {q : Nat} {oq : Oper} (hb : befOk ops = true) (hq : ops[q]? = some oq)
    (hst : ∀ i, i < ops.size → unordB ops i q = true → apartB ops i q = true ∧ ∀ b, MS i b → U b) :
    ∀ (k : Nat) (listed : Array Bool) (f : Fr) (H : Heap) (v : Value), Shut ops listed → listed.size = ops.size → readyB ops listed q = true →
      QuietAt P ops q U f H v → wpG P ops MS n k (listed.setIfInBounds q true) (updO f oq.dst v) H → wpG P ops MS n (k + 1) listed f H := by
  intro k
  induction k with
  | zero =>
    intro listed f H v hs hz hr hQ h
    refine ⟨fun he => ?_, fun i hi => ?_⟩
    · have := ready_iff.2 hr; rw [he] at this; cases this
    · by_cases hiq : i = q
      · subst hiq; exact hQ.exE hq ⟨.refl _ _, h⟩
      · have := ready_iff.2 (ready_step (q := q) (ready_iff.1 hi) (fun e => hiq e.symm))
        rw [h.1] at this
        cases this
  | succ k ih =>
    intro listed f H v hs hz hr hQ h
    refine ⟨fun he => ?_, fun i hi => ?_⟩
    · have := ready_iff.2 hr; rw [he] at this; cases this
    · by_cases hiq : i = q
      · subst hiq; exact hQ.exE hq ⟨.refl _ _, h⟩
      · have hri := ready_iff.1 hi
        have hun := unord_of_ready hb hs hri hr hiq hz
        obtain ⟨hap, hms⟩ := hst i (ready_lt hri) hun
        have hi' := ready_iff.2 (ready_step (q := q) hri (fun e => hiq e.symm))
        have h2 := h.2 i hi'
        have hio := Array.getElem?_eq_getElem (ready_lt hri)
        refine ((h2.before hq hap).shape hio).mono ?_
        rintro f' H' ⟨⟨u, rfl⟩, hx, hw⟩
        refine ⟨hx, ?_⟩
        refine ih _ _ _ v (hs.step hb hri hz) (by simpa using hz) (ready_step hr hiq) (hQ.after hio hap (hx.mono hms)) ?_
        rw [Array.setIfInBounds_comm _ _ (fun e => hiq e)]
        exact hw

/-! #### The rules as they are used -/

/-- Which have been taken, the last one first. -/
def mkL (n : Nat) (l : List Nat) : Array Bool := l.foldr (fun i a => a.setIfInBounds i true) (Array.replicate n false)
theorem mkL_size (n : Nat) : ∀ l : List Nat, (mkL n l).size = n
  | [] => by simp [mkL]
  | i :: l => by have := mkL_size n l; simp only [mkL, List.foldr_cons, Array.size_setIfInBounds] at this ⊢; exact this

/-- The labels of the blocks that operations write, and what a quiet operation lets be written. -/
def labS (lab : List (Option Nat)) (blk : Nat → Nat → Prop) (i : Nat) : Nat → Prop := fun b => ∃ l, lab[i]? = some (some l) ∧ blk l b
def labU (ul : List (List Nat)) (blk : Nat → Nat → Prop) (q : Nat) : Nat → Prop := fun b => ∃ l, l ∈ ul.getD q [] ∧ blk l b

def regOk (ops : Array Oper) (lab : List (Option Nat)) (ul : List (List Nat)) : Bool :=
  befOk ops && (List.range ops.size).all fun q => (List.range ops.size).all fun i =>
    !unordB ops i q || (apartB ops i q && match lab[i]? with | some (some l) => (ul.getD q []).contains l | _ => true)

def wpR (P : Program) (ops : Array Oper) (lab : List (Option Nat)) (ul : List (List Nat)) (blk : Nat → Nat → Prop) (n : FP) (l : List Nat) (f : Fr) (H : Heap) : Prop :=
  regOk ops lab ul = true → Shut ops (mkL ops.size l) → wpG P ops (labS lab blk) n (ops.size - l.length) (mkL ops.size l) f H

theorem wpF_drawn {id : Nat} {l : List Oper} (lab : List (Option Nat)) (ul : List (List Nat)) (blk : Nat → Nat → Prop) {n : FP} {x : Nat → FP} {r : FP} {f : Fr} {H : Heap}
    (hm : P.follows .mixedOrders = true) (hok : regOk l.toArray lab ul = true) (h : wpR P l.toArray lab ul blk n [] f H) :
    wpF P N (.region id l.toArray true) n x r f H := by
  refine wpF_draw (MS := labS lab blk) hm ?_
  have := h hok (fun i j hi _ => by simp [mkL, Array.getD] at hi)
  simpa [mkL] using this

theorem wpR_end {lab : List (Option Nat)} {ul : List (List Nat)} {blk : Nat → Nat → Prop} {n : FP} {l : List Nat} {f : Fr} {H : Heap}
    (he : Region.ready .any ops (mkL ops.size l) = []) (h : n f H) : wpR P ops lab ul blk n l f H := by
  intro _ _
  cases hk : ops.size - l.length with
  | zero => exact ⟨he, h⟩
  | succ k => exact ⟨fun _ => h, fun i hi => by rw [he] at hi; cases hi⟩

theorem ready_length {l : List Nat} {i : Nat} (_hr : readyB ops (mkL ops.size l) i = true) (hd : l.length < ops.size) : ops.size - l.length = (ops.size - (i :: l).length) + 1 := by
  simp only [List.length_cons]; omega

/-- Take the quiet operation q, which is ready. -/
theorem wpR_q {lab : List (Option Nat)} {ul : List (List Nat)} {blk : Nat → Nat → Prop} {n : FP} {l : List Nat} {f : Fr} {H : Heap} {v : Value} {oq : Oper} (q : Nat)
    (hd : (decide (l.length < ops.size) && readyB ops (mkL ops.size l) q) = true) (hq : ops[q]? = some oq) (hQ : QuietAt P ops q (labU ul blk q) f H v)
    (h : wpR P ops lab ul blk n (q :: l) (updO f oq.dst v) H) : wpR P ops lab ul blk n l f H := by
  intro hok hs
  simp only [Bool.and_eq_true, decide_eq_true_eq] at hd
  have hok' := hok
  unfold regOk at hok'
  rw [Bool.and_eq_true] at hok'
  obtain ⟨hb, hall⟩ := hok'
  rw [ready_length (i := q) hd.2 hd.1]
  refine wpG_quiet hb hq ?_ _ _ _ _ _ hs (mkL_size _ _) hd.2 hQ (h hok (hs.step hb hd.2 (mkL_size _ _)))
  intro i hi hun
  have h1 := List.all_eq_true.1 (List.all_eq_true.1 hall q (List.mem_range.2 (ready_lt hd.2))) i (List.mem_range.2 hi)
  rw [hun] at h1
  simp only [Bool.not_true, Bool.false_or, Bool.and_eq_true] at h1
  refine ⟨h1.1, ?_⟩
  rintro b ⟨lb, hl, hb'⟩
  have h2 := h1.2
  rw [hl] at h2
  exact ⟨lb, by simpa using h2, hb'⟩

/-- Nothing quiet is taken first: all that are ready. -/
theorem wpR_n {lab : List (Option Nat)} {ul : List (List Nat)} {blk : Nat → Nat → Prop} {n : FP} {l : List Nat} {f : Fr} {H : Heap} (rs : List Nat)
    (hd : (decide (l.length < ops.size) && (List.range ops.size).all (fun i => !readyB ops (mkL ops.size l) i || rs.contains i) && rs.any fun i => readyB ops (mkL ops.size l) i) = true)
    (h : ∀ i ∈ rs, ExE P ops i (fun f' H' => Ext (labS lab blk i) H H' ∧ wpR P ops lab ul blk n (i :: l) f' H') f H) : wpR P ops lab ul blk n l f H := by
  intro hok hs
  simp only [Bool.and_eq_true, decide_eq_true_eq] at hd
  have hok' := hok
  unfold regOk at hok'
  rw [Bool.and_eq_true] at hok'
  obtain ⟨hb, _⟩ := hok'
  obtain ⟨⟨hlen, hall⟩, hany⟩ := hd
  obtain ⟨i0, _, hi0⟩ := List.any_eq_true.1 hany
  rw [ready_length (i := i0) hi0 hlen]
  refine ⟨fun he => ?_, fun i hi => ?_⟩
  · have := ready_iff.2 hi0; rw [he] at this; cases this
  · have hr := ready_iff.1 hi
    have h1 := List.all_eq_true.1 hall i (List.mem_range.2 (ready_lt hr))
    rw [hr] at h1
    simp only [Bool.not_true, Bool.false_or] at h1
    refine (h i (by simpa using h1)).mono ?_
    rintro f' H' ⟨hx, hw⟩
    exact ⟨hx, hw hok (hs.step hb hr (mkL_size _ _))⟩

/-! #### Quiet and loud operations -/

/-- The operation yields v, at every heap that extends H but for U. -/
def Quiet (P : Program) (o : Oper) (U : Nat → Prop) (f : Fr) (H : Heap) (v : Value) : Prop :=
  ∀ w : World, Ext U H w.heap → (execOp (ev f) o).run P w = .ok (.value v) w

theorem OpE.quiet {o : Oper} {U : Nat → Prop} {f : Fr} {H : Heap} {v : Value} {next : FP} (h : Quiet P o U f H v) (hn : next (updO f o.dst v) H) : OpE P o next f H := by
  intro w hw
  subst hw
  rw [h w (.refl U _)]
  exact ⟨.refl w, hn⟩

section
variable {o : Oper} {rest : List Oper} {n : FP} {f : Fr} {H : Heap}

theorem wpL_nil (h : n f H) : wpL P ops n [] f H := h
theorem wpL_q {U : Nat → Prop} {v : Value} (hg : o.guard = none) (hQ : Quiet P o U f H v) (h : wpL P ops n rest (updO f o.dst v) H) : wpL P ops n (o :: rest) f H := by
  unfold wpL
  rw [if_pos (by simp [Region.wanted, hg])]
  exact OpE.quiet hQ h
theorem wpL_o (hg : o.guard = none) (h : OpE P o (wpL P ops n rest) f H) : wpL P ops n (o :: rest) f H := by
  unfold wpL
  rw [if_pos (by simp [Region.wanted, hg])]
  exact h
theorem wpL_gq {U : Nat → Prop} {v : Value} {j : Nat} {b : Bool} {oj : Oper} {d : Nat} (hg : o.guard = some (j, b)) (hj : ops[j]? = some oj) (hjd : oj.dst = some d) (hv : f d = .bool b)
    (hQ : Quiet P o U f H v) (h : wpL P ops n rest (updO f o.dst v) H) : wpL P ops n (o :: rest) f H := by
  unfold wpL
  rw [if_pos (by simp [Region.wanted, hg, yieldF, hj, hjd, hv])]
  exact OpE.quiet hQ h
theorem wpL_go {j : Nat} {b : Bool} {oj : Oper} {d : Nat} (hg : o.guard = some (j, b)) (hj : ops[j]? = some oj) (hjd : oj.dst = some d) (hv : f d = .bool b)
    (h : OpE P o (wpL P ops n rest) f H) : wpL P ops n (o :: rest) f H := by
  unfold wpL
  rw [if_pos (by simp [Region.wanted, hg, yieldF, hj, hjd, hv])]
  exact h
theorem wpL_gs {j : Nat} {b c : Bool} {oj : Oper} {d : Nat} (hg : o.guard = some (j, b)) (hj : ops[j]? = some oj) (hjd : oj.dst = some d) (hv : f d = .bool c) (hne : (c == b) = false)
    (h : wpL P ops n rest (updO f o.dst undef) H) : wpL P ops n (o :: rest) f H := by
  unfold wpL
  have : Region.wanted o (yieldF ops f) = false := by simpa [Region.wanted, hg, yieldF, hj, hjd, hv] using hne
  rw [if_neg (by rw [this]; simp)]
  exact h
theorem wpL_gs' {j : Nat} {b : Bool} {oj : Oper} {d : Nat} (hg : o.guard = some (j, b)) (hj : ops[j]? = some oj) (hjd : oj.dst = some d) (hv : f d = undef)
    (h : wpL P ops n rest (updO f o.dst undef) H) : wpL P ops n (o :: rest) f H := by
  unfold wpL
  have : Region.wanted o (yieldF ops f) = false := by simp [Region.wanted, hg, yieldF, hj, hjd, hv, undef]
  rw [if_neg (by rw [this]; simp)]
  exact h

theorem quietAt {q : Nat} {U : Nat → Prop} {v : Value} (ho : ops[q]? = some o) (hg : o.guard = none) (hQ : Quiet P o U f H v) : QuietAt P ops q U f H v :=
  ⟨o, ho, .inl ⟨by simp [Region.wanted, hg], hQ⟩⟩
theorem quietAt_g {q : Nat} {U : Nat → Prop} {v : Value} {j : Nat} {b : Bool} {oj : Oper} {d : Nat} (ho : ops[q]? = some o) (hg : o.guard = some (j, b)) (hj : ops[j]? = some oj) (hjd : oj.dst = some d)
    (hv : f d = .bool b) (hQ : Quiet P o U f H v) : QuietAt P ops q U f H v :=
  ⟨o, ho, .inl ⟨by simp [Region.wanted, hg, yieldF, hj, hjd, hv], hQ⟩⟩
theorem quietAt_s {q : Nat} {U : Nat → Prop} {j : Nat} {b c : Bool} {oj : Oper} {d : Nat} (ho : ops[q]? = some o) (hg : o.guard = some (j, b)) (hj : ops[j]? = some oj) (hjd : oj.dst = some d)
    (hv : f d = .bool c) (hne : (c == b) = false) : QuietAt P ops q U f H undef :=
  ⟨o, ho, .inr ⟨by simpa [Region.wanted, hg, yieldF, hj, hjd, hv] using hne, rfl⟩⟩
theorem quietAt_s' {q : Nat} {U : Nat → Prop} {j : Nat} {b : Bool} {oj : Oper} {d : Nat} (ho : ops[q]? = some o) (hg : o.guard = some (j, b)) (hj : ops[j]? = some oj) (hjd : oj.dst = some d)
    (hv : f d = undef) : QuietAt P ops q U f H undef :=
  ⟨o, ho, .inr ⟨by simp [Region.wanted, hg, yieldF, hj, hjd, hv, undef], rfl⟩⟩
theorem exE {i : Nat} (ho : ops[i]? = some o) (hg : o.guard = none) (h : OpE P o n f H) : ExE P ops i n f H := by
  unfold ExE; rw [ho]; simp only; rw [if_pos (by simp [Region.wanted, hg])]; exact h
theorem exE_g {i : Nat} {j : Nat} {b : Bool} {oj : Oper} {d : Nat} (ho : ops[i]? = some o) (hg : o.guard = some (j, b)) (hj : ops[j]? = some oj) (hjd : oj.dst = some d) (hv : f d = .bool b)
    (h : OpE P o n f H) : ExE P ops i n f H := by
  unfold ExE; rw [ho]; simp only; rw [if_pos (by simp [Region.wanted, hg, yieldF, hj, hjd, hv])]; exact h
end

end
end Go.Um
