/- Calls: how a function is entered and left. -/
import Derived.Test.YtkhpaklglggagaaUmRegion
namespace Go.Um

/-- The frame at the entry. -/
def argF (args : List Value) : Fr := fun t => args.getD t undef

/-- A variable of type t at the address reads v. -/
def LoadV (P : Program) (H : Heap) (t : TypeId) (a : Addr) (v : Value) : Prop :=
  ∀ w : World, w.heap = H → (loadVar t a).run P w = .ok v w

/-- What the result variables hold. -/
def ResVs (P : Program) (f : Fr) (H : Heap) : List ResultVar → List Value → Prop
  | [], vs => vs = []
  | .tmp t :: rs, vs => ∃ v vs', f t = v ∧ vs = v :: vs' ∧ ResVs P f H rs vs'
  | .cell t ty :: rs, vs => ∃ a v vs', f t = .pointer (some a) ∧ LoadV P H ty a v ∧ vs = v :: vs' ∧ ResVs P f H rs vs'

def retV (vs : List Value) : Value :=
  match vs with
  | [v] => v
  | vs => .tuple vs.toArray

theorem run_bind_ok {α β : Type} {P : Program} {m : Sem α} {k : α → Sem β} {w w' : World} {x : α} (h : m.run P w = .ok x w') : (m >>= k).run P w = (k x).run P w' := by
  rw [Sem.run_bind, h]; rfl

theorem resVs_run {P : Program} {N : Nat} {f : Fr} {a : Act} {w : World} (ha : IsFr N a f) : ∀ (rs : List ResultVar) (vs : List Value),
    ResVs P f w.heap rs vs →
    (rs.mapM (m := Sem) fun | .tmp t => pure (a.tmps.getD t undef) | .cell b t => do loadVar t (← asAddr (a.tmps.getD b undef))).run P w = .ok vs w := by
  intro rs
  induction rs with
  | nil => intro vs h; cases h; simp
  | cons r rs ih =>
    intro vs h
    cases r with
    | tmp t =>
      obtain ⟨v, vs', hv, rfl, h'⟩ := h
      subst hv
      have hh := ih vs' h'
      simp only [List.mapM_cons, ha.tm]
      rw [run_bind_ok (x := f t) (w' := w) (by simp)]
      simp only [ha.tm] at hh
      rw [run_bind_ok hh]
      simp
    | cell t ty =>
      obtain ⟨ad, v, vs', hp, hl, rfl, h'⟩ := h
      have hh := ih vs' h'
      simp only [List.mapM_cons, ha.tm]
      have h1 : (do loadVar ty (← asAddr (f t)) : Sem Value).run P w = .ok v w := by
        rw [hp, run_bind_ok (x := ad) (w' := w) (by simp [asAddr])]
        exact hl w rfl
      rw [run_bind_ok h1]
      simp only [ha.tm] at hh
      rw [run_bind_ok hh]
      simp

theorem results_run {P : Program} {N : Nat} {fn : Func} {f : Fr} {a : Act} {w : World} (ha : IsFr N a f) {vs : List Value}
    (h : ResVs P f w.heap fn.results.toList vs) : (results fn a.tmps).run P w = .ok (retV vs) w := by
  unfold results
  have hh := resVs_run ha _ _ h
  have h2 : (fn.results.mapM (m := Sem) fun | .tmp t => pure (a.tmps.getD t undef) | .cell b t => do loadVar t (← asAddr (a.tmps.getD b undef))).run P w = .ok vs.toArray w := by
    rw [← Array.toArray_toList (xs := fn.results), List.mapM_toArray]
    rw [show ∀ (m : Sem (List Value)), (Functor.map List.toArray m) = (m >>= fun l => pure l.toArray) from fun m => (bind_pure_comp _ _).symm]
    rw [run_bind_ok (by simpa using hh)]
    simp
  refine (run_bind_ok h2).trans ?_
  unfold retV
  match vs with
  | [] => simp
  | [v] => simp
  | v :: u :: vs => simp

theorem resN {P : Program} {f : Fr} {H : Heap} : ResVs P f H [] [] := rfl
theorem resT {P : Program} {f : Fr} {H : Heap} {t : Nat} {rs : List ResultVar} {v : Value} {vs : List Value} (h : f t = v) (hr : ResVs P f H rs vs) : ResVs P f H (.tmp t :: rs) (v :: vs) :=
  ⟨v, vs, h, rfl, hr⟩
theorem resC {P : Program} {f : Fr} {H : Heap} {t : Nat} {ty : TypeId} {rs : List ResultVar} {a : Addr} {v : Value} {vs : List Value} (h : f t = .pointer (some a)) (hl : LoadV P H ty a v)
    (hr : ResVs P f H rs vs) : ResVs P f H (.cell t ty :: rs) (v :: vs) := ⟨a, v, vs, h, hl, rfl, hr⟩

theorem callsH_of_wpF {P : Program} {k : FuncId} {fn : Func} {c : Code} {N : Nat} {args : List Value} {rs : List ResultVar} {H : Heap} {R : Value → Heap → Prop}
    (hf : P.funcs[k]? = some fn) (hb : fn.body = some c) (hn : fn.ntmps = N) (hrs : fn.results = rs.toArray) (hok : codeOk N c = true) (hl : args.length ≤ N)
    (h : wpF P N c (fun f H => ∃ vs, ResVs P f H rs vs ∧ R (retV vs) H) (fun _ _ _ => False)
      (fun f H => ∃ vs, ResVs P f H rs vs ∧ R (retV vs) H) (argF args) H) :
    CallsH P k args.toArray H R := by
  have hrl : fn.results.toList = rs := by rw [hrs]
  rw [← hrl] at h
  intro w hw
  refine calls_of_wp hf hb ?_
  have hfr : IsFr N { tmps := args.toArray ++ Array.replicate (fn.ntmps - args.toArray.size) undef, defers := [] } (argF args) := by
    refine ⟨rfl, ?_, fun t => ?_⟩
    · simp [hn]; omega
    · simp only [argF, Array.getD_eq_getD_getElem?, List.getD_eq_getElem?_getD, Array.getElem?_append, List.size_toArray]
      by_cases ht : t < args.length
      · simp [ht]
      · simp only [ht, if_false]
        rw [List.getElem?_eq_none (by omega)]
        simp only [Array.getElem?_replicate]
        split <;> rfl
  refine wp_mono (h hok _ w hfr hw) ?_
  intro e a' w' q
  cases e with
  | normal =>
    obtain ⟨hamb, f', hf', vs, hr, hR⟩ := q
    exact ⟨hf'.dz, _, results_run hf' hr, _, rfl, hamb, hR⟩
  | ret =>
    obtain ⟨hamb, f', hf', vs, hr, hR⟩ := q
    exact ⟨hf'.dz, _, results_run hf' hr, _, rfl, hamb, hR⟩
  | exit _ => obtain ⟨_, _, _, h⟩ := q; exact h
  | goto _ => exact q
  | panic _ => exact q.elim
  | outgrown => exact q.elim

end Go.Um
