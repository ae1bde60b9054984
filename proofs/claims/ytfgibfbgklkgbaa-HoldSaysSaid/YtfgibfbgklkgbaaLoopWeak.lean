/- Dijkstra: what is wanted holds ahead just if it holds behind. No program is in sight. -/
import Derived.Test.YtfgibfbgklkgbaaLoopRuns
import Derived.Test.YtfgibfbgklkgbaaUmRowEl
namespace Go.Um
section
variable {g h : Nat → Int} {n m : Nat}
theorem sumTo_congr : ∀ {n : Nat}, (∀ i, i < n → g i = h i) → sumTo g n = sumTo h n
  | 0, _ => rfl
  | n + 1, e => by rw [sumTo, sumTo, sumTo_congr fun i hi => e i (by omega), e n (by omega)]
theorem sumTo_add : ∀ {n : Nat}, sumTo (fun i => g i + h i) n = sumTo g n + sumTo h n
  | 0 => rfl
  | n + 1 => by rw [sumTo, sumTo, sumTo, sumTo_add]; omega
theorem sumTo_zero : ∀ {n : Nat}, sumTo (fun _ => 0) n = 0
  | 0 => rfl
  | n + 1 => by rw [sumTo, sumTo_zero]; rfl
theorem sumTo_mul {c : Int} : ∀ {n : Nat}, sumTo (fun i => c * g i) n = c * sumTo g n
  | 0 => by simp [sumTo]
  | n + 1 => by rw [sumTo, sumTo, sumTo_mul, Int.mul_add]
theorem sumTo_swap {f : Nat → Nat → Int} : ∀ {n m : Nat}, sumTo (fun i => sumTo (f i) m) n = sumTo (fun v => sumTo (fun i => f i v) n) m
  | 0, m => by simp only [sumTo]; rw [sumTo_zero]
  | n + 1, m => by rw [sumTo, sumTo_swap (n := n)]; simp only [sumTo]; rw [sumTo_add]
end
section
variable {j : Jump} {r : LRow} {s : List Int} {l : List LRow} {n k : Nat}
theorem wantOf_nth {m v : Nat} (hv : v < m) : nth (wantOf j r m) v = sumTo (wantG j r v) r.Of.length := by rw [wantOf, nth_range' hv]
theorem ledL_nth (h : k < j.To.length) : nth (ledL j s) k = nth (nth j.To k) s.length + sumTo (fun v => nth (nth j.To k) v * nth s v) s.length := by
  rw [ledL, nth_range' h, ledTo_eq]
theorem weak_sum (hs : s.length = j.To.length) (hr : r.Of.length ≤ j.To.length) : dotL r.Of (ledL j s) = (r.To - wantTo j r) + dotL (wantRow j r).Of s := by
  have h1 : dotL r.Of (ledL j s) = sumTo (fun k => wantG j r j.To.length k + sumTo (fun v => nth r.Of k * (nth (nth j.To k) v * nth s v)) s.length) r.Of.length := by
    unfold dotL dotTo
    apply sumTo_congr
    intro k hk
    rw [ledL_nth (by omega), Int.mul_add, sumTo_mul, hs]; rfl
  have h2 : dotL (wantRow j r).Of s = sumTo (fun v => sumTo (fun k => nth r.Of k * (nth (nth j.To k) v * nth s v)) r.Of.length) s.length := by
    show sumTo _ (wantOf j r j.To.length).length = _
    rw [wantOf_len, ← hs]
    apply sumTo_congr
    intro v hv
    show nth (wantOf j r j.To.length) v * nth s v = _
    rw [wantOf_nth (by omega), Int.mul_comm, ← sumTo_mul]
    apply sumTo_congr
    intro k hk
    rw [Int.mul_comm (nth s v), ← Int.mul_assoc]; rfl
  have h3 : r.To - wantTo j r = sumTo (wantG j r j.To.length) r.Of.length := by rw [wantTo, wantT_eq]; omega
  rw [h1, h2, h3, sumTo_add, sumTo_swap]
theorem weak_row (hs : s.length = j.To.length) (hr : r.Of.length ≤ j.To.length) : rowOut r (dotL r.Of (ledL j s)) ↔ rowOut (wantRow j r) (dotL (wantRow j r).Of s) := by
  rw [weak_sum hs hr]
  have e1 : (wantRow j r).Kind = r.Kind := rfl
  have e2 : (wantRow j r).To = wantTo j r := rfl
  unfold rowOut
  rw [e1, e2]
  omega
theorem want_zero (h : (wantFault j l).1 = 0) : wantHead j l = (0, 0) ∧ (∀ i, i < l.length → ¬ wantBad j (nth l i)) ∧ wantAll j l = l.map (wantRow j) := by
  have hz := h
  unfold wantFault at h
  split at h
  · rename_i h1; exact absurd h h1
  · rename_i h1
    have h0 : (wantHead j l).1 = 0 := Decidable.of_not_not h1
    obtain ⟨ha, hb, hc⟩ := wantHead_zero h0
    have hh : wantHead j l = (0, 0) := wantHead_no ha (not_not_intro hb) (not_not_intro hc)
    refine ⟨hh, fun i hi hbad => ?_, wantAll_ok (not_not_intro hz)⟩
    obtain ⟨k, hk1, hk2, hk3⟩ : ∃ k, k < l.length ∧ (∀ i, i < k → ¬ wantBad j (nth l i)) ∧ wantBad j (nth l k) := by
      rcases first_or (fun r => decide (wantBad j r)) l with h | ⟨k, h1, h2, h3⟩
      · have := h i hi; simp [hbad] at this
      · exact ⟨k, h1, fun i hi => of_decide_eq_false (h2 i hi), of_decide_eq_true h3⟩
    rw [wantFault_at hh hk1 hk2 hk3] at hz
    exact absurd hz (by decide : (10 : Int) ≠ 0)
theorem weak_law (h : (wantFault j l).1 = 0) (hs : s.length = j.To.length) (hsm : Small s) :
    (wantAll j l).length = l.length ∧ HoldOk (wantAll j l) s ∧ HoldOk l (ledL j s) ∧ holdB (wantAll j l) s = holdB l (ledL j s) ∧ JW j s.length ∧ s.length ≤ 8 := by
  obtain ⟨hh, hnb, hal⟩ := want_zero h
  obtain ⟨ha, hb, hc⟩ := wantHead_zero (j := j) (l := l) (by rw [hh])
  have hj := JW.of hb
  have hrs := rowsFault_zero hc
  have hlen : (wantAll j l).length = l.length := by rw [hal, List.length_map]
  have hN8 : (j.To.length : Int) ≤ 8 := by omega
  have hnth : ∀ k, k < l.length → nth (wantAll j l) k = wantRow j (nth l k) := fun k hk => by rw [hal]; simp [nth, List.getElem?_eq_getElem hk]
  have hrow : ∀ k, k < l.length → rowFault j.To.length (wantRow j (nth l k)) = 0 := fun k hk => by
    refine Decidable.of_not_not fun hne => hnb k hk ((wantRow_fault hh hk).1 hne)
  have hf : rowsFault (wantAll j l) j.To.length = 0 := rowsFault_no (by have := hrs.1; omega) fun k hk => by rw [hnth k (by omega)]; exact hrow k (by omega)
  have hbd : ∀ k, k < l.length → -10000000000000 ≤ dotL (nth l k).Of (ledL j s) ∧ dotL (nth l k).Of (ledL j s) ≤ 10000000000000 := fun k hk => by
    have hr := rowFault_zero (hrs.2 k hk)
    have hw := rowFault_zero (hrow k hk)
    have hd := dotS_bound (hrow k hk) hN8 hsm (by omega) (Nat.le_refl _)
    have e2 : (wantRow j (nth l k)).To = wantTo j (nth l k) := rfl
    rw [e2] at hw
    rw [weak_sum hs (by omega)]
    unfold dotL
    omega
  refine ⟨hlen, HoldOk.of hf hN8 hsm (by omega), ⟨fun k hk => ?_, fun k hk i hi => ?_, fun k hk => ?_, fun k hk => (rowFault_zero (hrs.2 k hk)).1⟩, ?_, by rw [hs]; exact hj, by omega⟩
  · have := rowFault_zero (hrs.2 k hk); rw [ledL_len]; omega
  · have hr := rowFault_zero (hrs.2 k hk)
    have h1 := outs_false hr.2.2.1 hi
    have h2 := led_bound (j := j) (s := s) (i := i) (k := s.length) (n := s.length) (by rw [hs]; exact hj) rfl (by omega) hsm (by omega) (Nat.le_refl _)
    have h3 : nth (ledL j s) i = ledTo j s i s.length := by rw [ledL, nth_range' (by omega)]
    rw [h3]
    have h4 : (nth (nth l k).Of i * ledTo j s i s.length).natAbs ≤ 1000000 * 8000001000000 := by rw [Int.natAbs_mul]; exact Nat.mul_le_mul (by omega) (by omega)
    constructor <;> omega
  · have := hbd k hk; constructor <;> omega
  · unfold holdB
    rw [hlen]
    apply decide_congr_of
    constructor
    · intro hall k hk hout
      have := rowFault_zero (hrs.2 k hk)
      refine hall k hk ?_
      rw [hnth k hk]; exact (weak_row hs (by omega)).1 hout
    · intro hall k hk hout
      have := rowFault_zero (hrs.2 k hk)
      rw [hnth k hk] at hout
      exact hall k hk ((weak_row hs (by omega)).2 hout)
end
/-! ### Closed facts -/
def countL : Loop := ⟨[0], [9], [⟨[1], 3, 0⟩], [⟨[⟨[1], 2, 3⟩], [[1, 1]]⟩], [⟨[1], 3, 5⟩]⟩
theorem count_runs : runsOut countL = [[0], [1], [2], [3]] ∧ loopFault countL = (0, 0) := by
  have h1 : loopFault countL = (0, 0) := by decide +kernel
  have h2 : comeAt countL 4 = [[0], [1], [2], [3]] := by decide +kernel
  refine ⟨?_, h1⟩
  rw [runsOut, if_neg (by rw [h1]; decide), comeL_of (i := 4) (by decide) (by rw [h2]; decide), h2]
theorem count_next : nextOut countL [3] = [] ∧ nextFault countL [3] = (0, 0) := by decide +kernel
theorem count_want : (wantFault (nth countL.Jumps 0) countL.Bad).1 = 0 ∧ (wantAll (nth countL.Jumps 0) countL.Bad).length = 1 ∧ (nth (wantAll (nth countL.Jumps 0) countL.Bad) 0).To = 4 := by decide +kernel
/-! ### Closed -/
def ledAll (l : Loop) (i : Nat) : List (List Int) := (List.range i).flatMap fun j => nextL l (nth (comeL l) j)
theorem ledAll_next {l : Loop} {i : Nat} : ledAll l (i + 1) = ledAll l i ++ nextL l (nth (comeL l) i) := by simp [ledAll, List.range_succ]
theorem ledAll_mem {l : Loop} {i j : Nat} (hj : j < i) {s : List Int} (h : s ∈ nextL l (nth (comeL l) j)) : s ∈ ledAll l i := List.mem_flatMap.2 ⟨j, List.mem_range.2 hj, h⟩
theorem ledAll_len {l : Loop} (hl : LW l) : ∀ i, (ledAll l i).length ≤ i * 6
  | 0 => by simp [ledAll]
  | i + 1 => by
    have h1 := ledAll_len hl i
    have h2 : (nextL l (nth (comeL l) i)).length ≤ 6 := Nat.le_trans (nextTo_len _) hl.jumps
    rw [ledAll_next, List.length_append]; omega
theorem come_hold {l : Loop} (hl : LW l) {i : Nat} (hi : i < (comeL l).length) : holdB l.Start (nth (comeL l) i) = true ∨ nth (comeL l) i ∈ ledAll l i := by
  rcases come_from hl hi with h | ⟨j, h1, h2⟩
  · exact .inl (startsL_mem hl h).2
  · exact .inr (ledAll_mem h1 h2)
theorem next_ok {l : Loop} (hl : LW l) {s : List Int} (h : St_ l s) : nextFault l s = (0, 0) ∧ nextOut l s = nextL l s := by
  have h1 : nextFault l s = (0, 0) := by rw [nextFault, hl.code, if_neg (by decide), if_neg (by have := h.1; omega), if_pos h.2]
  exact ⟨h1, by rw [nextOut, h1, if_neg (by decide)]⟩
theorem q_field {P : Program} {o : Oper} {U : Nat → Prop} {f : Fr} {H : Heap} {t : TypeId} {x : Operand} {i : Nat} {cs : Array Value} {v : Value} {fs : Array Field} {fd : Field} (ho : o.op = .field t x i) (ht : P.underlying t = some (.struct fs)) (hf : fs[i]? = some fd)
    (ha : ∀ w, (isAgg fd.type).run P w = .ok false w) (hx : ev f x = .agg cs) (hv : cs[fd.offset]? = some v) : Quiet P o U f H v := by
  intro w _
  simp [execOp, ho, hx, Instr.field, run_underlying ht, hf, part, ha, asAgg, hv]
end Go.Um
