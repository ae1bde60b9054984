/- The reference's least automaton, state by state. No program is in sight. -/
import Derived.Test.YtkhpaklglggagaaAutoNer
import Derived.Test.YtkhpaklglggagaaAutoApart
namespace Go.Um
section
variable {α : Type} [DecidableEq α] [Inhabited α] {nx : α → Int → α} {sg : Nat} {s0 : α}
theorem growTo_pre {L : List α} {x : α} {c c' : Nat} (h : c ≤ c') : ∀ k, k < (growTo nx L x c).length → nth (growTo nx L x c') k = nth (growTo nx L x c) k ∧ (growTo nx L x c).length ≤ (growTo nx L x c').length := by
  induction h with
  | refl => exact fun k _ => ⟨rfl, Nat.le_refl _⟩
  | step h ih => exact fun k hk => ⟨(addN_nth (Nat.lt_of_lt_of_le hk (ih k hk).2)).trans (ih k hk).1, Nat.le_trans (ih k hk).2 (addN_len _ _)⟩
theorem Ended.ge {e i : Nat} (h : Ended nx sg s0 e) (hd : ∀ j, j < i → j < (bfs nx sg s0 j).length) : i ≤ e := by
  refine Classical.byContradiction fun hn => ?_
  have := hd e (by omega)
  have := h.1; omega
/-- what is met so far stands at the head of what is met at the end -/
theorem Ended.pre {e i c : Nat} (h : Ended nx sg s0 e) (hd : ∀ j, j < i → j < (bfs nx sg s0 j).length) (hc : c ≤ sg) (hi : c = 0 ∨ i < (bfs nx sg s0 i).length) : ∀ k, k < (growTo nx (bfs nx sg s0 i) (nth (bfs nx sg s0 i) i) c).length →
    k < (Go.Um.endL nx sg s0).length ∧ nth (Go.Um.endL nx sg s0) k = nth (growTo nx (bfs nx sg s0 i) (nth (bfs nx sg s0 i) i) c) k := by
  intro k hk
  rw [h.endL]
  rcases hi with rfl | hi
  · have h1 := bfs_pre (nx := nx) (signs := sg) (start := s0) (h.ge hd) k hk
    exact ⟨Nat.lt_of_lt_of_le hk h1.2, h1.1⟩
  · have h2 := growTo_pre (nx := nx) (L := bfs nx sg s0 i) (x := nth (bfs nx sg s0 i) i) hc k hk
    have hd2 : ∀ j, j < i + 1 → j < (bfs nx sg s0 j).length := fun j hj => by
      by_cases e : j = i
      · subst e; exact hi
      · exact hd j (by omega)
    have h1 := bfs_pre (nx := nx) (signs := sg) (start := s0) (h.ge hd2) k (Nat.lt_of_lt_of_le hk h2.2)
    exact ⟨Nat.lt_of_lt_of_le (Nat.lt_of_lt_of_le hk h2.2) h1.2, h1.1.trans h2.1⟩
end
noncomputable def nxL (a : Auto) : Int → Int → Int := clNx a (cl0 a) id
noncomputable def gL (a : Auto) (i c : Nat) : List Int := growTo (nxL a) (bfs (nxL a) a.Signs.toNat (cl0 a 0) i) (nth (bfs (nxL a) a.Signs.toNat (cl0 a 0) i) i) c
noncomputable def leL (a : Auto) : List Int := endL (nxL a) a.Signs.toNat (cl0 a 0)
noncomputable def leRow (a : Auto) (i c : Nat) : List Int := (List.range c).map fun (c : Nat) => numOf (leL a) (nxL a (nth (leL a) i) c)
noncomputable def leNext (a : Auto) (i : Nat) : List (List Int) := ((leL a).take i).map fun x => (List.range a.Signs.toNat).map fun (c : Nat) => numOf (leL a) (nxL a x c)
noncomputable def leTakes (a : Auto) (i : Nat) : List Bool := ((leL a).take i).map fun x => nth a.Takes (id x).toNat
structure LeastS (a : Auto) (mt : List Int) (i c : Nat) : Prop where
  inA : ∀ x, x ∈ mt → InA a x
  map : mt.map (cl0 a) = gL a i c
  done : ∀ j, j < i → j < (bfs (nxL a) a.Signs.toNat (cl0 a 0) j).length
  at_ : c = 0 ∨ i < (bfs (nxL a) a.Signs.toNat (cl0 a 0) i).length
  lt : c ≤ a.Signs.toNat
section
variable {a : Auto} {mt : List Int} {i c k : Nat}
theorem leRow_next : leRow a i (c + 1) = leRow a i c ++ [numOf (leL a) (nxL a (nth (leL a) i) c)] := by rw [leRow, List.range_succ, List.map_append]; rfl
theorem leRow_len : (leRow a i c).length = c := by simp [leRow]
theorem leNext_len : (leNext a i).length ≤ i := by rw [leNext, List.length_map, List.length_take]; omega
theorem leTakes_len : (leTakes a i).length ≤ i := by rw [leTakes, List.length_map, List.length_take]; omega
theorem leNext_next (h : i < (leL a).length) : leNext a (i + 1) = leNext a i ++ [leRow a i a.Signs.toNat] := by rw [leNext, take_succ_nth h, List.map_append]; rfl
theorem leTakes_next (h : i < (leL a).length) : leTakes a (i + 1) = leTakes a i ++ [nth a.Takes (nth (leL a) i).toNat] := by rw [leTakes, take_succ_nth h, List.map_append]; rfl
theorem le_made : leastA a = ⟨((a.Signs.toNat : Nat) : Int), leNext a (leL a).length, leTakes a (leL a).length⟩ := by
  rw [leNext, leTakes, List.take_length]; rfl
theorem LeastS.start (hw : WF a) : LeastS a [0] 0 0 := ⟨fun x hx => by rw [List.mem_singleton.1 hx]; exact InA.start hw, rfl, (fun j hj => by omega), .inl rfl, Nat.zero_le _⟩
theorem LeastS.any (h : LeastS a mt i c) (hw : WF a) (k : Nat) : 0 ≤ nth mt k ∧ nth mt k < (a.Next.length : Int) := by
  by_cases hk : k < mt.length
  · exact h.inA _ (nth_mem hk)
  · have : nth mt k = 0 := by simp [nth, List.getElem?_eq_none (by omega : mt.length ≤ k)]
    rw [this]
    have := hw.many; omega
theorem LeastS.nodup (h : LeastS a mt i c) : (mt.map (cl0 a)).Nodup := by rw [h.map]; exact growTo_nodup (bfs_nodup i) c
theorem LeastS.few (h : LeastS a mt i c) : mt.length ≤ a.Next.length := by
  have := cls0.few _ h.nodup fun x hx => by
    obtain ⟨s, hs, rfl⟩ := List.mem_map.1 hx
    exact ⟨s, h.inA s hs, rfl⟩
  simpa using this
theorem LeastS.pos (h : LeastS a mt i c) (hw : WF a) (hk : k < mt.length) : k < (leL a).length ∧ nth (leL a) k = cl0 a (nth mt k) := by
  obtain ⟨e, he⟩ := cls0.ends hw
  have h1 : (gL a i c).length = mt.length := by rw [← h.map, List.length_map]
  have h2 := Ended.pre (nx := nxL a) (e := e) he h.done h.lt h.at_ k (by have := h1; unfold gL at this; omega)
  refine ⟨h2.1, h2.2.trans ?_⟩
  show nth (gL a i c) k = _
  rw [← h.map, nth_map' hk]
theorem LeastS.len (h : LeastS a mt i 0) : (bfs (nxL a) a.Signs.toNat (cl0 a 0) i).length = mt.length := by
  have := h.map
  have h1 : (gL a i 0).length = mt.length := by rw [← this, List.length_map]
  exact h1
/-- the class of where a state that is met leads -/
theorem LeastS.step (h : LeastS a mt i c) (hw : WF a) (hi : i < (bfs (nxL a) a.Signs.toNat (cl0 a 0) i).length) (him : i < mt.length) (hc : c < a.Signs.toNat) : nxL a (nth (bfs (nxL a) a.Signs.toNat (cl0 a 0) i) i) (c : Int) = cl0 a (stepA a (nth mt i) c) ∧ InA a (stepA a (nth mt i) c) := by
  have hsg := hw.signs
  have hin := h.inA _ (nth_mem him)
  have h1 : nth (bfs (nxL a) a.Signs.toNat (cl0 a 0) i) i = cl0 a (nth mt i) := by
    have h2 := growTo_pre (nx := nxL a) (L := bfs (nxL a) a.Signs.toNat (cl0 a 0) i) (x := nth (bfs (nxL a) a.Signs.toNat (cl0 a 0) i) i) (Nat.zero_le c) i hi
    have h3 : nth (gL a i c) i = cl0 a (nth mt i) := by rw [← h.map, nth_map' him]
    exact h2.1.symm.trans h3
  rw [h1]
  exact ⟨cls0.step hw hin ⟨by omega, by omega⟩, hin.step hw ⟨by omega, by omega⟩⟩
theorem LeastS.new (h : LeastS a mt i c) (hw : WF a) (hi : i < (bfs (nxL a) a.Signs.toNat (cl0 a 0) i).length) (him : i < mt.length) (hc : c < a.Signs.toNat) (hno : ∀ j, j < mt.length → ¬ Eqv a (nth mt j) (stepA a (nth mt i) c)) : LeastS a (mt ++ [stepA a (nth mt i) c]) i (c + 1) := by
  obtain ⟨h1, h2⟩ := h.step hw hi him hc
  refine ⟨fun x hx => ?_, ?_, h.done, .inr hi, hc⟩
  · rcases List.mem_append.1 hx with hx | hx
    · exact h.inA x hx
    · rw [List.mem_singleton.1 hx]; exact h2
  · rw [List.map_append, h.map]
    show gL a i c ++ [_] = addN (gL a i c) _
    rw [h1, addN, if_neg]
    · rw [← h.map]
      intro hm
      obtain ⟨x, hx, e⟩ := List.mem_map.1 hm
      obtain ⟨j, hj, rfl⟩ := nth_of_mem hx
      exact hno j hj ((cls0.eqv _ _ (h.inA _ hx) h2).1 e)
theorem LeastS.old (h : LeastS a mt i c) (hw : WF a) (hi : i < (bfs (nxL a) a.Signs.toNat (cl0 a 0) i).length) (him : i < mt.length) (hc : c < a.Signs.toNat) (hk : k < mt.length) (he : Eqv a (nth mt k) (stepA a (nth mt i) c)) : LeastS a mt i (c + 1) := by
  obtain ⟨h1, h2⟩ := h.step hw hi him hc
  refine ⟨h.inA, ?_, h.done, .inr hi, hc⟩
  rw [h.map]
  show gL a i c = addN (gL a i c) _
  rw [h1, addN, if_pos]
  rw [← h.map, ← (cls0.eqv _ _ (h.inA _ (nth_mem hk)) h2).2 he]
  exact List.mem_map.2 ⟨_, nth_mem hk, rfl⟩
/-- the number that is written -/
theorem LeastS.num (h : LeastS a mt i (c + 1)) (hw : WF a) (him : i < mt.length) (hk : k < mt.length) (he : Eqv a (nth mt k) (stepA a (nth mt i) c)) : numOf (leL a) (nxL a (nth (leL a) i) c) = (k : Int) := by
  have hsg := hw.signs
  have hlt := h.lt
  have hin := h.inA _ (nth_mem him)
  obtain ⟨_, h2⟩ := h.pos hw him
  obtain ⟨h3, h4⟩ := h.pos hw hk
  have hs := cls0.step hw hin (c := (c : Int)) ⟨by omega, by omega⟩
  have h5 : nxL a (nth (leL a) i) (c : Int) = nth (leL a) k := by
    rw [h2, h4]
    refine hs.trans ?_
    exact ((cls0.eqv _ _ (h.inA _ (nth_mem hk)) (hin.step hw ⟨by omega, by omega⟩)).2 he).symm
  rw [h5]
  exact numOf_nth (least_closed hw).nodup h3
theorem LeastS.turn (h : LeastS a mt i c) (hc : c = a.Signs.toNat) (hi : i < (bfs (nxL a) a.Signs.toNat (cl0 a 0) i).length) : LeastS a mt (i + 1) 0 := by
  subst hc
  refine ⟨h.inA, h.map, fun j hj => ?_, .inl rfl, Nat.zero_le _⟩
  by_cases e : j = i
  · subst e; exact hi
  · exact h.done j (by omega)
theorem LeastS.fin (h : LeastS a mt i 0) (hw : WF a) (hi : i ≤ mt.length) (hn : ¬ i < mt.length) : i = (leL a).length := by
  have hlen := h.len
  have hE : Ended (nxL a) a.Signs.toNat (cl0 a 0) i := ⟨by omega, h.done⟩
  rw [leL, hE.endL]; omega
theorem LeastS.takes (h : LeastS a mt i c) (hw : WF a) (hk : k < mt.length) : nth a.Takes (nth (leL a) k).toNat = nth a.Takes (nth mt k).toNat := by
  rw [(h.pos hw hk).2]
  exact cls0.takes (h.inA _ (nth_mem hk))
end
end Go.Um
