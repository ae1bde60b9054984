/- The reference's search for a shortest word, round by round. No program is in sight. -/
import Derived.Test.YtkhpaklglggagaaAutoLea
import Derived.Test.YtkhpaklglggagaaUmHas
namespace Go.Um
section
variable {a : Auto} {L : List Int} {W : Int → Option (List Int)} {i c m g : Nat}
/-- a search can be gone on with -/
theorem Bfs.on (hw : WF a) : ∀ (d : Nat) {L : List Int} {W : Int → Option (List Int)} {c : Nat}, Bfs a L W i c → i < L.length → c + d = a.Signs.toNat → ∃ L' W', Bfs a L' W' (i + 1) 0 ∧ L.length ≤ L'.length ∧ ∀ k, k < L.length → nth L' k = nth L k ∧ W' (nth L k) = W (nth L k)
  | 0, L, W, c, h, hi, hc => ⟨L, W, h.turn (by omega), Nat.le_refl _, fun _ _ => ⟨rfl, rfl⟩⟩
  | d + 1, L, W, c, h, hi, hc => by
    by_cases hs : (W (stepA a (nth L i) c)).isSome = true
    · exact Bfs.on hw d (h.old hi hs) hi (by omega)
    · have hnew := h.new hw hi (by omega) hs rfl
      obtain ⟨L', W', h1, h2, h3⟩ := Bfs.on hw d hnew (by rw [List.length_append]; omega) (by omega)
      rw [List.length_append, List.length_singleton] at h2
      refine ⟨L', W', h1, by omega, fun k hk => ?_⟩
      obtain ⟨h4, h5⟩ := h3 k (by rw [List.length_append]; omega)
      rw [nth_app_left hk] at h4 h5
      refine ⟨h4, h5.trans (if_neg fun e => hs ?_)⟩
      rw [e]; exact (h.dom _).2 (nth_mem hk)
theorem Bfs.to_ (hw : WF a) : ∀ (d : Nat) {L : List Int} {W : Int → Option (List Int)} {m : Nat}, Bfs a L W m 0 → m + d < L.length → ∃ L' W', Bfs a L' W' (m + d) 0 ∧ L.length ≤ L'.length ∧ ∀ k, k < L.length → nth L' k = nth L k ∧ W' (nth L k) = W (nth L k)
  | 0, L, W, m, h, _ => ⟨L, W, h, Nat.le_refl _, fun _ _ => ⟨rfl, rfl⟩⟩
  | d + 1, L, W, m, h, hm => by
    obtain ⟨L1, W1, h1, h2, h3⟩ := Bfs.on hw a.Signs.toNat h (by omega) (by omega)
    obtain ⟨L', W', h4, h5, h6⟩ := Bfs.to_ hw d h1 (by omega)
    refine ⟨L', W', by rw [show m + (d + 1) = m + 1 + d by omega]; exact h4, by omega, fun k hk => ?_⟩
    obtain ⟨h7, h8⟩ := h3 k hk
    obtain ⟨h9, h10⟩ := h6 k (by omega)
    rw [h7] at h9 h10
    exact ⟨h9, h10.trans h8⟩
theorem Bfs.layer (hw : WF a) (h : Bfs a L W m 0) (hm : m ≤ g) (hg : g < L.length) (hno : ∀ j, j < g → nth a.Takes (nth L j).toNat = false) (hyes : nth a.Takes (nth L g).toNat = true) : AnyIs a ((W (nth L g)).getD []) true := by
  obtain ⟨L', W', h1, h2, h3⟩ := Bfs.to_ hw (g - m) h (by omega)
  rw [show m + (g - m) = g by omega] at h1
  have h4 := h1.found (by omega) (fun j hj => by rw [(h3 j (by omega)).1]; exact hno j hj) (by rw [(h3 g hg).1]; exact hyes)
  rwa [(h3 g hg).1, (h3 g hg).2] at h4
theorem AnyIs.uniq {p q : List Int} {x y : Bool} (h : AnyIs a p x) (h2 : AnyIs a q y) : p = q ∧ x = y := by
  rcases h with ⟨rfl, h3, h4, h5⟩ | ⟨rfl, rfl, h5⟩ <;> rcases h2 with ⟨rfl, h6, h7, h8⟩ | ⟨rfl, rfl, h8⟩
  · refine ⟨Classical.byContradiction fun hne => ?_, rfl⟩
    exact h5 q h7 h6 (slt_tri (h8 p h4 h3) hne)
  · rw [h8 p h4] at h3; cases h3
  · rw [h5 q h7] at h6; cases h6
  · exact ⟨rfl, rfl⟩
end
/-- of a round: D is done, A is at hand with the words P, T is found for the next one with the words Q -/
def ShS (a : Auto) (D A T : List Int) (P Q : List (List Int)) (i c : Nat) : Prop :=
  ∃ W, Bfs a (D ++ A ++ T) W (D.length + i) c ∧ P.length = A.length ∧ Q.length = T.length ∧ (∀ j, j < A.length → W (nth A j) = some (nth P j)) ∧ (∀ j, j < T.length → W (nth T j) = some (nth Q j)) ∧ ∀ s, s ∈ D → nth a.Takes s.toNat = false
section
variable {a : Auto} {D A T : List Int} {P Q : List (List Int)} {i c k j : Nat}
theorem nth_mid (hj : j < A.length) : nth (D ++ A ++ T) (D.length + j) = nth A j := by
  rw [nth_eq (by simp; omega), nth_eq hj, List.getElem_append_left (by simp; omega), List.getElem_append_right (by omega)]
  congr 1; omega
theorem nth_low (hj : j < D.length) : nth (D ++ A ++ T) j = nth D j := by
  rw [nth_eq (by simp; omega), nth_eq hj, List.getElem_append_left (by simp; omega), List.getElem_append_left hj]
theorem ShS.start (hw : WF a) : ShS a [] [0] [] [[]] [] 0 0 := by
  refine ⟨_, Bfs.start hw, rfl, rfl, fun j hj => ?_, fun j hj => by simp at hj, fun s hs => by cases hs⟩
  have : j = 0 := by simp at hj; omega
  subst this
  exact if_pos rfl
theorem ShS.few (h : ShS a D A T P Q i c) : D.length + A.length + T.length ≤ a.Next.length := by
  obtain ⟨W, h1, _⟩ := h
  have := h1.few
  simpa [Nat.add_assoc] using this
theorem ShS.lens (h : ShS a D A T P Q i c) : P.length = A.length ∧ Q.length = T.length := by
  obtain ⟨W, _, h2, h3, _⟩ := h; exact ⟨h2, h3⟩
theorem ShS.rng (h : ShS a D A T P Q i c) (hk : k < A.length) : 0 ≤ nth A k ∧ nth A k < (a.Next.length : Int) := by
  obtain ⟨W, h1, _⟩ := h
  exact h1.rng _ (List.mem_append_left _ (List.mem_append_right _ (nth_mem hk)))
theorem ShS.wlen (h : ShS a D A T P Q i c) (hk : k < A.length) : (nth P k).length ≤ a.Next.length := by
  have hf := h.few
  obtain ⟨W, h1, _, _, h4, _⟩ := h
  have h5 := h1.short (D.length + k) (by simp; omega)
  rw [nth_mid hk, h4 k hk, Option.getD_some] at h5
  omega
theorem ShS.has (h : ShS a D A T P Q i c) (hi : i < A.length) (hc : c < a.Signs.toNat) (hh : hasB (D ++ A ++ T) (stepA a (nth A i) c) = true) : ShS a D A T P Q i (c + 1) := by
  obtain ⟨W, h1, h2⟩ := h
  refine ⟨W, h1.old (by simp; omega) ?_, h2⟩
  rw [nth_mid hi]
  exact (h1.dom _).2 (of_decide_eq_true hh)
theorem ShS.new (h : ShS a D A T P Q i c) (hw : WF a) (hi : i < A.length) (hc : c < a.Signs.toNat) (hh : hasB (D ++ A ++ T) (stepA a (nth A i) c) = false) : ShS a D A (T ++ [stepA a (nth A i) c]) P (Q ++ [nth P i ++ [(c : Int)]]) i (c + 1) := by
  obtain ⟨W, h1, h2, h3, h4, h5, h6⟩ := h
  have hnm : stepA a (nth A i) c ∉ D ++ A ++ T := of_decide_eq_false hh
  have hW : W (nth A i) = some (nth P i) := h4 i hi
  have h7 := h1.new hw (by simp; omega) (by omega) (by rw [nth_mid hi]; exact fun h => hnm ((h1.dom _).1 h)) (w := nth P i ++ [(c : Int)]) (by rw [nth_mid hi, hW]; rfl)
  rw [nth_mid hi, List.append_assoc (D ++ A)] at h7
  have hkeep : ∀ s, s ∈ D ++ A ++ T → (if stepA a (nth A i) c = s then some (nth P i ++ [(c : Int)]) else W s) = W s := fun s hs => if_neg fun e => hnm (by rw [e]; exact hs)
  refine ⟨_, h7, h2, by simp [h3], fun j hj => (hkeep _ (List.mem_append_left _ (List.mem_append_right _ (nth_mem hj)))).trans (h4 j hj), fun j hj => ?_, h6⟩
  by_cases hjl : j < T.length
  · rw [nth_app_left hjl, nth_app_left (by rw [h3]; exact hjl)]
    exact (hkeep _ (List.mem_append_right _ (nth_mem hjl))).trans (h5 j hjl)
  · have hj2 : j = T.length := by simp at hj; omega
    subst hj2
    rw [nth_app_last, ← h3, nth_app_last]
    exact if_pos rfl
theorem ShS.turn (h : ShS a D A T P Q i c) (hc : a.Signs ≤ (c : Int)) : ShS a D A T P Q (i + 1) 0 := by
  obtain ⟨W, h1, h2⟩ := h
  exact ⟨W, h1.turn hc, h2⟩
theorem ShS.round (h : ShS a D A T P Q i 0) (hi : i = A.length) (hno : ∀ j, j < A.length → nth a.Takes (nth A j).toNat = false) : ShS a (D ++ A) T [] Q [] 0 0 := by
  obtain ⟨W, h1, h2, h3, h4, h5, h6⟩ := h
  refine ⟨W, ?_, h3, rfl, h5, fun j hj => by simp at hj, fun s hs => ?_⟩
  · rw [List.append_nil, Nat.add_zero, List.length_append, ← hi]; exact h1
  · rcases List.mem_append.1 hs with hs | hs
    · exact h6 s hs
    · obtain ⟨j, hj, rfl⟩ := nth_of_mem hs
      exact hno j hj
theorem ShS.yes (h : ShS a D A [] P [] 0 0) (hw : WF a) (hk : k < A.length) (hno : ∀ j, j < k → nth a.Takes (nth A j).toNat = false) (hy : nth a.Takes (nth A k).toNat = true) : AnyIs a (nth P k) true := by
  obtain ⟨W, h1, h2, h3, h4, h5, h6⟩ := h
  have h7 := h1.layer hw (g := D.length + k) (by omega) (by simp; omega) (fun j hj => ?_) (by rw [nth_mid hk]; exact hy)
  · rwa [nth_mid hk, h4 k hk, Option.getD_some] at h7
  · by_cases hjd : j < D.length
    · rw [nth_low hjd]; exact h6 _ (nth_mem hjd)
    · have := nth_mid (D := D) (A := A) (T := []) (j := j - D.length) (by omega)
      rw [show D.length + (j - D.length) = j by omega] at this
      rw [this]; exact hno _ (by omega)
theorem ShS.lost (h : ShS a D A [] P [] 0 0) (hA : A.length = 0) : AnyIs a [] false := by
  obtain ⟨W, h1, h2, h3, h4, h5, h6⟩ := h
  have hA' := List.length_eq_zero_iff.1 hA
  subst hA'
  rw [List.append_nil, List.append_nil] at h1
  exact h1.lost rfl fun j hj => h6 _ (nth_mem (by omega))
end
end Go.Um
