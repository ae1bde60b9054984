/- Instances of patterns: the search finds one where there is one, and what it finds is one. No program is in sight. -/
import Derived.Test.YtkhpaklglggagaaRopeBoth
namespace Go.Um
open GoT (sz ag rdc)

/-- A pattern, its unknowns replaced. -/
def instP (τ : Int → List Int) : List Int → List Int
  | [] => []
  | p :: ps => (if 0 ≤ p then [p] else τ p) ++ instP τ ps
theorem instP_app {τ : Int → List Int} : ∀ {a b : List Int}, instP τ (a ++ b) = instP τ a ++ instP τ b
  | [], b => rfl
  | p :: a, b => by simp [instP, instP_app (a := a)]
theorem instP_take {τ : Int → List Int} {p : List Int} {i : Nat} (h : i < p.length) : instP τ (p.take (i + 1)) = instP τ (p.take i) ++ (if 0 ≤ nth p i then [nth p i] else τ (nth p i)) := by
  rw [take_succ_nth h, instP_app]; simp [instP]

def tau (σ : Subst) : Int → List Int := fun q => (σ q).getD []

theorem fitF_grows : ∀ {ps t : List Int} {σ σ' : Subst}, fitF ps t σ = some σ' → ∀ q w, σ q = some w → σ' q = some w
  | [], t, σ, σ', h, q, w, hq => by
    unfold fitF at h
    split at h
    · cases h; exact hq
    · cases h
  | p :: ps, t, σ, σ', h, q, w, hq => by
    unfold fitF at h
    split at h
    · split at h
      · exact fitF_grows h q w hq
      · cases h
    · split at h
      · split at h
        · exact fitF_grows h q w hq
        · cases h
      · rename_i hn
        obtain ⟨j, _, _, h3, _⟩ := fst1_what h
        refine fitF_grows h3 q w ?_
        unfold put
        split
        · rename_i e; subst e; rw [hn] at hq; cases hq
        · exact hq
theorem fitF_sound : ∀ {ps t : List Int} {σ σ' : Subst}, fitF ps t σ = some σ' → instP (tau σ') ps = t
  | [], t, σ, σ', h => by
    unfold fitF at h
    split at h
    · rename_i h0; rw [h0]; rfl
    · cases h
  | p :: ps, t, σ, σ', h => by
    unfold fitF at h
    split at h
    · rename_i hp
      split at h
      · rename_i ht
        rw [instP, if_pos hp, fitF_sound h, ← ht.2]
        exact (nth_zero ht.1).symm
      · cases h
    · rename_i hp
      rw [instP, if_neg hp]
      split at h
      · rename_i w hw
        split at h
        · rename_i hl
          have : tau σ' p = w := by rw [tau, fitF_grows h p w hw]; rfl
          rw [fitF_sound h, this]
          have h2 := List.take_append_drop w.length t
          rw [← hl.2] at h2; exact h2
        · cases h
      · obtain ⟨j, _, hj, h3, _⟩ := fst1_what h
        have : tau σ' p = t.take j := by rw [tau, fitF_grows h3 p (t.take j) (by simp [put])]; rfl
        rw [fitF_sound h3, this, List.take_append_drop]
theorem fitF_complete {τ : Int → List Int} : ∀ {ps t : List Int} {σ : Subst}, (∀ q w, σ q = some w → τ q = w) → t = instP τ ps → fitF ps t σ ≠ none
  | [], t, σ, _, h => by unfold fitF; rw [if_pos (show t = [] from h)]; simp
  | p :: ps, t, σ, hσ, h => by
    unfold fitF
    rw [instP] at h
    split
    · rename_i hp
      rw [if_pos hp] at h
      subst h
      rw [if_pos ⟨by simp, rfl⟩]
      exact fitF_complete hσ rfl
    · rename_i hp
      rw [if_neg hp] at h
      split
      · rename_i w hw
        rw [hσ p w hw] at h
        subst h
        rw [if_pos ⟨by simp, by simp⟩]
        exact fitF_complete hσ (by simp)
      · intro hn
        have h1 := fst1_neg hn (τ p).length (Nat.zero_le _) (by rw [h, List.length_append]; omega)
        refine fitF_complete (τ := τ) (σ := put σ p (t.take (τ p).length)) (fun q w hq => ?_) ?_ h1
        · unfold put at hq
          split at hq
          · rename_i e; subst e; cases hq; rw [h]; simp
          · exact hσ q w hq
        · rw [h]; simp

/-- What the instance takes for an unknown. -/
def given (is : List (List Int)) : Int → List Int := fun q => if -3 ≤ q then nth is (-q - 1).toNat else []
theorem given_yes {is : List (List Int)} {q : Int} (h : (1 ≤ -q ∧ -q ≤ 3) ∧ -q ≤ (is.length : Int)) : given is q = nth is (-q - 1).toNat := by rw [given, if_pos (by omega)]
theorem given_no {is : List (List Int)} {q : Int} (hq : q < 0) (h : ¬ ((1 ≤ -q ∧ -q ≤ 3) ∧ -q ≤ (is.length : Int))) : given is q = [] := by
  unfold given
  split
  · have : is.length ≤ (-q - 1).toNat := by omega
    rw [nth, List.getD_eq_getElem?_getD, List.getElem?_eq_none this]; rfl
  · rfl
theorem made_ok {p t : List Int} {is : List (List Int)} (ht : t = instP (given is) p) (hf : (fitFault p t).1 = 0) : (ropeAll p t).2.1 = true := by
  have hf2 : fitFault p t = (0, 0) := by
    unfold fitFault at hf ⊢
    split at hf
    · cases hf
    · split at hf
      · cases hf
      · split at hf
        · cases hf
        · rename_i h1 _ h2 _ h3; rw [if_neg h1]
  cases hc : fitF p t (fun _ => none) with
  | none => exact (fitF_complete (τ := given is) (fun q w hq => by cases hq) ht hc).elim
  | some σ => rw [ropeAll_yes hf2 hc]

theorem instP_congr {τ τ' : Int → List Int} : ∀ {p : List Int}, (∀ q ∈ p, q < 0 → τ q = τ' q) → instP τ p = instP τ' p
  | [], _ => rfl
  | q :: p, h => by
    rw [instP, instP, instP_congr fun q' hq' => h q' (List.mem_cons_of_mem _ hq')]
    split
    · rfl
    · rw [h q (List.mem_cons_self ..) (by omega)]
theorem nth_outF {σ : Subst} {n k : Nat} (h : k < n) : nth (outF σ n) k = (σ (-(k : Int) - 1)).getD [] := by
  rw [nth, List.getD_eq_getElem?_getD, outF, List.getElem?_map, List.getElem?_range h]; rfl
theorem outF_len {σ : Subst} {n : Nat} : (outF σ n).length = n := by simp [outF]
theorem made_all {p t : List Int} (hf : (fitFault p t).1 = 0) (hok : (ropeAll p t).2.1 = true) :
    instP (fun q => nth (ropeAll p t).1 (-q - 1).toNat) p = t ∧ ∀ q ∈ p, -q ≤ ((ropeAll p t).1.length : Int) := by
  have hf2 : fitFault p t = (0, 0) := by
    unfold fitFault at hf ⊢
    split at hf
    · cases hf
    · split at hf
      · cases hf
      · split at hf
        · cases hf
        · rename_i h1 _ h2 _ h3; rw [if_neg h1]
  cases hc : fitF p t (fun _ => none) with
  | none => rw [ropeAll_no hf2 hc] at hok; cases hok
  | some σ =>
    rw [ropeAll_yes hf2 hc]
    have hm := mostL_nonneg p
    refine ⟨?_, fun q hq => ?_⟩
    · rw [← fitF_sound hc]
      refine instP_congr fun q hq hneg => ?_
      have hge := mostL_ge p q hq
      show nth (outF σ (mostL p).toNat) (-q - 1).toNat = tau σ q
      rw [nth_outF (by omega), tau]
      congr 2
      omega
    · have hge := mostL_ge p q hq
      show -q ≤ (((outF σ (mostL p).toNat).length : Nat) : Int)
      rw [outF_len]; omega

theorem instP_pre {τ : Int → List Int} {p : List Int} (n : Nat) : (instP τ (p.take n)).length ≤ (instP τ p).length := by
  have : instP τ p = instP τ (p.take n) ++ instP τ (p.drop n) := by rw [← instP_app, List.take_append_drop]
  rw [this, List.length_append]; omega
theorem made_bad {p t : List Int} (h : (ropeAll p t).2.2.1 ≠ 0) : (ropeAll p t).1 = [] := by
  have hf := ropeAll_fault (p := p) (t := t)
  rw [hf] at h
  cases hc : fitFault p t with
  | mk c a => rw [hc] at h; rw [ropeAll_bad hc h]

theorem fit_lo {p t : List Int} (h : (fitFault p t).1 = 0) {q : Int} (hq : q ∈ p) : -3 ≤ q := by
  obtain ⟨j, hj, rfl⟩ := nth_of_mem hq
  unfold fitFault at h
  split at h
  · cases h
  · split at h
    · cases h
    · rename_i hb
      have := fst1_neg hb j (Nat.zero_le _) (by omega)

      split at this
      · rename_i h2; exact h2.1
      · cases this
end Go.Um
