/- What comes out when arrays are taken out is in its form. No program is in sight. -/
import Derived.Test.YtacphjgolmolmaaArrRef
namespace Go.Um
/-- The sort of a node, as it is found. -/
def sortAt (b : Ask) (i : Nat) : Int := (nodeF b i (sortsTo b i)).1
theorem sortAt_pre {b : Ask} {k j : Nat} (h : j < k) : nth (sortsTo b k) j = sortAt b j := sortsTo_pre h
theorem sortAt_of {b : Ask} {i : Nat} (h : NodeOk b i (sortsTo b i)) : sortAt b i = sortN (nth b.Nodes i) (kidS (sortsTo b i) (nth b.Nodes i).Kids) (declOf b (nth b.Nodes i)) := by
  unfold sortAt; rw [nodeF_good h]
/-! ### Declarations -/
theorem sameName_declA {nm : Str} {d : Decl} : sameName nm (declA d) = sameName nm d := by
  unfold sameName declA
  split <;> rfl
theorem declA_name {d : Decl} : (declA d).Name = d.Name := by unfold declA; split <;> rfl
theorem fst1_congr {β : Type} {g g' : Nat → Option β} : ∀ {n i : Nat}, (∀ j, i ≤ j → j < i + n → g j = g' j) → fst1 g i n = fst1 g' i n := by
  intro n
  induction n with
  | zero => intro i _; rfl
  | succ n ih =>
    intro i h
    simp only [fst1, h i (Nat.le_refl _) (by omega)]
    rw [ih fun j h1 h2 => h j (by omega) (by omega)]
theorem findD_declA {l : List Decl} {nm : Str} : findD (l.map declA) nm = findD l nm := by
  unfold findD idxOf
  rw [List.length_map, fst1_congr fun j _ hj => by rw [nth_map (by omega), sameName_declA]]
theorem any_declA {l : List Decl} {nm : Str} : (l.map declA).any (sameName nm) = l.any (sameName nm) := by
  rw [List.any_map]; congr 1; funext d; exact sameName_declA
theorem declOk_declA {l : List Decl} {i : Nat} (hi : i < l.length) (h : DeclOk l i) : DeclOk (l.map declA) i := by
  have hn : nth (l.map declA) i = declA (nth l i) := nth_map hi
  have ht : (l.map declA).take i = (l.take i).map declA := List.map_take.symm
  by_cases h5 : (nth l i).Srt = 5
  · refine ⟨by rw [hn, declA_name]; exact h.name, by rw [hn, declA_name, ht, any_declA]; exact h.once, ?_, ?_, ?_, ?_⟩ <;> rw [hn, declA_yes h5]
    · exact (by decide : 1 ≤ 8)
    · exact .inl (by show (1 : Int) ≤ 4 ∧ (4 : Int) ≤ 5; decide)
    · rfl
    · intro e; exact absurd e (by decide : (4 : Int) ≠ 5)
  · refine ⟨by rw [hn, declA_name]; exact h.name, by rw [hn, declA_name, ht, any_declA]; exact h.once, ?_, ?_, ?_, ?_⟩ <;> rw [hn, declA_no h5]
    · exact h.few
    · exact h.srt
    · exact h.args
    · exact h.arr
/-! ### Nodes -/
/-- In its form, and no array. -/
def Flat (b : Ask) (i : Nat) : Prop := NodeOk b i (sortsTo b i) ∧ sortAt b i ≠ 5 ∧ (nth b.Nodes i).Op ≠ 24 ∧ (nth b.Nodes i).Op ≠ 25
section
variable {b : Ask} {i : Nat}
theorem kid_sorts {K : List Int} (hK : ∀ x ∈ K, 0 ≤ x ∧ x < i) : kidS (sortsTo b i) K = K.map fun x => sortAt b x.toNat := by
  unfold kidS
  exact List.map_congr_left fun x hx => sortAt_pre (by have := hK x hx; omega)
theorem flat_of {n : Node} (hn : nth b.Nodes i = n) (ho : 1 ≤ n.Op ∧ n.Op ≤ 25) (h24 : n.Op ≠ 24) (h25 : n.Op ≠ 25) (hf : n.Op = 9 → 0 ≤ findD b.Decls n.Name) (hs : 0 ≤ wantN b n → (n.Kids.length : Int) = wantN b n) (h8 : n.Kids.length ≤ 8)
    (hK : ∀ x ∈ n.Kids, 0 ≤ x ∧ x < i) (hfo : formedN n) (hnu : numsB n = true) {s : Int} (hS : sortN n (n.Kids.map fun x => sortAt b x.toNat) (declOf b n) = s) (h0 : s ≠ 0) (h5 : s ≠ 5) : Flat b i ∧ sortAt b i = s := by
  subst hn
  have ok : NodeOk b i (sortsTo b i) := ⟨ho, hf, hs, h8, hK, hfo, hnu, by rw [kid_sorts hK, hS]; exact h0⟩
  have e : sortAt b i = s := by rw [sortAt_of ok, kid_sorts hK, hS]
  exact ⟨⟨ok, by rw [e]; exact h5, h24, h25⟩, e⟩
theorem flat_name {nm : Str} {x : Int} (hn : nth b.Nodes i = nameNd nm x) (hx : 0 ≤ x ∧ x < i) (h4 : sortAt b x.toNat = 4) (hf : 0 ≤ findD b.Decls nm) (hd : (nth b.Decls (findD b.Decls nm).toNat).Args = [4]) (hs : (nth b.Decls (findD b.Decls nm).toNat).Srt = 4) :
    Flat b i ∧ sortAt b i = 4 := by
  refine flat_of hn ⟨(by decide : (1 : Int) ≤ 9), (by decide : (9 : Int) ≤ 25)⟩ (by decide : (9 : Int) ≠ 24) (by decide : (9 : Int) ≠ 25) (fun _ => hf) (fun _ => ?_) (by decide : 1 ≤ 8) (fun y hy => ?_) ⟨⟨.inr rfl, .inl (.inl rfl)⟩, .inl rfl⟩ rfl ?_ (by decide : (4 : Int) ≠ 0) (by decide)
  · show ((1 : Nat) : Int) = _
    rw [wantN_yes rfl]
    show _ = ((nth b.Decls (findD b.Decls nm).toNat).Args.length : Int)
    rw [hd]; rfl
  · rw [List.mem_singleton.1 hy]; exact hx
  · show sortN (nameNd nm x) [sortAt b x.toNat] (declOf b (nameNd nm x)) = 4
    rw [h4, declOf_yes rfl]
    show (if decide ([4] = (nth b.Decls (findD b.Decls nm).toNat).Args) = true then (nth b.Decls (findD b.Decls nm).toNat).Srt else 0) = 4
    rw [hd, hs]; rfl
theorem flat_same {x y : Int} (hn : nth b.Nodes i = sameNd x y) (hx : 0 ≤ x ∧ x < i) (hy : 0 ≤ y ∧ y < i) (h4 : sortAt b x.toNat = 4) (h4' : sortAt b y.toNat = 4) : Flat b i ∧ sortAt b i = 1 := by
  refine flat_of hn ⟨(by decide : (1 : Int) ≤ 8), (by decide : (8 : Int) ≤ 25)⟩ (by decide : (8 : Int) ≠ 24) (by decide : (8 : Int) ≠ 25) (fun e => absurd e (by decide : (8 : Int) ≠ 9)) (fun _ => rfl) (by decide : 2 ≤ 8) (fun z hz => ?_) ⟨⟨.inl rfl, .inl (.inl rfl)⟩, .inl rfl⟩ rfl ?_ (by decide : (1 : Int) ≠ 0) (by decide)
  · rcases List.mem_cons.1 hz with e | hz
    · rw [e]; exact hx
    · rw [List.mem_singleton.1 hz]; exact hy
  · show sortN (sameNd x y) [sortAt b x.toNat, sortAt b y.toNat] _ = 1
    rw [h4, h4']; rfl
theorem flat_pick {x y z : Int} (hn : nth b.Nodes i = pickNd x y z) (hx : 0 ≤ x ∧ x < i) (hy : 0 ≤ y ∧ y < i) (hz : 0 ≤ z ∧ z < i) (h1 : sortAt b x.toNat = 1) (h4 : sortAt b y.toNat = 4) (h4' : sortAt b z.toNat = 4) : Flat b i ∧ sortAt b i = 4 := by
  refine flat_of hn ⟨(by decide : (1 : Int) ≤ 7), (by decide : (7 : Int) ≤ 25)⟩ (by decide : (7 : Int) ≠ 24) (by decide : (7 : Int) ≠ 25) (fun e => absurd e (by decide : (7 : Int) ≠ 9)) (fun _ => rfl) (by decide : 3 ≤ 8) (fun w hw => ?_) ⟨⟨.inl rfl, .inl (.inl rfl)⟩, .inl rfl⟩ rfl ?_ (by decide : (4 : Int) ≠ 0) (by decide)
  · rcases List.mem_cons.1 hw with e | hw
    · rw [e]; exact hx
    rcases List.mem_cons.1 hw with e | hw
    · rw [e]; exact hy
    · rw [List.mem_singleton.1 hw]; exact hz
  · show sortN (pickNd x y z) [sortAt b x.toNat, sortAt b y.toNat, sortAt b z.toNat] _ = 4
    rw [h1, h4, h4']; rfl
theorem pre_snoc {M : List Node} {y : Node} {B : List Node} (h : (M ++ [y]) <+: B) : M <+: B ∧ nth B M.length = y ∧ M.length < B.length := by
  obtain ⟨r, rfl⟩ := h
  refine ⟨⟨y :: r, by simp⟩, ?_, by simp⟩
  rw [List.append_assoc]
  exact nth_app2 (k := 0)
end
/-! ### All nodes -/
section
variable {a : Ask} {k m : Nat} (h : AskOk a) {b : Ask} (hD : b.Decls = a.Decls.map declA)
theorem getL_pre {to : List Int} {x : Int} {N B : List Node} : ∀ k, getL a to x N k <+: B → N <+: B := by
  intro k
  induction k using Nat.strongRecOn with
  | _ k ih =>
    intro hp
    by_cases h9 : (nth a.Nodes k).Op = 9
    · rw [getL_name h9] at hp; exact (pre_snoc hp).1
    · by_cases hk : kidN (nth a.Nodes k) 0 < k
      · rw [getL_put h9 hk] at hp
        exact ih _ hk (pre_snoc (pre_snoc hp).1).1
      · rw [getL, if_neg h9, dif_neg hk] at hp; exact hp
/-- Of the old nodes that are no arrays: their new numbers. -/
def Told (a b : Ask) (to : List Int) (n m : Nat) : Prop := ∀ j, j < m → nth (sorts a) j ≠ 5 → (0 ≤ nth to j ∧ nth to j < n) ∧ sortAt b (nth to j).toNat = nth (sorts a) j
include h hD
theorem getL_flat {to : List Int} {x : Int} {N : List Node} (ht : Told a b to N.length m) (hx : 0 ≤ x ∧ x < N.length) (h4 : sortAt b x.toNat = 4) (hN : ∀ i, i < N.length → Flat b i) :
    ∀ k, k < a.Nodes.length → nth (sorts a) k = 5 → k ≤ m → getL a to x N k <+: b.Nodes → (∀ i, i < (getL a to x N k).length → Flat b i) ∧ N.length < (getL a to x N k).length ∧ sortAt b ((getL a to x N k).length - 1) = 4 := by
  intro k
  induction k using Nat.strongRecOn with
  | _ k ih =>
    intro hk hs hm hp
    rcases arr_at h hk hs with h9 | ⟨h25, _⟩
    · rw [getL_name h9] at hp ⊢
      have hd := decl_at h hk h9
      have hso := (sort_at h hk).2
      rw [hs, outS, h9, declOf_yes h9] at hso
      have h5 : (nth a.Decls (findD a.Decls (nth a.Nodes k).Name).toNat).Srt = 5 := hso.symm
      have hfl := flat_name (b := b) (pre_snoc hp).2.1 ⟨hx.1, by omega⟩ h4 (by rw [hD, findD_declA]; exact (h.nodes k hk).found h9) (by rw [hD, findD_declA, nth_map hd.1, declA_yes h5]) (by rw [hD, findD_declA, nth_map hd.1, declA_yes h5])
      rw [List.length_append, List.length_singleton]
      refine ⟨fun i hi => ?_, by omega, by rw [Nat.add_sub_cancel]; exact hfl.2⟩
      by_cases hi2 : i < N.length
      · exact hN i hi2
      · rw [show i = N.length by omega]; exact hfl.1
    · obtain ⟨hl, s0, s1, s2⟩ := put_kids h hk h25
      have k0 := kid_lt h hk (j := 0) (by omega)
      have k1 := kid_lt h hk (j := 1) (by omega)
      have k2 := kid_lt h hk (j := 2) (by omega)
      have h9 : ¬ (nth a.Nodes k).Op = 9 := by omega
      rw [getL_put h9 k0.2] at hp ⊢
      obtain ⟨p1, p2, p3⟩ := pre_snoc hp
      obtain ⟨q1, q2, q3⟩ := pre_snoc p1
      obtain ⟨i1, i2, i3⟩ := ih _ k0.2 (by omega) s0 (by omega) q1
      have t1 := ht _ (show kidN (nth a.Nodes k) 1 < m by omega) (by omega)
      have t2 := ht _ (show kidN (nth a.Nodes k) 2 < m by omega) (by omega)
      generalize getL a to x N (kidN (nth a.Nodes k) 0) = R at *
      have f1 := flat_same q2 ⟨t1.1.1, by omega⟩ ⟨hx.1, by omega⟩ (t1.2.trans s1) h4
      have len1 : (R ++ [sameNd (nth to (kidN (nth a.Nodes k) 1)) x]).length = R.length + 1 := by rw [List.length_append, List.length_singleton]
      rw [len1] at p2 p3
      have f2 := flat_pick p2 ⟨by omega, by omega⟩ ⟨t2.1.1, by omega⟩ ⟨by omega, by omega⟩ (by rw [Int.toNat_natCast]; exact f1.2) (t2.2.trans s2) (by rw [show ((R.length : Int) - 1).toNat = R.length - 1 from by omega]; exact i3)
      rw [List.length_append, len1, List.length_singleton]
      refine ⟨fun i hi => ?_, by omega, by rw [Nat.add_sub_cancel]; exact f2.2⟩
      by_cases hi2 : i < R.length
      · exact i1 i hi2
      · by_cases hi3 : i = R.length
        · rw [hi3]; exact f1.1
        · rw [show i = R.length + 1 by omega]; exact f2.1
theorem turn_flatN : ∀ k, k ≤ a.Nodes.length → (turnTo a k).Nodes <+: b.Nodes → (∀ i, i < (turnTo a k).Nodes.length → Flat b i) ∧ Told a b (turnTo a k).To (turnTo a k).Nodes.length k := by
  intro k
  induction k with
  | zero => intro _ _; exact ⟨fun i hi => absurd hi (Nat.not_lt_zero i), fun j hj => absurd hj (Nat.not_lt_zero j)⟩
  | succ k ih =>
    intro hk hp
    have htl := turnTo_to (a := a) k
    have told : ∀ {n : Nat} {y : Int}, (turnTo a k).Nodes.length ≤ n → Told a b (turnTo a k).To (turnTo a k).Nodes.length k → (nth (sorts a) k ≠ 5 → (0 ≤ y ∧ y < n) ∧ sortAt b y.toNat = nth (sorts a) k) → Told a b ((turnTo a k).To ++ [y]) n (k + 1) := by
      intro n y hn ht hy j hj hs
      by_cases hjk : j = k
      · subst hjk
        have e := nth_last (l := (turnTo a j).To) (x := y)
        rw [htl] at e
        rw [e]; exact hy hs
      · rw [nth_app1 (by omega)]
        have := ht j (by omega) hs
        exact ⟨⟨this.1.1, by omega⟩, this.2⟩
    by_cases h5 : nth (sorts a) k = 5
    · rw [(turn_arr h5).1] at hp ⊢
      rw [(turn_arr h5).2]
      obtain ⟨i1, i2⟩ := ih (by omega) hp
      exact ⟨i1, told (Nat.le_refl _) i2 fun hs => absurd h5 hs⟩
    · by_cases h24 : (nth a.Nodes k).Op = 24
      · obtain ⟨hl, g0, g1⟩ := got_kids h (by omega) h24
        have k0 := kid_lt h (k := k) (by omega) (j := 0) (by omega)
        have k1 := kid_lt h (k := k) (by omega) (j := 1) (by omega)
        rw [(turn_get h5 h24).1] at hp ⊢
        rw [(turn_get h5 h24).2]
        obtain ⟨i1, i2⟩ := ih (by omega) (getL_pre _ hp)
        have t1 := i2 _ k1.2 (by omega)
        obtain ⟨f1, f2, f3⟩ := getL_flat h hD i2 t1.1 (t1.2.trans g1) i1 _ (by omega) g0 (by omega) hp
        refine ⟨f1, told (by omega) i2 fun _ => ⟨⟨by omega, by omega⟩, ?_⟩⟩
        rw [show ∀ n : Nat, ((n : Int) - 1).toNat = n - 1 from fun n => by omega, f3]
        have hso := (sort_at h (k := k) (by omega)).2
        rw [outS, h24] at hso
        exact hso.symm
      · rw [(turn_flat h5 h24).1] at hp ⊢
        rw [(turn_flat h5 h24).2]
        obtain ⟨p1, p2, p3⟩ := pre_snoc hp
        obtain ⟨i1, i2⟩ := ih (by omega) p1
        have hn := h.nodes k (by omega)
        have hso := sort_at h (k := k) (by omega)
        have hfk := flat_kids h (k := k) (by omega) h5 h24
        have hkk : ∀ x ∈ (nth a.Nodes k).Kids, 0 ≤ x ∧ x.toNat < k := fun x hx => by have := hn.kids x hx; omega
        have hK : (kidS (turnTo a k).To (nth a.Nodes k).Kids).map (fun x => sortAt b x.toNat) = kidS (sorts a) (nth a.Nodes k).Kids := by
          unfold kidS
          rw [List.map_map]
          refine List.map_congr_left fun x hx => ?_
          exact (i2 _ (hkk x hx).2 (hfk x hx)).2
        have h9n : (nth a.Nodes k).Op = 9 → (nth a.Decls (findD a.Decls (nth a.Nodes k).Name).toNat).Srt ≠ 5 := by
          intro h9 e
          have := hso.2
          rw [outS, h9, declOf_yes h9] at this
          exact h5 (this.trans e)
        have hdo : declOf b (Node.mk (nth a.Nodes k).Op (kidS (turnTo a k).To (nth a.Nodes k).Kids) (nth a.Nodes k).N (nth a.Nodes k).D (nth a.Nodes k).Name) = declOf a (nth a.Nodes k) := by
          by_cases h9 : (nth a.Nodes k).Op = 9
          · have e1 : declOf b (Node.mk (nth a.Nodes k).Op (kidS (turnTo a k).To (nth a.Nodes k).Kids) (nth a.Nodes k).N (nth a.Nodes k).D (nth a.Nodes k).Name) = nth b.Decls (findD b.Decls (nth a.Nodes k).Name).toNat := if_pos h9
            rw [e1, declOf_yes h9, hD, findD_declA, nth_map (decl_at h (by omega) h9).1, declA_no (h9n h9)]
          · have e1 : declOf b (Node.mk (nth a.Nodes k).Op (kidS (turnTo a k).To (nth a.Nodes k).Kids) (nth a.Nodes k).N (nth a.Nodes k).D (nth a.Nodes k).Name) = ⟨noText, [], 0⟩ := if_neg h9
            rw [e1, declOf_no h9]
        have hwa : wantN b (Node.mk (nth a.Nodes k).Op (kidS (turnTo a k).To (nth a.Nodes k).Kids) (nth a.Nodes k).N (nth a.Nodes k).D (nth a.Nodes k).Name) = wantN a (nth a.Nodes k) := by
          unfold wantN
          rw [hdo]
        have hf := flat_of (b := b) p2 hn.op h24 (fun e => h5 (put5 h (by omega) e)) (fun h9 => by rw [hD, findD_declA]; exact hn.found h9) (fun h0 => by
            rw [hwa] at h0 ⊢
            show ((kidS _ _).length : Int) = _
            rw [kidS_len]; exact hn.size h0) (by show (kidS _ _).length ≤ 8; rw [kidS_len]; exact hn.few)
          (fun y hy => by
            obtain ⟨x, hx, rfl⟩ := List.mem_map.1 hy
            have := (i2 _ (hkk x hx).2 (hfk x hx)).1
            exact ⟨this.1, this.2⟩) hn.formed hn.nums (s := nth (sorts a) k) (by
            rw [hdo, hK, hso.2]
            exact if_pos hso.1) (by
            have h0 := hn.sort
            rw [kidS_sorts h (by omega)] at h0
            rw [(sort_at h (k := k) (by omega)).2, ← (sortN_ok h0).2]; exact h0) h5
        rw [List.length_append, List.length_singleton]
        refine ⟨fun i hi => ?_, told (by omega) i2 fun _ => ⟨⟨by omega, by omega⟩, by rw [Int.toNat_natCast]; exact hf.2⟩⟩
        by_cases hi2 : i < (turnTo a k).Nodes.length
        · exact i1 i hi2
        · rw [show i = (turnTo a k).Nodes.length by omega]; exact hf.1
end
/-- What comes out: in its form, without arrays. -/
theorem none_ok {a : Ask} (hz : (doF a).1 = 0) : sortsF (doA a) = (0, 0) ∧ (∀ i, i < (doA a).Nodes.length → Flat (doA a) i) ∧ Told a (doA a) (turned a).To (turned a).Nodes.length a.Nodes.length := by
  obtain ⟨h1, h2⟩ := doF_zero hz
  have h := askOk h1
  have hd := doA_ok hz
  have hD : (doA a).Decls = a.Decls.map declA := by rw [hd]
  have hN : (doA a).Nodes = (turned a).Nodes := by rw [hd]
  have hH : (doA a).Hold = a.Hold.map fun k => nth (turned a).To k.toNat := by rw [hd]
  obtain ⟨f1, f2⟩ := turn_flatN h hD a.Nodes.length (Nat.le_refl _) (by rw [hN]; exact List.prefix_refl _)
  refine ⟨sortsF_good (by rw [hD, List.length_map]; exact h.few) (fun i hi => ?_) (by rw [hN]; exact h2) (fun i hi => (f1 i (by rw [hN] at hi; exact hi)).1) (by rw [hH, List.length_map]; exact h.holds) (fun u hu => ?_), fun i hi => f1 i (by rw [hN] at hi; exact hi), f2⟩
  · rw [hD] at hi ⊢
    rw [List.length_map] at hi
    exact declOk_declA hi (h.decls i hi)
  · rw [hH, List.length_map] at hu
    have hh := h.hold u hu
    have ht := f2 (nth a.Hold u).toNat (by omega) (by unfold sorts; rw [hh.2]; decide)
    rw [hH, nth_map hu, hN]
    refine ⟨ht.1, ?_⟩
    rw [sortAt_pre (by have := ht.1; unfold turned; omega)]
    exact ht.2.trans hh.2
/-- Without arrays nothing is turned. -/
theorem again_ok {b : Ask} (hs : (sortsF b).1 = 0) (hf : ∀ i, i < b.Nodes.length → Flat b i) : (doF b).1 = 0 ∧ (doA b).Nodes.length = b.Nodes.length := by
  have h := askOk hs
  have hl : ∀ k, k ≤ b.Nodes.length → (turnTo b k).Nodes.length = k := by
    intro k
    induction k with
    | zero => intro _; rfl
    | succ k ih =>
      intro hk
      have := hf k (by omega)
      have h5 : ¬ nth (sorts b) k = 5 := by unfold sorts; rw [sortAt_pre (by omega)]; exact this.2.1
      rw [(turn_flat h5 this.2.2.1).1, List.length_append, ih (by omega)]; rfl
  have h0 : doF b = (0, 0) := doF_ok (by rw [hs]; decide) (by rw [turned, hl _ (Nat.le_refl _)]; exact h.many)
  refine ⟨by rw [h0], ?_⟩
  rw [doA_ok (by rw [h0])]
  exact hl _ (Nat.le_refl _)
end Go.Um
