/- The shortest word that an automaton takes: the search's law. No program is in sight. -/
import Derived.Test.YtkhpaklglggagaaAutoData
import Derived.Test.YtkhpaklglggagaaUmMap
namespace Go.Um
open GoT (sz ag rdc)

/-- Letter by letter. -/
def lessL : List Int → List Int → Bool
  | [], b => !b.isEmpty
  | _ :: _, [] => false
  | x :: a, y :: b => if x ≠ y then decide (x < y) else lessL a b
/-- Shorter, or as long and ahead. -/
def slt (a b : List Int) : Prop := a.length < b.length ∨ (a.length = b.length ∧ lessL a b = true)

theorem lessL_irr : ∀ a : List Int, lessL a a = false
  | [] => rfl
  | x :: a => by simp [lessL, lessL_irr a]
theorem lessL_trans : ∀ {a b c : List Int}, lessL a b = true → lessL b c = true → lessL a c = true
  | [], [], c, h, _ => by simp [lessL] at h
  | [], y :: b, [], _, h => by simp [lessL] at h
  | [], _ :: _, _ :: _, _, _ => by simp [lessL]
  | _ :: _, [], _, h, _ => by simp [lessL] at h
  | _ :: _, _ :: _, [], _, h => by simp [lessL] at h
  | x :: a, y :: b, z :: c, h, k => by
    simp only [lessL] at h k ⊢
    by_cases hxy : x = y <;> by_cases hyz : y = z
    · subst hxy; subst hyz; simp at h k ⊢; exact lessL_trans h k
    · subst hxy; simp [hyz] at k ⊢; exact k
    · subst hyz; simp [hxy] at h ⊢; exact h
    · simp [hxy] at h; simp [hyz] at k
      have : x ≠ z := by omega
      simp [this]; omega
theorem lessL_tri : ∀ {a b : List Int}, a.length = b.length → a ≠ b → lessL a b = false → lessL b a = true
  | [], [], _, h, _ => (h rfl).elim
  | [], _ :: _, h, _, _ => by simp at h
  | _ :: _, [], h, _, _ => by simp at h
  | x :: a, y :: b, hl, hne, h => by
    simp only [lessL] at h ⊢
    by_cases hxy : x = y
    · subst hxy; simp at h ⊢
      exact lessL_tri (by simpa using hl) (fun e => hne (by rw [e])) h
    · have : y ≠ x := fun e => hxy e.symm
      simp [hxy] at h; simp [this]; omega
theorem lessL_snoc : ∀ {a b : List Int} {x y : Int}, a.length = b.length → lessL a b = true → lessL (a ++ [x]) (b ++ [y]) = true
  | [], [], _, _, _, h => by simp [lessL] at h
  | [], _ :: _, _, _, h, _ => by simp at h
  | _ :: _, [], _, _, h, _ => by simp at h
  | u :: a, v :: b, x, y, hl, h => by
    simp only [List.cons_append, lessL] at h ⊢
    by_cases huv : u = v
    · subst huv; simp at h ⊢; exact lessL_snoc (by simpa using hl) h
    · simp [huv] at h ⊢; exact h
theorem lessL_last : ∀ (a : List Int) {x y : Int}, x < y → lessL (a ++ [x]) (a ++ [y]) = true
  | [], x, y, h => by have : x ≠ y := by omega
                      simp [lessL, this, h]
  | u :: a, x, y, h => by simp [lessL, lessL_last a h]

theorem slt_irr (a : List Int) : ¬ slt a a := by
  rintro (h | ⟨_, h⟩)
  · omega
  · rw [lessL_irr] at h; cases h
theorem slt_trans {a b c : List Int} (h : slt a b) (k : slt b c) : slt a c := by
  rcases h with h | ⟨h1, h2⟩ <;> rcases k with k | ⟨k1, k2⟩
  · exact .inl (by omega)
  · exact .inl (by omega)
  · exact .inl (by omega)
  · exact .inr ⟨by omega, lessL_trans h2 k2⟩
theorem slt_tri {a b : List Int} (h : ¬ slt a b) (hne : a ≠ b) : slt b a := by
  unfold slt at h ⊢
  by_cases hl : a.length = b.length
  · have : lessL a b = false := by
      cases hc : lessL a b
      · rfl
      · exact (h (.inr ⟨hl, hc⟩)).elim
    exact .inr ⟨hl.symm, lessL_tri hl hne this⟩
  · exact .inl (by
      have : ¬ a.length < b.length := fun h' => h (.inl h')
      omega)
theorem slt_snoc {a b : List Int} {x y : Int} (h : slt a b) : slt (a ++ [x]) (b ++ [y]) := by
  rcases h with h | ⟨h1, h2⟩
  · exact .inl (by simp; omega)
  · exact .inr ⟨by simp; omega, lessL_snoc h1 h2⟩
theorem slt_last (a : List Int) {x y : Int} (h : x < y) : slt (a ++ [x]) (a ++ [y]) := .inr ⟨by simp, lessL_last a h⟩
theorem slt_grow (a : List Int) (x : Int) : slt a (a ++ [x]) := .inl (by simp)
/-- Not behind. -/
def sle (a b : List Int) : Prop := a = b ∨ slt a b
theorem sle_trans {a b c : List Int} (h : sle a b) (k : sle b c) : sle a c := by
  rcases h with rfl | h
  · exact k
  · rcases k with rfl | k
    · exact .inr h
    · exact .inr (slt_trans h k)
theorem sle_snoc {a b : List Int} (h : sle a b) (x : Int) : sle (a ++ [x]) (b ++ [x]) := by
  rcases h with rfl | h
  · exact .inl rfl
  · exact .inr (slt_snoc h)
theorem sle_not {a b : List Int} (h : sle a b) : ¬ slt b a := by
  rcases h with rfl | h
  · exact slt_irr _
  · exact fun k => slt_irr _ (slt_trans h k)

section
variable {α : Type} [Inhabited α]
theorem nth_app_left {l : List α} {x : α} {j : Nat} (h : j < l.length) : nth (l ++ [x]) j = nth l j := by
  simp [nth, List.getElem?_append_left h]
theorem nth_app_last {l : List α} {x : α} : nth (l ++ [x]) l.length = x := by simp [nth]
end

/-- Words that are in the automaton's signs. -/
def Valid (a : Auto) (l : List Int) : Prop := ∀ c ∈ l, 0 ≤ c ∧ c < a.Signs

/-- The search, when the states before i have been looked at, and of i the signs before c. -/
structure Bfs (a : Auto) (L : List Int) (W : Int → Option (List Int)) (i c : Nat) : Prop where
  len : 0 < L.length
  head : nth L 0 = 0
  word : W 0 = some []
  dom : ∀ s, (W s).isSome = true ↔ s ∈ L
  rng : ∀ s ∈ L, 0 ≤ s ∧ s < (a.Next.length : Int)
  run : ∀ s ∈ L, runA a 0 ((W s).getD []) = s ∧ Valid a ((W s).getD [])
  mono : ∀ j k, j < k → k < L.length → slt ((W (nth L j)).getD []) ((W (nth L k)).getD [])
  form : ∀ k, 0 < k → k < L.length → ∃ (j c' : Nat), (j < i ∨ (j = i ∧ c' < c)) ∧ j < k ∧ (W (nth L k)).getD [] = (W (nth L j)).getD [] ++ [(c' : Int)]
  clos : ∀ j c' : Nat, (j < i ∨ (j = i ∧ c' < c)) → j < L.length → (c' : Int) < a.Signs → stepA a (nth L j) c' ∈ L ∧ sle ((W (stepA a (nth L j) c')).getD []) ((W (nth L j)).getD [] ++ [(c' : Int)])

theorem runA_snoc {a : Auto} {s : Int} {l : List Int} {c : Int} : runA a s (l ++ [c]) = stepA a (runA a s l) c := by
  rw [runA, List.foldl_append]; rfl

theorem Bfs.start {a : Auto} (h : WF a) : Bfs a [0] (fun q => if 0 = q then some [] else none) 0 0 where
  len := by simp
  head := rfl
  word := by simp
  dom s := by simp only [List.mem_singleton]; split <;> simp <;> omega
  rng s hs := by have := h.many; simp at hs; omega
  run s hs := by simp at hs; subst hs; simp [runA, Valid]
  mono j k h1 h2 := by simp at h2; omega
  form k h1 h2 := by simp at h2; omega
  clos j c' h1 h2 h3 := by omega

section
variable {a : Auto} {L : List Int} {W : Int → Option (List Int)} {i c : Nat}

/-- All words met lie before the next one. -/
theorem Bfs.ahead (h : Bfs a L W i c) (hi : i < L.length) (k : Nat) (hk : k < L.length) : slt ((W (nth L k)).getD []) ((W (nth L i)).getD [] ++ [(c : Int)]) := by
  by_cases h0 : k = 0
  · subst h0
    rw [h.head, h.word]
    exact .inl (by simp)
  · obtain ⟨j, c', hj, _, he⟩ := h.form k (by omega) hk
    rw [he]
    rcases hj with hj | ⟨rfl, hc⟩
    · exact slt_snoc (h.mono j i hj hi)
    · exact slt_last _ (by omega)

theorem Bfs.old (h : Bfs a L W i c) (hi : i < L.length) (hs : (W (stepA a (nth L i) c)).isSome = true) : Bfs a L W i (c + 1) := by
  obtain ⟨h1, h2, h3, h4, h5, h6, h7, h8, h9⟩ := id h
  refine ⟨h1, h2, h3, h4, h5, h6, h7, fun k hk0 hk => ?_, fun j c' hj hl hc => ?_⟩
  · obtain ⟨j, c', hj, hjk, he⟩ := h8 k hk0 hk
    exact ⟨j, c', by omega, hjk, he⟩
  · by_cases hn : j < i ∨ (j = i ∧ c' < c)
    · exact h9 j c' hn hl hc
    · have hji : j = i := by omega
      have hcc : c' = c := by omega
      subst hji; subst hcc
      refine ⟨(h4 _).1 hs, .inr ?_⟩
      obtain ⟨k, hk, hke⟩ := nth_of_mem ((h4 _).1 hs)
      rw [← hke]
      exact h.ahead hi k hk

theorem Bfs.new (h : Bfs a L W i c) (hW : WF a) (hi : i < L.length) (hc : (c : Int) < a.Signs) (hs : ¬ (W (stepA a (nth L i) c)).isSome = true) {w : List Int} (hw : w = (W (nth L i)).getD [] ++ [(c : Int)]) :
    Bfs a (L ++ [stepA a (nth L i) c]) (fun q => if stepA a (nth L i) c = q then some w else W q) i (c + 1) := by
  obtain ⟨h1, h2, h3, h4, h5, h6, h7, h8, h9⟩ := id h
  subst hw
  generalize hst : stepA a (nth L i) c = s' at hs ⊢
  have hnl : s' ∉ L := fun hm => hs ((h4 s').2 hm)
  have hold : ∀ s ∈ L, (if s' = s then some ((W (nth L i)).getD [] ++ [(c : Int)]) else W s) = W s := fun s hm => if_neg fun (e : s' = s) => hnl (by rw [e]; exact hm)
  have hn : ∀ j, j < L.length → nth (L ++ [s']) j = nth L j := fun j hj => nth_app_left hj
  have hin := nth_mem hi
  refine ⟨by simp, by rw [hn 0 h1]; exact h2, ?_, fun s => ?_, fun s hm => ?_, fun s hm => ?_, fun j k hjk hk => ?_, fun k hk0 hk => ?_, fun j c' hj hl hc' => ?_⟩
  · show (if s' = 0 then _ else W 0) = _
    rw [hold 0 (by have := nth_mem h1; rw [h2] at this; exact this)]; exact h3
  · show (if s' = s then _ else W s).isSome = true ↔ _
    by_cases hss : s' = s
    · subst hss; simp
    · rw [if_neg hss, h4, List.mem_append]
      constructor
      · exact .inl
      · rintro (hm | hm)
        · exact hm
        · exact (hss (List.mem_singleton.1 hm).symm).elim
  · rcases List.mem_append.1 hm with hm | hm
    · exact h5 s hm
    · rw [List.mem_singleton.1 hm, ← hst]
      exact hW.step (h5 _ hin) (by omega)
  · show runA a 0 ((if s' = s then _ else W s).getD []) = s ∧ Valid a ((if s' = s then _ else W s).getD [])
    rcases List.mem_append.1 hm with hm | hm
    · rw [hold s hm]; exact h6 s hm
    · rw [List.mem_singleton.1 hm, if_pos rfl]
      obtain ⟨r1, r2⟩ := h6 _ hin
      refine ⟨by rw [Option.getD_some, runA_snoc, r1, hst], fun x hx => ?_⟩
      rcases List.mem_append.1 hx with hx | hx
      · exact r2 x hx
      · rw [List.mem_singleton.1 hx]; omega
  · rw [List.length_append, List.length_singleton] at hk
    show slt ((if s' = nth (L ++ [s']) j then _ else W (nth (L ++ [s']) j)).getD []) ((if s' = nth (L ++ [s']) k then _ else W (nth (L ++ [s']) k)).getD [])
    have hj : j < L.length := by omega
    rw [hn j hj, hold _ (nth_mem hj)]
    by_cases hkl : k < L.length
    · rw [hn k hkl, hold _ (nth_mem hkl)]; exact h7 j k hjk hkl
    · have : k = L.length := by omega
      rw [this, nth_app_last, if_pos rfl]
      exact h.ahead hi j hj
  · rw [List.length_append, List.length_singleton] at hk
    show ∃ j c', _ ∧ _ ∧ (if s' = nth (L ++ [s']) k then _ else W (nth (L ++ [s']) k)).getD [] = (if s' = nth (L ++ [s']) j then _ else W (nth (L ++ [s']) j)).getD [] ++ _
    by_cases hkl : k < L.length
    · obtain ⟨j, c', hj, hjk, he⟩ := h8 k hk0 hkl
      refine ⟨j, c', by omega, hjk, ?_⟩
      rw [hn k hkl, hold _ (nth_mem hkl), hn j (by omega), hold _ (nth_mem (by omega))]
      exact he
    · have : k = L.length := by omega
      refine ⟨i, c, .inr ⟨rfl, by omega⟩, by omega, ?_⟩
      rw [this, nth_app_last, if_pos rfl, hn i hi, hold _ hin]
      rfl
  · rw [List.length_append, List.length_singleton] at hl
    show stepA a (nth (L ++ [s']) j) c' ∈ _ ∧ sle ((if s' = stepA a (nth (L ++ [s']) j) c' then _ else W (stepA a (nth (L ++ [s']) j) c')).getD []) ((if s' = nth (L ++ [s']) j then _ else W (nth (L ++ [s']) j)).getD [] ++ _)
    have hjl : j < L.length := by omega
    rw [hn j hjl, hold (nth L j) (nth_mem hjl)]
    by_cases hnn : j < i ∨ (j = i ∧ c' < c)
    · obtain ⟨k1, k2⟩ := h9 j c' hnn hjl hc'
      rw [hold _ k1]
      exact ⟨List.mem_append_left _ k1, k2⟩
    · have hji : j = i := by omega
      have hcc : c' = c := by omega
      subst hji; subst hcc
      rw [hst, if_pos rfl]
      exact ⟨by simp, .inl rfl⟩

theorem Bfs.turn (h : Bfs a L W i c) (hc : a.Signs ≤ (c : Int)) : Bfs a L W (i + 1) 0 := by
  obtain ⟨h1, h2, h3, h4, h5, h6, h7, h8, h9⟩ := id h
  refine ⟨h1, h2, h3, h4, h5, h6, h7, fun k hk0 hk => ?_, fun j c' hj hl hc' => ?_⟩
  · obtain ⟨j, c', hj, hjk, he⟩ := h8 k hk0 hk
    exact ⟨j, c', by omega, hjk, he⟩
  · exact h9 j c' (by omega) hl hc'

theorem pigeon : ∀ {n : Nat} {l : List Int}, l.Nodup → (∀ x ∈ l, 0 ≤ x ∧ x < (n : Int)) → l.length ≤ n
  | 0, l, _, h => by
    cases l with
    | nil => simp
    | cons x l => have := h x (List.mem_cons_self ..); omega
  | n + 1, l, hd, h => by
    have h1 : (l.filter (fun x => decide (x ≠ (n : Int)))).length ≤ n := pigeon (hd.filter _) fun x hx => by
      obtain ⟨hx1, hx2⟩ := List.mem_filter.1 hx
      have := h x hx1
      simp at hx2
      omega
    have h2 : l.length ≤ (l.filter (fun x => decide (x ≠ (n : Int)))).length + 1 := by
      clear h h1
      induction l with
      | nil => simp
      | cons x l ih =>
        obtain ⟨hx, hl⟩ := List.nodup_cons.1 hd
        by_cases hxn : x = (n : Int)
        · have : l.filter (fun x => decide (x ≠ (n : Int))) = l := List.filter_eq_self.2 fun y hy => by
            simp; intro e; exact hx (by rw [hxn, ← e]; exact hy)
          rw [List.filter_cons_of_neg (by simp [hxn]), this]; simp
        · rw [List.filter_cons_of_pos (by simp [hxn])]
          simp only [List.length_cons]
          have := ih hl
          omega
    omega

theorem nodup_nth {l : List Int} (h : ∀ j k, j < k → k < l.length → nth l j ≠ nth l k) : l.Nodup := by
  rw [List.nodup_iff_pairwise_ne, List.pairwise_iff_getElem]
  intro i j hi hj hij
  have := h i j hij hj
  rwa [nth_eq hi, nth_eq hj] at this

theorem Bfs.short (h : Bfs a L W i c) : ∀ k, k < L.length → ((W (nth L k)).getD []).length ≤ k := by
  intro k
  induction k using Nat.strongRecOn with
  | _ k ih =>
    intro hk
    by_cases h0 : k = 0
    · subst h0; rw [h.head, h.word]; simp
    · obtain ⟨j, c', _, hj, he⟩ := h.form k (by omega) hk
      have := ih j hj (by omega)
      rw [he, List.length_append, List.length_singleton]
      omega
theorem Bfs.few (h : Bfs a L W i c) : L.length ≤ a.Next.length :=
  pigeon (nodup_nth fun j k hjk hk he => slt_irr _ (by have := h.mono j k hjk hk; rwa [he] at this)) h.rng

/-- What the search knows of any word. -/
theorem Bfs.sound (h : Bfs a L W i 0) (hi : i ≤ L.length) : ∀ {l : List Int}, Valid a l →
    (∃ j, j < i ∧ runA a 0 l = nth L j ∧ sle ((W (nth L j)).getD []) l) ∨ (i < L.length ∧ sle ((W (nth L i)).getD []) l) := by
  intro l
  generalize hn : l.length = n
  induction n generalizing l with
  | zero =>
    intro _
    rw [List.length_eq_zero_iff.1 hn]
    have hr : runA a 0 [] = nth L 0 := by rw [h.head]; rfl
    have hw : sle ((W (nth L 0)).getD []) [] := by rw [h.head, h.word]; exact .inl rfl
    by_cases h0 : i = 0
    · subst h0; exact .inr ⟨h.len, hw⟩
    · exact .inl ⟨0, by omega, hr, hw⟩
  | succ n ih =>
    intro hv
    have hne : l ≠ [] := fun e => by rw [e] at hn; cases hn
    have hl := List.dropLast_concat_getLast hne
    generalize l.dropLast = l' at hl
    generalize l.getLast hne = x at hl
    subst hl
    have hx := hv x (by simp)
    rcases ih (l := l') (by simpa using hn) (fun c hc => hv c (List.mem_append_left _ hc)) with ⟨j, hj, hr, hs⟩ | ⟨hi', hs⟩
    · obtain ⟨k1, k2⟩ := h.clos j x.toNat (.inl hj) (by omega) (by omega)
      rw [show ((x.toNat : Nat) : Int) = x from by omega] at k1 k2
      obtain ⟨k, hk, hke⟩ := nth_of_mem k1
      have hle : sle ((W (nth L k)).getD []) (l' ++ [x]) := by rw [hke]; exact sle_trans k2 (sle_snoc hs x)
      by_cases hki : k < i
      · exact .inl ⟨k, hki, by rw [runA_snoc, hr, hke], hle⟩
      · by_cases hkk : k = i
        · subst hkk; exact .inr ⟨hk, hle⟩
        · exact .inr ⟨by omega, .inr (by
            have h7 := h.mono i k (by omega) hk
            rcases hle with he | he
            · rw [← he]; exact h7
            · exact slt_trans h7 he)⟩
    · exact .inr ⟨hi', sle_trans hs (.inr (slt_grow _ _))⟩
end

/-- The word is a shortest that the automaton takes, the first of these; or it takes none. -/
def AnyIs (a : Auto) (m : List Int) (is : Bool) : Prop :=
  (is = true ∧ takesA a 0 m = true ∧ Valid a m ∧ ∀ l, Valid a l → takesA a 0 l = true → ¬ slt l m) ∨ (is = false ∧ m = [] ∧ ∀ l, Valid a l → takesA a 0 l = false)
def AnyOk (a : Auto) (m : List Int) (is : Bool) : Prop := if (autoFault a).1 ≠ 0 then m = [] ∧ is = false else AnyIs a m is

section
variable {a : Auto} {L : List Int} {W : Int → Option (List Int)} {i : Nat}
theorem Bfs.found (h : Bfs a L W i 0) (hi : i < L.length) (hno : ∀ j, j < i → nth a.Takes (nth L j).toNat = false) (hyes : nth a.Takes (nth L i).toNat = true) : AnyIs a ((W (nth L i)).getD []) true := by
  obtain ⟨hr, hv⟩ := h.run _ (nth_mem hi)
  refine .inl ⟨rfl, by rw [takesA, hr]; exact hyes, hv, fun l hl ht => ?_⟩
  rcases h.sound (by omega) hl with ⟨j, hj, hr, _⟩ | ⟨_, hs⟩
  · rw [takesA, hr, hno j hj] at ht; cases ht
  · exact sle_not hs
theorem Bfs.lost (h : Bfs a L W i 0) (hi : i = L.length) (hno : ∀ j, j < i → nth a.Takes (nth L j).toNat = false) : AnyIs a [] false := by
  refine .inr ⟨rfl, rfl, fun l hl => ?_⟩
  rcases h.sound (by omega) hl with ⟨j, hj, hr, _⟩ | ⟨hl, _⟩
  · rw [takesA, hr, hno j hj]
  · omega
end
theorem lessL_same {a b : List Int} {k : Nat} (ha : k < a.length) (hb : k < b.length) (h : nth a k = nth b k) : lessL (a.drop k) (b.drop k) = lessL (a.drop (k + 1)) (b.drop (k + 1)) := by
  rw [drop_nth ha, drop_nth hb, lessL, if_neg (fun h' => h' h)]
theorem lessL_apart {a b : List Int} {k : Nat} (ha : k < a.length) (hb : k < b.length) (h : nth a k ≠ nth b k) : lessL (a.drop k) (b.drop k) = decide (nth a k < nth b k) := by
  rw [drop_nth ha, drop_nth hb, lessL, if_pos h]
theorem lessL_end {a b : List Int} {k : Nat} (ha : k ≤ a.length) (hb : k ≤ b.length) (h : ¬ (k < a.length ∧ k < b.length)) : lessL (a.drop k) (b.drop k) = decide ((a.length : Int) < (b.length : Int)) := by
  by_cases hk : k < a.length
  · have : k = b.length := by omega
    subst this
    rw [drop_nth hk, List.drop_length, lessL]
    have : ¬ ((a.length : Int) < (b.length : Int)) := by omega
    simp [this]
  · have : k = a.length := by omega
    subst this
    rw [List.drop_length, lessL]
    by_cases h2 : a.length < b.length
    · rw [drop_nth h2]; simp [h2]
    · rw [List.drop_eq_nil_of_le (by omega)]; simp; omega

def evenA : Auto := ⟨2, [[0, 1], [1, 0]], [true, false]⟩
theorem evenA_sg : In64 evenA.Signs := by unfold evenA; constructor <;> decide
theorem evenA_f : autoFault evenA = (0, 0) := by decide +kernel
theorem evenA_1 : autoTakes evenA [1, 0, 1] = (true, 0, 0) := by decide +kernel
theorem evenA_2 : autoTakes evenA [1] = (false, 0, 0) := by decide +kernel
theorem AnyOk.is {a : Auto} {m : List Int} {is : Bool} (h : AnyOk a m is) (hz : (autoFault a).1 = 0) : AnyIs a m is := by
  rwa [AnyOk, if_neg (fun h' => h' hz)] at h
theorem AnyOk.bad {a : Auto} {m : List Int} {is : Bool} (h : AnyOk a m is) (hz : (autoFault a).1 ≠ 0) : m = [] ∧ is = false := by
  rwa [AnyOk, if_pos hz] at h
theorem evenA_any {m : List Int} {is : Bool} (h : AnyOk evenA m is) : m = [] ∧ is = true := by
  have ht : takesA evenA 0 [] = true := rfl
  have hv : Valid evenA [] := fun c hc => by cases hc
  rcases h.is (by rw [evenA_f]) with ⟨rfl, h1, h2, h3⟩ | ⟨_, _, h3⟩
  · refine ⟨?_, rfl⟩
    have := h3 [] hv ht
    cases m with
    | nil => rfl
    | cons x m => exact (this (.inl (by simp))).elim
  · rw [h3 [] hv] at ht; cases ht
theorem textFault_ok {signs : Int} {l : List Int} (h : ¬ 30 < (l.length : Int)) (hv : ∀ c ∈ l, 0 ≤ c ∧ c < signs) : textFault signs l = (0, 0) :=
  textFault_none h fun j hj => signBad_no (by have := hv _ (nth_mem hj); omega)

/-- There is one such word. -/
theorem AnyIs.one {a : Auto} {m m' : List Int} {is is' : Bool} (h : AnyIs a m is) (h' : AnyIs a m' is') : m = m' ∧ is = is' := by
  rcases h with ⟨rfl, h1, h2, h3⟩ | ⟨rfl, rfl, h3⟩ <;> rcases h' with ⟨rfl, k1, k2, k3⟩ | ⟨rfl, rfl, k3⟩
  · refine ⟨?_, rfl⟩
    by_cases he : m = m'
    · exact he
    · exact ((k3 m h2 h1) (slt_tri (h3 m' k2 k1) (fun e => he e.symm))).elim
  · rw [k3 m h2] at h1; cases h1
  · rw [h3 m' k2] at k1; cases k1
  · exact ⟨rfl, rfl⟩
theorem anyLaw_q {a : Auto} {m : List Int} {is : Bool} (hz : (autoFault a).1 = 0) (h : AnyIs a m is) (his : is = true) (hl : ¬ 30 < (m.length : Int)) (hc : (autoTakes a m).2.1 ≠ 0 ∨ (!(autoTakes a m).1) = true) : False := by
  rcases h with ⟨_, h1, h2, _⟩ | ⟨h0, _⟩
  · have ht := textFault_ok hl h2
    rcases hc with hc | hc
    · rw [autoTakes_snd hz, ht] at hc; exact hc rfl
    · rw [autoTakes_yes hz (by rw [ht]), h1] at hc; cases hc
  · rw [h0] at his; cases his
theorem anyLaw_p {a : Auto} {l m : List Int} {is : Bool} (hz : (autoFault a).1 = 0) (h : AnyIs a m is) (his : is = true) (ht : (textFault a.Signs l).1 = 0) (hv : Valid a l) :
    ((!(autoTakes a l).1) = true ∨ (m.length : Int) < (l.length : Int)) ∨ ((l.length : Int) = (m.length : Int) ∧ (!lessL l m) = true) := by
  rcases h with ⟨_, _, _, h3⟩ | ⟨h0, _⟩
  · rw [autoTakes_yes hz ht]
    cases hp : takesA a 0 l
    · exact .inl (.inl rfl)
    · have := h3 l hv hp
      unfold slt at this
      by_cases hlen : l.length = m.length
      · refine .inr ⟨by omega, ?_⟩
        cases hc : lessL l m
        · rfl
        · exact (this (.inr ⟨hlen, hc⟩)).elim
      · exact .inl (.inr (by
          have : ¬ l.length < m.length := fun h' => this (.inl h')
          omega))
  · rw [h0] at his; cases his
end Go.Um
