/- Rows in rows, each of them written in place. -/
import Derived.Test.YtkhpaklglggagaaUmMake
import Derived.Test.YtkhpaklglggagaaUmRowEl
namespace Go.Um
open GoT (sz ag rdc)
/-- a slice as it stands in a cell; what it reads is told elsewhere -/
structure Raw where
  v : Value
instance : Inhabited Raw := ⟨⟨.slice none 0 0⟩⟩
instance instRaw : GoT Raw where
  sz := 1
  bytes := 24
  ag := false
  rdc _ _ cs x := cs = [x.v] ∧ ∃ a n c, x.v = .slice a n c
  pos := by decide
  one _ := rfl
  len h := by rw [h.1]; rfl
  cell h := by obtain ⟨rfl, a, n, c, e⟩ := h; simp [e, Value.oneCell']
  ext h _ _ := h
theorem Rd.raw {S : Nat → Prop} {H : Heap} {v : Value} {x : Raw} : Rd S H v x ↔ v = x.v ∧ ∃ a n c, x.v = .slice a n c := by
  constructor
  · rintro ⟨cs, ⟨rfl, h⟩, rfl⟩; exact ⟨rfl, h⟩
  · rintro ⟨rfl, h⟩; exact ⟨[x.v], ⟨rfl, h⟩, rfl⟩
section
variable {α : Type} [GoT α]
/-- rows of the call's own, those of which p holds -/
def famP (t : TypeId) (us : List Raw) (Ms : List (List α)) (p : Nat → Prop) : Ent where
  blocks b := ∃ j, j < us.length ∧ p j ∧ rowB (nth us j).v b
  ok S H := us.length = Ms.length ∧ (∀ j, j < us.length → p j → (rowE t (nth us j).v (nth Ms j)).ok S H) ∧ ∀ i j, i < j → j < us.length → p i → p j → ∀ b, rowB (nth us i).v b → ¬ rowB (nth us j).v b
  lt h hb := by
    obtain ⟨j, hj, hp, hb⟩ := hb
    exact (rowE t (nth us j).v (nth Ms j)).lt (h.2.1 j hj hp) hb
  ext h hz hs ht := ⟨h.1, fun j hj hp => (rowE t (nth us j).v (nth Ms j)).ext (h.2.1 j hj hp) hz (fun b hb hor => hs b hb (hor.elim (fun h1 => .inl ⟨j, hj, hp, h1⟩) .inr)) ht, h.2.2⟩
def famE (t : TypeId) (us : List Raw) (Ms : List (List α)) : Ent := famP t us Ms fun _ => True
def famX (t : TypeId) (us : List Raw) (Ms : List (List α)) (k : Nat) : Ent := famP t us Ms fun j => j ≠ k
variable {t T : TypeId} {H H0 : Heap} {M S0 : Nat → Prop} {L : List Ent} {us : List Raw} {Ms : List (List α)} {k : Nat} {x : List α} {v : Value}
theorem St.fam0 (h : St H0 M S0 L H) (t : TypeId) : St H0 M S0 (famE t ([] : List Raw) ([] : List (List α)) :: L) H :=
  h.cons0 _ (fun b ⟨j, hj, _⟩ => by simp at hj) ⟨rfl, fun j hj => by simp at hj, fun i j _ hj => by simp at hj⟩
/-- another telling of the first entries, of the same blocks -/
theorem St.tell {A A' : List Ent} (h : St H0 M S0 (A ++ L) H) (hb : ∀ b, (∃ e ∈ A', e.blocks b) ↔ ∃ e ∈ A, e.blocks b) (hok : ∀ e ∈ A', e.ok (SL S0 (A ++ L)) H) (hd : A'.Pairwise fun e e' => ∀ b, e.blocks b → ¬ e'.blocks b) : St H0 M S0 (A' ++ L) H := by
  have hsl : ∀ b, SL S0 (A' ++ L) b → SL S0 (A ++ L) b := by
    rintro b (hb' | ⟨e, he, hb'⟩)
    · exact .inl hb'
    · rcases List.mem_append.1 he with he | he
      · obtain ⟨e2, h2, h3⟩ := (hb b).1 ⟨e, he, hb'⟩
        exact .inr ⟨e2, List.mem_append_left _ h2, h3⟩
      · exact .inr ⟨e, List.mem_append_right _ he, hb'⟩
  have hdj := List.pairwise_append.1 h.dj
  refine ⟨h.size, h.old, fun e he => ?_, fun e he b hbb => ?_, ?_, h.s0⟩
  · rcases List.mem_append.1 he with he | he
    · exact e.ext (hok e he) (Nat.le_refl _) (fun _ _ _ => rfl) (fun b _ hb => hsl b hb)
    · exact e.ext (h.ok e (List.mem_append_right _ he)) (Nat.le_refl _) (fun _ _ _ => rfl) (fun b _ hb => hsl b hb)
  · rcases List.mem_append.1 he with he | he
    · obtain ⟨e2, h2, h3⟩ := (hb b).1 ⟨e, he, hbb⟩
      exact h.ge e2 (List.mem_append_left _ h2) b h3
    · exact h.ge e (List.mem_append_right _ he) b hbb
  · refine List.pairwise_append.2 ⟨hd, hdj.2.1, fun e he e' he' b hb1 hb2 => ?_⟩
    obtain ⟨e2, h2, h3⟩ := (hb b).1 ⟨e, he, hb1⟩
    exact hdj.2.2 e2 h2 e' he' b h3 hb2
theorem St.famOut (h : St H0 M S0 (famE t us Ms :: L) H) (hk : k < us.length) : St H0 M S0 (rowE t (nth us k).v (nth Ms k) :: famX t us Ms k :: L) H := by
  have hf := h.head
  refine St.tell (A := [famE t us Ms]) (A' := [rowE t (nth us k).v (nth Ms k), famX t us Ms k]) h (fun b => ?_) (fun e he => ?_) ?_
  · constructor
    · rintro ⟨e, he, hb⟩
      refine ⟨_, List.mem_singleton.2 rfl, ?_⟩
      rcases List.mem_cons.1 he with rfl | he
      · exact ⟨k, hk, trivial, hb⟩
      · rw [List.mem_singleton.1 he] at hb
        obtain ⟨j, hj, _, hb⟩ := hb
        exact ⟨j, hj, trivial, hb⟩
    · rintro ⟨e, he, hb⟩
      rw [List.mem_singleton.1 he] at hb
      obtain ⟨j, hj, _, hb⟩ := hb
      by_cases hjk : j = k
      · subst hjk; exact ⟨_, List.mem_cons_self .., hb⟩
      · exact ⟨_, List.mem_cons_of_mem _ (List.mem_singleton.2 rfl), j, hj, hjk, hb⟩
  · rcases List.mem_cons.1 he with rfl | he
    · exact hf.2.1 k hk trivial
    · rw [List.mem_singleton.1 he]
      exact ⟨hf.1, fun j hj _ => hf.2.1 j hj trivial, fun i j hij hj _ _ => hf.2.2 i j hij hj trivial trivial⟩
  · refine List.pairwise_cons.2 ⟨fun e he b hb hb2 => ?_, List.pairwise_singleton _ _⟩
    rw [List.mem_singleton.1 he] at hb2
    obtain ⟨j, hj, hjk, hb2⟩ := hb2
    rcases Nat.lt_or_gt_of_ne hjk with h1 | h1
    · exact hf.2.2 j k h1 hk trivial trivial b hb2 hb
    · exact hf.2.2 k j h1 hj trivial trivial b hb hb2
theorem St.famIn (h : St H0 M S0 (rowE t (nth us k).v x :: famX t us Ms k :: L) H) (hk : k < us.length) : St H0 M S0 (famE t us (Ms.set k x) :: L) H := by
  have hr := h.ok _ (List.mem_cons_self ..)
  have hf := h.ok _ (List.mem_cons_of_mem _ (List.mem_cons_self ..))
  have hd : ∀ b, rowB (nth us k).v b → ¬ (famX t us Ms k).blocks b := fun b hb => (List.pairwise_cons.1 h.dj).1 _ (List.mem_cons_self ..) b hb
  have hkm : k < Ms.length := by rw [← hf.1]; exact hk
  refine St.tell (A := [rowE t (nth us k).v x, famX t us Ms k]) (A' := [famE t us (Ms.set k x)]) h (fun b => ?_) (fun e he => ?_) (List.pairwise_singleton _ _)
  · constructor
    · rintro ⟨e, he, hb⟩
      rw [List.mem_singleton.1 he] at hb
      obtain ⟨j, hj, _, hb⟩ := hb
      by_cases hjk : j = k
      · subst hjk; exact ⟨_, List.mem_cons_self .., hb⟩
      · exact ⟨_, List.mem_cons_of_mem _ (List.mem_singleton.2 rfl), j, hj, hjk, hb⟩
    · rintro ⟨e, he, hb⟩
      refine ⟨_, List.mem_singleton.2 rfl, ?_⟩
      rcases List.mem_cons.1 he with rfl | he
      · exact ⟨k, hk, trivial, hb⟩
      · rw [List.mem_singleton.1 he] at hb
        obtain ⟨j, hj, _, hb⟩ := hb
        exact ⟨j, hj, trivial, hb⟩
  · rw [List.mem_singleton.1 he]
    refine ⟨by rw [List.length_set]; exact hf.1, fun j hj _ => ?_, fun i j hij hj _ _ b hb1 hb2 => ?_⟩
    · by_cases hjk : j = k
      · subst hjk
        rw [show nth (Ms.set j x) j = x by simp [nth, hkm]]
        exact hr
      · rw [show nth (Ms.set k x) j = nth Ms j by simp [nth, List.getElem?_set, Ne.symm hjk]]
        exact hf.2.1 j hj hjk
    · by_cases hik : i = k
      · subst hik; exact hd b hb1 ⟨j, hj, by omega, hb2⟩
      · by_cases hjk : j = k
        · subst hjk; exact hd b hb2 ⟨i, by omega, hik, hb1⟩
        · exact hf.2.2 i j hij hj hik hjk b hb1 hb2
theorem St.famPush {u : Value} (h : St H0 M S0 (rowE t u x :: famE t us Ms :: L) H) : St H0 M S0 (famE t (us ++ [⟨u⟩]) (Ms ++ [x]) :: L) H := by
  have hr := h.ok _ (List.mem_cons_self ..)
  have hf := h.ok _ (List.mem_cons_of_mem _ (List.mem_cons_self ..))
  have hd : ∀ b, rowB u b → ¬ (famE t us Ms).blocks b := fun b hb => (List.pairwise_cons.1 h.dj).1 _ (List.mem_cons_self ..) b hb
  have hap : ∀ {β : Type} [Inhabited β] (l : List β) (y : β) (j : Nat), j < l.length → nth (l ++ [y]) j = nth l j := fun l y j hj => by simp [nth, List.getElem?_append_left hj]
  have hla : ∀ {β : Type} [Inhabited β] (l : List β) (y : β), nth (l ++ [y]) l.length = y := fun l y => by simp [nth]
  have hlen := hf.1
  refine St.tell (A := [rowE t u x, famE t us Ms]) (A' := [famE t (us ++ [⟨u⟩]) (Ms ++ [x])]) h (fun b => ?_) (fun e he => ?_) (List.pairwise_singleton _ _)
  · constructor
    · rintro ⟨e, he, hb⟩
      rw [List.mem_singleton.1 he] at hb
      obtain ⟨j, hj, _, hb⟩ := hb
      by_cases hjl : j < us.length
      · rw [hap _ _ _ hjl] at hb
        exact ⟨_, List.mem_cons_of_mem _ (List.mem_singleton.2 rfl), j, hjl, trivial, hb⟩
      · have : j = us.length := by simp at hj; omega
        subst this
        rw [hla] at hb
        exact ⟨_, List.mem_cons_self .., hb⟩
    · rintro ⟨e, he, hb⟩
      refine ⟨_, List.mem_singleton.2 rfl, ?_⟩
      rcases List.mem_cons.1 he with rfl | he
      · exact ⟨us.length, by simp, trivial, by rw [hla]; exact hb⟩
      · rw [List.mem_singleton.1 he] at hb
        obtain ⟨j, hj, _, hb⟩ := hb
        exact ⟨j, by simp; omega, trivial, by rw [hap _ _ _ hj]; exact hb⟩
  · rw [List.mem_singleton.1 he]
    refine ⟨by simp [hlen], fun j hj _ => ?_, fun i j hij hj _ _ b hb1 hb2 => ?_⟩
    · by_cases hjl : j < us.length
      · rw [hap _ _ _ hjl, hap _ _ _ (by omega)]; exact hf.2.1 j hjl trivial
      · have : j = us.length := by simp at hj; omega
        subst this
        have e2 : nth (Ms ++ [x]) us.length = x := by rw [hlen]; exact hla _ _
        rw [hla, e2]; exact hr
    · have hil : i < us.length := by simp at hj; omega
      rw [hap _ _ _ hil] at hb1
      by_cases hjl : j < us.length
      · rw [hap _ _ _ hjl] at hb2
        exact hf.2.2 i j hij hjl trivial trivial b hb1 hb2
      · have : j = us.length := by simp at hj; omega
        subst this
        rw [hla] at hb2
        exact hd b hb2 ⟨i, hil, trivial, hb1⟩
/-- a row of them is read -/
theorem St.fam (h : St H0 M S0 L H) (i : Nat) (hi : L[i]? = some (famE t us Ms)) (k : Nat) (hk : k < us.length) : RdL NoB H (nth us k).v (nth Ms k) :=
  rowOk.rdL ((h.get i hi).2.1 k hk trivial) (fun _ hb => hb.elim) (fun _ _ hb => hb)
theorem St.famLen (h : St H0 M S0 L H) (i : Nat) (hi : L[i]? = some (famE t us Ms)) : us.length = Ms.length := (h.get i hi).1
theorem rawCells {S : Nat → Prop} : ∀ {us : List Raw} {cl : List Value}, RdCs S H cl us → cl = us.map (·.v)
  | [], cl, h => h
  | u :: us, cl, h => by
    obtain ⟨c1, c2, rfl, h1, h2⟩ := h
    rw [h1.1, rawCells h2]; rfl
theorem famCells {S : Nat → Prop} : ∀ {us : List Raw} {Ms : List (List α)}, us.length = Ms.length → (∀ j, j < us.length → RdL S H (nth us j).v (nth Ms j)) → RdCs S H (us.map (·.v)) Ms
  | [], [], _, _ => rfl
  | u :: us, x :: Ms, hl, h => ⟨[u.v], us.map (·.v), rfl, ⟨u.v, rfl, h 0 (by simp)⟩, famCells (by simpa using hl) fun j hj => h (j + 1) (by simp; omega)⟩
  | [], _ :: _, hl, _ => by simp at hl
  | _ :: _, [], hl, _ => by simp at hl
/-- no more is written -/
theorem St.famFin (h : St H0 M S0 (rowE T v us :: famE t us Ms :: L) H) : St H0 M S0 (rdE v Ms :: L) H := by
  have hr := h.ok _ (List.mem_cons_self ..)
  have hf := h.ok _ (List.mem_cons_of_mem _ (List.mem_cons_self ..))
  have hL : St H0 M S0 L H := h.drop (List.Sublist.cons _ (List.Sublist.cons _ (List.Sublist.refl _)))
  have hsl : ∀ b, SL S0 L b → SL S0 (rowE T v us :: famE t us Ms :: L) b := by
    rintro b (hb | ⟨e, he, hb⟩)
    · exact .inl hb
    · exact .inr ⟨e, List.mem_cons_of_mem _ (List.mem_cons_of_mem _ he), hb⟩
  have hno : ∀ (e : Ent), e ∈ [rowE T v us, famE t us Ms] → ∀ b, e.blocks b → ¬ SL S0 L b := by
    rintro e he b hb (hs | ⟨e', he', hb'⟩)
    · exact (h.ge e (by rcases List.mem_cons.1 he with rfl | he; exact List.mem_cons_self ..; rw [List.mem_singleton.1 he]; exact List.mem_cons_of_mem _ (List.mem_cons_self ..)) b hb).2 hs
    · have hd := List.pairwise_cons.1 h.dj
      rcases List.mem_cons.1 he with rfl | he
      · exact hd.1 e' (List.mem_cons_of_mem _ he') b hb hb'
      · rw [List.mem_singleton.1 he] at hb
        exact (List.pairwise_cons.1 hd.2).1 e' he' b hb hb'
  refine hL.rd (Rd.list.2 ?_)
  obtain ⟨hby, cl, hcl, hrC⟩ := hr
  obtain ⟨a, c, hv, hc, hm, hp⟩ := hrC.rd
  have hcl2 := rawCells hcl
  subst hcl2
  refine ⟨a, _, c, us.map (·.v), hv, hf.1, hc, hm, by rw [← hf.1]; exact hby, famCells hf.1 fun j hj => ?_, fun hne => ?_⟩
  · exact rowOk.rdL (hf.2.1 j hj trivial) hsl (fun b hb => hno _ (List.mem_cons_of_mem _ (List.mem_singleton.2 rfl)) b ⟨j, hj, trivial, hb⟩)
  · have hne2 : us.map (·.v) ≠ [] := by
      intro h0
      have h1 := congrArg List.length h0
      rw [List.length_map, hf.1] at h1
      exact hne (List.length_eq_zero_iff.1 h1)
    obtain ⟨g, rfl, hg, hcells⟩ := hp hne2
    exact ⟨g, 0, rfl, hno _ (List.mem_cons_self ..) g hg, hcells⟩
theorem St.rowSlice {l : List α} (h : St H0 M S0 L H) (k : Nat) (hk : L[k]? = some (rowE t v l)) : ∃ a n c, v = .slice a n c := by
  obtain ⟨_, cl, _, hr⟩ := h.get k hk
  obtain ⟨a, c, hv, _⟩ := hr.rd
  exact ⟨a, _, c, hv⟩
end
end Go.Um
