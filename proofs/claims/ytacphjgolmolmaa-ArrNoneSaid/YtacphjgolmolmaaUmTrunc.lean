/- Rows made shorter; blocks and maps of others; what a callee that writes leaves. -/
import Derived.Test.YtacphjgolmolmaaUmFn
import Derived.Test.YtacphjgolmolmaaUmMake
import Derived.Test.YtacphjgolmolmaaUmMap
namespace Go.Um
open GoT (sz ag rdc)
section
variable {α : Type} [GoT α] {P : Program} {o : Oper} {f : Fr} {H H0 H' : Heap} {M S0 : Nat → Prop} {L A : List Ent} {next : FP}

theorem SL_tail {e : Ent} {b : Nat} (h : SL S0 L b) : SL S0 (e :: L) b := by
  rcases h with h | ⟨e', he, hb⟩
  · exact .inl h
  · exact .inr ⟨e', List.mem_cons_of_mem _ he, hb⟩
theorem SL_upd {e e' : Ent} {b : Nat} (hbl : ∀ b, e'.blocks b → e.blocks b) (h : SL S0 (e' :: L) b) : SL S0 (e :: L) b := by
  rcases h with h | ⟨e2, he, hb⟩
  · exact .inl h
  · rcases List.mem_cons.1 he with rfl | he
    · exact .inr ⟨e, List.mem_cons_self .., hbl b hb⟩
    · exact .inr ⟨e2, List.mem_cons_of_mem _ he, hb⟩

theorem sliceV_rowB {v : Value} {s k m : Nat} {t : TypeId} {n : Nat} {cl : List Value} {size : Nat} (h : rowC size t v n cl H) {b : Nat} (hb : rowB (sliceV s v k m) b) : rowB v b := by
  rcases h with ⟨rfl, _⟩ | ⟨g, c, cur, rfl, _⟩
  · simp only [rowB, sliceV, Value.ownBlock] at hb ⊢
    split at hb <;> simp_all [Value.ownBlock]
  · by_cases hc : c = k
    · simp only [rowB, sliceV, hc, if_pos, Value.ownBlock] at hb ⊢; exact hb
    · simp only [rowB, sliceV, hc, if_false, Value.ownBlock, Option.map_some, add_off] at hb ⊢; exact hb

/-- The row's first elements alone. -/
theorem St.trunc {t : TypeId} {v : Value} {xs : List α} {k : Nat} (h : St H0 M S0 (rowE t v xs :: L) H) (hk : k ≤ xs.length) : St H0 M S0 (rowE t (sliceV (sz α) v 0 k) (xs.take k) :: L) H := by
  obtain ⟨hby, cl, hcl, hr⟩ := h.head
  have hbl : ∀ b, (rowE t (sliceV (sz α) v 0 k) (xs.take k)).blocks b → (rowE t v xs).blocks b := fun b hb => sliceV_rowB hr hb
  refine h.upd0 (Nat.le_refl _) (fun _ _ _ => rfl) (fun b hb => .inl (hbl b hb)) ⟨?_, cl.take (k * sz α), (hcl.take k).ext (.refl _ _) (fun b _ hb => SL_upd hbl hb), ?_⟩
  · exact Nat.le_trans (Nat.mul_le_mul_right _ (by rw [List.length_take]; omega)) hby
  · rw [List.length_take, Nat.min_eq_left hk]
    rcases hr with ⟨rfl, hn, rfl⟩ | ⟨g, c, cur, rfl, hg, hc, hm, hz, ht⟩
    · have : k = 0 := by omega
      subst this
      exact .inl ⟨rfl, rfl, by simp⟩
    · refine .inr ⟨g, c, cur, ?_, hg, by omega, hm, hz, ?_⟩
      · simp only [sliceV, Nat.sub_zero, Nat.zero_mul]
        split
        · rfl
        · simp [add_off]
      · rw [← ht, List.take_take, Nat.min_eq_left (Nat.mul_le_mul_right _ hk)]

theorem zeroCells_one (z : Value) (n : Nat) : (Builtin.zeroCells #[z] n).toList = List.replicate n z := by
  have := rep_map #[z] n (by simp)
  unfold Builtin.zeroCells
  rw [this]
  simp [List.flatten_replicate_singleton]

/-- clear of a row's last elements, of numbers -/
theorem e_clearInt {x : Operand} {t e : TypeId} {v : Value} {xs : List Int} {k : Nat} (ho : o.op = .call { callee := .builtin .clear, args := #[x], argTypes := #[t] }) (ht : P.underlying t = some (.slice e))
    (hz : ∀ w, (zeroValue e).run P w = .ok (I 0) w) (hx : ev f x = sliceV 1 v k xs.length) (hk : k ≤ xs.length) (h : St H0 M S0 (rowE e v xs :: L) H)
    (hK : ∀ H', St H0 M S0 (rowE e v (xs.take k ++ List.replicate (xs.length - k) 0) :: L) H' → Ext (rowB v) H H' → next (updO f o.dst (.tuple #[])) H') : OpE P o next f H := by
  intro w hw
  subst hw
  obtain ⟨hby, cl, hcl, hr⟩ := h.head
  have hlen := hcl.len
  have same : k = xs.length → (xs.take k ++ List.replicate (xs.length - k) 0) = xs := fun e => by rw [e]; simp
  rcases hr with ⟨rfl, hn, rfl⟩ | ⟨g, c, cur, rfl, hg, hc, hm, hzc, htk⟩
  · have hk0 : k = 0 := by omega
    have hrun : (execOp (ev f) o).run P w = .ok (.value (.tuple #[])) w := by
      rw [hn, hk0] at hx
      simp [execOp, ho, hx, sliceV, resolve, invoke, builtin, Builtin.clear_, run_underlying ht]
    rw [hrun]
    have := hK w.heap
    rw [same (by omega)] at this
    exact ⟨⟨rfl, rfl, rfl⟩, this h (.refl _ _)⟩
  · by_cases hkn : k = xs.length
    · have hrun : (execOp (ev f) o).run P w = .ok (.value (.tuple #[])) w := by
        rw [hkn] at hx
        simp only [sliceV, Nat.sub_self] at hx
        by_cases hcc : c = xs.length
        · rw [if_pos hcc] at hx
          simp [execOp, ho, hx, resolve, invoke, builtin, Builtin.clear_, run_underlying ht]
        · rw [if_neg hcc] at hx
          simp [execOp, ho, hx, resolve, invoke, builtin, Builtin.clear_, run_underlying ht]
      rw [hrun]
      have := hK w.heap
      rw [same hkn] at this
      exact ⟨⟨rfl, rfl, rfl⟩, this h (.refl _ _)⟩
    · have hs1 : sz Int = 1 := rfl
      rw [hs1, Nat.mul_one] at hzc
      rw [hs1, Nat.mul_one] at htk
      have hx2 : ev f x = .slice (some ⟨g, k, none⟩) (xs.length - k) (c - k) := by
        rw [hx]; simp only [sliceV]; rw [if_neg (by omega)]; simp [add_off]
      have hvs : ∀ v ∈ List.replicate (xs.length - k) (I 0), v.oneCell' = true := fun v hv => by rw [(List.mem_replicate.1 hv).2]; rfl
      have hst := run_storeCells_at P g k e (List.replicate (xs.length - k) (I 0)) 0 cur w hg (by simp; omega) hvs
      have hcz : (Builtin.zeroCells (I 0).cells (xs.length - k)).toList = List.replicate (xs.length - k) (I 0) := zeroCells_one _ _
      have hrun : (execOp (ev f) o).run P w = .ok (.value (.tuple #[])) (w.setRow g (cur.toList.take k ++ List.replicate (xs.length - k) (I 0) ++ cur.toList.drop xs.length).toArray) := by
        have e1 : k + 0 + (List.replicate (xs.length - k) (I 0)).length = xs.length := by simp; omega
        rw [e1, Nat.add_zero] at hst
        obtain ⟨m, hm2⟩ : ∃ m, xs.length - k = m + 1 := ⟨xs.length - k - 1, by omega⟩
        rw [hm2] at hx2 hcz hst ⊢
        simp [execOp, ho, hx2, resolve, invoke, builtin, Builtin.clear_, run_underlying ht, hz, hcz, hst]
      rw [hrun]
      have hsz : ∀ cs, (w.setRow g cs).heap.size = w.heap.size := fun cs => by simp [World.setRow]
      have hrow : ∀ b, rowB (.slice (some ⟨g, 0, none⟩) xs.length c) b ↔ b = g := by intro b; simp [rowB, Value.ownBlock, eq_comm]
      have hsame : ∀ cs, ∀ b, b < w.heap.size → ¬ rowB (.slice (some ⟨g, 0, none⟩) xs.length c) b → (w.setRow g cs).heap[b]? = w.heap[b]? := fun cs b _ hne => setRow_other w g b _ fun e => hne ((hrow b).2 e)
      have hlen2 : (xs.take k ++ List.replicate (xs.length - k) (0 : Int)).length = xs.length := by simp; omega
      refine ⟨⟨rfl, rfl, rfl⟩, hK _ (h.upd0 (by rw [hsz]; exact Nat.le_refl _) (hsame _) (fun b hb => .inl hb) ⟨by rw [hlen2]; exact hby, cl.take k ++ List.replicate (xs.length - k) (I 0), ?_, ?_⟩) ⟨by rw [hsz]; exact Nat.le_refl _, hsame _⟩⟩
      · have h1 := hcl.take k
        rw [hs1, Nat.mul_one] at h1
        have h2 : RdCs (SL S0 (rowE e (.slice (some ⟨g, 0, none⟩) xs.length c) xs :: L)) w.heap (List.replicate (xs.length - k) (I 0)) (List.replicate (xs.length - k) (0 : Int)) := by
          have h0 := (rd_cells (S := SL S0 (rowE e (.slice (some ⟨g, 0, none⟩) xs.length c) xs :: L)) (H := w.heap) (v := I 0) (x := (0 : Int)) (Rd.int.2 ⟨rfl, by decide⟩)).2
          have := rdCs_rep h0 (xs.length - k)
          rwa [show (I 0).cells.toList = [I 0] from rfl, List.flatten_replicate_singleton] at this
        have hxe : ∀ cs, Ext (SL S0 (rowE e (.slice (some ⟨g, 0, none⟩) xs.length c) xs :: L)) w.heap (w.setRow g cs).heap := fun cs => ⟨by rw [hsz]; exact Nat.le_refl _, fun b hb hn => hsame _ b hb fun hr => hn (.inr ⟨_, List.mem_cons_self .., hr⟩)⟩
        refine RdCs.ext (hxe _) (fun b _ hb => ?_) (h1.app h2)
        exact SL_upd (e' := rowE e (.slice (some ⟨g, 0, none⟩) xs.length c) (xs.take k ++ List.replicate (xs.length - k) 0)) (e := rowE e (.slice (some ⟨g, 0, none⟩) xs.length c) xs) (fun _ hb => hb) hb
      · rw [hlen2]
        refine .inr ⟨g, c, _, rfl, setRow_heap w g cur _ e _ hg, hc, hm, ?_, ?_⟩
        · rw [hs1, Nat.mul_one]
          simp only [List.size_toArray, List.length_append, List.length_take, List.length_replicate, List.length_drop, Array.length_toList]; omega
        · rw [hs1, Nat.mul_one, ← htk, List.take_take, Nat.min_eq_left hk]
          have e2 : (cur.toList.take k ++ List.replicate (xs.length - k) (I 0)).length = xs.length := by
            simp only [List.length_append, List.length_take, List.length_replicate, Array.length_toList]; omega
          show (cur.toList.take k ++ List.replicate (xs.length - k) (I 0) ++ cur.toList.drop xs.length).take xs.length = _
          rw [List.take_append_of_le_length (by omega), List.take_of_length_le (by omega)]

/-- What stands beside what a callee wrote. -/
theorem St.keepE (h : St H0 M S0 (A ++ L) H) (hx : Ext (own A) H H') {e : Ent} (he : e ∈ L) : e.ok (SL S0 (A ++ L)) H' := by
  refine e.ext (h.ok e (List.mem_append_right _ he)) hx.size ?_ fun b _ hb => hb
  rintro b hb (h1 | h1)
  · refine hx.same b hb fun ⟨a, ha, hab⟩ => ?_
    exact (List.pairwise_append.1 h.dj).2.2 a ha e he b hab h1
  · exact hx.same b hb fun ⟨a, ha, hab⟩ => h1 (.inr ⟨a, List.mem_append_left _ ha, hab⟩)
theorem St.pwA (h : St H0 M S0 (A ++ L) H) : A.Pairwise fun e e' => ∀ b, e.blocks b → ¬ e'.blocks b := (List.pairwise_append.1 h.dj).1
theorem St.okA (h : St H0 M S0 (A ++ L) H) : ∀ e ∈ A, e.ok (SL S0 (A ++ L)) H := fun e he => h.ok e (List.mem_append_left _ he)
theorem St.inA (_h : St H0 M S0 (A ++ L) H) : ∀ b, own A b → SL S0 (A ++ L) b := fun _ ⟨e, he, hb⟩ => .inr ⟨e, List.mem_append_left _ he, hb⟩
end

section
variable {κ β : Type} [DecidableEq κ] [KeyT κ] [GoT β] {P : Program} {o : Oper} {f : Fr} {H H0 H' : Heap} {M S0 S : Nat → Prop} {L : List Ent} {U : Nat → Prop}
/-- A map of others that is only read. -/
def fixM (r : Nat) (m : List (κ × β)) : Ent where
  blocks _ := False
  ok S H := ¬ S r ∧ (mapE r m).ok S H
  lt _ h := h.elim
  ext h hz hs ht := by
    have hl := (mapE r m).lt h.2 rfl
    exact ⟨fun h' => h.1 (ht r hl h'), (mapE r m).ext h.2 hz (fun b hb hn => hs b hb (.inr (by rcases hn with rfl | hn; exact h.1; exact hn))) ht⟩
theorem St.argMap {r : Nat} {m : List (κ × β)} (h : St H0 M S0 L H) (hn : Bl0 L) (hm : (mapE r m).ok S H) (hs : ¬ S0 r) (hS : ∀ b, S0 b → S b) : St H0 M S0 (fixM r m :: L) H := by
  have hsl : ∀ b, SL S0 L b → S0 b := by
    rintro b (hb | ⟨e, he, hb⟩)
    · exact hb
    · exact (hn e he b hb).elim
  exact h.cons0 _ (fun b hb => hb) ⟨fun h' => hs (hsl r h'), (mapE r m).ext hm (Nat.le_refl _) (fun _ _ _ => rfl) fun b _ hb => hS b (hsl b hb)⟩
theorem Bl0.consM {r : Nat} {m : List (κ × β)} (h : Bl0 L) : Bl0 (fixM r m :: L) := by
  intro e he b hb
  rcases List.mem_cons.1 he with rfl | h'
  · exact hb
  · exact h e h' b hb
theorem MapOk.no {r : Nat} {m : List (κ × β)} (h : (mapE r m).ok S H) : (mapE r m).ok NoB H := (mapE r m).ext h (Nat.le_refl _) (fun _ _ _ => rfl) fun _ _ hb => hb.elim
theorem MapOk.extN {r : Nat} {m : List (κ × β)} (h : (mapE r m).ok NoB H) (hx : Ext NoB H H') : (mapE r m).ok NoB H' := (mapE r m).ext h hx.size (fun b hb _ => hx.same b hb fun h => h) fun _ _ hb => hb.elim
theorem q_lenMap {t kt e : TypeId} {x : Operand} {r : Nat} {m : List (κ × β)} (ho : o.op = .call { callee := .builtin .len, args := #[x], argTypes := #[t] }) (ht : P.underlying t = some (.map kt e)) (hx : ev f x = .map (some r))
    (h : (mapE r m).ok S H) (hU : ¬ U r) : Quiet P o U f H (I m.length) := by
  obtain ⟨es, c, hr, hm, hn⟩ := h
  have hlt := (Array.getElem?_eq_some_iff.1 hr).1
  have hl := hm.length
  intro w hw
  have hr' : w.heap[r]? = some (.map es c) := by rw [hw.same r hlt hU]; exact hr
  have hg : (getObj r).run P w = .ok (.map es c) w := by simp [getObj, Sem.run, hr']
  simp [execOp, ho, hx, resolve, invoke, builtin, Builtin.len_, goInt, run_underlying ht, hg, ← hl]
end
end Go.Um
