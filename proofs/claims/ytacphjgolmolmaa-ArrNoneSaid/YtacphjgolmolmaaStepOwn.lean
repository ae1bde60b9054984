/- What a callee leaves of the entries that were handed to it, where they may come to lie in new blocks. -/
import Derived.Test.YtacphjgolmolmaaUmOwn
import Derived.Test.YtacphjgolmolmaaUmMem
namespace Go.Um
def Gone (S : Nat → Prop) (A A' : List Ent) (H H' : Heap) : Prop :=
  (∀ e ∈ A', e.ok (lv S A A') H') ∧ (∀ b, own A' b → own A b ∨ H.size ≤ b) ∧ A'.Pairwise fun e e' => ∀ b, e.blocks b → ¬ e'.blocks b
theorem St.leave3 {H0 H : Heap} {S : Nat → Prop} {A A' : List Ent} (h : St H0 (own A) (fun b => S b ∧ ¬ own A b) A' H) : Gone S A A' H0 H :=
  ⟨h.ok, fun b ⟨e, he, hb⟩ => (h.ge e he b hb).1.symm, h.dj⟩
theorem St.back3 {H0 H H' : Heap} {M S0 : Nat → Prop} {A A' L : List Ent} (h : St H0 M S0 (A ++ L) H) (hx : Ext (own A) H H') (hg : Gone (SL S0 (A ++ L)) A A' H H') : St H0 M S0 (A' ++ L) H' := h.back hx hg.1 hg.2.1 hg.2.2
/-- no entry -/
def nilE : Ent where
  blocks _ := False
  ok _ _ := True
  lt _ h := h.elim
  ext _ _ _ _ := trivial
/-- an entry that is there in one case alone -/
def whenE (p : Prop) [Decidable p] (e : Ent) : Ent := if p then e else nilE
theorem whenE_yes {p : Prop} [Decidable p] {e : Ent} (h : p) : whenE p e = e := if_pos h
theorem whenE_no {p : Prop} [Decidable p] {e : Ent} (h : ¬ p) : whenE p e = nilE := if_neg h
/-- what a callee hands back that was handed nothing -/
def Fresh (S : Nat → Prop) (A' : List Ent) (H H' : Heap) : Prop := (∀ e ∈ A', e.ok (SL (fun b => S b ∧ b < H.size) A') H') ∧ ∀ b, own A' b → H.size ≤ b
theorem Fresh.none {S : Nat → Prop} {p : Prop} [Decidable p] {e : Ent} {H H' : Heap} (h : ¬ p) : Fresh S [whenE p e] H H' := by
  rw [whenE_no h]
  exact ⟨fun e he => by rw [List.mem_singleton.1 he]; exact trivial, fun b hb => by obtain ⟨e, he, hb⟩ := hb; rw [List.mem_singleton.1 he] at hb; exact hb.elim⟩
theorem St.fresh1 {H0 H : Heap} {S : Nat → Prop} {p : Prop} [Decidable p] {e : Ent} (h : St H0 (fun _ => False) (fun b => S b ∧ b < H0.size) [e] H) (hp : p) : Fresh S [whenE p e] H0 H := by
  rw [whenE_yes hp]
  exact ⟨h.ok, fun b ⟨e', he, hb⟩ => (h.ge e' he b hb).1.elim id (fun h => h.elim)⟩
theorem St.gotF {H0 H H' : Heap} {M S0 : Nat → Prop} {A' L : List Ent} (h : St H0 M S0 L H) (hx : Ext NoB H H') (hf : Fresh (SL S0 L) A' H H') (hdj : A'.Pairwise fun e e' => ∀ b, e.blocks b → ¬ e'.blocks b) : St H0 M S0 (A' ++ L) H' :=
  St.back (A := []) (L := L) h (Ext.mono hx fun _ hb => hb.elim)
    (fun e he => e.ext (hf.1 e he) (Nat.le_refl _) (fun _ _ _ => rfl) (fun b _ hb => by
      rcases hb with hb | hb
      · exact .inl ⟨hb.1, SL.lt h hb.1⟩
      · exact .inr hb))
    (fun b hb => .inr (hf.2 b hb)) hdj
/-- a struct that lies within a block is read -/
theorem q_loadBlkP {P : Program} {o : Oper} {f : Fr} {H : Heap} {U : Nat → Prop} {t t' : TypeId} {x : Operand} {g off n : Nat} {cs : Array Value} {ds : List Value} {fr : Nat × Nat} (ho : o.op = .load t x) (hx : ev f x = PT g off) (hE : ∀ w, (isAgg t).run P w = .ok true w)
    (hz : ∀ w, (sizeOf t).run P w = .ok n w) (hn : ds.length = n) (hd : (cs.toList.drop off).take n = ds) (hb : H[g]? = some (.cells cs t' fr)) (hU : ¬ U g) : Quiet P o U f H (.agg ds.toArray) := by
  subst hn
  have h1 := loadS_agg (P := P) (U := U) (H := H) (t := t) (b := g) (o := off) ds hE hz (fun j hj => by
    have h2 : ((cs.toList.drop off).take ds.length)[j]? = ds[j]? := by rw [hd]
    rw [List.getElem?_take, if_pos hj, List.getElem?_drop] at h2
    simp only [hcell, hb]
    rw [← h2]; simp) hU
  exact q_load ho hx h1
end Go.Um
