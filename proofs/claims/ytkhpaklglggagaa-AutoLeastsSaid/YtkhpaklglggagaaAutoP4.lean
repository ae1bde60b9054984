import Derived.Test.YtkhpaklglggagaaProg
import Derived.Test.YtkhpaklglggagaaAutoP3
namespace Go.Um
open Go.Proofs
open GoT (sz ag rdc)
open KeyT (kv)

theorem el_Bool_4_AutoP4 : ElT Try.prog Bool 4 := ⟨Try.isAgg4, Try.sizeOf4⟩

set_option maxRecDepth 100000 in
theorem both_2 {H0 : Heap} (x : Int × Int) (gk ga gb : Nat) (vk c0 vn vt d0 wn wt : Value) (a b : Auto) (op : Bool → Bool → Bool) (hkb : H0[gk]? = some (.cells #[vk] 81)) (ha : H0[ga]? = some (.cells #[c0, vn, vt] 36)) (hb : H0[gb]? = some (.cells #[d0, wn, wt] 36)) (rn : Rd NoB H0 vn a.Next) (rt : Rd NoB H0 vt a.Takes) (sw : Rd NoB H0 wn b.Next) (st : Rd NoB H0 wt b.Takes) (hWa : WF a) (hWb : WF b) (hss : a.Signs = b.Signs) (hx : (0 ≤ x.1 ∧ x.1 < (a.Next.length : Int)) ∧ 0 ≤ x.2 ∧ x.2 < (b.Next.length : Int)) (hk : ∀ (x y : Bool) (H : Heap), Ext NoB H0 H → FnH Try.prog vk #[B x, B y] H (fun rv H' => Ext NoB H H' ∧ rv = B (op x y))) : CallsH Try.prog 76 #[Value.agg #[I (x.1), I (x.2)], PT gk 0, PT ga 0, PT gb 0] H0 (fun rv_ H' => Ext NoB H0 H' ∧ rv_ = B (op (nth a.Takes x.1.toNat) (nth b.Takes x.2.toNat))) := by
  have hra := hWa.rows x.1.toNat (by omega)
  have hrb := hWb.rows x.2.toNat (by omega)
  have hta := hWa.takes
  have htb := hWb.takes
  have hS0 : St H0 NoB NoB [fixE gk (.cells #[vk] 81), fixE ga (.cells #[c0, vn, vt] 36), fixE gb (.cells #[d0, wn, wt] 36), rdE vn a.Next, rdE vt a.Takes, rdE wn b.Next, rdE wt b.Takes] H0 := St.argFix (St.argFix (St.argFix (St.arg (St.arg (St.arg (St.arg (St.start (fun _ h => h.elim)) (Bl0.nil) st (fun _ h => h)) (Bl0.cons (Bl0.nil)) sw (fun _ h => h)) (Bl0.cons (Bl0.cons (Bl0.nil))) rt (fun _ h => h)) (Bl0.cons (Bl0.cons (Bl0.cons (Bl0.nil)))) rn (fun _ h => h)) (Bl0.cons (Bl0.cons (Bl0.cons (Bl0.cons (Bl0.nil))))) hb (fun h => h)) (Bl0.consF (Bl0.cons (Bl0.cons (Bl0.cons (Bl0.cons (Bl0.nil)))))) ha (fun h => h)) (Bl0.consF (Bl0.consF (Bl0.cons (Bl0.cons (Bl0.cons (Bl0.cons (Bl0.nil))))))) hkb (fun h => h)
  refine callsH_of_wpF (args := [Value.agg #[I (x.1), I (x.2)], PT gk 0, PT ga 0, PT gb 0]) (rs := [.tmp 5]) Try.func76 rfl Try.ntmps76 Try.results76 (by kernel_rfl) (Nat.le_of_ble_eq_true rfl) ?_
  have a0_0 : argF [Value.agg #[I (x.1), I (x.2)], PT gk 0, PT ga 0, PT gb 0] 0 = Value.agg #[I (x.1), I (x.2)] := rfl
  have a0_1 : argF [Value.agg #[I (x.1), I (x.2)], PT gk 0, PT ga 0, PT gb 0] 1 = PT gk 0 := rfl
  have a0_2 : argF [Value.agg #[I (x.1), I (x.2)], PT gk 0, PT ga 0, PT gb 0] 2 = PT ga 0 := rfl
  have a0_3 : argF [Value.agg #[I (x.1), I (x.2)], PT gk 0, PT ga 0, PT gb 0] 3 = PT gb 0 := rfl
  generalize argF [Value.agg #[I (x.1), I (x.2)], PT gk 0, PT ga 0, PT gb 0] = f0 at *
  refine wpF_seq ?_
  refine wpF_cut (fun f H => ∃ (g1 : Nat), f 1 = PT gk 0 ∧ f 2 = PT ga 0 ∧ f 3 = PT gb 0 ∧ f 4 = PT g1 0 ∧ St H0 NoB NoB [blkE g1 (.cells #[I (x.1), I (x.2)] 87), fixE gk (.cells #[vk] 81), fixE ga (.cells #[c0, vn, vt] 36), fixE gb (.cells #[d0, wn, wt] 36), rdE vn a.Next, rdE vt a.Takes, rdE wn b.Next, rdE wt b.Takes] H) ?_ ?_
  · refine wpF_region ?_
    refine wpL_o rfl ?_
    refine e_box (v := Value.agg #[I (x.1), I (x.2)]) rfl a0_0 hS0 (fun g1 H2 hS3 hxx => ?_)
    replace hS3 : St H0 NoB NoB [blkE g1 (.cells #[I (x.1), I (x.2)] 87), fixE gk (.cells #[vk] 81), fixE ga (.cells #[c0, vn, vt] 36), fixE gb (.cells #[d0, wn, wt] 36), rdE vn a.Next, rdE vt a.Takes, rdE wn b.Next, rdE wt b.Takes] H2 := hS3
    refine wpL_q (U := NoB) rfl (q_assign (v := B (false)) rfl rfl) ?_
    exact ⟨g1, a0_1, a0_2, a0_3, rfl, hS3⟩
  rintro f4 H4 ⟨g1, a4_1, a4_2, a4_3, a4_4, hS4⟩
  clear a0_0 a0_1 a0_2 a0_3
  refine wpF_seq ?_
  refine wpF_cut (fun f H => f 5 = B (op (nth a.Takes ((x.1).toNat)) (nth b.Takes ((x.2).toNat))) ∧ St H0 NoB NoB [blkE g1 (.cells #[I (x.1), I (x.2)] 87), fixE gk (.cells #[vk] 81), fixE ga (.cells #[c0, vn, vt] 36), fixE gb (.cells #[d0, wn, wt] 36), rdE vn a.Next, rdE vt a.Takes, rdE wn b.Next, rdE wt b.Takes] H) ?_ ?_
  · refine wpF_drawn [] [] (fun _ _ => False) (by kernel_rfl) (by kernel_rfl) ?_
    refine wpR_q 0 (by kernel_rfl) rfl (quietAt rfl rfl (q_loadBlk rfl a4_1 Try.isAgg81 (hS4.fixd 1 rfl) rfl (labU_not [] rfl (List.forall_mem_nil _)))) ?_
    refine wpR_q 1 (by kernel_rfl) rfl (quietAt rfl rfl (q_fieldAddr rfl Try.underlying36 rfl Try.sizeOf32 a4_2)) ?_
    refine wpR_q 2 (by kernel_rfl) rfl (quietAt rfl rfl (q_loadBlk rfl rfl Try.isAgg32 (hS4.fixd 2 rfl) rfl (labU_not [] rfl (List.forall_mem_nil _)))) ?_
    refine wpR_q 3 (by kernel_rfl) rfl (quietAt rfl rfl (q_indexAddrA (k := 0) rfl Try.underlying87 Try.sizeOf3 a4_4 rfl rfl (by decide))) ?_
    refine wpR_q 4 (by kernel_rfl) rfl (quietAt rfl rfl (q_loadBlk rfl rfl Try.isAgg3 (hS4.blk 0 rfl) rfl (labU_not [] rfl (List.forall_mem_nil _)))) ?_
    refine wpR_q 5 (by kernel_rfl) rfl (quietAt rfl rfl (q_indexRd (k := (x.1).toNat) rfl Try.underlying32 el_Bool_4_AutoP4 rfl rfl (hS4.rdl 5 rfl) (by omega) (by omega))) ?_
    refine wpR_q 6 (by kernel_rfl) rfl (quietAt rfl rfl (q_loadBool (k := (x.1).toNat) rfl rfl el_Bool_4_AutoP4 (hS4.rdl 5 rfl) (by omega) (labU_sub [] rfl (List.forall_mem_nil _)))) ?_
    refine wpR_q 7 (by kernel_rfl) rfl (quietAt rfl rfl (q_fieldAddr rfl Try.underlying36 rfl Try.sizeOf32 a4_3)) ?_
    refine wpR_q 8 (by kernel_rfl) rfl (quietAt rfl rfl (q_loadBlk rfl rfl Try.isAgg32 (hS4.fixd 3 rfl) rfl (labU_not [] rfl (List.forall_mem_nil _)))) ?_
    refine wpR_q 9 (by kernel_rfl) rfl (quietAt rfl rfl (q_indexAddrA (k := 1) rfl Try.underlying87 Try.sizeOf3 a4_4 rfl rfl (by decide))) ?_
    refine wpR_q 10 (by kernel_rfl) rfl (quietAt rfl rfl (q_loadBlk rfl rfl Try.isAgg3 (hS4.blk 0 rfl) rfl (labU_not [] rfl (List.forall_mem_nil _)))) ?_
    refine wpR_q 11 (by kernel_rfl) rfl (quietAt rfl rfl (q_indexRd (k := (x.2).toNat) rfl Try.underlying32 el_Bool_4_AutoP4 rfl rfl (hS4.rdl 7 rfl) (by omega) (by omega))) ?_
    refine wpR_q 12 (by kernel_rfl) rfl (quietAt rfl rfl (q_loadBool (k := (x.2).toNat) rfl rfl el_Bool_4_AutoP4 (hS4.rdl 7 rfl) (by omega) (labU_sub [] rfl (List.forall_mem_nil _)))) ?_
    refine wpR_n [13] (by kernel_rfl) ?_
    refine List.forall_mem_cons.2 ⟨?_, List.forall_mem_nil _⟩
    refine exE rfl rfl ?_
    refine e_callF rfl rfl (arr2 (v0 := B (nth a.Takes ((x.1).toNat))) (v1 := B (nth b.Takes ((x.2).toNat))) rfl rfl) (hk _ _ _ hS4.frame) ?_
    rintro _ H5o13 ⟨hxx, rfl⟩
    have hS5o13 : St H0 NoB NoB [blkE g1 (.cells #[I (x.1), I (x.2)] 87), fixE gk (.cells #[vk] 81), fixE ga (.cells #[c0, vn, vt] 36), fixE gb (.cells #[d0, wn, wt] 36), rdE vn a.Next, rdE vt a.Takes, rdE wn b.Next, rdE wt b.Takes] H5o13 := hS4.ext hxx
    refine ⟨Ext.mono hxx (fun _ h => h.elim), ?_⟩
    refine wpR_q 14 (by kernel_rfl) rfl (quietAt rfl rfl (q_assign (v := B (op (nth a.Takes ((x.1).toNat)) (nth b.Takes ((x.2).toNat)))) rfl rfl)) ?_
    refine wpR_end (by kernel_rfl) ?_
    exact ⟨rfl, hS5o13⟩
  rintro f6 H6 ⟨a6_5, hS6⟩
  clear a4_1 a4_2 a4_3 a4_4
  refine wpF_ret ?_
  refine ⟨_, resT a6_5 resN, hS6.frame, ?_⟩
  show (B (op (nth a.Takes ((x.1).toNat)) (nth b.Takes ((x.2).toNat)))) = B (op (nth a.Takes x.1.toNat) (nth b.Takes x.2.toNat))
  rfl

set_option maxHeartbeats 1000000 in
set_option maxRecDepth 100000 in
theorem both {H0 : Heap} {S : Nat → Prop} (vn vt wn wt vk : Value) (a b : Auto) (op : Bool → Bool → Bool) (rn : Rd S H0 vn a.Next) (rt : Rd S H0 vt a.Takes) (hsg : In64 a.Signs) (sw : Rd S H0 wn b.Next) (st : Rd S H0 wt b.Takes) (hsgb : In64 b.Signs) (hk : ∀ (x y : Bool) (H : Heap), Ext NoB H0 H → FnH Try.prog vk #[B x, B y] H (fun rv H' => Ext NoB H H' ∧ rv = B (op x y))) : CallsH Try.prog 56 #[Value.agg #[I (a.Signs), vn, vt], Value.agg #[I (b.Signs), wn, wt], vk] H0 (fun rv_ H' => Ext NoB H0 H' ∧ ∃ w1_ w2_, rv_ = Value.tuple #[Value.agg #[I (bothR a b op).1.Signs, w1_, w2_], Value.agg #[I (bothR a b op).2.1, I (bothR a b op).2.2]] ∧ Rd (fun b => S b ∧ b < H0.size) H' w1_ (bothR a b op).1.Next ∧ Rd (fun b => S b ∧ b < H0.size) H' w2_ (bothR a b op).1.Takes) := by
  have hkc := (hk true true H0 (.refl _ _)).cells
  have hk1 := (hk true true H0 (.refl _ _)).one
  have hS0 : St H0 NoB (fun b => S b ∧ b < H0.size) [rdE vn a.Next, rdE vt a.Takes, rdE wn b.Next, rdE wt b.Takes] H0 := St.arg (St.arg (St.arg (St.arg (St.start (fun _ h => h.2)) (Bl0.nil) st (fun _ h => h.1)) (Bl0.cons (Bl0.nil)) sw (fun _ h => h.1)) (Bl0.cons (Bl0.cons (Bl0.nil))) rt (fun _ h => h.1)) (Bl0.cons (Bl0.cons (Bl0.cons (Bl0.nil)))) rn (fun _ h => h.1)
  refine callsH_of_wpF (args := [Value.agg #[I (a.Signs), vn, vt], Value.agg #[I (b.Signs), wn, wt], vk]) (rs := [.cell 6 36, .cell 7 24]) Try.func56 rfl Try.ntmps56 Try.results56 (by kernel_rfl) (Nat.le_of_ble_eq_true rfl) ?_
  have a0_0 : argF [Value.agg #[I (a.Signs), vn, vt], Value.agg #[I (b.Signs), wn, wt], vk] 0 = Value.agg #[I (a.Signs), vn, vt] := rfl
  have a0_1 : argF [Value.agg #[I (a.Signs), vn, vt], Value.agg #[I (b.Signs), wn, wt], vk] 1 = Value.agg #[I (b.Signs), wn, wt] := rfl
  have a0_2 : argF [Value.agg #[I (a.Signs), vn, vt], Value.agg #[I (b.Signs), wn, wt], vk] 2 = vk := rfl
  generalize argF [Value.agg #[I (a.Signs), vn, vt], Value.agg #[I (b.Signs), wn, wt], vk] = f0 at *
  refine wpF_seq ?_
  refine wpF_cut (fun f H => ∃ (g1 : Nat), ∃ (g4 : Nat), ∃ (g7 : Nat), ∃ (g10 : Nat), ∃ (g13 : Nat), f 3 = PT g1 0 ∧ f 4 = PT g4 0 ∧ f 5 = PT g7 0 ∧ f 6 = PT g10 0 ∧ f 7 = PT g13 0 ∧ St H0 NoB (fun b => S b ∧ b < H0.size) [blkE g13 (.cells #[I (0), I (0)] 24), blkE g10 (.cells #[I (0), (Value.slice none 0 0), (Value.slice none 0 0)] 36), blkE g7 (.cells #[vk] 81), blkE g4 (.cells #[I (b.Signs), wn, wt] 36), blkE g1 (.cells #[I (a.Signs), vn, vt] 36), rdE vn a.Next, rdE vt a.Takes, rdE wn b.Next, rdE wt b.Takes] H) ?_ ?_
  · refine wpF_region ?_
    refine wpL_o rfl ?_
    refine e_box (v := Value.agg #[I (a.Signs), vn, vt]) rfl a0_0 hS0 (fun g1 H2 hS3 hxx => ?_)
    replace hS3 : St H0 NoB (fun b => S b ∧ b < H0.size) [blkE g1 (.cells #[I (a.Signs), vn, vt] 36), rdE vn a.Next, rdE vt a.Takes, rdE wn b.Next, rdE wt b.Takes] H2 := hS3
    refine wpL_o rfl ?_
    refine e_box (v := Value.agg #[I (b.Signs), wn, wt]) rfl a0_1 hS3 (fun g4 H5 hS6 hxx => ?_)
    replace hS6 : St H0 NoB (fun b => S b ∧ b < H0.size) [blkE g4 (.cells #[I (b.Signs), wn, wt] 36), blkE g1 (.cells #[I (a.Signs), vn, vt] 36), rdE vn a.Next, rdE vt a.Takes, rdE wn b.Next, rdE wt b.Takes] H5 := hS6
    refine wpL_o rfl ?_
    refine e_box (v := vk) rfl a0_2 hS6 (fun g7 H8 hS9 hxx => ?_)
    rw [hkc] at hS9
    replace hS9 : St H0 NoB (fun b => S b ∧ b < H0.size) [blkE g7 (.cells #[vk] 81), blkE g4 (.cells #[I (b.Signs), wn, wt] 36), blkE g1 (.cells #[I (a.Signs), vn, vt] 36), rdE vn a.Next, rdE vt a.Takes, rdE wn b.Next, rdE wt b.Takes] H8 := hS9
    refine wpL_o rfl ?_
    refine e_alloc rfl Try.zeroValue36 hS9 (fun g10 H11 hS12 hxx => ?_)
    replace hS12 : St H0 NoB (fun b => S b ∧ b < H0.size) [blkE g10 (.cells #[I (0), (Value.slice none 0 0), (Value.slice none 0 0)] 36), blkE g7 (.cells #[vk] 81), blkE g4 (.cells #[I (b.Signs), wn, wt] 36), blkE g1 (.cells #[I (a.Signs), vn, vt] 36), rdE vn a.Next, rdE vt a.Takes, rdE wn b.Next, rdE wt b.Takes] H11 := hS12
    refine wpL_o rfl ?_
    refine e_alloc rfl Try.zeroValue24 hS12 (fun g13 H14 hS15 hxx => ?_)
    replace hS15 : St H0 NoB (fun b => S b ∧ b < H0.size) [blkE g13 (.cells #[I (0), I (0)] 24), blkE g10 (.cells #[I (0), (Value.slice none 0 0), (Value.slice none 0 0)] 36), blkE g7 (.cells #[vk] 81), blkE g4 (.cells #[I (b.Signs), wn, wt] 36), blkE g1 (.cells #[I (a.Signs), vn, vt] 36), rdE vn a.Next, rdE vt a.Takes, rdE wn b.Next, rdE wt b.Takes] H14 := hS15
    exact ⟨g1, g4, g7, g10, g13, rfl, rfl, rfl, rfl, rfl, hS15⟩
  rintro f16 H16 ⟨g1, g4, g7, g10, g13, a16_3, a16_4, a16_5, a16_6, a16_7, hS16⟩
  clear a0_0 a0_1 a0_2
  refine wpF_seq ?_
  refine wpF_seq ?_
  refine wpF_cut (fun f H => ∃ (g20 : Nat), f 3 = PT g1 0 ∧ f 4 = PT g4 0 ∧ f 5 = PT g7 0 ∧ f 6 = PT g10 0 ∧ f 7 = PT g13 0 ∧ f 8 = PT g20 0 ∧ St H0 NoB (fun b => S b ∧ b < H0.size) [blkE g20 (.cells #[I ((pairFault a b).1), I ((pairFault a b).2)] 24), blkE g13 (.cells #[I (0), I (0)] 24), blkE g10 (.cells #[I (0), (Value.slice none 0 0), (Value.slice none 0 0)] 36), blkE g7 (.cells #[vk] 81), blkE g4 (.cells #[I (b.Signs), wn, wt] 36), blkE g1 (.cells #[I (a.Signs), vn, vt] 36), rdE vn a.Next, rdE vt a.Takes, rdE wn b.Next, rdE wt b.Takes] H) ?_ ?_
  · refine wpF_region ?_
    refine wpL_q (U := NoB) rfl (q_loadBlkA rfl a16_3 Try.isAgg36 Try.sizeOf36 rfl (hS16.blk 4 rfl) (fun h => h)) ?_
    refine wpL_q (U := NoB) rfl (q_loadBlkA rfl a16_4 Try.isAgg36 Try.sizeOf36 rfl (hS16.blk 3 rfl) (fun h => h)) ?_
    refine wpL_o rfl ?_
    refine e_call rfl Try.call59 (arr2 (v0 := Value.agg #[I (a.Signs), vn, vt]) (v1 := Value.agg #[I (b.Signs), wn, wt]) rfl rfl) (checks vn vt wn wt a b (hS16.rdN 5 rfl) (hS16.rdN 6 rfl) hsg (hS16.rdN 7 rfl) (hS16.rdN 8 rfl) (by assumption)) ?_
    rintro _ H17 ⟨hxx, rfl⟩
    have hS18 : St H0 NoB (fun b => S b ∧ b < H0.size) [blkE g13 (.cells #[I (0), I (0)] 24), blkE g10 (.cells #[I (0), (Value.slice none 0 0), (Value.slice none 0 0)] 36), blkE g7 (.cells #[vk] 81), blkE g4 (.cells #[I (b.Signs), wn, wt] 36), blkE g1 (.cells #[I (a.Signs), vn, vt] 36), rdE vn a.Next, rdE vt a.Takes, rdE wn b.Next, rdE wt b.Takes] H17 := hS16.ext hxx
    refine wpL_o rfl ?_
    refine e_alloc rfl Try.zeroValue24 hS18 (fun g20 H21 hS22 hxx => ?_)
    replace hS22 : St H0 NoB (fun b => S b ∧ b < H0.size) [blkE g20 (.cells #[I (0), I (0)] 24), blkE g13 (.cells #[I (0), I (0)] 24), blkE g10 (.cells #[I (0), (Value.slice none 0 0), (Value.slice none 0 0)] 36), blkE g7 (.cells #[vk] 81), blkE g4 (.cells #[I (b.Signs), wn, wt] 36), blkE g1 (.cells #[I (a.Signs), vn, vt] 36), rdE vn a.Next, rdE vt a.Takes, rdE wn b.Next, rdE wt b.Takes] H21 := hS22
    refine wpL_o rfl ?_
    refine e_storeBlkA (cs' := #[I ((pairFault a b).1), I ((pairFault a b).2)]) rfl rfl rfl Try.sizeOf24 rfl rfl (List.forall_mem_cons.2 ⟨rfl, List.forall_mem_cons.2 ⟨rfl, List.forall_mem_nil _⟩⟩) hS22 (fun H23 hS24 hxx => ?_)
    replace hS24 : St H0 NoB (fun b => S b ∧ b < H0.size) [blkE g20 (.cells #[I ((pairFault a b).1), I ((pairFault a b).2)] 24), blkE g13 (.cells #[I (0), I (0)] 24), blkE g10 (.cells #[I (0), (Value.slice none 0 0), (Value.slice none 0 0)] 36), blkE g7 (.cells #[vk] 81), blkE g4 (.cells #[I (b.Signs), wn, wt] 36), blkE g1 (.cells #[I (a.Signs), vn, vt] 36), rdE vn a.Next, rdE vt a.Takes, rdE wn b.Next, rdE wt b.Takes] H23 := hS24
    exact ⟨g20, a16_3, a16_4, a16_5, a16_6, a16_7, rfl, hS24⟩
  rintro f25 H25 ⟨g20, a25_3, a25_4, a25_5, a25_6, a25_7, a25_8, hS25⟩
  clear a16_3 a16_4 a16_5 a16_6 a16_7
  refine wpF_seq ?_
  refine wpF_cut (fun f H => f 3 = PT g1 0 ∧ f 4 = PT g4 0 ∧ f 5 = PT g7 0 ∧ f 6 = PT g10 0 ∧ f 7 = PT g13 0 ∧ f 8 = PT g20 0 ∧ f 15 = B (decide (((pairFault a b).1) ≠ 0)) ∧ H25 = H) ?_ ?_
  · refine wpF_region ?_
    refine wpL_q (U := NoB) rfl (q_fieldAddr rfl Try.underlying24 rfl Try.sizeOf3 a25_8) ?_
    refine wpL_q (U := NoB) rfl (q_loadBlk rfl rfl Try.isAgg3 (hS25.blk 0 rfl) rfl (fun h => h)) ?_
    refine wpL_q (U := NoB) rfl (q_neq rfl rfl rfl) ?_
    exact ⟨a25_3, a25_4, a25_5, a25_6, a25_7, a25_8, rfl, rfl⟩
  rintro f26 _ ⟨a26_3, a26_4, a26_5, a26_6, a26_7, a26_8, a26_15, rfl⟩
  clear a25_3 a25_4 a25_5 a25_6 a25_7 a25_8
  refine wpF_condP a26_15 (fun h1 => ?t54) (fun h1 => ?e54)
  case t54 =>
    refine wpF_seq ?_
    refine wpF_cut (fun f H => f 6 = PT g10 0 ∧ f 7 = PT g13 0 ∧ St H0 NoB (fun b => S b ∧ b < H0.size) [blkE g13 (.cells #[I ((pairFault a b).1), I ((pairFault a b).2)] 24), blkE g10 (.cells #[I (0), (Value.slice none 0 0), (Value.slice none 0 0)] 36), blkE g20 (.cells #[I ((pairFault a b).1), I ((pairFault a b).2)] 24), blkE g7 (.cells #[vk] 81), blkE g4 (.cells #[I (b.Signs), wn, wt] 36), blkE g1 (.cells #[I (a.Signs), vn, vt] 36), rdE vn a.Next, rdE vt a.Takes, rdE wn b.Next, rdE wt b.Takes] H) ?_ ?_
    · refine wpF_drawn [none, none, some 0, some 1] [[], [0], [], []] (fun l b => match l with | 0 => b = g10 | 1 => True | _ => False) (by kernel_rfl) (by kernel_rfl) ?_
      refine wpR_q 0 (by kernel_rfl) rfl (quietAt rfl rfl (q_build (v := Value.agg #[I (0), (Value.slice none 0 0), (Value.slice none 0 0)]) rfl par0 (fun w => by kernel_rfl))) ?_
      refine wpR_q 1 (by kernel_rfl) rfl (quietAt rfl rfl (q_loadBlkA rfl a26_8 Try.isAgg24 Try.sizeOf24 rfl (hS25.blk 0 rfl) (labU_not [0] rfl (List.forall_mem_cons.2 ⟨fun hb => hS25.dis 0 2 (by decide) rfl rfl _ rfl hb, List.forall_mem_nil _⟩)))) ?_
      refine wpR_n [2] (by kernel_rfl) ?_
      refine List.forall_mem_cons.2 ⟨?_, List.forall_mem_nil _⟩
      refine exE rfl rfl ?_
      refine e_storeBlkA (cs' := #[I (0), (Value.slice none 0 0), (Value.slice none 0 0)]) rfl a26_6 rfl Try.sizeOf36 rfl rfl (List.forall_mem_cons.2 ⟨rfl, List.forall_mem_cons.2 ⟨rfl, List.forall_mem_cons.2 ⟨rfl, List.forall_mem_nil _⟩⟩⟩) (hS25.front 2 rfl) (fun H28o2 hS28o2 hxx => ?_)
      replace hS28o2 : St H0 NoB (fun b => S b ∧ b < H0.size) [blkE g10 (.cells #[I (0), (Value.slice none 0 0), (Value.slice none 0 0)] 36), blkE g20 (.cells #[I ((pairFault a b).1), I ((pairFault a b).2)] 24), blkE g13 (.cells #[I (0), I (0)] 24), blkE g7 (.cells #[vk] 81), blkE g4 (.cells #[I (b.Signs), wn, wt] 36), blkE g1 (.cells #[I (a.Signs), vn, vt] 36), rdE vn a.Next, rdE vt a.Takes, rdE wn b.Next, rdE wt b.Takes] H28o2 := hS28o2
      refine ⟨Ext.mono hxx (labS_of 0 rfl (fun b hb => hb)), ?_⟩
      refine wpR_n [3] (by kernel_rfl) ?_
      refine List.forall_mem_cons.2 ⟨?_, List.forall_mem_nil _⟩
      refine exE rfl rfl ?_
      refine e_storeBlkA (cs' := #[I ((pairFault a b).1), I ((pairFault a b).2)]) rfl a26_7 rfl Try.sizeOf24 rfl rfl (List.forall_mem_cons.2 ⟨rfl, List.forall_mem_cons.2 ⟨rfl, List.forall_mem_nil _⟩⟩) (hS28o2.front 2 rfl) (fun H28o3 hS28o3 hxx => ?_)
      replace hS28o3 : St H0 NoB (fun b => S b ∧ b < H0.size) [blkE g13 (.cells #[I ((pairFault a b).1), I ((pairFault a b).2)] 24), blkE g10 (.cells #[I (0), (Value.slice none 0 0), (Value.slice none 0 0)] 36), blkE g20 (.cells #[I ((pairFault a b).1), I ((pairFault a b).2)] 24), blkE g7 (.cells #[vk] 81), blkE g4 (.cells #[I (b.Signs), wn, wt] 36), blkE g1 (.cells #[I (a.Signs), vn, vt] 36), rdE vn a.Next, rdE vt a.Takes, rdE wn b.Next, rdE wt b.Takes] H28o3 := hS28o3
      refine ⟨Ext.mono hxx (labS_of 1 rfl (fun _ _ => trivial)), ?_⟩
      refine wpR_end (by kernel_rfl) ?_
      exact ⟨a26_6, a26_7, hS28o3⟩
    rintro f29 H29 ⟨a29_6, a29_7, hS29⟩
    clear a26_15 a26_3 a26_4 a26_5 a26_6 a26_7 a26_8
    refine wpF_ret ?_
    refine ⟨_, resC a29_6 (loadV_blkA Try.isAgg36 Try.sizeOf36 rfl (hS29.blk 1 rfl)) (resC a29_7 (loadV_blkA Try.isAgg24 Try.sizeOf24 rfl (hS29.blk 0 rfl)) (resN)), hS29.frame, ?_⟩
    show ∃ w1_ w2_, (Value.tuple #[Value.agg #[I (0), (Value.slice none 0 0), (Value.slice none 0 0)], Value.agg #[I ((pairFault a b).1), I ((pairFault a b).2)]]) = Value.tuple #[Value.agg #[I (bothR a b op).1.Signs, w1_, w2_], Value.agg #[I (bothR a b op).2.1, I (bothR a b op).2.2]] ∧ Rd (fun b => S b ∧ b < H0.size) H29 w1_ (bothR a b op).1.Next ∧ Rd (fun b => S b ∧ b < H0.size) H29 w2_ (bothR a b op).1.Takes
    have hq : bothR a b op = (⟨0, [], []⟩, pairFault a b) := by rw [bothR, if_pos h1]
    exact ⟨(Value.slice none 0 0), (Value.slice none 0 0), by rw [hq], by rw [hq]; exact rdNil, by rw [hq]; exact rdNil⟩
  refine wpF_skip ?_
  refine wpF_seq ?_
  obtain ⟨hpz, hWa, hWb, hss⟩ := pairFault_zero (Decidable.of_not_not h1)
  have hsga := hWa.signs
  refine wpF_cut (fun f H => ∃ (r30 : Value), ∃ (r31 : Value), ∃ (g35 : Nat), f 6 = PT g10 0 ∧ f 7 = PT g13 0 ∧ f 9 = PT g35 0 ∧ St H0 NoB (fun b => S b ∧ b < H0.size) [blkE g35 (.cells #[I (((a.Signs.toNat : Nat) : Int)), r30, r31] 36), rdE r30 ((builtA (stepP a b) a.Signs.toNat (endL (stepP a b) a.Signs.toNat (0, 0)) (fun p => op (nth a.Takes p.1.toNat) (nth b.Takes p.2.toNat))).Next), rdE r31 ((builtA (stepP a b) a.Signs.toNat (endL (stepP a b) a.Signs.toNat (0, 0)) (fun p => op (nth a.Takes p.1.toNat) (nth b.Takes p.2.toNat))).Takes), blkE g20 (.cells #[I ((pairFault a b).1), I ((pairFault a b).2)] 24), blkE g13 (.cells #[I (0), I (0)] 24), blkE g10 (.cells #[I (0), (Value.slice none 0 0), (Value.slice none 0 0)] 36), blkE g7 (.cells #[vk] 81), blkE g4 (.cells #[I (b.Signs), wn, wt] 36), blkE g1 (.cells #[I (a.Signs), vn, vt] 36), rdE vn a.Next, rdE vt a.Takes, rdE wn b.Next, rdE wt b.Takes] H) ?_ ?_
  · refine wpF_region ?_
    refine wpL_q (U := NoB) rfl (q_build (v := Value.agg #[I (0), I (0)]) rfl par0 (fun w => by kernel_rfl)) ?_
    refine wpL_q (U := NoB) rfl (q_fieldAddr rfl Try.underlying36 rfl Try.sizeOf3 a26_3) ?_
    refine wpL_q (U := NoB) rfl (q_loadBlk rfl rfl Try.isAgg3 (hS25.blk 5 rfl) rfl (fun h => h)) ?_
    refine wpL_q (U := NoB) rfl (q_makeFunc (fi' := #[]) rfl (by simp) (arr2 (v0 := PT g1 0) (v1 := PT g4 0) a26_3 a26_4)) ?_
    refine wpL_q (U := NoB) rfl (q_makeFunc (fi' := #[]) rfl (by simp) (arr3 (v0 := PT g7 0) (v1 := PT g1 0) (v2 := PT g4 0) a26_5 a26_3 a26_4)) ?_
    refine wpL_o rfl ?_
    refine e_call rfl Try.call74 (arr4 (v0 := Value.agg #[I (0), I (0)]) (v1 := I (a.Signs)) (v2 := Value.func (.func 75) #[] #[PT g1 0, PT g4 0]) (v3 := Value.func (.func 76) #[] #[PT g7 0, PT g1 0, PT g4 0]) rfl rfl rfl rfl) (built_Pw (S := SL (fun b => S b ∧ b < H0.size) [blkE g20 (.cells #[I ((pairFault a b).1), I ((pairFault a b).2)] 24), blkE g13 (.cells #[I (0), I (0)] 24), blkE g10 (.cells #[I (0), (Value.slice none 0 0), (Value.slice none 0 0)] 36), blkE g7 (.cells #[vk] 81), blkE g4 (.cells #[I (b.Signs), wn, wt] 36), blkE g1 (.cells #[I (a.Signs), vn, vt] 36), rdE vn a.Next, rdE vt a.Takes, rdE wn b.Next, rdE wt b.Takes]) (Value.func (.func 75) #[] #[PT g1 0, PT g4 0]) (Value.func (.func 76) #[] #[PT g7 0, PT g1 0, PT g4 0]) (0, 0) a.Signs.toNat (stepP a b) (fun p => op (nth a.Takes p.1.toNat) (nth b.Takes p.2.toNat)) (Pr a b) a.Signs (by omega) (Pr.start hWa hWb) (fun x c hx h0 h1 => Pr.step hWa hWb hss hx ⟨h0, by omega⟩) (fun x hx => Pr.in64 hWa hWb hx) (Pr.few hWa hWb) (by omega) (fun x c hx hc0 hc1 H hE => ⟨_, _, rfl, Try.call75, both_1 x c g1 g4 _ vn vt _ wn wt a b (hE.blk (hS25.blk 5 rfl)) (hE.blk (hS25.blk 4 rfl)) ((hS25.rdN 6 rfl).extN hE) ((hS25.rdN 7 rfl).extN hE) ((hS25.rdN 8 rfl).extN hE) ((hS25.rdN 9 rfl).extN hE) hWa hWb hss hx ⟨hc0, by omega⟩⟩) (fun x hx H hE => ⟨_, _, rfl, Try.call76, both_2 x g7 g1 g4 vk _ vn vt _ wn wt a b op (hE.blk (hS25.blk 3 rfl)) (hE.blk (hS25.blk 5 rfl)) (hE.blk (hS25.blk 4 rfl)) ((hS25.rdN 6 rfl).extN hE) ((hS25.rdN 7 rfl).extN hE) ((hS25.rdN 8 rfl).extN hE) ((hS25.rdN 9 rfl).extN hE) hWa hWb hss hx (fun u w H2 hE2 => hk u w H2 (hS25.frame.trans (hE.trans hE2)))⟩)) ?_
    rintro _ H32 ⟨hxx, r30, r31, rfl, hrr30, hrr31⟩
    have hS33 : St H0 NoB (fun b => S b ∧ b < H0.size) [rdE r30 ((builtA (stepP a b) a.Signs.toNat (endL (stepP a b) a.Signs.toNat (0, 0)) (fun p => op (nth a.Takes p.1.toNat) (nth b.Takes p.2.toNat))).Next), rdE r31 ((builtA (stepP a b) a.Signs.toNat (endL (stepP a b) a.Signs.toNat (0, 0)) (fun p => op (nth a.Takes p.1.toNat) (nth b.Takes p.2.toNat))).Takes), blkE g20 (.cells #[I ((pairFault a b).1), I ((pairFault a b).2)] 24), blkE g13 (.cells #[I (0), I (0)] 24), blkE g10 (.cells #[I (0), (Value.slice none 0 0), (Value.slice none 0 0)] 36), blkE g7 (.cells #[vk] 81), blkE g4 (.cells #[I (b.Signs), wn, wt] 36), blkE g1 (.cells #[I (a.Signs), vn, vt] 36), rdE vn a.Next, rdE vt a.Takes, rdE wn b.Next, rdE wt b.Takes] H32 := (hS25.res2 hxx hrr30 hrr31)
    refine wpL_o rfl ?_
    refine e_alloc rfl Try.zeroValue36 hS33 (fun g35 H36 hS37 hxx => ?_)
    replace hS37 : St H0 NoB (fun b => S b ∧ b < H0.size) [blkE g35 (.cells #[I (0), (Value.slice none 0 0), (Value.slice none 0 0)] 36), rdE r30 ((builtA (stepP a b) a.Signs.toNat (endL (stepP a b) a.Signs.toNat (0, 0)) (fun p => op (nth a.Takes p.1.toNat) (nth b.Takes p.2.toNat))).Next), rdE r31 ((builtA (stepP a b) a.Signs.toNat (endL (stepP a b) a.Signs.toNat (0, 0)) (fun p => op (nth a.Takes p.1.toNat) (nth b.Takes p.2.toNat))).Takes), blkE g20 (.cells #[I ((pairFault a b).1), I ((pairFault a b).2)] 24), blkE g13 (.cells #[I (0), I (0)] 24), blkE g10 (.cells #[I (0), (Value.slice none 0 0), (Value.slice none 0 0)] 36), blkE g7 (.cells #[vk] 81), blkE g4 (.cells #[I (b.Signs), wn, wt] 36), blkE g1 (.cells #[I (a.Signs), vn, vt] 36), rdE vn a.Next, rdE vt a.Takes, rdE wn b.Next, rdE wt b.Takes] H36 := hS37
    refine wpL_o rfl ?_
    refine e_storeBlkA (cs' := #[I (((a.Signs.toNat : Nat) : Int)), r30, r31]) rfl rfl rfl Try.sizeOf36 rfl rfl (List.forall_mem_cons.2 ⟨rfl, List.forall_mem_cons.2 ⟨(oneCell_rdL (hS37.rdl 1 rfl)), List.forall_mem_cons.2 ⟨(oneCell_rdL (hS37.rdl 2 rfl)), List.forall_mem_nil _⟩⟩⟩) hS37 (fun H38 hS39 hxx => ?_)
    replace hS39 : St H0 NoB (fun b => S b ∧ b < H0.size) [blkE g35 (.cells #[I (((a.Signs.toNat : Nat) : Int)), r30, r31] 36), rdE r30 ((builtA (stepP a b) a.Signs.toNat (endL (stepP a b) a.Signs.toNat (0, 0)) (fun p => op (nth a.Takes p.1.toNat) (nth b.Takes p.2.toNat))).Next), rdE r31 ((builtA (stepP a b) a.Signs.toNat (endL (stepP a b) a.Signs.toNat (0, 0)) (fun p => op (nth a.Takes p.1.toNat) (nth b.Takes p.2.toNat))).Takes), blkE g20 (.cells #[I ((pairFault a b).1), I ((pairFault a b).2)] 24), blkE g13 (.cells #[I (0), I (0)] 24), blkE g10 (.cells #[I (0), (Value.slice none 0 0), (Value.slice none 0 0)] 36), blkE g7 (.cells #[vk] 81), blkE g4 (.cells #[I (b.Signs), wn, wt] 36), blkE g1 (.cells #[I (a.Signs), vn, vt] 36), rdE vn a.Next, rdE vt a.Takes, rdE wn b.Next, rdE wt b.Takes] H38 := hS39
    exact ⟨r30, r31, g35, a26_6, a26_7, rfl, hS39⟩
  rintro f40 H40 ⟨r30, r31, g35, a40_6, a40_7, a40_9, hS40⟩
  clear a26_15 a26_3 a26_4 a26_5 a26_6 a26_7 a26_8
  refine wpF_seq ?_
  refine wpF_seq ?_
  have hpl : (builtA (stepP a b) a.Signs.toNat (endL (stepP a b) a.Signs.toNat (0, 0)) (fun p => op (nth a.Takes p.1.toNat) (nth b.Takes p.2.toNat))) = prodA a b op := rfl
  refine wpF_cut (fun f H => f 6 = PT g10 0 ∧ f 7 = PT g13 0 ∧ f 9 = PT g35 0 ∧ f 27 = B (decide (40 < (((builtA (stepP a b) a.Signs.toNat (endL (stepP a b) a.Signs.toNat (0, 0)) (fun p => op (nth a.Takes p.1.toNat) (nth b.Takes p.2.toNat))).Next).length : Int))) ∧ H40 = H) ?_ ?_
  · refine wpF_region ?_
    refine wpL_q (U := NoB) rfl (q_fieldAddr rfl Try.underlying36 rfl Try.sizeOf27 a40_9) ?_
    refine wpL_q (U := NoB) rfl (q_loadBlk rfl rfl Try.isAgg27 (hS40.blk 0 rfl) rfl (fun h => h)) ?_
    refine wpL_q (U := NoB) rfl (q_lenRd rfl Try.underlying27 rfl (hS40.rdl 1 rfl)) ?_
    refine wpL_q (U := NoB) rfl (q_gtr rfl rfl rfl) ?_
    exact ⟨a40_6, a40_7, a40_9, rfl, rfl⟩
  rintro f41 _ ⟨a41_6, a41_7, a41_9, a41_27, rfl⟩
  clear a40_6 a40_7 a40_9
  refine wpF_condP a41_27 (fun h2 => ?t53) (fun h2 => ?e53)
  case t53 =>
    refine wpF_seq ?_
    refine wpF_cut (fun f H => f 6 = PT g10 0 ∧ f 7 = PT g13 0 ∧ St H0 NoB (fun b => S b ∧ b < H0.size) [blkE g13 (.cells #[I (10), I (0)] 24), blkE g10 (.cells #[I (0), (Value.slice none 0 0), (Value.slice none 0 0)] 36), blkE g35 (.cells #[I (((a.Signs.toNat : Nat) : Int)), r30, r31] 36), rdE r30 ((builtA (stepP a b) a.Signs.toNat (endL (stepP a b) a.Signs.toNat (0, 0)) (fun p => op (nth a.Takes p.1.toNat) (nth b.Takes p.2.toNat))).Next), rdE r31 ((builtA (stepP a b) a.Signs.toNat (endL (stepP a b) a.Signs.toNat (0, 0)) (fun p => op (nth a.Takes p.1.toNat) (nth b.Takes p.2.toNat))).Takes), blkE g20 (.cells #[I ((pairFault a b).1), I ((pairFault a b).2)] 24), blkE g7 (.cells #[vk] 81), blkE g4 (.cells #[I (b.Signs), wn, wt] 36), blkE g1 (.cells #[I (a.Signs), vn, vt] 36), rdE vn a.Next, rdE vt a.Takes, rdE wn b.Next, rdE wt b.Takes] H) ?_ ?_
    · refine wpF_region ?_
      refine wpL_q (U := NoB) rfl (q_build (v := Value.agg #[I (0), (Value.slice none 0 0), (Value.slice none 0 0)]) rfl par0 (fun w => by kernel_rfl)) ?_
      refine wpL_q (U := NoB) rfl (q_build (v := Value.agg #[I (10), I (0)]) rfl (par1 (v0 := I (10)) rfl) (fun w => by kernel_rfl)) ?_
      refine wpL_o rfl ?_
      refine e_storeBlkA (cs' := #[I (0), (Value.slice none 0 0), (Value.slice none 0 0)]) rfl a41_6 rfl Try.sizeOf36 rfl rfl (List.forall_mem_cons.2 ⟨rfl, List.forall_mem_cons.2 ⟨rfl, List.forall_mem_cons.2 ⟨rfl, List.forall_mem_nil _⟩⟩⟩) (hS40.front 5 rfl) (fun H43 hS44 hxx => ?_)
      replace hS44 : St H0 NoB (fun b => S b ∧ b < H0.size) [blkE g10 (.cells #[I (0), (Value.slice none 0 0), (Value.slice none 0 0)] 36), blkE g35 (.cells #[I (((a.Signs.toNat : Nat) : Int)), r30, r31] 36), rdE r30 ((builtA (stepP a b) a.Signs.toNat (endL (stepP a b) a.Signs.toNat (0, 0)) (fun p => op (nth a.Takes p.1.toNat) (nth b.Takes p.2.toNat))).Next), rdE r31 ((builtA (stepP a b) a.Signs.toNat (endL (stepP a b) a.Signs.toNat (0, 0)) (fun p => op (nth a.Takes p.1.toNat) (nth b.Takes p.2.toNat))).Takes), blkE g20 (.cells #[I ((pairFault a b).1), I ((pairFault a b).2)] 24), blkE g13 (.cells #[I (0), I (0)] 24), blkE g7 (.cells #[vk] 81), blkE g4 (.cells #[I (b.Signs), wn, wt] 36), blkE g1 (.cells #[I (a.Signs), vn, vt] 36), rdE vn a.Next, rdE vt a.Takes, rdE wn b.Next, rdE wt b.Takes] H43 := hS44
      refine wpL_o rfl ?_
      refine e_storeBlkA (cs' := #[I (10), I (0)]) rfl a41_7 rfl Try.sizeOf24 rfl rfl (List.forall_mem_cons.2 ⟨rfl, List.forall_mem_cons.2 ⟨rfl, List.forall_mem_nil _⟩⟩) (hS44.front 5 rfl) (fun H45 hS46 hxx => ?_)
      replace hS46 : St H0 NoB (fun b => S b ∧ b < H0.size) [blkE g13 (.cells #[I (10), I (0)] 24), blkE g10 (.cells #[I (0), (Value.slice none 0 0), (Value.slice none 0 0)] 36), blkE g35 (.cells #[I (((a.Signs.toNat : Nat) : Int)), r30, r31] 36), rdE r30 ((builtA (stepP a b) a.Signs.toNat (endL (stepP a b) a.Signs.toNat (0, 0)) (fun p => op (nth a.Takes p.1.toNat) (nth b.Takes p.2.toNat))).Next), rdE r31 ((builtA (stepP a b) a.Signs.toNat (endL (stepP a b) a.Signs.toNat (0, 0)) (fun p => op (nth a.Takes p.1.toNat) (nth b.Takes p.2.toNat))).Takes), blkE g20 (.cells #[I ((pairFault a b).1), I ((pairFault a b).2)] 24), blkE g7 (.cells #[vk] 81), blkE g4 (.cells #[I (b.Signs), wn, wt] 36), blkE g1 (.cells #[I (a.Signs), vn, vt] 36), rdE vn a.Next, rdE vt a.Takes, rdE wn b.Next, rdE wt b.Takes] H45 := hS46
      exact ⟨a41_6, a41_7, hS46⟩
    rintro f47 H47 ⟨a47_6, a47_7, hS47⟩
    clear a41_27 a41_6 a41_7 a41_9
    refine wpF_ret ?_
    refine ⟨_, resC a47_6 (loadV_blkA Try.isAgg36 Try.sizeOf36 rfl (hS47.blk 1 rfl)) (resC a47_7 (loadV_blkA Try.isAgg24 Try.sizeOf24 rfl (hS47.blk 0 rfl)) (resN)), hS47.frame, ?_⟩
    show ∃ w1_ w2_, (Value.tuple #[Value.agg #[I (0), (Value.slice none 0 0), (Value.slice none 0 0)], Value.agg #[I (10), I (0)]]) = Value.tuple #[Value.agg #[I (bothR a b op).1.Signs, w1_, w2_], Value.agg #[I (bothR a b op).2.1, I (bothR a b op).2.2]] ∧ Rd (fun b => S b ∧ b < H0.size) H47 w1_ (bothR a b op).1.Next ∧ Rd (fun b => S b ∧ b < H0.size) H47 w2_ (bothR a b op).1.Takes
    have hq : bothR a b op = (⟨0, [], []⟩, (10, 0)) := by rw [bothR, if_neg h1, if_pos (show 40 < ((prodA a b op).Next.length : Int) from h2)]
    exact ⟨(Value.slice none 0 0), (Value.slice none 0 0), by rw [hq], by rw [hq]; exact rdNil, by rw [hq]; exact rdNil⟩
  refine wpF_skip ?_
  refine wpF_seq ?_
  refine wpF_cut (fun f H => f 6 = PT g10 0 ∧ f 7 = PT g13 0 ∧ St H0 NoB (fun b => S b ∧ b < H0.size) [blkE g13 (.cells #[I (0), I (0)] 24), blkE g10 (.cells #[I (((a.Signs.toNat : Nat) : Int)), r30, r31] 36), blkE g35 (.cells #[I (((a.Signs.toNat : Nat) : Int)), r30, r31] 36), rdE r30 ((builtA (stepP a b) a.Signs.toNat (endL (stepP a b) a.Signs.toNat (0, 0)) (fun p => op (nth a.Takes p.1.toNat) (nth b.Takes p.2.toNat))).Next), rdE r31 ((builtA (stepP a b) a.Signs.toNat (endL (stepP a b) a.Signs.toNat (0, 0)) (fun p => op (nth a.Takes p.1.toNat) (nth b.Takes p.2.toNat))).Takes), blkE g20 (.cells #[I ((pairFault a b).1), I ((pairFault a b).2)] 24), blkE g7 (.cells #[vk] 81), blkE g4 (.cells #[I (b.Signs), wn, wt] 36), blkE g1 (.cells #[I (a.Signs), vn, vt] 36), rdE vn a.Next, rdE vt a.Takes, rdE wn b.Next, rdE wt b.Takes] H) ?_ ?_
  · refine wpF_region ?_
    refine wpL_q (U := NoB) rfl (q_loadBlkA rfl a41_9 Try.isAgg36 Try.sizeOf36 rfl (hS40.blk 0 rfl) (fun h => h)) ?_
    refine wpL_q (U := NoB) rfl (q_build (v := Value.agg #[I (0), I (0)]) rfl par0 (fun w => by kernel_rfl)) ?_
    refine wpL_o rfl ?_
    refine e_storeBlkA (cs' := #[I (((a.Signs.toNat : Nat) : Int)), r30, r31]) rfl a41_6 rfl Try.sizeOf36 rfl rfl (List.forall_mem_cons.2 ⟨rfl, List.forall_mem_cons.2 ⟨(oneCell_rdL (hS40.rdl 1 rfl)), List.forall_mem_cons.2 ⟨(oneCell_rdL (hS40.rdl 2 rfl)), List.forall_mem_nil _⟩⟩⟩) (hS40.front 5 rfl) (fun H48 hS49 hxx => ?_)
    replace hS49 : St H0 NoB (fun b => S b ∧ b < H0.size) [blkE g10 (.cells #[I (((a.Signs.toNat : Nat) : Int)), r30, r31] 36), blkE g35 (.cells #[I (((a.Signs.toNat : Nat) : Int)), r30, r31] 36), rdE r30 ((builtA (stepP a b) a.Signs.toNat (endL (stepP a b) a.Signs.toNat (0, 0)) (fun p => op (nth a.Takes p.1.toNat) (nth b.Takes p.2.toNat))).Next), rdE r31 ((builtA (stepP a b) a.Signs.toNat (endL (stepP a b) a.Signs.toNat (0, 0)) (fun p => op (nth a.Takes p.1.toNat) (nth b.Takes p.2.toNat))).Takes), blkE g20 (.cells #[I ((pairFault a b).1), I ((pairFault a b).2)] 24), blkE g13 (.cells #[I (0), I (0)] 24), blkE g7 (.cells #[vk] 81), blkE g4 (.cells #[I (b.Signs), wn, wt] 36), blkE g1 (.cells #[I (a.Signs), vn, vt] 36), rdE vn a.Next, rdE vt a.Takes, rdE wn b.Next, rdE wt b.Takes] H48 := hS49
    refine wpL_o rfl ?_
    refine e_storeBlkA (cs' := #[I (0), I (0)]) rfl a41_7 rfl Try.sizeOf24 rfl rfl (List.forall_mem_cons.2 ⟨rfl, List.forall_mem_cons.2 ⟨rfl, List.forall_mem_nil _⟩⟩) (hS49.front 5 rfl) (fun H50 hS51 hxx => ?_)
    replace hS51 : St H0 NoB (fun b => S b ∧ b < H0.size) [blkE g13 (.cells #[I (0), I (0)] 24), blkE g10 (.cells #[I (((a.Signs.toNat : Nat) : Int)), r30, r31] 36), blkE g35 (.cells #[I (((a.Signs.toNat : Nat) : Int)), r30, r31] 36), rdE r30 ((builtA (stepP a b) a.Signs.toNat (endL (stepP a b) a.Signs.toNat (0, 0)) (fun p => op (nth a.Takes p.1.toNat) (nth b.Takes p.2.toNat))).Next), rdE r31 ((builtA (stepP a b) a.Signs.toNat (endL (stepP a b) a.Signs.toNat (0, 0)) (fun p => op (nth a.Takes p.1.toNat) (nth b.Takes p.2.toNat))).Takes), blkE g20 (.cells #[I ((pairFault a b).1), I ((pairFault a b).2)] 24), blkE g7 (.cells #[vk] 81), blkE g4 (.cells #[I (b.Signs), wn, wt] 36), blkE g1 (.cells #[I (a.Signs), vn, vt] 36), rdE vn a.Next, rdE vt a.Takes, rdE wn b.Next, rdE wt b.Takes] H50 := hS51
    exact ⟨a41_6, a41_7, hS51⟩
  rintro f52 H52 ⟨a52_6, a52_7, hS52⟩
  clear a41_27 a41_6 a41_7 a41_9
  refine wpF_ret ?_
  refine ⟨_, resC a52_6 (loadV_blkA Try.isAgg36 Try.sizeOf36 rfl (hS52.blk 1 rfl)) (resC a52_7 (loadV_blkA Try.isAgg24 Try.sizeOf24 rfl (hS52.blk 0 rfl)) (resN)), hS52.frame, ?_⟩
  show ∃ w1_ w2_, (Value.tuple #[Value.agg #[I (((a.Signs.toNat : Nat) : Int)), r30, r31], Value.agg #[I (0), I (0)]]) = Value.tuple #[Value.agg #[I (bothR a b op).1.Signs, w1_, w2_], Value.agg #[I (bothR a b op).2.1, I (bothR a b op).2.2]] ∧ Rd (fun b => S b ∧ b < H0.size) H52 w1_ (bothR a b op).1.Next ∧ Rd (fun b => S b ∧ b < H0.size) H52 w2_ (bothR a b op).1.Takes
  have hq : bothR a b op = (prodA a b op, (0, 0)) := by rw [bothR, if_neg h1, if_neg (show ¬ 40 < ((prodA a b op).Next.length : Int) from h2)]
  exact ⟨r30, r31, by rw [hq]; rfl, by rw [hq]; exact (hS52.result (hS52.rdS 3 rfl)), by rw [hq]; exact (hS52.result (hS52.rdS 4 rfl))⟩

set_option maxRecDepth 100000 in
theorem And_1 {H0 : Heap} (x y : Bool)  : CallsH Try.prog 57 #[B (x), B (y)] H0 (fun rv_ H' => Ext NoB H0 H' ∧ rv_ = B (x && y)) := by
  have hS0 : St H0 NoB NoB [] H0 := St.start (fun _ h => h.elim)
  refine callsH_of_wpF (args := [B (x), B (y)]) (rs := [.tmp 4]) Try.func57 rfl Try.ntmps57 Try.results57 (by kernel_rfl) (Nat.le_of_ble_eq_true rfl) ?_
  have a0_0 : argF [B (x), B (y)] 0 = B (x) := rfl
  have a0_1 : argF [B (x), B (y)] 1 = B (y) := rfl
  generalize argF [B (x), B (y)] = f0 at *
  refine wpF_seq ?_
  refine wpF_cut (fun f H => f 0 = B (x) ∧ f 1 = B (y) ∧ H0 = H) ?_ ?_
  · refine wpF_region ?_
    refine wpL_q (U := NoB) rfl (q_assign (v := B (false)) rfl rfl) ?_
    exact ⟨a0_0, a0_1, rfl⟩
  rintro f1 _ ⟨a1_0, a1_1, rfl⟩
  clear a0_0 a0_1
  refine wpF_seq ?_
  refine wpF_cut (fun f H => f 4 = B (decide ((x = true) ∧ (y = true))) ∧ H0 = H) ?_ ?_
  · refine wpF_region ?_
    refine wpL_q (U := NoB) rfl (q_move (v := B (x)) rfl a1_0) ?_
    refine wpL_q (U := NoB) rfl (q_move (v := B (x)) rfl rfl) ?_
    by_cases hg2 : x = true
    · have hb3 := Eq.trans rfl (congrArg B hg2)
      refine wpL_gq (U := NoB) rfl rfl rfl hb3 (q_move (v := B (y)) rfl a1_1) ?_
      refine wpL_q (U := NoB) rfl (q_pickT (v := B (y)) rfl hb3 rfl) ?_
      refine wpL_q (U := NoB) rfl (q_assign (v := B (y)) rfl rfl) ?_
      exact ⟨(Eq.trans rfl (congrArg B (bool_congr_of ((Iff.rfl).trans (((and_iff_right hg2).trans Iff.rfl)).symm)))), rfl⟩
    · have hb4 := Eq.trans rfl (congrArg B (Bool.eq_false_iff.2 hg2))
      refine wpL_gs rfl rfl rfl hb4 rfl ?_
      refine wpL_q (U := NoB) rfl (q_pickF (v := B (false)) rfl hb4 rfl) ?_
      refine wpL_q (U := NoB) rfl (q_assign (v := B (false)) rfl rfl) ?_
      exact ⟨(Eq.trans rfl (congrArg B ((decide_eq_false (fun h => hg2 h.1)).symm))), rfl⟩
  rintro f5 _ ⟨a5_4, rfl⟩
  clear a1_0 a1_1
  refine wpF_ret ?_
  refine ⟨_, resT a5_4 resN, hS0.frame, ?_⟩
  show (B (decide ((x = true) ∧ (y = true)))) = B (x && y)
  exact congrArg B (by cases x <;> cases y <;> rfl)

set_option maxRecDepth 100000 in
theorem Or_1 {H0 : Heap} (x y : Bool)  : CallsH Try.prog 58 #[B (x), B (y)] H0 (fun rv_ H' => Ext NoB H0 H' ∧ rv_ = B (x || y)) := by
  have hS0 : St H0 NoB NoB [] H0 := St.start (fun _ h => h.elim)
  refine callsH_of_wpF (args := [B (x), B (y)]) (rs := [.tmp 4]) Try.func58 rfl Try.ntmps58 Try.results58 (by kernel_rfl) (Nat.le_of_ble_eq_true rfl) ?_
  have a0_0 : argF [B (x), B (y)] 0 = B (x) := rfl
  have a0_1 : argF [B (x), B (y)] 1 = B (y) := rfl
  generalize argF [B (x), B (y)] = f0 at *
  refine wpF_seq ?_
  refine wpF_cut (fun f H => f 0 = B (x) ∧ f 1 = B (y) ∧ H0 = H) ?_ ?_
  · refine wpF_region ?_
    refine wpL_q (U := NoB) rfl (q_assign (v := B (false)) rfl rfl) ?_
    exact ⟨a0_0, a0_1, rfl⟩
  rintro f1 _ ⟨a1_0, a1_1, rfl⟩
  clear a0_0 a0_1
  refine wpF_seq ?_
  refine wpF_cut (fun f H => f 4 = B (decide ((x = true) ∨ (y = true))) ∧ H0 = H) ?_ ?_
  · refine wpF_region ?_
    refine wpL_q (U := NoB) rfl (q_move (v := B (x)) rfl a1_0) ?_
    refine wpL_q (U := NoB) rfl (q_move (v := B (x)) rfl rfl) ?_
    by_cases hg2 : x = true
    · have hb3 := Eq.trans rfl (congrArg B hg2)
      refine wpL_gs rfl rfl rfl hb3 rfl ?_
      refine wpL_q (U := NoB) rfl (q_pickT (v := B (true)) rfl hb3 rfl) ?_
      refine wpL_q (U := NoB) rfl (q_assign (v := B (true)) rfl rfl) ?_
      exact ⟨(Eq.trans rfl (congrArg B ((decide_eq_true (Or.inl hg2)).symm))), rfl⟩
    · have hb4 := Eq.trans rfl (congrArg B (Bool.eq_false_iff.2 hg2))
      refine wpL_gq (U := NoB) rfl rfl rfl hb4 (q_move (v := B (y)) rfl a1_1) ?_
      refine wpL_q (U := NoB) rfl (q_pickF (v := B (y)) rfl hb4 rfl) ?_
      refine wpL_q (U := NoB) rfl (q_assign (v := B (y)) rfl rfl) ?_
      exact ⟨(Eq.trans rfl (congrArg B (bool_congr_of ((Iff.rfl).trans (((or_iff_right hg2).trans Iff.rfl)).symm)))), rfl⟩
  rintro f5 _ ⟨a5_4, rfl⟩
  clear a1_0 a1_1
  refine wpF_ret ?_
  refine ⟨_, resT a5_4 resN, hS0.frame, ?_⟩
  show (B (decide ((x = true) ∨ (y = true)))) = B (x || y)
  exact congrArg B (by cases x <;> cases y <;> rfl)

set_option maxRecDepth 100000 in
theorem And_L {H0 : Heap} {S : Nat → Prop} (vn vt wn wt : Value) (a b : Auto) (rn : Rd S H0 vn a.Next) (rt : Rd S H0 vt a.Takes) (hsg : In64 a.Signs) (sw : Rd S H0 wn b.Next) (st : Rd S H0 wt b.Takes) (hsgb : In64 b.Signs) : CallsH Try.prog 33 #[Value.agg #[I (a.Signs), vn, vt], Value.agg #[I (b.Signs), wn, wt]] H0 (fun rv_ H' => Ext NoB H0 H' ∧ ∃ w1_ w2_, rv_ = Value.tuple #[Value.agg #[I (andR a b).1.Signs, w1_, w2_], Value.agg #[I (andR a b).2.1, I (andR a b).2.2]] ∧ Rd (fun b => S b ∧ b < H0.size) H' w1_ (andR a b).1.Next ∧ Rd (fun b => S b ∧ b < H0.size) H' w2_ (andR a b).1.Takes) := by
  have hS0 : St H0 NoB (fun b => S b ∧ b < H0.size) [rdE vn a.Next, rdE vt a.Takes, rdE wn b.Next, rdE wt b.Takes] H0 := St.arg (St.arg (St.arg (St.arg (St.start (fun _ h => h.2)) (Bl0.nil) st (fun _ h => h.1)) (Bl0.cons (Bl0.nil)) sw (fun _ h => h.1)) (Bl0.cons (Bl0.cons (Bl0.nil))) rt (fun _ h => h.1)) (Bl0.cons (Bl0.cons (Bl0.cons (Bl0.nil)))) rn (fun _ h => h.1)
  refine callsH_of_wpF (args := [Value.agg #[I (a.Signs), vn, vt], Value.agg #[I (b.Signs), wn, wt]]) (rs := [.cell 4 36, .cell 5 24]) Try.func33 rfl Try.ntmps33 Try.results33 (by kernel_rfl) (Nat.le_of_ble_eq_true rfl) ?_
  have a0_0 : argF [Value.agg #[I (a.Signs), vn, vt], Value.agg #[I (b.Signs), wn, wt]] 0 = Value.agg #[I (a.Signs), vn, vt] := rfl
  have a0_1 : argF [Value.agg #[I (a.Signs), vn, vt], Value.agg #[I (b.Signs), wn, wt]] 1 = Value.agg #[I (b.Signs), wn, wt] := rfl
  generalize argF [Value.agg #[I (a.Signs), vn, vt], Value.agg #[I (b.Signs), wn, wt]] = f0 at *
  refine wpF_seq ?_
  refine wpF_cut (fun f H => ∃ (g1 : Nat), ∃ (g4 : Nat), ∃ (g7 : Nat), ∃ (g10 : Nat), f 2 = PT g1 0 ∧ f 3 = PT g4 0 ∧ f 4 = PT g7 0 ∧ f 5 = PT g10 0 ∧ St H0 NoB (fun b => S b ∧ b < H0.size) [blkE g10 (.cells #[I (0), I (0)] 24), blkE g7 (.cells #[I (0), (Value.slice none 0 0), (Value.slice none 0 0)] 36), blkE g4 (.cells #[I (b.Signs), wn, wt] 36), blkE g1 (.cells #[I (a.Signs), vn, vt] 36), rdE vn a.Next, rdE vt a.Takes, rdE wn b.Next, rdE wt b.Takes] H) ?_ ?_
  · refine wpF_region ?_
    refine wpL_o rfl ?_
    refine e_box (v := Value.agg #[I (a.Signs), vn, vt]) rfl a0_0 hS0 (fun g1 H2 hS3 hxx => ?_)
    replace hS3 : St H0 NoB (fun b => S b ∧ b < H0.size) [blkE g1 (.cells #[I (a.Signs), vn, vt] 36), rdE vn a.Next, rdE vt a.Takes, rdE wn b.Next, rdE wt b.Takes] H2 := hS3
    refine wpL_o rfl ?_
    refine e_box (v := Value.agg #[I (b.Signs), wn, wt]) rfl a0_1 hS3 (fun g4 H5 hS6 hxx => ?_)
    replace hS6 : St H0 NoB (fun b => S b ∧ b < H0.size) [blkE g4 (.cells #[I (b.Signs), wn, wt] 36), blkE g1 (.cells #[I (a.Signs), vn, vt] 36), rdE vn a.Next, rdE vt a.Takes, rdE wn b.Next, rdE wt b.Takes] H5 := hS6
    refine wpL_o rfl ?_
    refine e_alloc rfl Try.zeroValue36 hS6 (fun g7 H8 hS9 hxx => ?_)
    replace hS9 : St H0 NoB (fun b => S b ∧ b < H0.size) [blkE g7 (.cells #[I (0), (Value.slice none 0 0), (Value.slice none 0 0)] 36), blkE g4 (.cells #[I (b.Signs), wn, wt] 36), blkE g1 (.cells #[I (a.Signs), vn, vt] 36), rdE vn a.Next, rdE vt a.Takes, rdE wn b.Next, rdE wt b.Takes] H8 := hS9
    refine wpL_o rfl ?_
    refine e_alloc rfl Try.zeroValue24 hS9 (fun g10 H11 hS12 hxx => ?_)
    replace hS12 : St H0 NoB (fun b => S b ∧ b < H0.size) [blkE g10 (.cells #[I (0), I (0)] 24), blkE g7 (.cells #[I (0), (Value.slice none 0 0), (Value.slice none 0 0)] 36), blkE g4 (.cells #[I (b.Signs), wn, wt] 36), blkE g1 (.cells #[I (a.Signs), vn, vt] 36), rdE vn a.Next, rdE vt a.Takes, rdE wn b.Next, rdE wt b.Takes] H11 := hS12
    exact ⟨g1, g4, g7, g10, rfl, rfl, rfl, rfl, hS12⟩
  rintro f13 H13 ⟨g1, g4, g7, g10, a13_2, a13_3, a13_4, a13_5, hS13⟩
  clear a0_0 a0_1
  refine wpF_seq ?_
  refine wpF_cut (fun f H => ∃ (r14 : Value), ∃ (r15 : Value), f 4 = PT g7 0 ∧ f 5 = PT g10 0 ∧ St H0 NoB (fun b => S b ∧ b < H0.size) [blkE g10 (.cells #[I ((andR a b).2.1), I ((andR a b).2.2)] 24), blkE g7 (.cells #[I ((andR a b).1.Signs), r14, r15] 36), rdE r14 ((andR a b).1.Next), rdE r15 ((andR a b).1.Takes), blkE g4 (.cells #[I (b.Signs), wn, wt] 36), blkE g1 (.cells #[I (a.Signs), vn, vt] 36), rdE vn a.Next, rdE vt a.Takes, rdE wn b.Next, rdE wt b.Takes] H) ?_ ?_
  · refine wpF_region ?_
    refine wpL_q (U := NoB) rfl (q_loadBlkA rfl a13_2 Try.isAgg36 Try.sizeOf36 rfl (hS13.blk 3 rfl) (fun h => h)) ?_
    refine wpL_q (U := NoB) rfl (q_loadBlkA rfl a13_3 Try.isAgg36 Try.sizeOf36 rfl (hS13.blk 2 rfl) (fun h => h)) ?_
    refine wpL_o rfl ?_
    refine e_call rfl Try.call56 (arr3 (v0 := Value.agg #[I (a.Signs), vn, vt]) (v1 := Value.agg #[I (b.Signs), wn, wt]) (v2 := Value.func (.func 57) #[] #[]) rfl rfl rfl) (both vn vt wn wt (Value.func (.func 57) #[] #[]) a b (fun x y => x && y) (hS13.rdS 4 rfl) (hS13.rdS 5 rfl) hsg (hS13.rdS 6 rfl) (hS13.rdS 7 rfl) hsgb  (fun x y H hE => ⟨57, #[], rfl, Try.call57, And_1 x y⟩)) ?_
    rintro _ H16 ⟨hxx, r14, r15, rfl, hrr14, hrr15⟩
    have hS17 : St H0 NoB (fun b => S b ∧ b < H0.size) [rdE r14 ((andR a b).1.Next), rdE r15 ((andR a b).1.Takes), blkE g10 (.cells #[I (0), I (0)] 24), blkE g7 (.cells #[I (0), (Value.slice none 0 0), (Value.slice none 0 0)] 36), blkE g4 (.cells #[I (b.Signs), wn, wt] 36), blkE g1 (.cells #[I (a.Signs), vn, vt] 36), rdE vn a.Next, rdE vt a.Takes, rdE wn b.Next, rdE wt b.Takes] H16 := (hS13.res2 hxx hrr14 hrr15)
    refine wpL_q (U := NoB) rfl (q_extract (vs := #[Value.agg #[I ((andR a b).1.Signs), r14, r15], Value.agg #[I ((andR a b).2.1), I ((andR a b).2.2)]]) (v := Value.agg #[I ((andR a b).1.Signs), r14, r15]) rfl rfl rfl) ?_
    refine wpL_q (U := NoB) rfl (q_extract (vs := #[Value.agg #[I ((andR a b).1.Signs), r14, r15], Value.agg #[I ((andR a b).2.1), I ((andR a b).2.2)]]) (v := Value.agg #[I ((andR a b).2.1), I ((andR a b).2.2)]) rfl rfl rfl) ?_
    refine wpL_o rfl ?_
    refine e_storeBlkA (cs' := #[I ((andR a b).1.Signs), r14, r15]) rfl a13_4 rfl Try.sizeOf36 rfl rfl (List.forall_mem_cons.2 ⟨rfl, List.forall_mem_cons.2 ⟨(oneCell_rdL (hS17.rdl 0 rfl)), List.forall_mem_cons.2 ⟨(oneCell_rdL (hS17.rdl 1 rfl)), List.forall_mem_nil _⟩⟩⟩) (hS17.front 3 rfl) (fun H19 hS20 hxx => ?_)
    replace hS20 : St H0 NoB (fun b => S b ∧ b < H0.size) [blkE g7 (.cells #[I ((andR a b).1.Signs), r14, r15] 36), rdE r14 ((andR a b).1.Next), rdE r15 ((andR a b).1.Takes), blkE g10 (.cells #[I (0), I (0)] 24), blkE g4 (.cells #[I (b.Signs), wn, wt] 36), blkE g1 (.cells #[I (a.Signs), vn, vt] 36), rdE vn a.Next, rdE vt a.Takes, rdE wn b.Next, rdE wt b.Takes] H19 := hS20
    refine wpL_o rfl ?_
    refine e_storeBlkA (cs' := #[I ((andR a b).2.1), I ((andR a b).2.2)]) rfl a13_5 rfl Try.sizeOf24 rfl rfl (List.forall_mem_cons.2 ⟨rfl, List.forall_mem_cons.2 ⟨rfl, List.forall_mem_nil _⟩⟩) (hS20.front 3 rfl) (fun H21 hS22 hxx => ?_)
    replace hS22 : St H0 NoB (fun b => S b ∧ b < H0.size) [blkE g10 (.cells #[I ((andR a b).2.1), I ((andR a b).2.2)] 24), blkE g7 (.cells #[I ((andR a b).1.Signs), r14, r15] 36), rdE r14 ((andR a b).1.Next), rdE r15 ((andR a b).1.Takes), blkE g4 (.cells #[I (b.Signs), wn, wt] 36), blkE g1 (.cells #[I (a.Signs), vn, vt] 36), rdE vn a.Next, rdE vt a.Takes, rdE wn b.Next, rdE wt b.Takes] H21 := hS22
    exact ⟨r14, r15, a13_4, a13_5, hS22⟩
  rintro f23 H23 ⟨r14, r15, a23_4, a23_5, hS23⟩
  clear a13_2 a13_3 a13_4 a13_5
  refine wpF_ret ?_
  refine ⟨_, resC a23_4 (loadV_blkA Try.isAgg36 Try.sizeOf36 rfl (hS23.blk 1 rfl)) (resC a23_5 (loadV_blkA Try.isAgg24 Try.sizeOf24 rfl (hS23.blk 0 rfl)) (resN)), hS23.frame, ?_⟩
  show ∃ w1_ w2_, (Value.tuple #[Value.agg #[I ((andR a b).1.Signs), r14, r15], Value.agg #[I ((andR a b).2.1), I ((andR a b).2.2)]]) = Value.tuple #[Value.agg #[I (andR a b).1.Signs, w1_, w2_], Value.agg #[I (andR a b).2.1, I (andR a b).2.2]] ∧ Rd (fun b => S b ∧ b < H0.size) H23 w1_ (andR a b).1.Next ∧ Rd (fun b => S b ∧ b < H0.size) H23 w2_ (andR a b).1.Takes
  exact ⟨r14, r15, rfl, (hS23.result (hS23.rdS 2 rfl)), (hS23.result (hS23.rdS 3 rfl))⟩

set_option maxRecDepth 100000 in
theorem Or_L {H0 : Heap} {S : Nat → Prop} (vn vt wn wt : Value) (a b : Auto) (rn : Rd S H0 vn a.Next) (rt : Rd S H0 vt a.Takes) (hsg : In64 a.Signs) (sw : Rd S H0 wn b.Next) (st : Rd S H0 wt b.Takes) (hsgb : In64 b.Signs) : CallsH Try.prog 34 #[Value.agg #[I (a.Signs), vn, vt], Value.agg #[I (b.Signs), wn, wt]] H0 (fun rv_ H' => Ext NoB H0 H' ∧ ∃ w1_ w2_, rv_ = Value.tuple #[Value.agg #[I (orR a b).1.Signs, w1_, w2_], Value.agg #[I (orR a b).2.1, I (orR a b).2.2]] ∧ Rd (fun b => S b ∧ b < H0.size) H' w1_ (orR a b).1.Next ∧ Rd (fun b => S b ∧ b < H0.size) H' w2_ (orR a b).1.Takes) := by
  have hS0 : St H0 NoB (fun b => S b ∧ b < H0.size) [rdE vn a.Next, rdE vt a.Takes, rdE wn b.Next, rdE wt b.Takes] H0 := St.arg (St.arg (St.arg (St.arg (St.start (fun _ h => h.2)) (Bl0.nil) st (fun _ h => h.1)) (Bl0.cons (Bl0.nil)) sw (fun _ h => h.1)) (Bl0.cons (Bl0.cons (Bl0.nil))) rt (fun _ h => h.1)) (Bl0.cons (Bl0.cons (Bl0.cons (Bl0.nil)))) rn (fun _ h => h.1)
  refine callsH_of_wpF (args := [Value.agg #[I (a.Signs), vn, vt], Value.agg #[I (b.Signs), wn, wt]]) (rs := [.cell 4 36, .cell 5 24]) Try.func34 rfl Try.ntmps34 Try.results34 (by kernel_rfl) (Nat.le_of_ble_eq_true rfl) ?_
  have a0_0 : argF [Value.agg #[I (a.Signs), vn, vt], Value.agg #[I (b.Signs), wn, wt]] 0 = Value.agg #[I (a.Signs), vn, vt] := rfl
  have a0_1 : argF [Value.agg #[I (a.Signs), vn, vt], Value.agg #[I (b.Signs), wn, wt]] 1 = Value.agg #[I (b.Signs), wn, wt] := rfl
  generalize argF [Value.agg #[I (a.Signs), vn, vt], Value.agg #[I (b.Signs), wn, wt]] = f0 at *
  refine wpF_seq ?_
  refine wpF_cut (fun f H => ∃ (g1 : Nat), ∃ (g4 : Nat), ∃ (g7 : Nat), ∃ (g10 : Nat), f 2 = PT g1 0 ∧ f 3 = PT g4 0 ∧ f 4 = PT g7 0 ∧ f 5 = PT g10 0 ∧ St H0 NoB (fun b => S b ∧ b < H0.size) [blkE g10 (.cells #[I (0), I (0)] 24), blkE g7 (.cells #[I (0), (Value.slice none 0 0), (Value.slice none 0 0)] 36), blkE g4 (.cells #[I (b.Signs), wn, wt] 36), blkE g1 (.cells #[I (a.Signs), vn, vt] 36), rdE vn a.Next, rdE vt a.Takes, rdE wn b.Next, rdE wt b.Takes] H) ?_ ?_
  · refine wpF_region ?_
    refine wpL_o rfl ?_
    refine e_box (v := Value.agg #[I (a.Signs), vn, vt]) rfl a0_0 hS0 (fun g1 H2 hS3 hxx => ?_)
    replace hS3 : St H0 NoB (fun b => S b ∧ b < H0.size) [blkE g1 (.cells #[I (a.Signs), vn, vt] 36), rdE vn a.Next, rdE vt a.Takes, rdE wn b.Next, rdE wt b.Takes] H2 := hS3
    refine wpL_o rfl ?_
    refine e_box (v := Value.agg #[I (b.Signs), wn, wt]) rfl a0_1 hS3 (fun g4 H5 hS6 hxx => ?_)
    replace hS6 : St H0 NoB (fun b => S b ∧ b < H0.size) [blkE g4 (.cells #[I (b.Signs), wn, wt] 36), blkE g1 (.cells #[I (a.Signs), vn, vt] 36), rdE vn a.Next, rdE vt a.Takes, rdE wn b.Next, rdE wt b.Takes] H5 := hS6
    refine wpL_o rfl ?_
    refine e_alloc rfl Try.zeroValue36 hS6 (fun g7 H8 hS9 hxx => ?_)
    replace hS9 : St H0 NoB (fun b => S b ∧ b < H0.size) [blkE g7 (.cells #[I (0), (Value.slice none 0 0), (Value.slice none 0 0)] 36), blkE g4 (.cells #[I (b.Signs), wn, wt] 36), blkE g1 (.cells #[I (a.Signs), vn, vt] 36), rdE vn a.Next, rdE vt a.Takes, rdE wn b.Next, rdE wt b.Takes] H8 := hS9
    refine wpL_o rfl ?_
    refine e_alloc rfl Try.zeroValue24 hS9 (fun g10 H11 hS12 hxx => ?_)
    replace hS12 : St H0 NoB (fun b => S b ∧ b < H0.size) [blkE g10 (.cells #[I (0), I (0)] 24), blkE g7 (.cells #[I (0), (Value.slice none 0 0), (Value.slice none 0 0)] 36), blkE g4 (.cells #[I (b.Signs), wn, wt] 36), blkE g1 (.cells #[I (a.Signs), vn, vt] 36), rdE vn a.Next, rdE vt a.Takes, rdE wn b.Next, rdE wt b.Takes] H11 := hS12
    exact ⟨g1, g4, g7, g10, rfl, rfl, rfl, rfl, hS12⟩
  rintro f13 H13 ⟨g1, g4, g7, g10, a13_2, a13_3, a13_4, a13_5, hS13⟩
  clear a0_0 a0_1
  refine wpF_seq ?_
  refine wpF_cut (fun f H => ∃ (r14 : Value), ∃ (r15 : Value), f 4 = PT g7 0 ∧ f 5 = PT g10 0 ∧ St H0 NoB (fun b => S b ∧ b < H0.size) [blkE g10 (.cells #[I ((orR a b).2.1), I ((orR a b).2.2)] 24), blkE g7 (.cells #[I ((orR a b).1.Signs), r14, r15] 36), rdE r14 ((orR a b).1.Next), rdE r15 ((orR a b).1.Takes), blkE g4 (.cells #[I (b.Signs), wn, wt] 36), blkE g1 (.cells #[I (a.Signs), vn, vt] 36), rdE vn a.Next, rdE vt a.Takes, rdE wn b.Next, rdE wt b.Takes] H) ?_ ?_
  · refine wpF_region ?_
    refine wpL_q (U := NoB) rfl (q_loadBlkA rfl a13_2 Try.isAgg36 Try.sizeOf36 rfl (hS13.blk 3 rfl) (fun h => h)) ?_
    refine wpL_q (U := NoB) rfl (q_loadBlkA rfl a13_3 Try.isAgg36 Try.sizeOf36 rfl (hS13.blk 2 rfl) (fun h => h)) ?_
    refine wpL_o rfl ?_
    refine e_call rfl Try.call56 (arr3 (v0 := Value.agg #[I (a.Signs), vn, vt]) (v1 := Value.agg #[I (b.Signs), wn, wt]) (v2 := Value.func (.func 58) #[] #[]) rfl rfl rfl) (both vn vt wn wt (Value.func (.func 58) #[] #[]) a b (fun x y => x || y) (hS13.rdS 4 rfl) (hS13.rdS 5 rfl) hsg (hS13.rdS 6 rfl) (hS13.rdS 7 rfl) hsgb  (fun x y H hE => ⟨58, #[], rfl, Try.call58, Or_1 x y⟩)) ?_
    rintro _ H16 ⟨hxx, r14, r15, rfl, hrr14, hrr15⟩
    have hS17 : St H0 NoB (fun b => S b ∧ b < H0.size) [rdE r14 ((orR a b).1.Next), rdE r15 ((orR a b).1.Takes), blkE g10 (.cells #[I (0), I (0)] 24), blkE g7 (.cells #[I (0), (Value.slice none 0 0), (Value.slice none 0 0)] 36), blkE g4 (.cells #[I (b.Signs), wn, wt] 36), blkE g1 (.cells #[I (a.Signs), vn, vt] 36), rdE vn a.Next, rdE vt a.Takes, rdE wn b.Next, rdE wt b.Takes] H16 := (hS13.res2 hxx hrr14 hrr15)
    refine wpL_q (U := NoB) rfl (q_extract (vs := #[Value.agg #[I ((orR a b).1.Signs), r14, r15], Value.agg #[I ((orR a b).2.1), I ((orR a b).2.2)]]) (v := Value.agg #[I ((orR a b).1.Signs), r14, r15]) rfl rfl rfl) ?_
    refine wpL_q (U := NoB) rfl (q_extract (vs := #[Value.agg #[I ((orR a b).1.Signs), r14, r15], Value.agg #[I ((orR a b).2.1), I ((orR a b).2.2)]]) (v := Value.agg #[I ((orR a b).2.1), I ((orR a b).2.2)]) rfl rfl rfl) ?_
    refine wpL_o rfl ?_
    refine e_storeBlkA (cs' := #[I ((orR a b).1.Signs), r14, r15]) rfl a13_4 rfl Try.sizeOf36 rfl rfl (List.forall_mem_cons.2 ⟨rfl, List.forall_mem_cons.2 ⟨(oneCell_rdL (hS17.rdl 0 rfl)), List.forall_mem_cons.2 ⟨(oneCell_rdL (hS17.rdl 1 rfl)), List.forall_mem_nil _⟩⟩⟩) (hS17.front 3 rfl) (fun H19 hS20 hxx => ?_)
    replace hS20 : St H0 NoB (fun b => S b ∧ b < H0.size) [blkE g7 (.cells #[I ((orR a b).1.Signs), r14, r15] 36), rdE r14 ((orR a b).1.Next), rdE r15 ((orR a b).1.Takes), blkE g10 (.cells #[I (0), I (0)] 24), blkE g4 (.cells #[I (b.Signs), wn, wt] 36), blkE g1 (.cells #[I (a.Signs), vn, vt] 36), rdE vn a.Next, rdE vt a.Takes, rdE wn b.Next, rdE wt b.Takes] H19 := hS20
    refine wpL_o rfl ?_
    refine e_storeBlkA (cs' := #[I ((orR a b).2.1), I ((orR a b).2.2)]) rfl a13_5 rfl Try.sizeOf24 rfl rfl (List.forall_mem_cons.2 ⟨rfl, List.forall_mem_cons.2 ⟨rfl, List.forall_mem_nil _⟩⟩) (hS20.front 3 rfl) (fun H21 hS22 hxx => ?_)
    replace hS22 : St H0 NoB (fun b => S b ∧ b < H0.size) [blkE g10 (.cells #[I ((orR a b).2.1), I ((orR a b).2.2)] 24), blkE g7 (.cells #[I ((orR a b).1.Signs), r14, r15] 36), rdE r14 ((orR a b).1.Next), rdE r15 ((orR a b).1.Takes), blkE g4 (.cells #[I (b.Signs), wn, wt] 36), blkE g1 (.cells #[I (a.Signs), vn, vt] 36), rdE vn a.Next, rdE vt a.Takes, rdE wn b.Next, rdE wt b.Takes] H21 := hS22
    exact ⟨r14, r15, a13_4, a13_5, hS22⟩
  rintro f23 H23 ⟨r14, r15, a23_4, a23_5, hS23⟩
  clear a13_2 a13_3 a13_4 a13_5
  refine wpF_ret ?_
  refine ⟨_, resC a23_4 (loadV_blkA Try.isAgg36 Try.sizeOf36 rfl (hS23.blk 1 rfl)) (resC a23_5 (loadV_blkA Try.isAgg24 Try.sizeOf24 rfl (hS23.blk 0 rfl)) (resN)), hS23.frame, ?_⟩
  show ∃ w1_ w2_, (Value.tuple #[Value.agg #[I ((orR a b).1.Signs), r14, r15], Value.agg #[I ((orR a b).2.1), I ((orR a b).2.2)]]) = Value.tuple #[Value.agg #[I (orR a b).1.Signs, w1_, w2_], Value.agg #[I (orR a b).2.1, I (orR a b).2.2]] ∧ Rd (fun b => S b ∧ b < H0.size) H23 w1_ (orR a b).1.Next ∧ Rd (fun b => S b ∧ b < H0.size) H23 w2_ (orR a b).1.Takes
  exact ⟨r14, r15, rfl, (hS23.result (hS23.rdS 2 rfl)), (hS23.result (hS23.rdS 3 rfl))⟩

end Go.Um
