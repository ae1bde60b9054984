import Derived.Test.YtacphjgolmolmaaGreatProg
import Derived.ProofKit
import Derived.Shelf.SlSortCmp.WholeK
import Derived.Shelf.SlLaysF0
import Derived.Test.YtacphjgolmolmaaGreatUmArrUpD
namespace Go.Um
open Go.Proofs Go.Shelf
def sortCells_ren : Go.Shelf.Ren := ⟨fun | 6 => 17 | 15 => 30 | 14 => 29 | 28 => 63 | 29 => 64 | 20 => 55 | 21 => 56 | 22 => 57 | 23 => 58 | 24 => 59 | 25 => 60 | 26 => 61 | 27 => 62 | 46 => 89 | 47 => 90 | 48 => 91 | 49 => 92 | 50 => 93 | 57 => 105 | n => n, fun | 22 => 58 | 24 => 67 | 25 => 69 | 3 => 3 | 39 => 84 | 0 => 0 | 53 => 108 | 55 => 110 | 4 => 4 | 46 => 101 | 45 => 100 | 50 => 105 | 5 => 5 | 9 => 9 | 66 => 126 | 70 => 130 | 76 => 140 | 77 => 79 | n => n, fun | n => n⟩
theorem sortCells : Go.Proofs.SlLaysF0.n6 Tryz.prog sortCells_ren := {
  mixed := by kernel_rfl
  f6 := ⟨Tryz.f17.name, by decide, Tryz.func17.trans (congrArg some (by kernel_rfl))⟩
  f14 := ⟨Tryz.f29.name, by decide, Tryz.func29.trans (congrArg some (by kernel_rfl))⟩
  f15 := Tryz.func30.trans (congrArg some (by kernel_rfl))
  f20 := ⟨Tryz.f55.name, by decide, Tryz.func55.trans (congrArg some (by kernel_rfl))⟩
  f21 := ⟨Tryz.f56.name, by decide, Tryz.func56.trans (congrArg some (by kernel_rfl))⟩
  f22 := ⟨Tryz.f57.name, by decide, Tryz.func57.trans (congrArg some (by kernel_rfl))⟩
  f23 := ⟨Tryz.f58.name, by decide, Tryz.func58.trans (congrArg some (by kernel_rfl))⟩
  f24 := ⟨Tryz.f59.name, by decide, Tryz.func59.trans (congrArg some (by kernel_rfl))⟩
  f25 := ⟨Tryz.f60.name, by decide, Tryz.func60.trans (congrArg some (by kernel_rfl))⟩
  f26 := ⟨Tryz.f61.name, by decide, Tryz.func61.trans (congrArg some (by kernel_rfl))⟩
  f27 := ⟨Tryz.f62.name, by decide, Tryz.func62.trans (congrArg some (by kernel_rfl))⟩
  f28 := Tryz.func63.trans (congrArg some (by kernel_rfl))
  f29 := Tryz.func64.trans (congrArg some (by kernel_rfl))
  f46 := ⟨Tryz.f89.name, by decide, Tryz.func89.trans (congrArg some (by kernel_rfl))⟩
  f47 := Tryz.func90.trans (congrArg some (by kernel_rfl))
  f48 := Tryz.func91.trans (congrArg some (by kernel_rfl))
  f49 := ⟨Tryz.f92.name, by decide, Tryz.func92.trans (congrArg some (by kernel_rfl))⟩
  f50 := ⟨Tryz.f93.name, by decide, Tryz.func93.trans (congrArg some (by kernel_rfl))⟩
  f57 := ⟨Tryz.f105.name, by decide, Tryz.func105.trans (congrArg some (by kernel_rfl))⟩
  t0 := Tryz.underlying0
  a0 := Tryz.isAgg0
  z0 := Tryz.sizeOf0
  v0 := Tryz.zeroValue0
  t3 := Tryz.underlying3
  a3 := Tryz.isAgg3
  z3 := Tryz.sizeOf3
  v3 := Tryz.zeroValue3
  t4 := Tryz.underlying4
  a4 := Tryz.isAgg4
  z4 := Tryz.sizeOf4
  v4 := Tryz.zeroValue4
  t5 := Tryz.underlying5
  a5 := Tryz.isAgg5
  z5 := Tryz.sizeOf5
  v5 := Tryz.zeroValue5
  t9 := Tryz.underlying9
  a9 := Tryz.isAgg9
  z9 := Tryz.sizeOf9
  v9 := Tryz.zeroValue9
  t22 := Tryz.underlying58
  a22 := Tryz.isAgg58
  z22 := Tryz.sizeOf58
  v22 := Tryz.zeroValue58
  t25 := Tryz.underlying69
  a25 := Tryz.isAgg69
  z25 := Tryz.sizeOf69
  v25 := Tryz.zeroValue69
  t39 := Tryz.underlying84
  a39 := Tryz.isAgg84
  z39 := Tryz.sizeOf84
  v39 := Tryz.zeroValue84
  t45 := Tryz.underlying100
  a45 := Tryz.isAgg100
  z45 := Tryz.sizeOf100
  v45 := Tryz.zeroValue100
  t46 := Tryz.underlying101
  a46 := Tryz.isAgg101
  z46 := Tryz.sizeOf101
  v46 := Tryz.zeroValue101
  t50 := Tryz.underlying105
  a50 := Tryz.isAgg105
  z50 := Tryz.sizeOf105
  v50 := Tryz.zeroValue105
  t53 := Tryz.underlying108
  a53 := Tryz.isAgg108
  z53 := Tryz.sizeOf108
  v53 := Tryz.zeroValue108
  t55 := Tryz.underlying110
  a55 := Tryz.isAgg110
  z55 := Tryz.sizeOf110
  v55 := Tryz.zeroValue110
  t66 := Tryz.underlying126
  a66 := Tryz.isAgg126
  z66 := Tryz.sizeOf126
  v66 := Tryz.zeroValue126
  t70 := Tryz.underlying130
  a70 := Tryz.isAgg130
  z70 := Tryz.sizeOf130
  v70 := Tryz.zeroValue130
  t76 := Tryz.underlying140
  a76 := Tryz.isAgg140
  z76 := Tryz.sizeOf140
  v76 := Tryz.zeroValue140
  t77 := Tryz.underlying79
  a77 := Tryz.isAgg79
  z77 := Tryz.sizeOf79
  v77 := Tryz.zeroValue79 }
end Go.Um
namespace Go.Um
open Go.Proofs Go.Shelf Go.RowKit Go.Lib Go.Sort
set_option maxHeartbeats 1000000 in
theorem nan_w (x : Int) (w : World) : Calls Tryz.prog 31 #[.int .i64 x] w fun e w' => e = .returned (.bool false) ∧ w' = w := by
  go_enter Tryz.func31, Tryz.ntmps31
  go_wp2
  go_ret
  simp
set_option maxHeartbeats 1000000 in
theorem cmp_w (x y : Int) (w : World) : Calls Tryz.prog 19 #[.int .i64 x, .int .i64 y] w fun e w' => e = .returned (.int .i64 (cmpI x y)) ∧ w' = w := by
  go_enter Tryz.func19, Tryz.ntmps19
  go_wp2_with (go_at_call 31; refine (nan_w _ _).mono ?_; rintro e w' ⟨rfl, rfl⟩)
  all_goals go_ret
  all_goals simp_all [cmpI]
  all_goals omega
set_option maxHeartbeats 1000000 in
theorem up1_w (x y : Cell) (w : World) : Calls Tryz.prog 18 #[.agg #[.int .i64 x.At, .int .i64 x.It], .agg #[.int .i64 y.At, .int .i64 y.It]] w fun e w' => e = .returned (.int .i64 (cmpI x.At y.At)) ∧ ∃ q os', w' = grow (w.drewN q) os' := by
  have hcon := fun W' => cmp_w x.At y.At W'
  generalize cmpI x.At y.At = r at hcon ⊢
  go_enter Tryz.func18, Tryz.ntmps18
  go_wp2_with (go_at_call 19; refine (hcon _).mono ?_; rintro e w' ⟨rfl, rfl⟩)
  go_ret
  exact ⟨rfl, 0, _, by rw [alloc_eq_grow, alloc_eq_grow, grow_grow]; rfl⟩
set_option maxHeartbeats 1000000 in
theorem ins_none (fv : Value) (w : World) : Calls Tryz.prog 55 #[.slice none 0 0, .int .i64 0, .int .i64 0, fv] w fun e w' => e = .returned (.tuple #[]) ∧ w' = w := by
  go_enter Tryz.func55, Tryz.ntmps55
  go_wp2
  refine wp_loop_rounds 1 ?_
  rw [rounds_succ]
  go_wp2
  go_end0
  exact ⟨rfl, rfl⟩
set_option maxHeartbeats 1000000 in
theorem pdq_none (lim : Int) (fv : Value) (w : World) : Calls Tryz.prog 29 #[.slice none 0 0, .int .i64 0, .int .i64 0, .int .i64 lim, fv] w fun e w' => e = .returned (.tuple #[]) ∧ w' = w := by
  go_enter Tryz.func29, Tryz.ntmps29
  go_wp2
  refine wp_loop_rounds 1 ?_
  rw [rounds_succ]
  go_wp2_with (go_at_call 55; refine (ins_none _ _).mono ?_; rintro e w' ⟨rfl, rfl⟩)
  (try simp only [Exit.inBlock, Exit.then]); refine bodyPost_ret (results_none rfl _ _ _) rfl ?_
  exact ⟨rfl, rfl⟩
theorem len_none (w : World) : Calls Tryz.prog 30 #[.int .u64 0] w fun e w' => e = .returned (.int .i64 0) ∧ w' = w :=
  Any.bits_Len (SlLaysF0.n15.bits (P := Tryz.prog) (ρ := sortCells_ren) { sortCells with }) 0 w (by omega) (by omega)
set_option maxHeartbeats 1000000 in
theorem sort_none (fv : Value) (w : World) : Calls Tryz.prog 17 #[.slice none 0 0, fv] w fun e w' => e = .returned (.tuple #[]) ∧ w' = w := by
  go_enter Tryz.func17, Tryz.ntmps17
  go_wp2_with (first | (go_at_call 30; refine (len_none _).mono ?_; rintro e w' ⟨rfl, rfl⟩) | (go_at_call 29; refine (pdq_none _ _ _).mono ?_; rintro e w' ⟨rfl, rfl⟩))
  go_end0
  exact ⟨rfl, rfl⟩
theorem lt_swo : SWO (ltOf fun x y : Cell => cmpI x.At y.At) := by
  have e : (ltOf fun x y : Cell => cmpI x.At y.At) = ltA := by
    funext x y
    exact ltA_cmp.symm
  rw [e]
  exact swoA
theorem cmp_lays (blk off size : Nat) (w : World) : CmpLays Tryz.prog 18 #[] encC 2 (fun x y => cmpI x.At y.At) blk off size w := fun _ _ _ _ x y => up1_w x y _
theorem sort_some (blk cap : Nat) (d : Array Cell) (w : World) (hH : HoldsK encC 2 w blk 0 d) (hblk : blk < w.heap.size) (hsz : d.size < 4611686018427387904) : Calls Tryz.prog 17 #[.slice (some ⟨blk, 0, none⟩) d.size cap, .func (.func 18) #[] #[]] w fun e w' =>
    e = .returned (.tuple #[]) ∧ ∃ d' n os, PermIn 0 d.size d d' ∧ SortedIn (fun x y => decide (cmpI x.At y.At < 0)) 0 d.size d' ∧ w' = sortWorldK encC 2 w blk 0 n d' os :=
  AnyQ.slices_SortFunc sortCells 2 Tryz.isAgg67 Tryz.sizeOf67 encC encC_len encC_one (fun x y => cmpI x.At y.At) lt_swo 18 #[] blk 0 cap d w (enters_of Tryz.func18 (by kernel_rfl) rfl) (cmp_lays blk 0 d.size w) hH hblk hsz
end Go.Um
namespace Go.Um
open Go.Proofs
variable {H0 H : Heap} {M S0 : Nat → Prop} {L : List Ent}
theorem sort_cells {v : Value} {l : List Cell} (h : St H0 M S0 (rowE 67 v l :: L) H) :
    CallsH Tryz.prog 17 #[v, .func (.func 18) #[] #[]] H fun rv H' => Ext (rowB v) H H' ∧ rv = .tuple #[] ∧ ∃ l' : List Cell, (l'.Perm l ∧ ∀ i j, i < j → j < l'.length → ltA (nth l' j) (nth l' i) = false) ∧ St H0 M S0 (rowE 67 v l' :: L) H' :=
  sort_row (cf := fun x y => cmpI x.At y.At) sort_some (fun w => sort_none _ w) (fun _ _ => ltA_cmp.symm) h
end Go.Um
