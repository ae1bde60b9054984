import Derived.Test.YtbfgipgojdinoaaProg
import Derived.Shelf.SortG.Plain
import Derived.Test.YtbfgipgojdinoaaUmTopCountsD
namespace Go.Um
open Go.Proofs Go.Shelf
def sortInts_ren : Go.Shelf.Ren := ⟨fun | 53 => 61 | 64 => 77 | 63 => 76 | 78 => 93 | 79 => 94 | 70 => 84 | 71 => 85 | 72 => 86 | 73 => 87 | 74 => 88 | 75 => 89 | 59 => 90 | 76 => 91 | 77 => 92 | 88 => 95 | 89 => 96 | 90 => 97 | 91 => 98 | 92 => 99 | 68 => 100 | 96 => 101 | n => n, fun | 22 => 22 | 23 => 3 | 3 => 3 | 51 => 133 | 0 => 0 | 67 => 145 | 69 => 147 | 4 => 4 | 61 => 139 | 60 => 138 | 44 => 135 | 5 => 5 | 9 => 9 | 75 => 148 | 79 => 152 | 83 => 154 | 84 => 112 | n => n, fun | n => n⟩
theorem sortInts : Go.Proofs.SlLaysN.n53 Try.prog sortInts_ren := {
  mixed := by kernel_rfl
  f53 := ⟨Try.f61.name, by decide, Try.func61.trans (congrArg some (by kernel_rfl))⟩
  f59 := ⟨Try.f90.name, by decide, Try.func90.trans (congrArg some (by kernel_rfl))⟩
  f63 := ⟨Try.f76.name, by decide, Try.func76.trans (congrArg some (by kernel_rfl))⟩
  f64 := Try.func77.trans (congrArg some (by kernel_rfl))
  f68 := ⟨Try.f100.name, by decide, Try.func100.trans (congrArg some (by kernel_rfl))⟩
  f70 := ⟨Try.f84.name, by decide, Try.func84.trans (congrArg some (by kernel_rfl))⟩
  f71 := ⟨Try.f85.name, by decide, Try.func85.trans (congrArg some (by kernel_rfl))⟩
  f72 := ⟨Try.f86.name, by decide, Try.func86.trans (congrArg some (by kernel_rfl))⟩
  f73 := ⟨Try.f87.name, by decide, Try.func87.trans (congrArg some (by kernel_rfl))⟩
  f74 := ⟨Try.f88.name, by decide, Try.func88.trans (congrArg some (by kernel_rfl))⟩
  f75 := ⟨Try.f89.name, by decide, Try.func89.trans (congrArg some (by kernel_rfl))⟩
  f76 := ⟨Try.f91.name, by decide, Try.func91.trans (congrArg some (by kernel_rfl))⟩
  f77 := ⟨Try.f92.name, by decide, Try.func92.trans (congrArg some (by kernel_rfl))⟩
  f78 := Try.func93.trans (congrArg some (by kernel_rfl))
  f79 := Try.func94.trans (congrArg some (by kernel_rfl))
  f88 := ⟨Try.f95.name, by decide, Try.func95.trans (congrArg some (by kernel_rfl))⟩
  f89 := Try.func96.trans (congrArg some (by kernel_rfl))
  f90 := Try.func97.trans (congrArg some (by kernel_rfl))
  f91 := ⟨Try.f98.name, by decide, Try.func98.trans (congrArg some (by kernel_rfl))⟩
  f92 := ⟨Try.f99.name, by decide, Try.func99.trans (congrArg some (by kernel_rfl))⟩
  f96 := ⟨Try.f101.name, by decide, Try.func101.trans (congrArg some (by kernel_rfl))⟩
  t0 := Try.underlying0
  a0 := Try.isAgg0
  z0 := Try.sizeOf0
  v0 := Try.zeroValue0
  t3 := Try.underlying3
  a3 := Try.isAgg3
  z3 := Try.sizeOf3
  v3 := Try.zeroValue3
  t4 := Try.underlying4
  a4 := Try.isAgg4
  z4 := Try.sizeOf4
  v4 := Try.zeroValue4
  t5 := Try.underlying5
  a5 := Try.isAgg5
  z5 := Try.sizeOf5
  v5 := Try.zeroValue5
  t9 := Try.underlying9
  a9 := Try.isAgg9
  z9 := Try.sizeOf9
  v9 := Try.zeroValue9
  t22 := Try.underlying22
  a22 := Try.isAgg22
  z22 := Try.sizeOf22
  v22 := Try.zeroValue22
  t23 := Try.underlying3
  a23 := Try.isAgg3
  z23 := Try.sizeOf3
  v23 := Try.zeroValue3
  t44 := Try.underlying135
  a44 := Try.isAgg135
  z44 := Try.sizeOf135
  v44 := Try.zeroValue135
  t51 := Try.underlying133
  a51 := Try.isAgg133
  z51 := Try.sizeOf133
  v51 := Try.zeroValue133
  t60 := Try.underlying138
  a60 := Try.isAgg138
  z60 := Try.sizeOf138
  v60 := Try.zeroValue138
  t61 := Try.underlying139
  a61 := Try.isAgg139
  z61 := Try.sizeOf139
  v61 := Try.zeroValue139
  t67 := Try.underlying145
  a67 := Try.isAgg145
  z67 := Try.sizeOf145
  v67 := Try.zeroValue145
  t69 := Try.underlying147
  a69 := Try.isAgg147
  z69 := Try.sizeOf147
  v69 := Try.zeroValue147
  t75 := Try.underlying148
  a75 := Try.isAgg148
  z75 := Try.sizeOf148
  v75 := Try.zeroValue148
  t79 := Try.underlying152
  a79 := Try.isAgg152
  z79 := Try.sizeOf152
  v79 := Try.zeroValue152
  t83 := Try.underlying154
  a83 := Try.isAgg154
  z83 := Try.sizeOf154
  v83 := Try.zeroValue154
  t84 := Try.underlying112
  a84 := Try.isAgg112
  z84 := Try.sizeOf112
  v84 := Try.zeroValue112 }
variable {H0 H : Heap} {M S0 : Nat → Prop} {L : List Ent}
theorem sort_ints {v : Value} {l : List Int} (hne : l ≠ []) (h : St H0 M S0 (rowE 3 v l :: L) H) :
    CallsH Try.prog 61 #[v] H fun rv H' => Ext (rowB v) H H' ∧ rv = .tuple #[] ∧ ∃ l' : List Int, l'.Perm l ∧ St H0 M S0 (rowE 3 v l' :: L) H' :=
  sort_rowI hne (fun blk cap zs w hH hb hs => AnyG.slices_Sort_int sortInts blk 0 cap zs w hH hb hs) h
end Go.Um
