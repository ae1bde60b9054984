/- No list of a transition system's is too long. -/
import Derived.Test.YtfgibfbgklkgbaaLoopData
import Derived.Test.YtfgibfbgklkgbaaUmMem
namespace Go.Um
section
variable {S : Nat → Prop} {H : Heap} {v : Value} {k : Nat}
theorem LRow.small {l : List LRow} (h : Rd S H v l) (hk : k < l.length) : (nth l k).Of.length ≤ 9223372036854775807 := by
  obtain ⟨u, hu, _⟩ := (Rd.list.1 h).elem k hk
  obtain ⟨_, _, h0, _⟩ := Rd.lRow.1 hu
  exact (Rd.list.1 h0).small
theorem nested_small {α : Type} [Inhabited α] [GoT α] {l : List (List α)} (h : Rd S H v l) (hk : k < l.length) : (nth l k).length ≤ 9223372036854775807 := by
  obtain ⟨u, hu, _⟩ := (Rd.list.1 h).elem k hk
  exact (Rd.list.1 hu).small
theorem Jump.small {l : List Jump} (h : Rd S H v l) (hk : k < l.length) : (nth l k).When.length ≤ 9223372036854775807 ∧ (nth l k).To.length * 24 ≤ 140737488355328 := by
  obtain ⟨u, hu, _⟩ := (Rd.list.1 h).elem k hk
  obtain ⟨_, _, _, h0, h1⟩ := Rd.jump.1 hu
  exact ⟨(Rd.list.1 h0).small, (Rd.list.1 h1).bound⟩
end
end Go.Um
