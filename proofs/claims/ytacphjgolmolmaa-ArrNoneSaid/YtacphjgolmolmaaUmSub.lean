import Derived.Test.YtacphjgolmolmaaUmFrame
/-!
Short names for the two steps of a sublist: an entry that is kept, and one that is dropped.
-/
namespace Go.Um
theorem sk {α : Type} {a : α} {l m : List α} (h : l.Sublist m) : (a :: l).Sublist (a :: m) := List.Sublist.cons_cons a h
theorem sn {α : Type} {a : α} {l m : List α} (h : l.Sublist m) : l.Sublist (a :: m) := List.Sublist.cons a h
end Go.Um
