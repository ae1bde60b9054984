/- Of the closed question. -/
import Derived.Test.YtacphjgolmolmaaArrTurn
namespace Go.Um
def blankP (a : Ask) : Prop := ((a.Decls.length : Int) = 0 ∧ (a.Nodes.length : Int) = 0) ∧ (a.Hold.length : Int) = 0
instance {a : Ask} : Decidable (blankP a) := by unfold blankP; infer_instance
theorem blank_doA {a : Ask} (h : (doF a).1 ≠ 0) : blankP (doA a) := by rw [doA_bad h]; exact ⟨⟨rfl, rfl⟩, rfl⟩
def txtA : Str := ByteArray.mk #[97]
def txtT : Str := ByteArray.mk #[116]
def gotA : Ask := ⟨[⟨ByteArray.mk #[97], [], 5⟩, ⟨ByteArray.mk #[116], [], 4⟩], [⟨9, [], 0, 0, ByteArray.mk #[97]⟩, ⟨9, [], 0, 0, ByteArray.mk #[116]⟩, ⟨25, [0, 1, 1], 0, 0, ByteArray.mk #[]⟩, ⟨24, [2, 1], 0, 0, ByteArray.mk #[]⟩, ⟨8, [3, 1], 0, 0, ByteArray.mk #[]⟩], [4]⟩
theorem gotA_sorts : sortsTo gotA 5 = [5, 4, 5, 4, 1] := by decide +kernel
theorem gotA_sortsF : sortsF gotA = (0, 0) := by decide +kernel
theorem gotA_turn : turned gotA = ⟨[⟨9, [], 0, 0, ByteArray.mk #[116]⟩, nameNd (ByteArray.mk #[97]) 0, sameNd 0 0, pickNd 2 0 1, ⟨8, [3, 0], 0, 0, ByteArray.mk #[]⟩], [0, 0, 0, 3, 4]⟩ := by
  have hs : sorts gotA = [5, 4, 5, 4, 1] := gotA_sorts
  have g2 : ∀ to x N, getL gotA to x N 2 = N ++ [nameNd (ByteArray.mk #[97]) x] ++ [sameNd (nth to 1) x] ++ [pickNd ((N.length : Int) + 1) (nth to 1) N.length] := by
    intro to x N
    rw [getL_put (by decide) (by decide)]
    rw [show kidN (nth gotA.Nodes 2) 0 = 0 from by decide, getL_name (by decide)]
    have e : ((N ++ [nameNd (nth gotA.Nodes 0).Name x]).length : Int) = (N.length : Int) + 1 := by rw [List.length_append]; rfl
    rw [e, show ((N.length : Int) + 1 - 1) = (N.length : Int) from by omega]
    rfl
  have t1 : turnTo gotA 1 = ⟨[], [0]⟩ := by rw [turnTo, stepT_arr (by rw [hs]; decide)]; rfl
  have t2 : turnTo gotA 2 = ⟨[⟨9, [], 0, 0, ByteArray.mk #[116]⟩], [0, 0]⟩ := by rw [turnTo, stepT_flat (by rw [hs]; decide) (by decide), t1]; rfl
  have t3 : turnTo gotA 3 = ⟨[⟨9, [], 0, 0, ByteArray.mk #[116]⟩], [0, 0, 0]⟩ := by rw [turnTo, stepT_arr (by rw [hs]; decide), t2]; rfl
  have t4 : turnTo gotA 4 = ⟨[⟨9, [], 0, 0, ByteArray.mk #[116]⟩, nameNd (ByteArray.mk #[97]) 0, sameNd 0 0, pickNd 2 0 1], [0, 0, 0, 3]⟩ := by
    rw [turnTo, stepT_get (by rw [hs]; decide) (by decide), t3]
    rw [show kidN (nth gotA.Nodes 3) 0 = 2 from by decide, g2]; rfl
  rw [turned, show gotA.Nodes.length = 5 from rfl, turnTo, stepT_flat (by rw [hs]; decide) (by decide), t4]; rfl
theorem gotA_fact : (doF gotA).1 = 0 ∧ (doA gotA).Nodes.length = 5 ∧ (doA gotA).Decls.length = 2 ∧ (nth (doA gotA).Decls 0).Srt = 4 ∧ (doA gotA).Hold = [4] := by
  have h : doF gotA = (0, 0) := doF_ok (by rw [gotA_sortsF]; decide) (by rw [gotA_turn]; decide)
  have h2 := doA_ok (a := gotA) (by rw [h])
  rw [h2, h, gotA_turn]
  exact ⟨rfl, rfl, rfl, rfl, rfl⟩
end Go.Um
