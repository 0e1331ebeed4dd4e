/- Blocks of bytes of the call's own, known whole. -/
import Derived.Test.YtlgegjmnodjioaaShown
import Derived.Laws.CopyOwn
namespace Go.Proofs.Ytlgegjmnodjioaa
open Go.RowKit
theorem made_cells (k : Nat) : madeCells (Value.int .u8 0).cells (k * 1) = (cells (List.replicate k 0)).toArray := by
  have e : (Value.int .u8 0).cells = #[.int .u8 0] := rfl
  apply Array.toList_inj.1
  rw [e, toList_madeCells_one]
  simp [cells]
theorem bytes_blk {w : World} {g : Nat} {l : List Nat} (h : Blk w g 5 (cells l).toArray) (hl : l.length ≤ maxLen) : Bytes w (some ⟨g, 0, none⟩) l.length l.length l := by
  refine ⟨Nat.le_refl _, hl, .inr ⟨g, 0, rfl, h.lt, rfl, fun i hi => ?_⟩⟩
  rw [h.cell, Nat.zero_add]
  simp only [List.getElem?_toArray]
  exact cells_get hi
theorem splice_cells (m : Nat) (l : List Nat) : splice (cells (List.replicate m 0)) 0 (cells l) = cells (l ++ List.replicate (m - l.length) 0) := by
  simp [splice, cells]
theorem blk_set {w : World} {g i d : Nat} {l : List Nat} (h : Blk w g 5 (cells l).toArray) : Blk (w.setCell ⟨g, i, none⟩ (.int .u8 (d : Int))) g 5 (cells (l.set i d)).toArray := by
  have h1 := h.set_ i (.int .u8 (d : Int))
  have e : (cells l).toArray.setIfInBounds i (.int .u8 (d : Int)) = (cells (l.set i d)).toArray := by
    rw [← cells_set]
    simp
  rw [e] at h1
  exact h1
theorem mixed {xl yl zl tl : List Nat} (hx : ∀ x ∈ xl, x < 256) (hy : ∀ x ∈ yl, x < 256) (hz : ∀ x ∈ zl, x < 256) (h1 : yl.length = xl.length) (h2 : zl.length = xl.length) (h3 : tl.length = xl.length)
    (h : ∀ i, i < xl.length → tl.getD i 0 = xl.getD i 0 ^^^ yl.getD i 0 ^^^ zl.getD i 0) : big tl = big xl ^^^ big yl ^^^ big zl := by
  have hu : (List.zipWith (· ^^^ ·) xl yl).length = xl.length := by rw [List.length_zipWith]; omega
  have hg : ∀ i, i < xl.length → (List.zipWith (· ^^^ ·) xl yl).getD i 0 = xl.getD i 0 ^^^ yl.getD i 0 := by
    intro i hi
    have hi2 : i < yl.length := by omega
    simp [List.getD, List.getElem?_zipWith, hi, hi2]
  have hus : ∀ x ∈ List.zipWith (· ^^^ ·) xl yl, x < 256 := by
    intro x hx'
    obtain ⟨i, hi, rfl⟩ := List.getElem_of_mem hx'
    rw [List.getElem_zipWith]
    exact Nat.xor_lt_two_pow (n := 8) (hx _ (List.getElem_mem _)) (hy _ (List.getElem_mem _))
  rw [← big_xor hx hy hu.symm (by rw [h1, hu]) (fun i hi => hg i (by rw [← hu]; exact hi))]
  exact big_xor hus hz (by rw [hu, h3]) (by rw [h2, h3]) (fun i hi => by rw [h i (by rw [← h3]; exact hi), hg i (by rw [← h3]; exact hi)])
end Go.Proofs.Ytlgegjmnodjioaa
