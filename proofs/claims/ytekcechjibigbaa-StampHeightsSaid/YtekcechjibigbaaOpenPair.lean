/- Opening a pair of numbers by value. -/
import Derived.Test.YtekcechjibigbaaOpen
namespace Go.Proofs.Ytekcechjibigbaa
open Go.ChangeShapes Go.WideShapes Go.ChangeAt Go.Joins
theorem cells33 : Try.prog.cellsOf 33 = 2 := by kernel_rfl
theorem cells3 : Try.prog.cellsOf 3 = 1 := by kernel_rfl
theorem open_pair {H : Type} {enc : TypeId × Value → H} {w : World} {base b0 : Nat} {r : Reach} {spare : Nat → Bool} {held : Bool} {v : Value} {d : DataW H} {p : List MemPlace}
    (hv : Value.okWide Try.prog w r b0 33 v) (h : DataW.Trod enc Try.prog w base spare held 33 v d p) :
    ∃ x y : Int, v = .agg #[.int .i64 x, .int .i64 y] := by
  unfold Value.okWide at hv
  rw [Try.underlying33] at hv
  obtain ⟨cs, rfl, hsz, _⟩ := hv
  obtain ⟨c0, c1, rfl⟩ := array2 (hsz.trans cells33)
  obtain ⟨fuel, hf⟩ := h
  obtain ⟨xs, m, _, _, _, hl, hi⟩ := DataW.trod_array Try.underlying33 hf
  have h0 := hi 0 (by omega)
  have h1 := hi 1 (by omega)
  simp only [cells3, Value.cells] at h0 h1
  have e0 : xs[0]? = some (xs[0]'(by omega)) := List.getElem?_eq_getElem (by omega)
  have e1 : xs[1]? = some (xs[1]'(by omega)) := List.getElem?_eq_getElem (by omega)
  rw [e0] at h0
  rw [e1] at h1
  simp at h0 h1
  obtain ⟨x, g0, _, _⟩ := DataW.trod_int Try.underlying3 h0
  obtain ⟨y, g1, _, _⟩ := DataW.trod_int Try.underlying3 h1
  simp at g0 g1
  subst g0 g1
  exact ⟨x, y, rfl⟩
end Go.Proofs.Ytekcechjibigbaa
