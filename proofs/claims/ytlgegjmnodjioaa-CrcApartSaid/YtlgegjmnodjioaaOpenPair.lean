/- Opening a pair of bytes by value. -/
import Derived.Test.YtlgegjmnodjioaaOpen
import Derived.Lib.SmallJoins
namespace Go.Proofs.Ytlgegjmnodjioaa
open Go.ChangeShapes Go.WideShapes Go.ChangeAt Go.Joins
theorem cellsPair : Try.prog.cellsOf 33 = 2 := by kernel_rfl
theorem cellsByte : Try.prog.cellsOf 5 = 1 := by kernel_rfl
theorem open_pair {H : Type} {enc : TypeId × Value → H} {w : World} {base b0 : Nat} {r : Reach} {spare : Nat → Bool} {held : Bool} {v : Value} {d : DataW H} {p : List MemPlace}
    (hv : Value.okWide Try.prog w r b0 33 v) (h : DataW.Trod enc Try.prog w base spare held 33 v d p) :
    ∃ x y : Nat, v = .agg #[.int .u8 (x : Int), .int .u8 (y : Int)] ∧ x < 256 ∧ y < 256 := by
  unfold Value.okWide at hv
  rw [Try.underlying33] at hv
  obtain ⟨cs, rfl, hsz, _⟩ := hv
  obtain ⟨c0, c1, rfl⟩ := array2 (hsz.trans cellsPair)
  obtain ⟨fuel, hf⟩ := h
  obtain ⟨xs, m, _, _, _, hl, hi⟩ := DataW.trod_array Try.underlying33 hf
  have h0 := hi 0 (by omega)
  have h1 := hi 1 (by omega)
  simp only [cellsByte, Value.cells] at h0 h1
  have e0 : xs[0]? = some (xs[0]'(by omega)) := List.getElem?_eq_getElem (by omega)
  have e1 : xs[1]? = some (xs[1]'(by omega)) := List.getElem?_eq_getElem (by omega)
  rw [e0] at h0
  rw [e1] at h1
  simp at h0 h1
  obtain ⟨x, g0, wx, wx'⟩ := DataW.trod_int Try.underlying5 h0
  obtain ⟨y, g1, wy, wy'⟩ := DataW.trod_int Try.underlying5 h1
  simp at g0 g1
  subst g0 g1
  have bx := bounds_u8 (by first | exact wx | exact wx' | exact wx.1 | exact wx'.1 | exact wx.2 | exact wx'.2 : (Lit.int .u8 x).wf = true)
  have hy := bounds_u8 (by first | exact wy | exact wy' | exact wy.1 | exact wy'.1 | exact wy.2 | exact wy'.2 : (Lit.int .u8 y).wf = true)
  obtain ⟨x, rfl⟩ := Int.eq_ofNat_of_zero_le bx.1
  obtain ⟨y, rfl⟩ := Int.eq_ofNat_of_zero_le hy.1
  exact ⟨x, y, rfl, by omega, by omega⟩
end Go.Proofs.Ytlgegjmnodjioaa
