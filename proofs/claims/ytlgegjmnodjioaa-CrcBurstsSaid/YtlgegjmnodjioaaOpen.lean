/- Opening a row of bytes that came in. -/
import Derived.Test.YtlgegjmnodjioaaBytes
import Derived.ProofKit
import Derived.OpenShut
import Derived.ShutString
import Derived.ChangeOld
namespace Go.Proofs.Ytlgegjmnodjioaa
open Go.ChangeShapes Go.WideShapes Go.ChangeAt Go.RowKit
theorem own : ownKnob Try.prog.godebug = none := by kernel_rfl
theorem laidOut : laidOutB Try.prog = true := by kernel_rfl
theorem open_bytes {H : Type} {enc : TypeId × Value → H} {w : World} {base : Nat} {spare : Nat → Bool} {held : Bool} {v : Value} {d : DataW H} {p : List MemPlace} {rc : Reach} {b0 : Nat}
    (hv : Value.okWide Try.prog w rc b0 22 v) (h : DataW.Trod enc Try.prog w base spare held 22 v d p) :
    ∃ a n cap bs, v = .slice a n cap ∧ Bytes w a n cap bs ∧ ∀ x ∈ bs, x < 256 := by
  obtain ⟨a0, len0, cap0, rfl⟩ := okWide_slice Try.underlying22 hv
  obtain ⟨fuel, hf⟩ := h
  rcases open_ints Try.underlying22 Try.underlying5 (by kernel_rfl) hf with ⟨hcs, _⟩ | ⟨x, l, c, zs, hcs, _, hl, hm, hz, _, hcell, hwz⟩
  · simp [Value.cells] at hcs
    obtain ⟨rfl, rfl, rfl⟩ := hcs
    exact ⟨_, _, _, [], rfl, ⟨Nat.le_refl _, by unfold maxLen; omega, .inl ⟨rfl, rfl⟩⟩, by simp⟩
  · simp [Value.cells] at hcs
    obtain ⟨rfl, rfl, rfl⟩ := hcs
    by_cases h0 : len0 = 0
    · exact ⟨_, _, _, [], rfl, ⟨hl, hm, .inl ⟨h0, rfl⟩⟩, by simp⟩
    · have hzl : len0 ≤ zs.length := by rw [hz]; split <;> omega
      have hlen : (((zs.take len0).map Int.toNat)).length = len0 := by rw [List.length_map, List.length_take]; omega
      have hc0 := hcell 0 (by omega)
      obtain ⟨b, off, spot⟩ := x
      have hspot : spot = none := by simpa [Addr.add] using World.cell?_spot hc0
      subst hspot
      have bd : ∀ i, i < len0 → 0 ≤ zs.getD i 0 ∧ zs.getD i 0 ≤ 255 := fun i hi => by
        have hi' : i < zs.length := by omega
        have : zs.getD i 0 ∈ zs := by simp [List.getD, hi']
        exact bounds_u8 (hwz _ this)
      refine ⟨_, _, _, (zs.take len0).map Int.toNat, rfl, ⟨hl, hm, .inr ⟨b, off, rfl, ?_, hlen, fun i hi => ?_⟩⟩, ?_⟩
      · exact World.block_lt_of_cell? w _ (by simpa [Addr.add] using hc0)
      · have hi' : i < zs.length := by omega
        have e : Addr.add ⟨b, off, none⟩ i = ⟨b, off + i, none⟩ := by
          unfold Addr.add
          by_cases h : i = 0 <;> simp [h]
        have h1 := hcell i hi'
        rw [e] at h1
        rw [h1]
        have h2 := bd i hi
        have h3 : ((zs.take len0).map Int.toNat).getD i 0 = (zs.getD i 0).toNat := by
          simp [List.getD, hi', hi]
        rw [h3, Int.toNat_of_nonneg h2.1]
      · intro y hy
        obtain ⟨z, hz1, rfl⟩ := List.mem_map.1 hy
        have := bounds_u8 (hwz z (List.mem_of_mem_take hz1))
        omega
theorem open_u32 {H : Type} {enc : TypeId × Value → H} {w : World} {base : Nat} {spare : Nat → Bool} {held : Bool} {v : Value} {d : DataW H} {p : List MemPlace} {rc : Reach} {b0 : Nat}
    (hv : Value.okWide Try.prog w rc b0 23 v) (h : DataW.Trod enc Try.prog w base spare held 23 v d p) : ∃ n : Nat, v = .int .u32 n ∧ n < 4294967296 := by
  obtain ⟨x, rfl, rfl, rfl, wx⟩ := open_int Try.underlying23 hv h
  have hb := bounds_u32 wx
  obtain ⟨n, rfl⟩ := Int.eq_ofNat_of_zero_le hb.1
  exact ⟨n, rfl, by omega⟩
end Go.Proofs.Ytlgegjmnodjioaa
