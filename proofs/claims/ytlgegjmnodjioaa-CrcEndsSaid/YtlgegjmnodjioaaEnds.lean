/- kithlaw02.CrcEnds walked: it returns true. -/
import Derived.Test.YtlgegjmnodjioaaShown
namespace Go.Proofs.Ytlgegjmnodjioaa
open Go.RowKit
theorem seal_sum' {l : List Nat} (hl : ∀ x ∈ l, x < 256) : sumN (sealN l) = 558161692 := seal_sum hl
set_option maxRecDepth 10000 in
set_option maxHeartbeats 1000000 in
theorem ends_any (a : Option Addr) (n cap : Nat) (bs : List Nat) (w : World) (h : Bytes w a n cap bs) (hs : ∀ x ∈ bs, x < 256) :
    Calls Try.prog 8 #[.slice a n cap] w fun e w' => e = .returned (.bool true) ∧ Below w.heap.size w w' := by
  obtain ⟨m, hm⟩ : ∃ m, m = min n 300 := ⟨_, rfl⟩
  have hcut := h.cut m (by omega)
  have hsm : ∀ x ∈ bs.take m, x < 256 := fun x hx => hs x (List.mem_of_mem_take hx)
  have hm300 : m ≤ 300 := by omega
  have hmc : m ≤ cap := by have := h.1; omega
  have hcm : cap ≤ 9223372036854775807 := by have := h.2.1; simpa [maxLen] using this
  have HB := Lib.hid h; have HM := Lib.hid hm; have HC := Lib.hid hcut; have HS := Lib.hid hsm
  clear h hs hm hcut hsm
  go_enter Try.func8, Try.ntmps8
  go_wp2_with fail
  refine (shown_any _).mono ?_
  rintro e w1 ⟨rfl, hb1⟩
  have hk1 : Kept w.heap.size w w1 := Kept.start hb1
  clear hb1
  go_wp2_with fail
  refine (few_is HM.out (HB.out.kept hk1.below (Nat.le_refl _))).mono ?_
  rintro e w2 ⟨rfl, rfl⟩
  have hc1 := HC.out.kept hk1.below (Nat.le_refl _)
  have HC1 := Lib.hid hc1
  clear hc1
  rcases Nat.lt_or_ge 3 m with h3 | h3
  · have hlt : (3 : Int) < m := by omega
    have hc3 := HC1.out.cut 3 (by omega)
    have hs3 : ∀ x ∈ (bs.take m).take 3, x < 256 := fun x hx => HS.out x (List.mem_of_mem_take hx)
    have hno : ¬ Opens ((bs.take m).take 3) := fun ho => by have h4 := ho.1; rw [hc3.len] at h4; omega
    have HC3 := Lib.hid hc3; have HS3 := Lib.hid hs3; have HNO := Lib.hid hno
    clear hc3 hs3 hno
    go_wp2_with fail
    refine (open_any HC3.out HS3.out (by omega)).mono ?_
    rintro e w2 hO
    obtain ⟨rfl, hb2⟩ : e = .returned (.tuple #[.slice none 0 0, .bool false]) ∧ Below w1.heap.size w1 w2 := by
      rcases hO with ⟨hy, _⟩ | ⟨_, h1, h2⟩
      · exact absurd hy HNO.out
      · exact ⟨h1, h2⟩
    have hk2 := hk1.step hb2
    have hc2 := HC1.out.kept hb2 (Nat.le_refl _)
    have HC2 := Lib.hid hc2
    clear hc2 hb2
    go_wp2_with fail
    refine (seal_any HC2.out HS.out hm300).mono ?_
    rintro e w3 ⟨v3, rfl, hown3, hb3⟩
    have hk3 := hk2.step hb3
    obtain ⟨a3, c3, hv3, hp3⟩ := Bytes.of_own hown3
    rw [hv3]
    have HP3 := Lib.hid hp3
    clear hown3 hv3 hp3 hb3
    go_wp2_with fail
    refine (sum_any HP3.out (seal_small HS.out)).mono ?_
    rintro e w4 ⟨rfl, rfl⟩
    rw [seal_sum' HS.out]
    go_wp2_with fail
    go_ret
    exact ⟨rfl, hk3.below⟩
  · have hle : (m : Int) ≤ 3 := by omega
    have hc3 := HC1.out.cut m (by omega)
    have hs3 : ∀ x ∈ (bs.take m).take m, x < 256 := fun x hx => HS.out x (List.mem_of_mem_take hx)
    have hno : ¬ Opens ((bs.take m).take m) := fun ho => by have h4 := ho.1; rw [hc3.len] at h4; omega
    have HC3 := Lib.hid hc3; have HS3 := Lib.hid hs3; have HNO := Lib.hid hno
    clear hc3 hs3 hno
    go_wp2_with fail
    refine (open_any HC3.out HS3.out (by omega)).mono ?_
    rintro e w2 hO
    obtain ⟨rfl, hb2⟩ : e = .returned (.tuple #[.slice none 0 0, .bool false]) ∧ Below w1.heap.size w1 w2 := by
      rcases hO with ⟨hy, _⟩ | ⟨_, h1, h2⟩
      · exact absurd hy HNO.out
      · exact ⟨h1, h2⟩
    have hk2 := hk1.step hb2
    have hc2 := HC1.out.kept hb2 (Nat.le_refl _)
    have HC2 := Lib.hid hc2
    clear hc2 hb2
    go_wp2_with fail
    refine (seal_any HC2.out HS.out hm300).mono ?_
    rintro e w3 ⟨v3, rfl, hown3, hb3⟩
    have hk3 := hk2.step hb3
    obtain ⟨a3, c3, hv3, hp3⟩ := Bytes.of_own hown3
    rw [hv3]
    have HP3 := Lib.hid hp3
    clear hown3 hv3 hp3 hb3
    go_wp2_with fail
    refine (sum_any HP3.out (seal_small HS.out)).mono ?_
    rintro e w4 ⟨rfl, rfl⟩
    rw [seal_sum' HS.out]
    go_wp2_with fail
    go_ret
    exact ⟨rfl, hk3.below⟩
end Go.Proofs.Ytlgegjmnodjioaa
