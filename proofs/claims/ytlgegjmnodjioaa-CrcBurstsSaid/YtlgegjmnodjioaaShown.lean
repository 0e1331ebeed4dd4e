/- kithlaw02.shown walked. -/
import Derived.Test.YtlgegjmnodjioaaOpenB
import Derived.Lib.SlBytesConst
namespace Go.Proofs.Ytlgegjmnodjioaa
open Go.RowKit
theorem opens_sealed (l : List Nat) : Opens (sealN l) ∧ (sealN l).length - 4 = l.length ∧ (sealN l).take l.length = l ∧ (sealN l).take ((sealN l).length - 4) = l := by
  have e : (sealN l).length - 4 = l.length := by rw [seal_len]; omega
  have t : (sealN l).take l.length = l := by unfold sealN; exact List.take_left
  have d : (sealN l).drop l.length = tailN (sumN l) := by unfold sealN; exact List.drop_left
  refine ⟨⟨by rw [seal_len]; omega, ?_⟩, e, t, by rw [e]; exact t⟩
  rw [e, t, d]
/-- the bytes of a constant: their block bears marks -/
theorem built_mark (w : World) (bs : List Nat) (fr : Nat × Nat) (hl : bs.length ≤ maxLen) : Bytes (w.alloc (.cells (cells bs).toArray 5 fr)) (some ⟨w.heap.size, 0, none⟩) bs.length bs.length bs := by
  refine ⟨Nat.le_refl _, hl, .inr ⟨w.heap.size, 0, rfl, by simp, rfl, fun i hi => ?_⟩⟩
  rw [World.cell?_alloc_mark, Nat.zero_add]
  simp only [List.getElem?_toArray]
  exact cells_get hi
theorem sum_nil : sumN [] = 0 := by decide
theorem str_x : ((str [120]).toList == [120]) = true := by decide +kernel
set_option maxRecDepth 10000 in
set_option maxHeartbeats 1000000 in
theorem shown_any (w : World) : Calls Try.prog 9 #[] w fun e w' => e = .returned (.bool true) ∧ Below w.heap.size w w' := by
  have hb := built_mark w [120] (1, 2) (by simp [maxLen])
  have hb9 := fun W : World => built_mark W [49, 50, 51, 52, 53, 54, 55, 56, 57] (9, 10) (by simp [maxLen])
  have HB := Lib.hid hb; have HB9 := Lib.hid hb9
  clear hb hb9
  have hc1 := Lib.run_convert_bytes_const (P := Try.prog) w 22 5 #[.int .u8 120] 1 1 Try.underlying22 Try.underlying5
  have hc9 := fun W : World => Lib.run_convert_bytes_const (P := Try.prog) W 22 5 #[.int .u8 49, .int .u8 50, .int .u8 51, .int .u8 52, .int .u8 53, .int .u8 54, .int .u8 55, .int .u8 56, .int .u8 57] 9 9 Try.underlying22 Try.underlying5
  go_enter Try.func9, Try.ntmps9
  go_wp2_with fail
  refine (seal_any HB.out (by simp) (by simp)).mono ?_
  rintro e w1 ⟨v1, rfl, hown1, hb1⟩
  have hk1 : Kept w.heap.size w w1 := ((Kept.start (Below.refl w.heap.size w)).alloc _).step hb1
  obtain ⟨a1, c1, hv1, hp1⟩ := Bytes.of_own hown1
  rw [hv1]
  have HP1 := Lib.hid hp1
  clear hown1 hv1 hp1 hb1
  go_wp2_with fail
  refine (open_any HP1.out (seal_small (by simp)) (by rw [seal_len]; simp)).mono ?_
  rintro e w2 hO
  obtain ⟨v2, rfl, hown2, hb2⟩ : ∃ v, e = .returned (.tuple #[v, .bool true]) ∧ w2.ownsRow w1.heap.size 5 1 v 1 (cells [120]) ∧ Below w1.heap.size w1 w2 := by
    rcases hO with ⟨_, v, h1, h2, h3⟩ | ⟨hno, _, _⟩
    · rw [(opens_sealed [120]).2.2.2, (opens_sealed [120]).2.1] at h2
      exact ⟨v, h1, h2, h3⟩
    · exact absurd (opens_sealed [120]).1 hno
  have hk2 := hk1.step hb2
  obtain ⟨a2, c2, hv2, hp2⟩ := Bytes.of_own hown2
  rw [hv2]
  have HP2 := Lib.hid hp2
  clear hown2 hv2 hp2 hb2 hk1
  go_wp2_with fail
  refine (sum_zero none 0 _).mono ?_
  rintro e w3 ⟨rfl, rfl⟩
  rw [sum_nil]
  go_wp2_with fail
  refine (sum_any (HB9.out w2) (by simp)).mono ?_
  rintro e w3 ⟨rfl, rfl⟩
  rw [shown_sum]
  have hk3 := hk2.alloc (.cells (cells [49, 50, 51, 52, 53, 54, 55, 56, 57]).toArray 5 (9, 10))
  have hkk := (Kept.start (Below.refl w2.heap.size w2)).alloc (.cells (cells [49, 50, 51, 52, 53, 54, 55, 56, 57]).toArray 5 (9, 10))
  have hp3 := HP2.out.kept hkk.below (Nat.le_refl _)
  generalize w2.alloc (.cells (cells [49, 50, 51, 52, 53, 54, 55, 56, 57]).toArray 5 (9, 10)) = w3 at hk3 hp3 ⊢
  have hcv : Sem.run Try.prog (convert 22 9 (.slice a2 1 c2)) w3 = .ok (.string (str [120])) w3 := run_str (P := Try.prog) Try.underlying22 Try.underlying5 hp3 9 Try.underlying9
  have hse := str_x
  clear hkk hp3
  go_wp2_with fail
  go_ret
  exact ⟨rfl, hk3.below⟩
end Go.Proofs.Ytlgegjmnodjioaa
