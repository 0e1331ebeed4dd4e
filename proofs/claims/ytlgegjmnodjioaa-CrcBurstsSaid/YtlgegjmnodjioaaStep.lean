/- crc.Step and the reference's, walked. -/
import Derived.Test.YtlgegjmnodjioaaBytes
import Derived.Laws.BitsAllLaws
import Derived.Laws.Bits64
namespace Go.Proofs.Ytlgegjmnodjioaa
open Go.RowKit
theorem and_one_u32 {x : Nat} (h : x < 4294967296) : bits .and .u32 (x : Int) 1 = ((x % 2 : Nat) : Int) := by
  have h1 := u32_and_nat x 1 h (by omega)
  rw [Nat.and_one_is_mod] at h1
  simpa using h1
theorem half_odd {x : Nat} (h : x < 4294967296) (h1 : x % 2 = 1) : bits .xor .u32 ((x : Int) / 2) 3988292384 = ((bit x : Nat) : Int) := by
  have h2 := u32_xor_nat (x / 2) 3988292384 (by omega) (by omega)
  unfold bit
  rw [if_pos h1, ← h2]
  simp
theorem half_even {x : Nat} (h1 : x % 2 = 0) : ((x : Int) / 2) = ((bit x : Nat) : Int) := by
  unfold bit
  rw [if_neg (by omega)]
  simp
theorem xor_byte {r c : Nat} (hr : r < 4294967296) (hc : c < 256) : bits .xor .u32 (r : Int) (c : Int) = ((r ^^^ c : Nat) : Int) := u32_xor_nat r c hr (by omega)
theorem run_next {x k : Nat} (h : k < 8) : run (8 - k) x = run (8 - (k + 1)) (bit x) := by
  rw [show 8 - k = (8 - (k + 1)) + 1 by omega]
  rfl

set_option maxHeartbeats 1000000 in
theorem step_any (r c : Nat) (w : World) (hr : r < 4294967296) (hc : c < 256) :
    Calls Try.prog 15 #[.int .u32 r, .int .u8 c] w fun e w' => e = .returned (.int .u32 (stepN r c : Nat)) ∧ w = w' := by
  have hx := xor_byte hr hc
  have hlt : r ^^^ c < 4294967296 := xor_lt hr (by omega)
  have hS : run 8 (r ^^^ c) = stepN r c := rfl
  generalize stepN r c = S at hS ⊢
  generalize r ^^^ c = x0 at hx hlt hS
  have HS := Lib.hid hS; clear hS
  go_enter Try.func15, Try.ntmps15
  go_wp2_with fail
  go_loop [0, 9] (fun v i => ∃ k x : Nat, k ≤ 8 ∧ i = .int .i64 k ∧ v = .int .u32 x ∧ x < 4294967296 ∧ Hid (run (8 - k) x = S)) (fun _ i => 8 - (intOf i).toNat)
  case atStart => exact ⟨0, x0, by omega, rfl, rfl, hlt, HS⟩
  case round =>
    obtain ⟨k, x, hk, rfl, rfl, hxl, HR⟩ := hrel
    clear hx
    by_cases hk8 : k < 8
    · have hn := run_next (x := x) hk8
      rw [HR.out] at hn
      have hbl := bit_lt hxl
      have HN := Lib.hid hn.symm
      clear hn
      have ha := and_one_u32 hxl
      rcases Nat.mod_two_eq_zero_or_one x with h2 | h2
      · have he := half_even h2
        rw [h2] at ha
        clear h2
        go_wp2_with fail
        go_round
        case rel => exact ⟨k + 1, bit x, by omega, by go_num, rfl, hbl, HN⟩
        case measure => simp [intOf]; omega
      · have he := half_odd hxl h2
        rw [h2] at ha
        clear h2
        go_wp2_with fail
        go_round
        case rel => exact ⟨k + 1, bit x, by omega, by go_num, rfl, hbl, HN⟩
        case measure => simp [intOf]; omega
    · obtain rfl : k = 8 := by omega
      have hR : x = S := HR.out
      subst hR
      go_wp2_with fail
      go_ret
      exact ⟨rfl, rfl⟩
theorem half_odd' {x : Nat} (h : x < 4294967296) (h1 : x % 2 = 1) : ∃ y : Nat, (x : Int) / 2 = (y : Int) ∧ y < 4294967296 ∧ bits .xor .u32 (y : Int) 3988292384 = ((bit x : Nat) : Int) := by
  refine ⟨x / 2, by simp, by omega, ?_⟩
  rw [← half_odd h h1]
  simp

set_option maxHeartbeats 1000000 in
theorem rstep_any (r c : Nat) (w : World) (hr : r < 4294967296) (hc : c < 256) :
    Calls Try.prog 16 #[.int .u32 r, .int .u8 c] w fun e w' => e = .returned (.int .u32 (stepN r c : Nat)) ∧ w = w' := by
  have hx := xor_byte hr hc
  have hlt : r ^^^ c < 4294967296 := xor_lt hr (by omega)
  have hS : run 8 (r ^^^ c) = stepN r c := rfl
  generalize stepN r c = S at hS ⊢
  generalize r ^^^ c = x0 at hx hlt hS
  have HS := Lib.hid hS; clear hS
  go_enter Try.func16, Try.ntmps16
  go_wp2_with fail
  go_loop [0, 5] (fun v i => ∃ k x : Nat, k ≤ 8 ∧ i = .int .i64 k ∧ v = .int .u32 x ∧ x < 4294967296 ∧ Hid (run (8 - k) x = S)) (fun _ i => 8 - (intOf i).toNat)
  case atStart => exact ⟨0, x0, by omega, rfl, rfl, hlt, HS⟩
  case round =>
    obtain ⟨k, x, hk, rfl, rfl, hxl, HR⟩ := hrel
    clear hx
    by_cases hk8 : k < 8
    · have hn := run_next (x := x) hk8
      rw [HR.out] at hn
      have hbl := bit_lt hxl
      have HN := Lib.hid hn.symm
      clear hn
      rcases Nat.mod_two_eq_zero_or_one x with h2 | h2
      · have he := half_even h2
        have ha : (x : Int) % 2 = 0 := by omega
        clear h2
        go_wp2_with fail
        go_round
        case rel => exact ⟨k + 1, bit x, by omega, by go_num, rfl, hbl, HN⟩
        case measure => simp [intOf]; omega
      · have he := half_odd hxl h2
        have ha : (x : Int) % 2 = 1 := by omega
        clear h2
        go_wp2_with fail
        go_round
        case rel => exact ⟨k + 1, bit x, by omega, by go_num, rfl, hbl, HN⟩
        case measure => simp [intOf]; omega
    · obtain rfl : k = 8 := by omega
      have hR : x = S := HR.out
      subst hR
      go_wp2_with fail
      go_ret
      exact ⟨rfl, rfl⟩
end Go.Proofs.Ytlgegjmnodjioaa
