/- crc.Sum and the reference's, walked. -/
import Derived.Test.YtlgegjmnodjioaaStep
namespace Go.Proofs.Ytlgegjmnodjioaa
open Go.RowKit
theorem not_u32 {x : Nat} (h : x < 4294967296) : bits .xor .u32 IntKind.u32.max (x : Int) = ((4294967295 - x : Nat) : Int) := by
  have h1 := u32_xor_nat 4294967295 x (by omega) h
  have h2 := ones_xor h
  rw [← h2] at h1
  exact h1
theorem sub_u32 {x : Nat} (h : x < 4294967296) : (4294967295 : Int) - (x : Int) = ((4294967295 - x : Nat) : Int) := by omega
theorem reg_next {l : List Nat} {q x : Nat} (h : q < l.length) : regN x (l.drop q) = regN (stepN x (l.getD q 0)) (l.drop (q + 1)) := by
  unfold regN
  rw [List.drop_eq_getElem_cons h, List.foldl_cons]
  simp only [List.getD, List.getElem?_eq_getElem h, Option.getD_some]
theorem getD_small {l : List Nat} (h : ∀ x ∈ l, x < 256) (q : Nat) : l.getD q 0 < 256 := by
  rcases Nat.lt_or_ge q l.length with hq | hq
  · simp only [List.getD, List.getElem?_eq_getElem hq, Option.getD_some]
    exact h _ (List.getElem_mem hq)
  · simp [List.getD, List.getElem?_eq_none hq]

set_option maxHeartbeats 1000000 in
theorem sum_some (b off n cap : Nat) (l : List Nat) (w : World) (hl : l.length = n) (hs : ∀ x ∈ l, x < 256) (hcap : n ≤ cap) (hcm : cap ≤ maxLen)
    (hc : ∀ i, i < n → w.cell? ⟨b, off + i, none⟩ = some (.int .u8 ((l.getD i 0 : Nat) : Int))) :
    Calls Try.prog 13 #[.slice (some ⟨b, off, none⟩) n cap] w fun e w' => e = .returned (.int .u32 (sumN l : Nat)) ∧ w = w' := by
  unfold maxLen at hcm
  obtain ⟨S, hS⟩ : ∃ S, S = regN ones l := ⟨_, rfl⟩
  have hSl : S < 4294967296 := by rw [hS]; exact reg_lt hs (by decide)
  have hsum : sumN l = 4294967295 - S := by rw [hS]; rfl
  rw [hsum]
  have HC := Lib.hid hc; have HS := Lib.hid hs; have HL := Lib.hid hl; have HR := Lib.hid hS.symm
  clear hc hs hl hS hsum
  go_enter Try.func13, Try.ntmps13
  go_wp2_with fail
  go_loop [3, 8] (fun v i => ∃ q x : Nat, q ≤ n ∧ i = .int .i64 q ∧ v = .int .u32 x ∧ x < 4294967296 ∧ Hid (regN x (l.drop q) = S)) (fun _ i => n - (intOf i).toNat)
  case atStart => exact ⟨0, 4294967295, by omega, rfl, rfl, by omega, HR⟩
  case round =>
    obtain ⟨q, x, hq, rfl, rfl, hxl, HX⟩ := hrel
    clear HR
    by_cases hqn : q < n
    · have hcq := HC.out q hqn
      have hcl := getD_small HS.out q
      have hn := reg_next (l := l) (q := q) (x := x) (by rw [HL.out]; exact hqn)
      rw [HX.out] at hn
      generalize l.getD q 0 = c at hcq hcl hn
      have hstl := step_lt hxl hcl
      have HN := Lib.hid hn.symm
      clear hn
      go_wp2_with fail
      refine (step_any x c w hxl hcl).mono ?_
      rintro e w' ⟨rfl, rfl⟩
      go_wp2_with fail
      go_round
      case rel => exact ⟨q + 1, _, by omega, by go_num, rfl, hstl, HN⟩
      case measure => simp [intOf]; omega
    · obtain rfl : n = q := by omega
      have hX : x = S := by
        have h := HX.out
        rw [← HL.out, List.drop_length] at h
        exact h
      subst hX
      have hno := not_u32 hxl
      go_wp2_with fail
      go_ret
      exact ⟨rfl, rfl⟩
theorem sum_zero (a : Option Addr) (cap : Nat) (w : World) : Calls Try.prog 13 #[.slice a 0 cap] w fun e w' => e = .returned (.int .u32 (sumN [] : Nat)) ∧ w = w' := by
  go_enter Try.func13, Try.ntmps13
  go_wp2_with fail
  go_loop [3, 8] (fun v i => i = .int .i64 0 ∧ v = .int .u32 4294967295) (fun _ _ => 0)
  case atStart => exact ⟨rfl, rfl⟩
  case round =>
    obtain ⟨rfl, rfl⟩ := hrel
    have hno := not_u32 (x := 4294967295) (by omega)
    go_wp2_with fail
    go_ret
    exact ⟨rfl, rfl⟩
theorem sum_any {a : Option Addr} {n cap : Nat} {bs : List Nat} {w : World} (h : Bytes w a n cap bs) (hs : ∀ x ∈ bs, x < 256) :
    Calls Try.prog 13 #[.slice a n cap] w fun e w' => e = .returned (.int .u32 (sumN bs : Nat)) ∧ w = w' := by
  obtain ⟨h1, h2, ⟨rfl, rfl⟩ | ⟨b, off, rfl, h4, h5, h6⟩⟩ := h
  · exact sum_zero a cap w
  · exact sum_some b off n cap bs w h5 hs h1 h2 h6

set_option maxHeartbeats 1000000 in
theorem rsum_some (b off n cap : Nat) (l : List Nat) (w : World) (hl : l.length = n) (hs : ∀ x ∈ l, x < 256) (hcap : n ≤ cap) (hcm : cap ≤ maxLen)
    (hc : ∀ i, i < n → w.cell? ⟨b, off + i, none⟩ = some (.int .u8 ((l.getD i 0 : Nat) : Int))) :
    Calls Try.prog 14 #[.slice (some ⟨b, off, none⟩) n cap] w fun e w' => e = .returned (.int .u32 (sumN l : Nat)) ∧ w = w' := by
  unfold maxLen at hcm
  obtain ⟨S, hS⟩ : ∃ S, S = regN ones l := ⟨_, rfl⟩
  have hSl : S < 4294967296 := by rw [hS]; exact reg_lt hs (by decide)
  have hsum : sumN l = 4294967295 - S := by rw [hS]; rfl
  rw [hsum]
  have HC := Lib.hid hc; have HS := Lib.hid hs; have HL := Lib.hid hl; have HR := Lib.hid hS.symm
  clear hc hs hl hS hsum
  go_enter Try.func14, Try.ntmps14
  go_wp2_with fail
  go_loop [3, 4] (fun v i => ∃ q x : Nat, q ≤ n ∧ i = .int .i64 q ∧ v = .int .u32 x ∧ x < 4294967296 ∧ Hid (regN x (l.drop q) = S)) (fun _ i => n - (intOf i).toNat)
  case atStart => exact ⟨0, 4294967295, by omega, rfl, rfl, by omega, HR⟩
  case round =>
    obtain ⟨q, x, hq, rfl, rfl, hxl, HX⟩ := hrel
    clear HR
    by_cases hqn : q < n
    · have hcq := HC.out q hqn
      have hcl := getD_small HS.out q
      have hn := reg_next (l := l) (q := q) (x := x) (by rw [HL.out]; exact hqn)
      rw [HX.out] at hn
      generalize l.getD q 0 = c at hcq hcl hn
      have hstl := step_lt hxl hcl
      have HN := Lib.hid hn.symm
      clear hn
      go_wp2_with fail
      refine (rstep_any x c w hxl hcl).mono ?_
      rintro e w' ⟨rfl, rfl⟩
      go_wp2_with fail
      go_round
      case rel => exact ⟨q + 1, _, by omega, by go_num, rfl, hstl, HN⟩
      case measure => simp [intOf]; omega
    · obtain rfl : n = q := by omega
      have hX : x = S := by
        have h := HX.out
        rw [← HL.out, List.drop_length] at h
        exact h
      subst hX
      have hno := sub_u32 hxl
      go_wp2_with fail
      go_ret
      exact ⟨rfl, rfl⟩
theorem rsum_zero (a : Option Addr) (cap : Nat) (w : World) : Calls Try.prog 14 #[.slice a 0 cap] w fun e w' => e = .returned (.int .u32 (sumN [] : Nat)) ∧ w = w' := by
  go_enter Try.func14, Try.ntmps14
  go_wp2_with fail
  go_loop [3, 4] (fun v i => i = .int .i64 0 ∧ v = .int .u32 4294967295) (fun _ _ => 0)
  case atStart => exact ⟨rfl, rfl⟩
  case round =>
    obtain ⟨rfl, rfl⟩ := hrel
    have hno := sub_u32 (x := 4294967295) (by omega)
    go_wp2_with fail
    go_ret
    exact ⟨rfl, rfl⟩
theorem rsum_any {a : Option Addr} {n cap : Nat} {bs : List Nat} {w : World} (h : Bytes w a n cap bs) (hs : ∀ x ∈ bs, x < 256) :
    Calls Try.prog 14 #[.slice a n cap] w fun e w' => e = .returned (.int .u32 (sumN bs : Nat)) ∧ w = w' := by
  obtain ⟨h1, h2, ⟨rfl, rfl⟩ | ⟨b, off, rfl, h4, h5, h6⟩⟩ := h
  · exact rsum_zero a cap w
  · exact rsum_some b off n cap bs w h5 hs h1 h2 h6
end Go.Proofs.Ytlgegjmnodjioaa
