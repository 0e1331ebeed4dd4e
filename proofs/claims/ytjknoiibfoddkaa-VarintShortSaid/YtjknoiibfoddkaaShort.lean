/- kithlaw01.VarintShort walked: it returns true. -/
import Derived.Test.YtjknoiibfoddkaaAll
import Derived.Test.YtjknoiibfoddkaaPlain2
namespace Go.Proofs.Ytjknoiibfoddkaa
open Go.RowKit
theorem put_len_iff {n j : Nat} (h : 1 ≤ j) : 128 ^ j ≤ n ↔ j + 1 ≤ (putN n).length := by
  constructor
  · exact putN_len_ge j n
  · intro hl
    obtain ⟨i, rfl⟩ : ∃ i, j = i + 1 := ⟨j - 1, by omega⟩
    rcases Nat.lt_or_ge n (128 ^ (i + 1)) with h1 | h1
    · have := putN_len i n h1
      omega
    · exact h1
theorem shr_eq (n j : Nat) : (n : Int) / 2 ^ (7 * j) = ((n / 128 ^ j : Nat) : Int) := by rw [pow_128]; simp
theorem shr_pos {n j : Nat} (h : 128 ^ j ≤ n) : (0 : Int) < (n : Int) / 2 ^ (7 * j) := by
  rw [shr_eq]
  have : 0 < n / 128 ^ j := Nat.div_pos h (Nat.pow_pos (by omega))
  omega
theorem shr_zero {n j : Nat} (h : ¬ 128 ^ j ≤ n) : (n : Int) / 2 ^ (7 * j) ≤ 0 := by
  rw [shr_eq, Nat.div_eq_of_lt (by omega)]
  simp
theorem take_short {n i : Nat} (h : i < (putN n).length) (h10 : (putN n).length ≤ 10) : takeN (((putN n).take i).take 10) = (0, 0, 2) := by
  have e : ((putN n).take i).take 10 = (putN n).take i := List.take_of_length_le (by rw [List.length_take]; omega)
  rw [e, takeN_none (fun j hj => ?_)]
  · rw [if_neg (by rw [List.length_take]; omega)]
  · rw [List.length_take] at hj
    rw [put_getD_take (by omega)]
    exact put_goes n j (by omega)

set_option maxRecDepth 10000 in
set_option maxHeartbeats 1000000 in
theorem short_any (n : Nat) (w : World) (hn : n < 18446744073709551616) :
    Calls Try.prog 5 #[.int .u64 n] w fun e w' => e = .returned (.bool true) ∧ Below w.heap.size w w' := by
  obtain ⟨L, hL⟩ : ∃ L, L = (putN n).length := ⟨_, rfl⟩
  have hten := putN_ten hn
  have hpos := putN_pos n
  rw [← hL] at hten hpos
  have hsh := fun i (h : i < L) => take_short (n := n) (i := i) (by omega) (by omega)
  have hit := fun j (h : 1 ≤ j) => put_len_iff (n := n) h
  rw [← hL] at hit
  have hgo := put_goes n
  have hla := (put_last n).1
  rw [← hL] at hla
  have HGO := Lib.hid hgo; have HLA := Lib.hid hla; have HSH := Lib.hid hsh; have HIT := Lib.hid hit; have HL := Lib.hid hL
  clear hgo hla hsh hit hL
  go_enter Try.func5, Try.ntmps5
  go_wp2_with fail
  refine (shown_any _).mono ?_
  rintro e w1 ⟨rfl, hb1⟩
  have hk1 : Kept w.heap.size w w1 := Kept.start hb1
  clear hb1
  go_wp2_with fail
  refine (put_any n _ hn).mono ?_
  rintro e w2 ⟨v2, rfl, hown2, hb2⟩
  obtain ⟨a2, c2, hv2, hp2⟩ := Bytes.of_own hown2
  rw [hv2]
  have hk2 := hk1.step hb2
  rw [← HL.out]
  rw [← HL.out] at hp2
  clear hown2 hv2 hk1 hb2
  obtain ⟨b2, o2, rfl, hbl, hcell⟩ := hp2.pos (by omega)
  have hcap := hp2.1
  have HC := Lib.hid hcell; have HP := Lib.hid hp2
  clear hp2 hcell
  go_wp2_with fail
  go_loop [5, 6] (fun v i => ∃ j : Nat, 1 ≤ j ∧ j ≤ 10 ∧ i = .int .i64 j ∧ v = .int .i64 (min L j : Nat)) (fun _ i => 10 - (intOf i).toNat)
  case atStart => exact ⟨1, by omega, by omega, rfl, by rw [Nat.min_eq_right (by omega)]; rfl⟩
  case round =>
    obtain ⟨j, hj1, hj2, rfl, rfl⟩ := hrel
    by_cases hlt : j < 10
    · have hi := HIT.out j hj1
      by_cases hbig : 128 ^ j ≤ n
      · have hd := shr_pos hbig
        have hle := hi.1 hbig
        clear hi hbig
        go_wp2_with fail
        go_round
        case rel => exact ⟨j + 1, by omega, by omega, by go_num, by rw [Nat.min_eq_right hle]; go_num⟩
        case measure => simp [intOf]; omega
      · have hd := shr_zero hbig
        have hle : L ≤ j := by
          rcases Nat.lt_or_ge j L with h | h
          · exact absurd (hi.2 h) hbig
          · exact h
        clear hbig hi
        go_wp2_with fail
        go_round
        case rel => exact ⟨j + 1, by omega, by omega, by go_num, by rw [Nat.min_eq_left hle, Nat.min_eq_left (by omega)]⟩
        case measure => simp [intOf]; omega
    · have hmin : min L j = L := Nat.min_eq_left (by omega)
      rw [hmin]
      have hLL : ((L : Int) != L) = false := by simp
      clear hmin
      go_wp2_with fail
      go_loop [7] (fun i => ∃ q : Nat, q ≤ L ∧ i = .int .i64 q) (fun i => L - (intOf i).toNat)
      case atStart => exact ⟨0, Nat.zero_le _, rfl⟩
      case round =>
        obtain ⟨q, hq, rfl⟩ := hrel
        by_cases hqL : q < L
        · have hcu := HP.out.cut q hq
          have hsm : ∀ x ∈ (putN n).take q, x < 256 := fun x hx => putN_small n x (List.mem_of_mem_take hx)
          have hcq := HC.out q hqL
          have hS := HSH.out q hqL
          have hqc : q ≤ c2 := by omega
          have hge : q + 1 < L → 128 ≤ (putN n).getD q 0 := fun h => HGO.out q (by rw [← HL.out]; exact h)
          have hlt : q + 1 = L → (putN n).getD q 0 < 128 := fun h => by have h2 := HLA.out; rw [← h] at h2; simpa using h2
          generalize (putN n).getD q 0 = c at hcq hge hlt
          have HCU := Lib.hid hcu; have HSM := Lib.hid hsm; have HSS := Lib.hid hS
          clear hcu hsm hS
          by_cases hend : q + 1 < L
          · have h128 := hge hend
            have ht1 : (q : Int) < (L : Int) - 1 := by omega
            have ht2 : (128 : Int) ≤ c := by omega
            clear hge hlt
            go_wp2_with fail
            refine (take_any HCU.out HSM.out).mono ?_
            rintro e w3 hT
            unfold TakePost at hT
            rw [HSS.out] at hT
            obtain ⟨rfl, rfl⟩ := hT
            go_wp2_with fail
            go_round
            case rel => exact ⟨q + 1, by omega, by go_num⟩
            case measure => simp [intOf]; omega
          · have h128 := hlt (by omega)
            have ht1 : decide ((q : Int) < (L : Int) - 1) = false := by simp; omega
            have ht2 : decide ((128 : Int) ≤ c) = false := by simp; omega
            clear hge hlt
            go_wp2_with fail
            refine (take_any HCU.out HSM.out).mono ?_
            rintro e w3 hT
            unfold TakePost at hT
            rw [HSS.out] at hT
            obtain ⟨rfl, rfl⟩ := hT
            go_wp2_with fail
            go_round
            case rel => exact ⟨q + 1, by omega, by go_num⟩
            case measure => simp [intOf]; omega
        · have hqe : ¬ (q : Int) < L := by omega
          go_wp2_with fail
          go_ret
          exact ⟨rfl, hk2.below⟩
end Go.Proofs.Ytjknoiibfoddkaa
