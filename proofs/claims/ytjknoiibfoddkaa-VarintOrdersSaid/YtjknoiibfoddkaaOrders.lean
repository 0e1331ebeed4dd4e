/- kithlaw01.VarintOrders walked: it returns true. -/
import Derived.Test.YtjknoiibfoddkaaAll
import Derived.Test.YtjknoiibfoddkaaPlain2
namespace Go.Proofs.Ytjknoiibfoddkaa
open Go.RowKit
set_option maxRecDepth 10000 in
set_option maxHeartbeats 1000000 in
theorem orders_l_one (x y lp lq : Nat) (bq : List Nat) (w : World) (hlo : x < 18446744073709551616) (hhi : y < 18446744073709551616) (hle : x < y) (hlp : (putN x).length = lp) (hlq : (putN y).length = lq) (hbq : putN y = bq)
    (_h1 : 1 ≤ lp) (_h2 : lp ≤ lq) (_h3 : lq ≤ 10) (h4 : lq = 1) :
    Calls Try.prog 7 #[.int .u64 x, .int .u64 y] w fun e w' => e = .returned (.bool true) ∧ Below w.heap.size w w' := by
  have h1' : (1 : Int) ≤ lp := by omega
  have h2' : (lp : Int) ≤ lq := by omega
  have h3' : (lq : Int) ≤ 10 := by omega
  have HLP := Lib.hid hlp; have HLQ := Lib.hid hlq; have HBQ := Lib.hid hbq
  clear hlp hlq hbq
  have hl1 : ((lq : Int) == 1) = true := by simp; omega
  clear h4
  go_enter Try.func7, Try.ntmps7
  go_wp2_with fail
  refine (shown_any _).mono ?_
  rintro e w1 ⟨rfl, hb1⟩
  have hk1 : Kept w.heap.size w w1 := Kept.start hb1
  clear hb1
  go_wp2_with fail
  refine (put_any x _ hlo).mono ?_
  rintro e w2 ⟨v2, rfl, hown2, hb2⟩
  obtain ⟨a2, c2, hv2, hp2⟩ := Bytes.of_own hown2
  rw [hv2]
  have hk2 := hk1.step hb2
  rw [HLP.out]
  clear hown2 hv2 hp2 hk1
  go_wp2_with fail
  refine (put_any y _ hhi).mono ?_
  rintro e w3 ⟨v3, rfl, hown3, hb3⟩
  obtain ⟨a3, c3, hv3, hp3⟩ := Bytes.of_own hown3
  rw [hv3]
  have hk3 := hk2.step hb3
  rw [HLQ.out]
  rw [HLQ.out, HBQ.out] at hp3
  clear hown3 hv3 hk2 hb2 hb3
  clear hp3
  go_wp2_with fail
  go_ret
  exact ⟨rfl, hk3.below⟩

set_option maxRecDepth 10000 in
set_option maxHeartbeats 1000000 in
theorem orders_l_many (x y lp lq : Nat) (bq : List Nat) (w : World) (hlo : x < 18446744073709551616) (hhi : y < 18446744073709551616) (hle : x < y) (hlp : (putN x).length = lp) (hlq : (putN y).length = lq) (hbq : putN y = bq)
    (_h1 : 1 ≤ lp) (_h2 : lp ≤ lq) (_h3 : lq ≤ 10) (h4 : 1 < lq) (h5 : bq.getD (lq - 1) 0 ≠ 0) :
    Calls Try.prog 7 #[.int .u64 x, .int .u64 y] w fun e w' => e = .returned (.bool true) ∧ Below w.heap.size w w' := by
  have h1' : (1 : Int) ≤ lp := by omega
  have h2' : (lp : Int) ≤ lq := by omega
  have h3' : (lq : Int) ≤ 10 := by omega
  have HLP := Lib.hid hlp; have HLQ := Lib.hid hlq; have HBQ := Lib.hid hbq
  clear hlp hlq hbq
  have hl1 : ((lq : Int) == 1) = false := by simp; omega
  have hl2 : lq - 1 < lq := by omega
  go_enter Try.func7, Try.ntmps7
  go_wp2_with fail
  refine (shown_any _).mono ?_
  rintro e w1 ⟨rfl, hb1⟩
  have hk1 : Kept w.heap.size w w1 := Kept.start hb1
  clear hb1
  go_wp2_with fail
  refine (put_any x _ hlo).mono ?_
  rintro e w2 ⟨v2, rfl, hown2, hb2⟩
  obtain ⟨a2, c2, hv2, hp2⟩ := Bytes.of_own hown2
  rw [hv2]
  have hk2 := hk1.step hb2
  rw [HLP.out]
  clear hown2 hv2 hp2 hk1
  go_wp2_with fail
  refine (put_any y _ hhi).mono ?_
  rintro e w3 ⟨v3, rfl, hown3, hb3⟩
  obtain ⟨a3, c3, hv3, hp3⟩ := Bytes.of_own hown3
  rw [hv3]
  have hk3 := hk2.step hb3
  rw [HLQ.out]
  rw [HLQ.out, HBQ.out] at hp3
  clear hown3 hv3 hk2 hb2 hb3
  obtain ⟨b3, o3, rfl, hbl, hcell⟩ := hp3.pos (by omega)
  have hc := hcell (lq - 1) hl2
  have hidx : ((lq : Int) - 1).toNat = lq - 1 := by omega
  have hw1 : IntKind.i64.wrap ((lq : Int) - 1) = (lq : Int) - 1 := IntWalk.i64_in _ (by omega)
  have hi0 : (0 : Int) ≤ (lq : Int) - 1 := by omega
  generalize bq.getD (lq - 1) 0 = z at hc h5
  have hne : ((z : Int) != 0) = true := by simp; omega
  clear hp3 hcell
  go_wp2_with fail
  go_ret
  exact ⟨rfl, hk3.below⟩

set_option maxRecDepth 10000 in
set_option maxHeartbeats 1000000 in
theorem orders_r_one (x y lp lq : Nat) (bq : List Nat) (w : World) (hlo : y < 18446744073709551616) (hhi : x < 18446744073709551616) (hle : y < x) (hlp : (putN y).length = lp) (hlq : (putN x).length = lq) (hbq : putN x = bq)
    (_h1 : 1 ≤ lp) (_h2 : lp ≤ lq) (_h3 : lq ≤ 10) (h4 : lq = 1) :
    Calls Try.prog 7 #[.int .u64 x, .int .u64 y] w fun e w' => e = .returned (.bool true) ∧ Below w.heap.size w w' := by
  have h1' : (1 : Int) ≤ lp := by omega
  have h2' : (lp : Int) ≤ lq := by omega
  have h3' : (lq : Int) ≤ 10 := by omega
  have HLP := Lib.hid hlp; have HLQ := Lib.hid hlq; have HBQ := Lib.hid hbq
  clear hlp hlq hbq
  have hl1 : ((lq : Int) == 1) = true := by simp; omega
  clear h4
  go_enter Try.func7, Try.ntmps7
  go_wp2_with fail
  refine (shown_any _).mono ?_
  rintro e w1 ⟨rfl, hb1⟩
  have hk1 : Kept w.heap.size w w1 := Kept.start hb1
  clear hb1
  go_wp2_with fail
  refine (put_any y _ hlo).mono ?_
  rintro e w2 ⟨v2, rfl, hown2, hb2⟩
  obtain ⟨a2, c2, hv2, hp2⟩ := Bytes.of_own hown2
  rw [hv2]
  have hk2 := hk1.step hb2
  rw [HLP.out]
  clear hown2 hv2 hp2 hk1
  go_wp2_with fail
  refine (put_any x _ hhi).mono ?_
  rintro e w3 ⟨v3, rfl, hown3, hb3⟩
  obtain ⟨a3, c3, hv3, hp3⟩ := Bytes.of_own hown3
  rw [hv3]
  have hk3 := hk2.step hb3
  rw [HLQ.out]
  rw [HLQ.out, HBQ.out] at hp3
  clear hown3 hv3 hk2 hb2 hb3
  clear hp3
  go_wp2_with fail
  go_ret
  exact ⟨rfl, hk3.below⟩

set_option maxRecDepth 10000 in
set_option maxHeartbeats 1000000 in
theorem orders_r_many (x y lp lq : Nat) (bq : List Nat) (w : World) (hlo : y < 18446744073709551616) (hhi : x < 18446744073709551616) (hle : y < x) (hlp : (putN y).length = lp) (hlq : (putN x).length = lq) (hbq : putN x = bq)
    (_h1 : 1 ≤ lp) (_h2 : lp ≤ lq) (_h3 : lq ≤ 10) (h4 : 1 < lq) (h5 : bq.getD (lq - 1) 0 ≠ 0) :
    Calls Try.prog 7 #[.int .u64 x, .int .u64 y] w fun e w' => e = .returned (.bool true) ∧ Below w.heap.size w w' := by
  have h1' : (1 : Int) ≤ lp := by omega
  have h2' : (lp : Int) ≤ lq := by omega
  have h3' : (lq : Int) ≤ 10 := by omega
  have HLP := Lib.hid hlp; have HLQ := Lib.hid hlq; have HBQ := Lib.hid hbq
  clear hlp hlq hbq
  have hl1 : ((lq : Int) == 1) = false := by simp; omega
  have hl2 : lq - 1 < lq := by omega
  go_enter Try.func7, Try.ntmps7
  go_wp2_with fail
  refine (shown_any _).mono ?_
  rintro e w1 ⟨rfl, hb1⟩
  have hk1 : Kept w.heap.size w w1 := Kept.start hb1
  clear hb1
  go_wp2_with fail
  refine (put_any y _ hlo).mono ?_
  rintro e w2 ⟨v2, rfl, hown2, hb2⟩
  obtain ⟨a2, c2, hv2, hp2⟩ := Bytes.of_own hown2
  rw [hv2]
  have hk2 := hk1.step hb2
  rw [HLP.out]
  clear hown2 hv2 hp2 hk1
  go_wp2_with fail
  refine (put_any x _ hhi).mono ?_
  rintro e w3 ⟨v3, rfl, hown3, hb3⟩
  obtain ⟨a3, c3, hv3, hp3⟩ := Bytes.of_own hown3
  rw [hv3]
  have hk3 := hk2.step hb3
  rw [HLQ.out]
  rw [HLQ.out, HBQ.out] at hp3
  clear hown3 hv3 hk2 hb2 hb3
  obtain ⟨b3, o3, rfl, hbl, hcell⟩ := hp3.pos (by omega)
  have hc := hcell (lq - 1) hl2
  have hidx : ((lq : Int) - 1).toNat = lq - 1 := by omega
  have hw1 : IntKind.i64.wrap ((lq : Int) - 1) = (lq : Int) - 1 := IntWalk.i64_in _ (by omega)
  have hi0 : (0 : Int) ≤ (lq : Int) - 1 := by omega
  generalize bq.getD (lq - 1) 0 = z at hc h5
  have hne : ((z : Int) != 0) = true := by simp; omega
  clear hp3 hcell
  go_wp2_with fail
  go_ret
  exact ⟨rfl, hk3.below⟩

set_option maxRecDepth 10000 in
set_option maxHeartbeats 1000000 in
theorem orders_e_one (x lp lq : Nat) (bq : List Nat) (w : World) (hhi : x < 18446744073709551616)  (hlp : (putN x).length = lp) (hlq : (putN x).length = lq) (hbq : putN x = bq)
    (_h1 : 1 ≤ lp) (_h2 : lp ≤ lq) (_h3 : lq ≤ 10) (h4 : lq = 1) :
    Calls Try.prog 7 #[.int .u64 x, .int .u64 x] w fun e w' => e = .returned (.bool true) ∧ Below w.heap.size w w' := by
  have h1' : (1 : Int) ≤ lp := by omega
  have h2' : (lp : Int) ≤ lq := by omega
  have h3' : (lq : Int) ≤ 10 := by omega
  have HLP := Lib.hid hlp; have HLQ := Lib.hid hlq; have HBQ := Lib.hid hbq
  clear hlp hlq hbq
  have hl1 : ((lq : Int) == 1) = true := by simp; omega
  clear h4
  go_enter Try.func7, Try.ntmps7
  go_wp2_with fail
  refine (shown_any _).mono ?_
  rintro e w1 ⟨rfl, hb1⟩
  have hk1 : Kept w.heap.size w w1 := Kept.start hb1
  clear hb1
  go_wp2_with fail
  refine (put_any x _ hhi).mono ?_
  rintro e w2 ⟨v2, rfl, hown2, hb2⟩
  obtain ⟨a2, c2, hv2, hp2⟩ := Bytes.of_own hown2
  rw [hv2]
  have hk2 := hk1.step hb2
  rw [HLP.out]
  clear hown2 hv2 hp2 hk1
  go_wp2_with fail
  refine (put_any x _ hhi).mono ?_
  rintro e w3 ⟨v3, rfl, hown3, hb3⟩
  obtain ⟨a3, c3, hv3, hp3⟩ := Bytes.of_own hown3
  rw [hv3]
  have hk3 := hk2.step hb3
  rw [HLQ.out]
  rw [HLQ.out, HBQ.out] at hp3
  clear hown3 hv3 hk2 hb2 hb3
  clear hp3
  go_wp2_with fail
  go_ret
  exact ⟨rfl, hk3.below⟩

set_option maxRecDepth 10000 in
set_option maxHeartbeats 1000000 in
theorem orders_e_many (x lp lq : Nat) (bq : List Nat) (w : World) (hhi : x < 18446744073709551616)  (hlp : (putN x).length = lp) (hlq : (putN x).length = lq) (hbq : putN x = bq)
    (_h1 : 1 ≤ lp) (_h2 : lp ≤ lq) (_h3 : lq ≤ 10) (h4 : 1 < lq) (h5 : bq.getD (lq - 1) 0 ≠ 0) :
    Calls Try.prog 7 #[.int .u64 x, .int .u64 x] w fun e w' => e = .returned (.bool true) ∧ Below w.heap.size w w' := by
  have h1' : (1 : Int) ≤ lp := by omega
  have h2' : (lp : Int) ≤ lq := by omega
  have h3' : (lq : Int) ≤ 10 := by omega
  have HLP := Lib.hid hlp; have HLQ := Lib.hid hlq; have HBQ := Lib.hid hbq
  clear hlp hlq hbq
  have hl1 : ((lq : Int) == 1) = false := by simp; omega
  have hl2 : lq - 1 < lq := by omega
  go_enter Try.func7, Try.ntmps7
  go_wp2_with fail
  refine (shown_any _).mono ?_
  rintro e w1 ⟨rfl, hb1⟩
  have hk1 : Kept w.heap.size w w1 := Kept.start hb1
  clear hb1
  go_wp2_with fail
  refine (put_any x _ hhi).mono ?_
  rintro e w2 ⟨v2, rfl, hown2, hb2⟩
  obtain ⟨a2, c2, hv2, hp2⟩ := Bytes.of_own hown2
  rw [hv2]
  have hk2 := hk1.step hb2
  rw [HLP.out]
  clear hown2 hv2 hp2 hk1
  go_wp2_with fail
  refine (put_any x _ hhi).mono ?_
  rintro e w3 ⟨v3, rfl, hown3, hb3⟩
  obtain ⟨a3, c3, hv3, hp3⟩ := Bytes.of_own hown3
  rw [hv3]
  have hk3 := hk2.step hb3
  rw [HLQ.out]
  rw [HLQ.out, HBQ.out] at hp3
  clear hown3 hv3 hk2 hb2 hb3
  obtain ⟨b3, o3, rfl, hbl, hcell⟩ := hp3.pos (by omega)
  have hc := hcell (lq - 1) hl2
  have hidx : ((lq : Int) - 1).toNat = lq - 1 := by omega
  have hw1 : IntKind.i64.wrap ((lq : Int) - 1) = (lq : Int) - 1 := IntWalk.i64_in _ (by omega)
  have hi0 : (0 : Int) ≤ (lq : Int) - 1 := by omega
  generalize bq.getD (lq - 1) 0 = z at hc h5
  have hne : ((z : Int) != 0) = true := by simp; omega
  clear hp3 hcell
  go_wp2_with fail
  go_ret
  exact ⟨rfl, hk3.below⟩

theorem orders_any (x y : Nat) (w : World) (hx : x < 18446744073709551616) (hy : y < 18446744073709551616) :
    Calls Try.prog 7 #[.int .u64 x, .int .u64 y] w fun e w' => e = .returned (.bool true) ∧ Below w.heap.size w w' := by
  rcases Nat.lt_trichotomy x y with h | h | h
  · have h1 := putN_pos x
    have h2 := put_mono x y (by omega)
    have h3 := putN_ten hy
    have h4 := (put_last y).2
    by_cases h5 : (putN y).length = 1
    · exact orders_l_one x y _ _ _ w hx hy h rfl rfl rfl h1 h2 h3 h5
    · exact orders_l_many x y _ _ _ w hx hy h rfl rfl rfl h1 h2 h3 (by omega) (h4 (by omega))
  · subst h
    have h1 := putN_pos x
    have h3 := putN_ten hx
    have h4 := (put_last x).2
    by_cases h5 : (putN x).length = 1
    · exact orders_e_one x _ _ _ w hx rfl rfl rfl h1 (Nat.le_refl _) h3 h5
    · exact orders_e_many x _ _ _ w hx rfl rfl rfl h1 (Nat.le_refl _) h3 (by omega) (h4 (by omega))
  · have h1 := putN_pos y
    have h2 := put_mono y x (by omega)
    have h3 := putN_ten hx
    have h4 := (put_last x).2
    by_cases h5 : (putN x).length = 1
    · exact orders_r_one x y _ _ _ w hy hx h rfl rfl rfl h1 h2 h3 h5
    · exact orders_r_many x y _ _ _ w hy hx h rfl rfl rfl h1 h2 h3 (by omega) (h4 (by omega))
end Go.Proofs.Ytjknoiibfoddkaa
