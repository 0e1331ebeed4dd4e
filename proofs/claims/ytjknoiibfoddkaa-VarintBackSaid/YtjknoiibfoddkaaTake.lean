/- varint.Take walked. -/
import Derived.Test.YtjknoiibfoddkaaPut
import Derived.Test.YtjknoiibfoddkaaTakeN
namespace Go.Proofs.Ytjknoiibfoddkaa
open Go.RowKit
def TakePost (l : List Nat) (w : World) (e : Ending) (w' : World) : Prop := e = .returned (.tuple #[.int .u64 ((takeN l).1 : Nat), .int .i64 ((takeN l).2.1 : Nat), .int .i64 ((takeN l).2.2 : Nat)]) ∧ w = w'
theorem take_is {l : List Nat} {a b c : Nat} {w : World} (h : takeN l = (a, b, c)) : TakePost l w (.returned (.tuple #[.int .u64 (a : Nat), .int .i64 (b : Nat), .int .i64 (c : Nat)])) w := by
  unfold TakePost; rw [h]; exact ⟨rfl, rfl⟩
theorem mod_big {c : Nat} (h : 128 ≤ c) (h2 : c < 256) : c % 128 = c - 128 := by omega
theorem mod_small {c : Nat} (h : c < 128) : c % 128 = c := by omega

set_option maxRecDepth 10000 in
set_option maxHeartbeats 2000000 in
theorem take_big (b off n0 cap : Nat) (l : List Nat) (w : World) (hbig : 10 < n0) (hl : l.length = 10) (hs : ∀ x ∈ l, x < 256) (hcap : n0 ≤ cap) (hcm : cap ≤ maxLen)
    (hc : ∀ i, i < 10 → w.cell? ⟨b, off + i, none⟩ = some (.int .u8 ((l.getD i 0 : Nat) : Int))) :
    Calls Try.prog 10 #[.slice (some ⟨b, off, none⟩) n0 cap] w (TakePost l w) := by
  unfold maxLen at hcm
  have HC := Lib.hid hc; have HS := Lib.hid hs; have HL := Lib.hid hl
  clear hc hs hl
  go_enter Try.func10, Try.ntmps10
  go_wp2_with fail
  go_loop [14, 2] (fun i x => ∃ (k X : Nat), k ≤ 10 ∧ i = .int .i64 k ∧ x = .int .u64 X ∧ Hid (∀ j, j < k → 128 ≤ l.getD j 0) ∧ Hid (k ≤ 9 → X = val (l.take k))) (fun i _ => 10 - (intOf i).toNat)
  case atStart => exact ⟨0, 0, by omega, rfl, rfl, fun j hj => by omega, fun _ => rfl⟩
  case round =>
    obtain ⟨k, X, hk, rfl, rfl, HG, HV⟩ := hrel
    by_cases hlt : k < 10
    · have hc1 := HC.out k hlt
      have hll : k < l.length := by rw [HL.out]; exact hlt
      have hsm : l.getD k 0 < 256 := HS.out _ (by simp [List.getD, hll])
      have hval := val_take_succ hll
      have hgood := fun (h : l.getD k 0 < 128) hb => takeN_good hll HG.out h hb
      have hbad := fun (h : l.getD k 0 < 128) hb => takeN_bad hll HG.out h hb
      have hgo : 128 ≤ l.getD k 0 → ∀ j, j < k + 1 → 128 ≤ l.getD j 0 := fun h j hj => by
        rcases Nat.lt_or_ge j k with h1 | h1
        · exact HG.out j h1
        · obtain rfl : j = k := by omega
          exact h
      have hlen : (l.take k).length = k := by rw [List.length_take]; omega
      have hvl := val_lt (l.take k)
      rw [hlen] at hvl
      generalize l.getD k 0 = c at hc1 hsm hval hgood hbad hgo
      have HVal := Lib.hid hval; have HGood := Lib.hid hgood; have HBad := Lib.hid hbad; have HGo := Lib.hid hgo; have HVL := Lib.hid hvl
      clear hval hgood hbad hgo hlen hvl hll
      by_cases h128 : 128 ≤ c
      · by_cases hk8 : k ≤ 8
        · have e1 : X = val (l.take k) := HV.out (by omega)
          have hst := or_step (X := X) (d := c - 128) (k := k) (by rw [e1]; exact HVL.out) (Or.inl ⟨hk8, by omega⟩)
          have ec : ((c - 128 : Nat) : Int) = (c : Int) - 128 := by omega
          rw [ec] at hst
          have HST := Lib.hid hst
          have hn : X + (c - 128) * 128 ^ k = val (l.take (k + 1)) := by rw [HVal.out, mod_big h128 hsm, e1]
          have HNX := Lib.hid hn
          clear hst ec hn e1
          go_wp2_with fail
          rw [HST.out, HNX.out]
          go_round
          case rel => exact ⟨k + 1, _, by omega, by go_num, rfl, HGo.out h128, fun _ => rfl⟩
          case measure => simp [intOf]; omega
        · obtain ⟨Z, hZ⟩ := or_some X (((c : Int) - 128) * 2 ^ (7 * k))
          have HZ := Lib.hid hZ
          clear hZ
          go_wp2_with fail
          rw [HZ.out]
          go_round
          case rel => exact ⟨k + 1, Z, by omega, by go_num, rfl, HGo.out h128, fun h => by omega⟩
          case measure => simp [intOf]; omega
      · have hclt : c < 128 := by omega
        by_cases hb : (0 < k ∧ c = 0) ∨ (k = 9 ∧ 1 < c)
        · have hT := take_is (w := w) (HBad.out hclt hb)
          have HT := Lib.hid hT; clear hT
          rcases hb with ⟨hk0, rfl⟩ | ⟨hk9, hc2⟩
          · have hk0' : (0 : Int) < k := by omega
            go_wp2_with fail
            go_ret3
            exact HT.out
          · have hc00 : ((c : Int) == 0) = false := by simp; omega
            have hk9' : ((k : Int) == 9) = true := by simp; omega
            have hk0' : (0 : Int) < k := by omega
            clear hk9
            have hc3 : (1 : Int) < c := by omega
            go_wp2_with fail
            go_ret3
            exact HT.out
        · have hkk : (k ≤ 8 ∧ c < 128) ∨ (k = 9 ∧ c ≤ 1) := by omega
          have e1 : X = val (l.take k) := HV.out (by omega)
          have hst := or_step (X := X) (d := c) (k := k) (by rw [e1]; exact HVL.out) hkk
          have hn : X + c * 128 ^ k = val (l.take (k + 1)) := by rw [HVal.out, mod_small hclt, e1]
          rw [hn] at hst
          have HST := Lib.hid hst
          have hT := take_is (w := w) (HGood.out hclt hb)
          have HT := Lib.hid hT
          clear hst hn hT e1
          by_cases hk0 : k = 0
          · have hk0' : (k : Int) ≤ 0 := by omega
            have hk9' : ((k : Int) == 9) = false := by simp; omega
            have hkd : decide (0 < k) = false := by simp; omega
            clear hk0
            go_wp2_with fail
            go_ret3
            show TakePost l w (.returned (.tuple #[.int .u64 (bits .or .u64 (X : Int) (IntKind.u64.wrap ((c : Int) * 2 ^ (7 * k)))), .int .i64 ((k : Int) + 1), .int .i64 0])) w
            rw [HST.out]
            exact HT.out
          · have hk0' : (0 : Int) < k := by omega
            have hc00 : ((c : Int) == 0) = false := by simp; omega
            by_cases hk9 : k = 9
            · have hk9' : ((k : Int) == 9) = true := by simp; omega
              have hc3 : (c : Int) ≤ 1 := by omega
              clear hk9 hk0
              go_wp2_with fail
              go_ret3
              show TakePost l w (.returned (.tuple #[.int .u64 (bits .or .u64 (X : Int) (IntKind.u64.wrap ((c : Int) * 2 ^ (7 * k)))), .int .i64 ((k : Int) + 1), .int .i64 0])) w
              rw [HST.out]
              exact HT.out
            · have hk9' : ((k : Int) == 9) = false := by simp; omega
              go_wp2_with fail
              go_ret3
              show TakePost l w (.returned (.tuple #[.int .u64 (bits .or .u64 (X : Int) (IntKind.u64.wrap ((c : Int) * 2 ^ (7 * k)))), .int .i64 ((k : Int) + 1), .int .i64 0])) w
              rw [HST.out]
              exact HT.out
    · have hkn : 10 = k := by omega
      have hno := takeN_none (l := l) (fun j hj => HG.out j (by rw [HL.out] at hj; omega))
      rw [HL.out] at hno
      have hT := take_is (w := w) hno
      have HT := Lib.hid hT
      clear hno hT HV HG hkn
      go_wp2_with fail
      go_ret3
      exact HT.out

set_option maxRecDepth 10000 in
set_option maxHeartbeats 2000000 in
theorem take_small (b off n cap : Nat) (l : List Nat) (w : World) (h10 : n ≤ 10) (hl : l.length = n) (hs : ∀ x ∈ l, x < 256) (hcap : n ≤ cap) (hcm : cap ≤ maxLen)
    (hc : ∀ i, i < n → w.cell? ⟨b, off + i, none⟩ = some (.int .u8 ((l.getD i 0 : Nat) : Int))) :
    Calls Try.prog 10 #[.slice (some ⟨b, off, none⟩) n cap] w (TakePost l w) := by
  unfold maxLen at hcm
  have HC := Lib.hid hc; have HS := Lib.hid hs; have HL := Lib.hid hl
  clear hc hs hl
  go_enter Try.func10, Try.ntmps10
  go_wp2_with fail
  go_loop [14, 2] (fun i x => ∃ (k X : Nat), k ≤ n ∧ i = .int .i64 k ∧ x = .int .u64 X ∧ Hid (∀ j, j < k → 128 ≤ l.getD j 0) ∧ Hid (k ≤ 9 → X = val (l.take k))) (fun i _ => n - (intOf i).toNat)
  case atStart => exact ⟨0, 0, by omega, rfl, rfl, fun j hj => by omega, fun _ => rfl⟩
  case round =>
    obtain ⟨k, X, hk, rfl, rfl, HG, HV⟩ := hrel
    by_cases hlt : k < n
    · have hc1 := HC.out k hlt
      have hll : k < l.length := by rw [HL.out]; exact hlt
      have hsm : l.getD k 0 < 256 := HS.out _ (by simp [List.getD, hll])
      have hval := val_take_succ hll
      have hgood := fun (h : l.getD k 0 < 128) hb => takeN_good hll HG.out h hb
      have hbad := fun (h : l.getD k 0 < 128) hb => takeN_bad hll HG.out h hb
      have hgo : 128 ≤ l.getD k 0 → ∀ j, j < k + 1 → 128 ≤ l.getD j 0 := fun h j hj => by
        rcases Nat.lt_or_ge j k with h1 | h1
        · exact HG.out j h1
        · obtain rfl : j = k := by omega
          exact h
      have hlen : (l.take k).length = k := by rw [List.length_take]; omega
      have hvl := val_lt (l.take k)
      rw [hlen] at hvl
      generalize l.getD k 0 = c at hc1 hsm hval hgood hbad hgo
      have HVal := Lib.hid hval; have HGood := Lib.hid hgood; have HBad := Lib.hid hbad; have HGo := Lib.hid hgo; have HVL := Lib.hid hvl
      clear hval hgood hbad hgo hlen hvl hll
      by_cases h128 : 128 ≤ c
      · by_cases hk8 : k ≤ 8
        · have e1 : X = val (l.take k) := HV.out (by omega)
          have hst := or_step (X := X) (d := c - 128) (k := k) (by rw [e1]; exact HVL.out) (Or.inl ⟨hk8, by omega⟩)
          have ec : ((c - 128 : Nat) : Int) = (c : Int) - 128 := by omega
          rw [ec] at hst
          have HST := Lib.hid hst
          have hn : X + (c - 128) * 128 ^ k = val (l.take (k + 1)) := by rw [HVal.out, mod_big h128 hsm, e1]
          have HNX := Lib.hid hn
          clear hst ec hn e1
          go_wp2_with fail
          rw [HST.out, HNX.out]
          go_round
          case rel => exact ⟨k + 1, _, by omega, by go_num, rfl, HGo.out h128, fun _ => rfl⟩
          case measure => simp [intOf]; omega
        · obtain ⟨Z, hZ⟩ := or_some X (((c : Int) - 128) * 2 ^ (7 * k))
          have HZ := Lib.hid hZ
          clear hZ
          go_wp2_with fail
          rw [HZ.out]
          go_round
          case rel => exact ⟨k + 1, Z, by omega, by go_num, rfl, HGo.out h128, fun h => by omega⟩
          case measure => simp [intOf]; omega
      · have hclt : c < 128 := by omega
        by_cases hb : (0 < k ∧ c = 0) ∨ (k = 9 ∧ 1 < c)
        · have hT := take_is (w := w) (HBad.out hclt hb)
          have HT := Lib.hid hT; clear hT
          rcases hb with ⟨hk0, rfl⟩ | ⟨hk9, hc2⟩
          · have hk0' : (0 : Int) < k := by omega
            go_wp2_with fail
            go_ret3
            exact HT.out
          · have hc00 : ((c : Int) == 0) = false := by simp; omega
            have hk9' : ((k : Int) == 9) = true := by simp; omega
            have hk0' : (0 : Int) < k := by omega
            clear hk9
            have hc3 : (1 : Int) < c := by omega
            go_wp2_with fail
            go_ret3
            exact HT.out
        · have hkk : (k ≤ 8 ∧ c < 128) ∨ (k = 9 ∧ c ≤ 1) := by omega
          have e1 : X = val (l.take k) := HV.out (by omega)
          have hst := or_step (X := X) (d := c) (k := k) (by rw [e1]; exact HVL.out) hkk
          have hn : X + c * 128 ^ k = val (l.take (k + 1)) := by rw [HVal.out, mod_small hclt, e1]
          rw [hn] at hst
          have HST := Lib.hid hst
          have hT := take_is (w := w) (HGood.out hclt hb)
          have HT := Lib.hid hT
          clear hst hn hT e1
          by_cases hk0 : k = 0
          · have hk0' : (k : Int) ≤ 0 := by omega
            have hk9' : ((k : Int) == 9) = false := by simp; omega
            have hkd : decide (0 < k) = false := by simp; omega
            clear hk0
            go_wp2_with fail
            go_ret3
            show TakePost l w (.returned (.tuple #[.int .u64 (bits .or .u64 (X : Int) (IntKind.u64.wrap ((c : Int) * 2 ^ (7 * k)))), .int .i64 ((k : Int) + 1), .int .i64 0])) w
            rw [HST.out]
            exact HT.out
          · have hk0' : (0 : Int) < k := by omega
            have hc00 : ((c : Int) == 0) = false := by simp; omega
            by_cases hk9 : k = 9
            · have hk9' : ((k : Int) == 9) = true := by simp; omega
              have hc3 : (c : Int) ≤ 1 := by omega
              clear hk9 hk0
              go_wp2_with fail
              go_ret3
              show TakePost l w (.returned (.tuple #[.int .u64 (bits .or .u64 (X : Int) (IntKind.u64.wrap ((c : Int) * 2 ^ (7 * k)))), .int .i64 ((k : Int) + 1), .int .i64 0])) w
              rw [HST.out]
              exact HT.out
            · have hk9' : ((k : Int) == 9) = false := by simp; omega
              go_wp2_with fail
              go_ret3
              show TakePost l w (.returned (.tuple #[.int .u64 (bits .or .u64 (X : Int) (IntKind.u64.wrap ((c : Int) * 2 ^ (7 * k)))), .int .i64 ((k : Int) + 1), .int .i64 0])) w
              rw [HST.out]
              exact HT.out
    · have hkn : n = k := by omega
      have hno := takeN_none (l := l) (fun j hj => HG.out j (by rw [HL.out] at hj; omega))
      rw [HL.out] at hno
      subst hkn
      by_cases h9 : n = 10
      · rw [if_pos h9] at hno
        have hT := take_is (w := w) hno
        have HT := Lib.hid hT
        have h9' : ((n : Int) == 10) = true := by simp; omega
        clear hno hT HV HG h9
        go_wp2_with fail
        go_ret3
        exact HT.out
      · rw [if_neg h9] at hno
        have hT := take_is (w := w) hno
        have HT := Lib.hid hT
        have h9' : ((n : Int) == 10) = false := by simp; omega
        clear hno hT HV HG h9
        go_wp2_with fail
        go_ret3
        exact HT.out
theorem take_zero (a : Option Addr) (cap : Nat) (w : World) : Calls Try.prog 10 #[.slice a 0 cap] w (TakePost [] w) := by
  go_enter Try.func10, Try.ntmps10
  go_wp2_with fail
  go_loop [14] (fun i => i = .int .i64 0) (fun _ => 0)
  case atStart => rfl
  case round =>
    subst hrel
    go_wp2_with fail
    go_ret3
    exact take_is (a := 0) (b := 0) (c := 2) (takeN_none (l := []) (fun j hj => by simp at hj))
theorem take_any {a : Option Addr} {n cap : Nat} {bs : List Nat} {w : World} (h : Bytes w a n cap bs) (hs : ∀ x ∈ bs, x < 256) :
    Calls Try.prog 10 #[.slice a n cap] w (TakePost (bs.take 10) w) := by
  have hl := h.len
  obtain ⟨h1, h2, ⟨rfl, rfl⟩ | ⟨b, off, rfl, h4, h5, h6⟩⟩ := h
  · exact take_zero a cap w
  · have hs' : ∀ x ∈ bs.take 10, x < 256 := fun x hx => hs x (List.mem_of_mem_take hx)
    rcases Nat.lt_or_ge 10 n with hb | hb
    · exact take_big b off n cap (bs.take 10) w hb (by rw [List.length_take]; omega) hs' h1 h2 (fun i hi => by rw [take_getD hi]; exact h6 i (by omega))
    · have e : bs.take 10 = bs := List.take_of_length_le (by omega)
      rw [e]
      exact take_small b off n cap bs w hb hl hs h1 h2 h6
end Go.Proofs.Ytjknoiibfoddkaa
