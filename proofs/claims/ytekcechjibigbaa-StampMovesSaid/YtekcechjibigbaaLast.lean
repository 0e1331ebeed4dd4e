/- stamp.Last walked. -/
import Derived.Test.YtekcechjibigbaaLess
import Derived.Test.YtekcechjibigbaaWords
namespace Go.Proofs.Ytekcechjibigbaa
open Go.RowKit

/-- what a slice of stamps reads as -/
def Stamps (w : World) (b off n : Nat) (xs : List (Int × Int)) : Prop :=
  b < w.heap.size ∧ xs.length = n ∧ ∀ i, i < n → w.cell? ⟨b, off + i * 2, none⟩ = some (.int .i64 (xs.getD i (0, 0)).1) ∧ w.cell? ⟨b, off + i * 2 + 1, none⟩ = some (.int .i64 (xs.getD i (0, 0)).2)

def LastPost (xs : List (Int × Int)) (w : World) (e : Ending) (w' : World) : Prop := ∃ k : Nat, e = .returned (.int .i64 k) ∧ IsLast xs k ∧ Below w.heap.size w w'

set_option maxHeartbeats 400000 in
theorem last_some (b off n cap : Nat) (xs : List (Int × Int)) (w : World) (hn0 : 0 < n) (hn : n ≤ 100) (hx : Stamps w b off n xs) :
    Calls Try.prog 11 #[.slice (some ⟨b, off, none⟩) n cap] w (LastPost xs w) := by
  obtain ⟨hb, hl, hc⟩ := hx
  have hl' := Lib.hid hl
  obtain ⟨c00, c01⟩ := hc 0 hn0
  have hz : ((n : Int) == 0) = false := by simp; omega
  have hz2 : (0 : Int) < n := by omega
  have hA0 := accV_zero xs
  have hAS := accV_succ xs
  generalize hx0 : xs.getD 0 (0, 0) = x0 at c00 c01 hA0
  obtain ⟨x0a, x0b⟩ := x0
  have HX0 := Lib.hid hA0; clear hx0 hA0
  have HC := Lib.hid hc; clear hc
  have HS := Lib.hid hAS; clear hAS hl
  simp only [Nat.zero_mul, Nat.add_zero] at c00 c01
  go_enter Try.func11, Try.ntmps11
  go_wp2_with fail
  go_loopw [16] (fun i wr => ∃ (k : Nat) (ma mb : Int), k ≤ n ∧ i = .int .i64 k ∧ Hid (accV xs k = (ma, mb)) ∧ Blk wr w.heap.size 23 #[.int .i64 ma, .int .i64 mb] ∧ Below w.heap.size w wr) (fun i _ => n - (intOf i).toNat)
  case atStart => exact ⟨0, x0a, x0b, Nat.zero_le _, rfl, HX0, Blk.new _ _ _, (Below.refl _ _).alloc (Nat.le_refl _) _⟩
  case round =>
    obtain ⟨k, ma, mb, hk, rfl, HM, hB, hbel⟩ := hrel
    have hB0 := hB.cell 0; have hB1 := hB.cell 1; have hBf := hB.frozen 0; have hBf1 := hB.frozen 1; have hBl := hB.lt
    simp at hB0 hB1
    by_cases hlt : k < n
    · obtain ⟨d0, d1⟩ := HC.out k hlt
      rw [← hbel.cell (p := ⟨b, off + k * 2, none⟩) hb] at d0
      rw [← hbel.cell (p := ⟨b, off + k * 2 + 1, none⟩) hb] at d1
      have hS := HS.out k (by rw [hl'.out]; exact hlt)
      rw [HM.out] at hS
      generalize hxk : xs.getD k (0, 0) = xk at d0 d1 hS
      obtain ⟨xa, xb⟩ := xk
      simp only [] at d0 d1
      have HSk := Lib.hid hS; clear hS hxk
      go_wp2_with fail
      refine (less_any ma mb xa xb _).mono ?_
      rintro e w1 ⟨rfl, hb1⟩
      obtain ⟨hcc, hff⟩ := bcell hb1
      have hsz := hb1.size
      simp at hsz
      have hBk : Blk w1 w.heap.size 23 #[.int .i64 ma, .int .i64 mb] := Blk.below (hB.alloc _) hb1 (by simp; omega)
      have hbel1 : Below w.heap.size w w1 := (hbel.alloc (by omega) _).trans (hb1.mono (by simp; omega))
      cases hL : lessB (ma, mb) (xa, xb)
      · go_wp2_with fail
        go_roundw
        case rel => exact ⟨k + 1, ma, mb, by omega, by go_num, by rw [HSk.out]; simp [Hid, mx, hL], hBk, hbel1⟩
        case measure => simp [intOf]; omega
      · go_wp2_with fail
        go_roundw
        case rel => exact ⟨k + 1, xa, xb, by omega, by go_num, by rw [HSk.out]; simp [Hid, mx, hL], by have := (hBk.set_ 0 (.int .i64 xa)).set_ 1 (.int .i64 xb); simpa using this, (hbel1.setCell (Nat.le_refl _) _).setCell (Nat.le_refl _) _⟩
        case measure => simp [intOf]; omega
    · obtain rfl : n = k := by omega
      go_wp2_with fail
      have hlx := hl'.out
      have hmem := accV_mem xs (by omega) n (by omega)
      have htop := accV_top xs n (by omega)
      rw [HM.out] at hmem htop
      have HMem := Lib.hid hmem; have HTop := Lib.hid htop; clear hmem htop
      have HL := Lib.hid hlx; clear hlx
      go_loopw [27] (fun i wr2 => ∃ (k : Nat), k ≤ n ∧ i = .int .i64 k ∧ (∀ j, j < k → xs.getD j (0, 0) ≠ (ma, mb)) ∧ Blk wr2 w.heap.size 23 #[.int .i64 ma, .int .i64 mb] ∧ Below w.heap.size w wr2) (fun i _ => n - (intOf i).toNat)
      case atStart => exact ⟨0, Nat.zero_le _, rfl, fun j hj => by omega, hB, hbel⟩
      case round =>
        clear hB hbel hB0 hB1 hBf hBf1 hBl
        obtain ⟨k, hk, rfl, hno, hB, hbel⟩ := hrel
        have HNo := Lib.hid hno; clear hno
        have hB0 := hB.cell 0; have hB1 := hB.cell 1; have hBf := hB.frozen 0; have hBf1 := hB.frozen 1; have hBl := hB.lt
        simp at hB0 hB1
        by_cases hlt : k < n
        · obtain ⟨d0, d1⟩ := HC.out k hlt
          rw [← hbel.cell (p := ⟨b, off + k * 2, none⟩) hb] at d0
          rw [← hbel.cell (p := ⟨b, off + k * 2 + 1, none⟩) hb] at d1
          generalize hxk : xs.getD k (0, 0) = xk at d0 d1
          obtain ⟨xa, xb⟩ := xk
          simp only [] at d0 d1
          have HXk := Lib.hid hxk; clear hxk
          go_wp2_with fail
          · rename_i e1 e2
            subst e1 e2
            go_ret
            have e0 := HL.out
            refine ⟨k, rfl, ⟨by omega, fun j hj => ?_, fun j hj => ?_⟩, hbel.alloc (by omega) _⟩
            · rw [HXk.out]; exact HTop.out j (by omega)
            · rw [HXk.out]; exact HNo.out j hj
          all_goals
            go_roundw
            case rel =>
              refine ⟨k + 1, by omega, by go_num, fun j hj => ?_, hB.alloc _, hbel.alloc (by omega) _⟩
              rcases Nat.lt_or_ge j k with h | h
              · exact HNo.out j h
              · obtain rfl : j = k := by omega
                rw [HXk.out]
                simp only [ne_eq, Prod.mk.injEq]
                omega
            case measure => simp [intOf]; omega
        · exfalso
          obtain ⟨j, h1, h2⟩ := HMem.out
          have := HL.out
          exact HNo.out j (by omega) h2
end Go.Proofs.Ytekcechjibigbaa
