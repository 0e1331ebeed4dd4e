/- kithlaw04.few, kithref04.Less and kithref04.Last walked. -/
import Derived.Test.YtekcechjibigbaaLast
import Derived.Deep.RegionHeld3
namespace Go.Proofs.Ytekcechjibigbaa
open Go.RowKit
theorem few_some (b off n cap : Nat) (w : World) (hn : n ≤ cap) (hc : cap ≤ maxLen) :
    Calls Try.prog 12 #[.slice (some ⟨b, off, none⟩) n cap] w fun e w' => e = .returned (.slice (some ⟨b, off, none⟩) (min n 30) cap) ∧ w = w' := by
  unfold maxLen at hc
  rcases Nat.lt_or_ge 30 n with h | h
  · have e : min n 30 = 30 := by omega
    rw [e]; clear e
    go_enter Try.func12, Try.ntmps12
    go_wp2
    go_ret
    exact ⟨rfl, rfl⟩
  · have e : min n 30 = n := by omega
    rw [e]; clear e
    go_enter Try.func12, Try.ntmps12
    go_wp2
    go_ret
    exact ⟨rfl, rfl⟩
theorem few_zero (a : Option Addr) (cap : Nat) (w : World) :
    Calls Try.prog 12 #[.slice a 0 cap] w fun e w' => e = .returned (.slice a 0 cap) ∧ w = w' := by
  go_enter Try.func12, Try.ntmps12
  go_wp2
  go_ret
  exact ⟨rfl, rfl⟩
theorem rless_any (ah ar bh br : Int) (w : World) :
    Calls Try.prog 10 #[.agg #[.int .i64 ah, .int .i64 ar], .agg #[.int .i64 bh, .int .i64 br]] w fun e w' => e = .returned (.bool (lessB (ah, ar) (bh, br))) ∧ Below w.heap.size w w' := by
  have hb : ∀ (x y : Array Value), Below w.heap.size w ((w.alloc (Obj.cells x 23)).alloc (Obj.cells y 23)) := fun x y => ((Below.refl _ _).alloc (Nat.le_refl _) _).alloc (by simp) _
  have HB := Lib.hid hb; clear hb
  rcases Int.lt_trichotomy ah bh with h | h | h
  · have e : lessB (ah, ar) (bh, br) = true := by simp [lessB, h]
    rw [e]; clear e
    go_enter Try.func10, Try.ntmps10
    go_wp2
    go_ret
    exact ⟨rfl, HB.out _ _⟩
  · subst h
    have e : lessB (ah, ar) (ah, br) = decide (ar < br) := by simp [lessB]
    rw [e]; clear e
    go_enter Try.func10, Try.ntmps10
    go_wp2
    go_ret
    exact ⟨rfl, HB.out _ _⟩
  · have e : lessB (ah, ar) (bh, br) = false := by rw [lessB_false]; simp only; omega
    have h2 : (ah == bh) = false := by simp; omega
    have h3 : decide (ah < bh) = false := by simp; omega
    rw [e]; clear e
    go_enter Try.func10, Try.ntmps10
    go_wp2
    go_ret
    exact ⟨by simp, HB.out _ _⟩

def allB (xs : List (Int × Int)) (i k : Nat) : Bool := (List.range k).all fun m => !lessB (xs.getD i (0, 0)) (xs.getD m (0, 0))
theorem allB_succ (xs : List (Int × Int)) (i k : Nat) : allB xs i (k + 1) = (allB xs i k && !lessB (xs.getD i (0, 0)) (xs.getD k (0, 0))) := by
  simp [allB, List.range_succ]
theorem allB_iff (xs : List (Int × Int)) (i k : Nat) : allB xs i k = true ↔ ∀ m, m < k → lessB (xs.getD i (0, 0)) (xs.getD m (0, 0)) = false := by
  simp [allB]

set_option maxHeartbeats 1000000 in
theorem rlast_some (b off n cap : Nat) (xs : List (Int × Int)) (w : World) (hn0 : 0 < n) (hn : n ≤ 100) (hx : Stamps w b off n xs) :
    Calls Try.prog 13 #[.slice (some ⟨b, off, none⟩) n cap] w (LastPost xs w) := by
  obtain ⟨hb, hl, hc⟩ := hx
  have HL := Lib.hid hl
  have HC := Lib.hid hc; clear hc hl
  go_enter Try.func13, Try.ntmps13
  go_wp2_with fail
  go_loopw [3] (fun i wr => ∃ (k : Nat), k ≤ n ∧ i = .int .i64 k ∧ (∀ j, j < k → allB xs j n = false) ∧ Below w.heap.size w wr) (fun i _ => n - (intOf i).toNat)
  case atStart => exact ⟨0, Nat.zero_le _, rfl, fun j hj => by omega, Below.refl _ _⟩
  case round =>
    obtain ⟨i, hi, rfl, hno, hbel⟩ := hrel
    have HNo := Lib.hid hno; clear hno
    by_cases hlt : i < n
    · go_wp2_with fail
      obtain ⟨wo, rfl⟩ : ∃ wo : World, wo = wr := ⟨_, rfl⟩
      go_loopw [4, 5] (fun la k wr => ∃ (m : Nat) (lb : Bool), m ≤ n ∧ k = .int .i64 m ∧ la = .bool lb ∧ Hid (lb = allB xs i m) ∧ Below w.heap.size w wr) (fun _ k _ => n - (intOf k).toNat)
      case atStart => exact ⟨0, true, Nat.zero_le _, rfl, rfl, rfl, hbel⟩
      case round =>
        clear hbel
        obtain ⟨m, lb, hm, rfl, rfl, HB, hbel⟩ := hrel
        by_cases hlm : m < n
        · obtain ⟨c0, c1⟩ := HC.out i hlt
          obtain ⟨d0, d1⟩ := HC.out m hlm
          rw [← hbel.cell (p := ⟨b, _, none⟩) hb] at d0 d1 c0 c1
          have hS := allB_succ xs i m
          rw [← HB.out] at hS
          generalize xs.getD i (0, 0) = xi at c0 c1 hS
          generalize xs.getD m (0, 0) = xm at d0 d1 hS
          obtain ⟨ia, ib⟩ := xi
          obtain ⟨ma, mb⟩ := xm
          simp only [] at c0 c1 d0 d1
          have HSk := Lib.hid hS; clear hS
          have hK : Kept wr.heap.size wr wr := ⟨Below.refl _ _, Nat.le_refl _⟩
          have hbr : b < wr.heap.size := Nat.lt_of_lt_of_le hb hbel.size
          cases lb
          · go_wp2_with fail
            go_region_held3 (fun w' => (∀ b o, b < wr.heap.size → w'.cell? ⟨b, o, none⟩ = wr.cell? ⟨b, o, none⟩) ∧ Kept wr.heap.size wr w') (first | exact hK.drew.two | exact Kept.stepTwo (by assumption) hb1) ((go_at_call 10; refine (rless_any ia ib ma mb _).mono ?_; rintro e w1 ⟨rfl, hb1⟩))
            rename_i hh
            have hb2 := hbel.trans (hh.2.below.mono hbel.size)
            clear hh hb1
            go_wp2_with fail
            go_roundw
            case rel => exact ⟨m + 1, false, by omega, by go_num, rfl, by rw [HSk.out]; rfl, hb2⟩
            case measure => simp [intOf]; omega
          · cases hL : lessB (ia, ib) (ma, mb)
            all_goals
              go_wp2_with fail
              go_region_held3 (fun w' => (∀ b o, b < wr.heap.size → w'.cell? ⟨b, o, none⟩ = wr.cell? ⟨b, o, none⟩) ∧ Kept wr.heap.size wr w') (first | exact hK.drew.two | exact Kept.stepTwo (by assumption) hb1) ((go_at_call 10; refine (rless_any ia ib ma mb _).mono ?_; rintro e w1 ⟨rfl, hb1⟩))
              rename_i hh
              have hb2 := hbel.trans (hh.2.below.mono hbel.size)
              clear hh hb1
              go_wp2_with fail
              go_roundw
              case rel => exact ⟨m + 1, _, by omega, by go_num, rfl, by rw [HSk.out, hL]; rfl, hb2⟩
              case measure => simp [intOf]; omega
        · obtain rfl : n = m := by omega
          cases lb
          · go_wp2_with fail
            go_roundw
            case rel => 
              refine ⟨i + 1, by omega, by go_num, fun j hj => ?_, hbel⟩
              rcases Nat.lt_or_ge j i with h | h
              · exact HNo.out j h
              · obtain rfl : j = i := by omega
                exact HB.out.symm
            case measure => simp [intOf]; omega
          · go_wp2_with fail
            go_ret
            have e1 := (allB_iff xs i n).1 HB.out.symm
            have e0 := HL.out
            refine ⟨i, rfl, ⟨by omega, fun j hj => e1 j (by omega), fun j hj he => ?_⟩, hbel⟩
            have h1 := HNo.out j hj
            have h2 : allB xs j n = true := (allB_iff xs j n).2 (fun q hq => by rw [he]; exact e1 q hq)
            rw [h1] at h2; cases h2
    · exfalso
      obtain ⟨j, h1, h2⟩ := accV_mem xs (by have := HL.out; omega) n (by have := HL.out; omega)
      have h3 := accV_top xs n (by have := HL.out; omega)
      have h4 := HNo.out j (by have := HL.out; omega)
      have h5 : allB xs j n = true := (allB_iff xs j n).2 (fun q hq => by rw [h2]; exact h3 q hq)
      rw [h4] at h5; cases h5
end Go.Proofs.Ytekcechjibigbaa
