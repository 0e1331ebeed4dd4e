/- kithlaw01.few and shown walked. -/
import Derived.Test.YtjknoiibfoddkaaTake
namespace Go.Proofs.Ytjknoiibfoddkaa
open Go.RowKit
theorem few_some (b off n cap : Nat) (w : World) (hn : n ≤ cap) (hc : cap ≤ maxLen) :
    Calls Try.prog 11 #[.slice (some ⟨b, off, none⟩) n cap] w fun e w' => e = .returned (.slice (some ⟨b, off, none⟩) (min n 20) cap) ∧ w = w' := by
  unfold maxLen at hc
  rcases Nat.lt_or_ge 20 n with h | h
  · have e : min n 20 = 20 := by omega
    rw [e]; clear e
    go_enter Try.func11, Try.ntmps11
    go_wp2
    go_ret
    exact ⟨rfl, rfl⟩
  · have e : min n 20 = n := by omega
    rw [e]; clear e
    go_enter Try.func11, Try.ntmps11
    go_wp2
    go_ret
    exact ⟨rfl, rfl⟩
theorem few_zero (a : Option Addr) (cap : Nat) (w : World) :
    Calls Try.prog 11 #[.slice a 0 cap] w fun e w' => e = .returned (.slice a 0 cap) ∧ w = w' := by
  go_enter Try.func11, Try.ntmps11
  go_wp2
  go_ret
  exact ⟨rfl, rfl⟩
theorem few_is {a : Option Addr} {n n' cap : Nat} {bs : List Nat} {w : World} (hn : n' = min n 20) (h : Bytes w a n cap bs) :
    Calls Try.prog 11 #[.slice a n cap] w fun e w' => e = .returned (.slice a n' cap) ∧ w = w' := by
  subst hn
  obtain ⟨h1, h2, ⟨rfl, rfl⟩ | ⟨b, off, rfl, h4, h5, h6⟩⟩ := h
  · exact few_zero a cap w
  · exact few_some b off n cap w h1 h2

/-- a slice that the call has just built -/
theorem built (w : World) (bs : List Nat) (hl : bs.length ≤ maxLen) : Bytes (w.alloc (.cells (cells bs).toArray 5)) (some ⟨w.heap.size, 0, none⟩) bs.length bs.length bs := by
  refine ⟨Nat.le_refl _, hl, .inr ⟨w.heap.size, 0, rfl, by simp, rfl, fun i hi => ?_⟩⟩
  have h := (Blk.new w 5 (cells bs).toArray).cell (0 + i)
  rw [h, Nat.zero_add]
  simp only [List.getElem?_toArray]
  exact cells_get hi
theorem put_300 : putN 300 = [172, 2] := by rw [putN_ge (by omega), putN_lt (by omega)]
theorem str_300 : ((str [172, 2]).toList == [172, 2]) = true := by decide +kernel
theorem take_128 : takeN ([128, 0].take 10) = (0, 0, 3) := by
  refine takeN_bad (k := 1) (by simp) (fun j hj => ?_) (by simp) (by simp)
  obtain rfl : j = 0 := by omega
  simp
set_option maxRecDepth 10000 in
set_option maxHeartbeats 400000 in
theorem shown_any (w : World) : Calls Try.prog 9 #[] w fun e w' => e = .returned (.bool true) ∧ Below w.heap.size w w' := by
  have hb := built w [128, 0] (by simp [maxLen])
  have HB := Lib.hid hb; clear hb
  go_enter Try.func9, Try.ntmps9
  go_wp2_with fail
  refine (take_any HB.out (by simp)).mono ?_
  rintro e w1 hT
  unfold TakePost at hT
  rw [take_128] at hT
  obtain ⟨rfl, rfl⟩ := hT
  go_wp2_with fail
  refine (put_any 300 _ (by omega)).mono ?_
  rintro e w2 ⟨v, rfl, hown, hb2⟩
  rw [put_300] at hown
  obtain ⟨a, cap, rfl, hp⟩ := Bytes.of_own hown
  have hcv := run_str (P := Try.prog) Try.underlying23 Try.underlying5 hp 9 Try.underlying9
  have hcv' : Sem.run Try.prog (convert 23 9 (.slice a 2 cap)) w2 = .ok (.string (str [172, 2])) w2 := hcv
  have hse := str_300
  clear hcv hown hp
  go_wp2_with fail
  go_ret
  exact ⟨rfl, ((Below.refl _ _).alloc (Nat.le_refl _) _).trans (hb2.mono (by simp))⟩
end Go.Proofs.Ytjknoiibfoddkaa
