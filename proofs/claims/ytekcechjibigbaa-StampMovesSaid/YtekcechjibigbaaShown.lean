/- kithlaw04.shown walked: it returns true. -/
import Derived.Test.YtekcechjibigbaaFew
namespace Go.Proofs.Ytekcechjibigbaa
open Go.RowKit
theorem last_nil (c : Nat) (w : World) : Calls Try.prog 11 #[.slice none 0 c] w fun e w' => e = .returned (.int .i64 (-1)) ∧ w = w' := by
  go_enter Try.func11, Try.ntmps11
  go_wp2
  go_ret
  exact ⟨rfl, rfl⟩
theorem last_empty (a : Option Addr) (c : Nat) (w : World) : Calls Try.prog 11 #[.slice a 0 c] w fun e w' => e = .returned (.int .i64 (-1)) ∧ w = w' := by
  go_enter Try.func11, Try.ntmps11
  go_wp2
  go_ret
  exact ⟨rfl, rfl⟩
theorem rlast_empty (a : Option Addr) (c : Nat) (w : World) : Calls Try.prog 13 #[.slice a 0 c] w fun e w' => e = .returned (.int .i64 (-1)) ∧ w = w' := by
  go_enter Try.func13, Try.ntmps13
  go_wp2_with fail
  go_loop [3] (fun i => i = .int .i64 0) (fun _ => 0)
  case atStart => rfl
  case round =>
    subst hrel
    go_wp2_with fail
    go_ret
    exact ⟨rfl, rfl⟩

def shownXs : List (Int × Int) := [(3, 1), (4, 0), (4, 2), (1, 4)]
theorem shown_two {k : Nat} (h : IsLast shownXs k) : k = 2 :=
  h.unique ⟨by decide, by decide, by decide⟩
theorem shown_less : lessB (3, 1) (4, 0) = true := by decide
theorem shown_stamps (w : World) : Stamps (w.alloc (.cells #[.int .i64 3, .int .i64 1, .int .i64 4, .int .i64 0, .int .i64 4, .int .i64 2, .int .i64 1, .int .i64 4] 23)) w.heap.size 0 4 shownXs := by
  refine ⟨by simp, rfl, fun i hi => ?_⟩
  have hb := Blk.new w 23 #[.int .i64 3, .int .i64 1, .int .i64 4, .int .i64 0, .int .i64 4, .int .i64 2, .int .i64 1, .int .i64 4]
  have h : i = 0 ∨ i = 1 ∨ i = 2 ∨ i = 3 := by omega
  rcases h with rfl | rfl | rfl | rfl <;> exact ⟨hb.cell _, hb.cell _⟩

set_option maxHeartbeats 400000 in
theorem shown_any (w : World) : Calls Try.prog 8 #[] w fun e w' => e = .returned (.bool true) ∧ Below w.heap.size w w' := by
  have hs := shown_stamps w
  have HS := Lib.hid hs; clear hs
  go_enter Try.func8, Try.ntmps8
  go_wp2_with fail
  refine (last_some _ _ _ _ _ _ (by omega) (by omega) HS.out).mono ?_
  rintro e w1 ⟨k, rfl, hk, hb1⟩
  obtain rfl := shown_two hk
  clear hk
  go_wp2_with fail
  refine (less_any 3 1 4 0 _).mono ?_
  rintro e w2 ⟨rfl, hb2⟩
  rw [shown_less]
  go_wp2_with fail
  refine (last_nil _ _).mono ?_
  rintro e w3 ⟨rfl, rfl⟩
  go_wp2_with fail
  go_ret
  exact ⟨rfl, ((Below.refl _ _).alloc (Nat.le_refl _) _).trans ((hb1.trans (hb2.mono hb1.size)).mono (by simp))⟩
end Go.Proofs.Ytekcechjibigbaa
