/- kithlaw04.StampAll walked: it returns true. -/
import Derived.Test.YtekcechjibigbaaShown
namespace Go.Proofs.Ytekcechjibigbaa
open Go.RowKit
/-- the place of the first of the latest, -1 if there is none -/
def lastZ (xs : List (Int × Int)) : Int := if xs.length = 0 then -1 else (xs.findIdx (fun x => x == accV xs xs.length) : Nat)
theorem lastZ_none {xs : List (Int × Int)} (h : xs.length = 0) : lastZ xs = -1 := by simp [lastZ, h]
theorem lastZ_is {xs : List (Int × Int)} (h : 0 < xs.length) : ∃ k : Nat, lastZ xs = k ∧ IsLast xs k := by
  obtain ⟨j, h1, h2⟩ := accV_mem xs h xs.length (Nat.le_refl _)
  have h3 := accV_top xs xs.length (Nat.le_refl _)
  have hmem : accV xs xs.length ∈ xs := by
    rw [← h2]; simp [List.getD, h1]
  have hlt : xs.findIdx (fun x => x == accV xs xs.length) < xs.length := List.findIdx_lt_length_of_exists ⟨_, hmem, by simp⟩
  refine ⟨xs.findIdx (fun x => x == accV xs xs.length), by unfold lastZ; rw [if_neg (by omega)], hlt, ?_, ?_⟩
  · have e := List.findIdx_getElem (w := hlt)
    have e' : xs.getD (xs.findIdx (fun x => x == accV xs xs.length)) (0, 0) = accV xs xs.length := by
      simp only [List.getD, List.getElem?_eq_getElem hlt, Option.getD_some]
      simpa using e
    rw [e']; exact h3
  · intro q hq
    have e := List.findIdx_getElem (w := hlt)
    have n := List.not_of_lt_findIdx hq
    have hql : q < xs.length := by omega
    simp only [List.getD, List.getElem?_eq_getElem hlt, List.getElem?_eq_getElem hql, Option.getD_some]
    simp only [beq_iff_eq, beq_eq_false_iff_ne, ne_eq] at e n
    intro he
    rw [he, e] at n
    exact n rfl
theorem lastZ_of {xs : List (Int × Int)} {k : Nat} (h : IsLast xs k) : lastZ xs = k := by
  obtain ⟨j, h1, h2⟩ := lastZ_is (xs := xs) (by have := h.1; omega)
  rw [h1, h2.unique h]

/-- a slice of stamps that came in -/
def Row (w : World) (a : Option Addr) (n cap : Nat) (xs : List (Int × Int)) : Prop :=
  (n = 0 ∧ xs = []) ∨ ∃ b off, a = some ⟨b, off, none⟩ ∧ n ≤ cap ∧ cap ≤ maxLen ∧ b < w.heap.size ∧ xs.length = n ∧
    ∀ i, i < n → w.cell? ⟨b, off + i * 2, none⟩ = some (.int .i64 (xs.getD i (0, 0)).1) ∧ w.cell? ⟨b, off + i * 2 + 1, none⟩ = some (.int .i64 (xs.getD i (0, 0)).2)
theorem Row.len {w : World} {a : Option Addr} {n cap : Nat} {xs : List (Int × Int)} (h : Row w a n cap xs) : xs.length = n := by
  rcases h with ⟨rfl, rfl⟩ | ⟨_, _, _, _, _, _, h, _⟩
  · rfl
  · exact h
theorem Row.kept {w w' : World} {B : Nat} {a : Option Addr} {n cap : Nat} {xs : List (Int × Int)} (h : Row w a n cap xs) (hk : Below B w w') (hB : w.heap.size ≤ B) : Row w' a n cap xs := by
  rcases h with h | ⟨b, off, h1, h2, h3, h4, h5, h6⟩
  · exact .inl h
  · refine .inr ⟨b, off, h1, h2, h3, Nat.lt_of_lt_of_le h4 hk.size, h5, fun i hi => ?_⟩
    rw [hk.cell (p := ⟨b, _, none⟩) (by show b < B; omega), hk.cell (p := ⟨b, _, none⟩) (by show b < B; omega)]
    exact h6 i hi
theorem getD_take {xs : List (Int × Int)} {m i : Nat} (h : i < m) : (xs.take m).getD i (0, 0) = xs.getD i (0, 0) := by
  simp [List.getD, h]
theorem Row.cut {w : World} {a : Option Addr} {n cap : Nat} {xs : List (Int × Int)} (h : Row w a n cap xs) : Row w a (min n 30) cap (xs.take 30) := by
  rcases h with ⟨h2, h4⟩ | ⟨b, off, h1, h2, h3, h4, h5, h6⟩
  · exact .inl ⟨by omega, by rw [h4]; rfl⟩
  · refine .inr ⟨b, off, h1, by omega, h3, h4, by rw [List.length_take]; omega, fun i hi => ?_⟩
    rw [getD_take (by omega)]
    exact h6 i (by omega)

theorem few_row {a : Option Addr} {n cap : Nat} {xs : List (Int × Int)} {w : World} (h : Row w a n cap xs) :
    Calls Try.prog 12 #[.slice a n cap] w fun e w' => e = .returned (.slice a (min n 30) cap) ∧ w = w' := by
  rcases h with ⟨rfl, rfl⟩ | ⟨b, off, rfl, h2, h3, _⟩
  · exact few_zero a cap w
  · exact few_some b off n cap w h2 h3
theorem last_row {a : Option Addr} {n cap : Nat} {xs : List (Int × Int)} {w : World} (hn : n ≤ 100) (h : Row w a n cap xs) :
    Calls Try.prog 11 #[.slice a n cap] w fun e w' => e = .returned (.int .i64 (lastZ xs)) ∧ Below w.heap.size w w' := by
  have hl := h.len
  by_cases h0 : n = 0
  · subst h0
    rw [lastZ_none hl]
    exact (last_empty a cap w).mono fun e w' ⟨h1, h2⟩ => ⟨h1, h2 ▸ Below.refl _ _⟩
  · rcases h with ⟨rfl, rfl⟩ | ⟨b, off, rfl, h2, h3, h4, h5, h6⟩
    · exact absurd rfl h0
    · exact (last_some b off n cap xs w (by omega) hn ⟨h4, h5, h6⟩).mono fun e w' ⟨k, h1, h2, h3⟩ => ⟨by rw [h1, lastZ_of h2], h3⟩
theorem rlast_row {a : Option Addr} {n cap : Nat} {xs : List (Int × Int)} {w : World} (hn : n ≤ 100) (h : Row w a n cap xs) :
    Calls Try.prog 13 #[.slice a n cap] w fun e w' => e = .returned (.int .i64 (lastZ xs)) ∧ Below w.heap.size w w' := by
  have hl := h.len
  by_cases h0 : n = 0
  · subst h0
    rw [lastZ_none hl]
    exact (rlast_empty a cap w).mono fun e w' ⟨h1, h2⟩ => ⟨h1, h2 ▸ Below.refl _ _⟩
  · rcases h with ⟨rfl, rfl⟩ | ⟨b, off, rfl, h2, h3, h4, h5, h6⟩
    · exact absurd rfl h0
    · exact (rlast_some b off n cap xs w (by omega) hn ⟨h4, h5, h6⟩).mono fun e w' ⟨k, h1, h2, h3⟩ => ⟨by rw [h1, lastZ_of h2], h3⟩

set_option maxHeartbeats 400000 in
theorem all_any (ah ar bh br : Int) (a : Option Addr) (n cap : Nat) (xs : List (Int × Int)) (w : World) (hx : Row w a n cap xs) :
    Calls Try.prog 3 #[.agg #[.int .i64 ah, .int .i64 ar], .agg #[.int .i64 bh, .int .i64 br], .slice a n cap] w fun e w' => e = .returned (.bool true) ∧ Below w.heap.size w w' := by
  have hself : (lessB (ah, ar) (bh, br) == lessB (ah, ar) (bh, br)) = true := by simp
  go_enter Try.func3, Try.ntmps3
  go_wp2_with fail
  refine (shown_any _).mono ?_
  rintro e w1 ⟨rfl, hb1⟩
  have c0 := hb1.cell (p := ⟨w.heap.size, 0, none⟩) (by simp; omega)
  have c1 := hb1.cell (p := ⟨w.heap.size, 1, none⟩) (by simp; omega)
  have c2 := hb1.cell (p := ⟨w.heap.size + 1, 0, none⟩) (by simp)
  have c3 := hb1.cell (p := ⟨w.heap.size + 1, 1, none⟩) (by simp)
  have hx1 : Row w1 a n cap xs := (hx.kept (((Below.refl _ _).alloc (Nat.le_refl _) _).alloc (by simp) _) (Nat.le_refl _)).kept hb1 (Nat.le_refl _)
  have HX := Lib.hid hx1
  have hbw : Below w.heap.size w w1 := (((Below.refl _ _).alloc (Nat.le_refl _) _).alloc (by simp) _).trans (hb1.mono (by simp; omega))
  have hsz := hb1.size
  simp at hsz
  have s0 : w.heap.size < w1.heap.size := by omega
  have s1 : w.heap.size + 1 < w1.heap.size := by omega
  simp [go_sem] at c0 c1 c2 c3
  clear hb1 hx hx1
  have hK : Kept w1.heap.size w1 w1 := ⟨Below.refl _ _, Nat.le_refl _⟩
  have hn : min n 30 ≤ 100 := by omega
  have hself2 : (lastZ (xs.take 30) == lastZ (xs.take 30)) = true := by simp
  go_wp2_with fail
  go_region_held3 (fun w' => (∀ b o, b < w1.heap.size → w'.cell? ⟨b, o, none⟩ = w1.cell? ⟨b, o, none⟩) ∧ Kept w1.heap.size w1 w') (first | exact hK.drew.two | assumption | exact Kept.stepTwo (by assumption) hb2) (first | (go_at_call 9; refine (less_any _ _ _ _ _).mono ?_; rintro e w2 ⟨rfl, hb2⟩) | (go_at_call 10; refine (rless_any _ _ _ _ _).mono ?_; rintro e w2 ⟨rfl, hb2⟩) | (go_at_call 12; (have hh : Kept w1.heap.size w1 _ := And.right (by assumption)); refine (few_row (HX.out.kept hh.below (Nat.le_refl _))).mono ?_; rintro e w2 ⟨rfl, rfl⟩; clear hh) | (go_at_call 11; (have hh : Kept w1.heap.size w1 _ := And.right (by assumption)); refine (last_row hn (HX.out.kept hh.below (Nat.le_refl _)).cut).mono ?_; rintro e w2 ⟨rfl, hb2⟩; clear hh) | (go_at_call 13; (have hh : Kept w1.heap.size w1 _ := And.right (by assumption)); refine (rlast_row hn (HX.out.kept hh.below (Nat.le_refl _)).cut).mono ?_; rintro e w2 ⟨rfl, hb2⟩; clear hh))
  rename_i hh
  have hb3 := hbw.trans (hh.2.below.mono (by omega))
  clear hh
  go_wp2_with fail
  go_ret
  exact ⟨rfl, hb3⟩
end Go.Proofs.Ytekcechjibigbaa
