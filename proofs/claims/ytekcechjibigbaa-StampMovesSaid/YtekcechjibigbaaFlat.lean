/- A row of stamps as a row of cells; the latest of two rows, one behind the other. -/
import Derived.Test.YtekcechjibigbaaAppendAny
import Derived.Test.YtekcechjibigbaaAll
namespace Go.Proofs.Ytekcechjibigbaa
open Go.RowKit
def flat (xs : List (Int × Int)) : List Value := xs.flatMap fun p => [.int .i64 p.1, .int .i64 p.2]
theorem flat_cons (x : Int × Int) (xs : List (Int × Int)) : flat (x :: xs) = .int .i64 x.1 :: .int .i64 x.2 :: flat xs := rfl
theorem flat_append (xs ys : List (Int × Int)) : flat (xs ++ ys) = flat xs ++ flat ys := by simp [flat]
theorem flat_length : ∀ xs : List (Int × Int), (flat xs).length = xs.length * 2
  | [] => rfl
  | x :: xs => by rw [flat_cons]; simp only [List.length_cons, flat_length xs]; omega
theorem flat_get : ∀ (xs : List (Int × Int)) (i : Nat), i < xs.length → (flat xs)[i * 2]? = some (.int .i64 (xs.getD i (0, 0)).1) ∧ (flat xs)[i * 2 + 1]? = some (.int .i64 (xs.getD i (0, 0)).2)
  | [], i, h => absurd h (by simp)
  | x :: xs, 0, _ => ⟨rfl, rfl⟩
  | x :: xs, i + 1, h => by
    rw [flat_cons]
    have e : (i + 1) * 2 = i * 2 + 1 + 1 := by omega
    rw [e]
    simp only [List.getElem?_cons_succ, List.getD_cons_succ]
    exact flat_get xs i (by simp at h; omega)
theorem flat_one (xs : List (Int × Int)) : ∀ u ∈ flat xs, u.oneCell' = true := by
  intro u hu
  simp only [flat, List.mem_flatMap] at hu
  obtain ⟨p, _, hp⟩ := hu
  simp at hp
  rcases hp with rfl | rfl <;> rfl
theorem flat_at (xs : List (Int × Int)) (f : Nat → Option Value) (h : ∀ i, i < xs.length → f (i * 2) = some (.int .i64 (xs.getD i (0, 0)).1) ∧ f (i * 2 + 1) = some (.int .i64 (xs.getD i (0, 0)).2)) :
    ∀ j u, (flat xs)[j]? = some u → f j = some u := by
  intro j u hu
  have hj : j < (flat xs).length := by
    rcases Nat.lt_or_ge j (flat xs).length with h | h
    · exact h
    · rw [List.getElem?_eq_none h] at hu; cases hu
  rw [flat_length] at hj
  have hq : j / 2 < xs.length := by omega
  obtain ⟨h0, h1⟩ := h (j / 2) hq
  obtain ⟨g0, g1⟩ := flat_get xs (j / 2) hq
  rcases (by omega : j = j / 2 * 2 ∨ j = j / 2 * 2 + 1) with e | e
  · rw [e] at hu ⊢; rw [g0] at hu; rw [h0, hu]
  · rw [e] at hu ⊢; rw [g1] at hu; rw [h1, hu]
theorem reads_row {w : World} {a : Option Addr} {n cap : Nat} {xs : List (Int × Int)} (h : Row w a n cap xs) : Reads w w.heap.size 2 a n (flat xs) := by
  refine ⟨by rw [flat_length, h.len], fun hn => ?_⟩
  rcases h with ⟨rfl, _⟩ | ⟨b, off, rfl, h2, h3, h4, h5, h6⟩
  · omega
  · refine ⟨_, rfl, h4, flat_at xs (fun j => w.cell? (Addr.add ⟨b, off, none⟩ j)) (fun i hi => ?_)⟩
    have e : ∀ i, Addr.add ⟨b, off, none⟩ i = ⟨b, off + i, none⟩ := fun i => by
      unfold Addr.add
      by_cases h : i = 0 <;> simp [h]
    simp only [e]
    exact h6 i (by omega)
theorem row_of_own {w : World} {base n : Nat} {v : Value} {xs : List (Int × Int)} (h : w.ownsRow base 23 2 v n (flat xs)) (hl : xs.length = n) : ∃ a cap, v = .slice a n cap ∧ Row w a n cap xs := by
  rcases h.2 with ⟨rfl, rfl⟩ | ⟨g, cap, cur, rfl, hb, hg, hnc, hcm, hcs, htk⟩
  · exact ⟨none, 0, rfl, .inl ⟨rfl, List.eq_nil_of_length_eq_zero hl⟩⟩
  · refine ⟨_, _, rfl, .inr ⟨g, 0, rfl, hnc, hcm, ?_, hl, fun i hi => ?_⟩⟩
    · rcases Nat.lt_or_ge g w.heap.size with hlt | hge
      · exact hlt
      · rw [Array.getElem?_eq_none hge] at hg; cases hg
    · obtain ⟨g0, g1⟩ := flat_get xs i (by omega)
      have c0 := h.cellAt (i * 2) (by omega)
      have c1 := h.cellAt (i * 2 + 1) (by omega)
      rw [g0] at c0; rw [g1] at c1
      simp only [Nat.zero_add]
      exact ⟨c0, c1⟩

theorem lastZ_append_left {xs ys : List (Int × Int)} (h : xs.length = 0) : lastZ (xs ++ ys) = lastZ ys := by
  rw [List.eq_nil_of_length_eq_zero h]; rfl
theorem lastZ_append_right {xs ys : List (Int × Int)} (h : ys.length = 0) : lastZ (xs ++ ys) = lastZ xs := by
  rw [List.eq_nil_of_length_eq_zero h, List.append_nil]
theorem getD_left {xs ys : List (Int × Int)} {j : Nat} (h : j < xs.length) : (xs ++ ys).getD j (0, 0) = xs.getD j (0, 0) := by
  simp [List.getD, List.getElem?_append, h]
theorem getD_right {xs ys : List (Int × Int)} {j : Nat} (h : xs.length ≤ j) : (xs ++ ys).getD j (0, 0) = ys.getD (j - xs.length) (0, 0) := by
  simp [List.getD, List.getElem?_append_right h]
theorem less_trans_false {a b c : Int × Int} (h : lessB a b = false) (g : lessB b c = false) : lessB a c = false := by
  rw [lessB_false] at *; omega
theorem less_asymm {a b : Int × Int} (h : lessB a b = true) : lessB b a = false := by
  rw [lessB_iff] at h; rw [lessB_false]; omega
theorem lastZ_second_row {xs ys : List (Int × Int)} {i k : Nat} (hi : IsLast xs i) (hk : IsLast ys k) (hl : lessB (xs.getD i (0, 0)) (ys.getD k (0, 0)) = true) : lastZ (xs ++ ys) = ((xs.length + k : Nat) : Int) := by
  obtain ⟨i1, i2, i3⟩ := hi
  obtain ⟨k1, k2, k3⟩ := hk
  refine lastZ_of ⟨by simp; omega, fun j hj => ?_, fun j hj => ?_⟩
  · rw [getD_right (by omega), Nat.add_sub_cancel_left]
    rcases Nat.lt_or_ge j xs.length with h | h
    · rw [getD_left h]; exact less_trans_false (less_asymm hl) (i2 j h)
    · rw [getD_right h]; exact k2 _ (by simp at hj; omega)
  · rw [getD_right (j := xs.length + k) (by omega), Nat.add_sub_cancel_left]
    rcases Nat.lt_or_ge j xs.length with h | h
    · rw [getD_left h]
      intro e
      have := i2 j h
      rw [e, hl] at this; cases this
    · rw [getD_right h]; exact k3 _ (by omega)
theorem lastZ_first_row {xs ys : List (Int × Int)} {i k : Nat} (hi : IsLast xs i) (hk : IsLast ys k) (hl : lessB (xs.getD i (0, 0)) (ys.getD k (0, 0)) = false) : lastZ (xs ++ ys) = (i : Int) := by
  obtain ⟨i1, i2, i3⟩ := hi
  obtain ⟨k1, k2, k3⟩ := hk
  refine lastZ_of ⟨by simp; omega, fun j hj => ?_, fun j hj => ?_⟩
  · rw [getD_left i1]
    rcases Nat.lt_or_ge j xs.length with h | h
    · rw [getD_left h]; exact i2 j h
    · rw [getD_right h]; exact less_trans_false hl (k2 _ (by simp at hj; omega))
  · rw [getD_left i1, getD_left (by omega)]
    exact i3 j hj
end Go.Proofs.Ytekcechjibigbaa
