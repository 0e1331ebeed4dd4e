/- Plain facts on stamps as pairs of numbers: which is earlier, and the first of the latest. No program here. -/
namespace Go.Proofs.Ytekcechjibigbaa
def lessB (a b : Int × Int) : Bool := decide (a.1 < b.1) || (a.1 == b.1 && decide (a.2 < b.2))
def mx (m s : Int × Int) : Int × Int := if lessB m s then s else m
def accV (xs : List (Int × Int)) (k : Nat) : Int × Int := (xs.take k).foldl mx (xs.getD 0 (0, 0))

theorem lessB_iff (a b : Int × Int) : lessB a b = true ↔ a.1 < b.1 ∨ (a.1 = b.1 ∧ a.2 < b.2) := by simp [lessB]
theorem lessB_false (a b : Int × Int) : lessB a b = false ↔ ¬ (a.1 < b.1 ∨ (a.1 = b.1 ∧ a.2 < b.2)) := by rw [← lessB_iff]; simp

theorem take_snoc' (xs : List (Int × Int)) (k : Nat) (h : k < xs.length) : xs.take (k + 1) = xs.take k ++ [xs.getD k (0, 0)] := by
  rw [List.take_succ_eq_append_getElem h]
  simp [List.getD, h]

theorem accV_zero (xs : List (Int × Int)) : accV xs 0 = xs.getD 0 (0, 0) := rfl
theorem accV_succ (xs : List (Int × Int)) (k : Nat) (h : k < xs.length) : accV xs (k + 1) = mx (accV xs k) (xs.getD k (0, 0)) := by
  unfold accV
  rw [take_snoc' xs k h, List.foldl_append]
  rfl

/-- The greatest so far is one of them, and none so far is later. -/
theorem accV_mem (xs : List (Int × Int)) (h0 : 0 < xs.length) : ∀ k, k ≤ xs.length → ∃ j, j < xs.length ∧ xs.getD j (0, 0) = accV xs k
  | 0, _ => ⟨0, h0, rfl⟩
  | k + 1, hk => by
    rw [accV_succ xs k (by omega)]
    unfold mx
    split
    · exact ⟨k, by omega, rfl⟩
    · exact accV_mem xs h0 k (by omega)

theorem accV_top (xs : List (Int × Int)) : ∀ k, k ≤ xs.length → ∀ j, j < k → lessB (accV xs k) (xs.getD j (0, 0)) = false
  | 0, _ => fun j hj => by omega
  | k + 1, hk => fun j hj => by
    rw [accV_succ xs k (by omega)]
    unfold mx
    rcases Nat.lt_or_ge j k with h | h
    · have ih := accV_top xs k (by omega) j h
      split
      · rename_i hl
        rw [lessB_iff] at hl
        rw [lessB_false] at ih ⊢
        omega
      · exact ih
    · obtain rfl : j = k := by omega
      split
      · rw [lessB_false]; omega
      · rename_i hl; simpa using hl

/-- k is the place of the first one of xs than which none is later. -/
def IsLast (xs : List (Int × Int)) (k : Nat) : Prop :=
  k < xs.length ∧ (∀ j, j < xs.length → lessB (xs.getD k (0, 0)) (xs.getD j (0, 0)) = false) ∧ ∀ j, j < k → xs.getD j (0, 0) ≠ xs.getD k (0, 0)

theorem eq_of_less (a b : Int × Int) (h1 : lessB a b = false) (h2 : lessB b a = false) : a = b := by
  rw [lessB_false] at h1 h2
  obtain ⟨a1, a2⟩ := a
  obtain ⟨b1, b2⟩ := b
  simp only [Prod.mk.injEq] at *
  omega

theorem IsLast.unique {xs : List (Int × Int)} {j k : Nat} (h : IsLast xs j) (g : IsLast xs k) : j = k := by
  obtain ⟨h1, h2, h3⟩ := h
  obtain ⟨g1, g2, g3⟩ := g
  have e := eq_of_less _ _ (h2 k g1) (g2 j h1)
  rcases Nat.lt_trichotomy j k with h | h | h
  · exact absurd e (g3 j h)
  · exact h
  · exact absurd e.symm (h3 k h)
end Go.Proofs.Ytekcechjibigbaa
