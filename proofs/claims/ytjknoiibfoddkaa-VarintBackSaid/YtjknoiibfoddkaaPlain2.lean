/- More on the bytes of numbers, in plain Lean. -/
import Derived.Test.YtjknoiibfoddkaaPlain
namespace Go.Proofs.Ytjknoiibfoddkaa
theorem put_mono : ∀ (a b : Nat), a ≤ b → (putN a).length ≤ (putN b).length := by
  intro a
  induction a using Nat.strongRecOn with
  | ind a ih =>
    intro b h
    by_cases h1 : a < 128
    · rw [putN_lt h1]; have := putN_pos b; simp; omega
    · rw [putN_ge (n := a) (by omega), putN_ge (n := b) (by omega)]
      have := ih (a / 128) (by omega) (b / 128) (by omega)
      simp; omega
theorem put_getD_take {a n i : Nat} (h : i < n) : ((putN a).take n).getD i 0 = (putN a).getD i 0 := by simp [List.getD, h]
/-- where one's bytes are the beginning of the other's, both are the same -/
theorem put_prefix {a b : Nat} (hl : (putN a).length ≤ (putN b).length) (h : (putN a).take (putN a).length = (putN b).take (putN a).length) : a = b := by
  have hp := putN_pos a
  have h1 := (put_last a).1
  have h2 : (putN b).getD ((putN a).length - 1) 0 = (putN a).getD ((putN a).length - 1) 0 := by
    rw [← put_getD_take (a := b) (n := (putN a).length) (by omega), ← h, put_getD_take (by omega)]
  have h3 : (putN a).length = (putN b).length := by
    rcases Nat.lt_or_ge (putN a).length (putN b).length with h4 | h4
    · have := put_goes b ((putN a).length - 1) (by omega)
      omega
    · omega
  have e : putN a = putN b := by
    have h5 := h
    rw [List.take_length, h3, List.take_length] at h5
    exact h5
  rw [← val_put a, ← val_put b, e]
theorem put_apart (a b : Nat) : (putN a).take (min (putN a).length (putN b).length) = (putN b).take (min (putN a).length (putN b).length) ↔ a = b := by
  constructor
  · intro h
    rcases Nat.le_total (putN a).length (putN b).length with hl | hl
    · rw [Nat.min_eq_left hl] at h
      exact put_prefix hl h
    · rw [Nat.min_eq_right hl] at h
      exact (put_prefix hl h.symm).symm
  · rintro rfl; rfl
end Go.Proofs.Ytjknoiibfoddkaa
