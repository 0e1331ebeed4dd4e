/- The number at the beginning of bytes (ten at most), in plain Lean; and the arithmetic of a step. -/
import Derived.Test.YtjknoiibfoddkaaPlain
import Derived.Laws.BitsAllLaws
import Derived.Laws.Bits64
namespace Go.Proofs.Ytjknoiibfoddkaa
/-- of a row of ten bytes at most: the number, how many bytes it has, the error's number -/
def takeN (l : List Nat) : Nat × Nat × Nat :=
  let k := l.findIdx (fun c => decide (c < 128))
  if k = l.length then (0, 0, if l.length = 10 then 3 else 2)
  else if (0 < k ∧ l.getD k 0 = 0) ∨ (k = 9 ∧ 1 < l.getD k 0) then (0, 0, 3)
  else (val (l.take (k + 1)), k + 1, 0)
theorem find_none {l : List Nat} (h : ∀ j, j < l.length → 128 ≤ l.getD j 0) : l.findIdx (fun c => decide (c < 128)) = l.length := by
  rw [List.findIdx_eq_length]
  intro x hx
  obtain ⟨j, hj, rfl⟩ := List.getElem_of_mem hx
  have := h j hj
  simp [List.getD, hj] at this
  simpa using this
theorem find_some {l : List Nat} {k : Nat} (hk : k < l.length) (h : ∀ j, j < k → 128 ≤ l.getD j 0) (hc : l.getD k 0 < 128) : l.findIdx (fun c => decide (c < 128)) = k := by
  rw [List.findIdx_eq hk]
  refine ⟨by simpa [List.getD, hk] using hc, fun j hj => ?_⟩
  have := h j hj
  have hjl : j < l.length := by omega
  simp [List.getD, hjl] at this
  simpa using this
theorem takeN_none {l : List Nat} (h : ∀ j, j < l.length → 128 ≤ l.getD j 0) : takeN l = (0, 0, if l.length = 10 then 3 else 2) := by
  simp only [takeN, find_none h, if_true]
theorem takeN_bad {l : List Nat} {k : Nat} (hk : k < l.length) (h : ∀ j, j < k → 128 ≤ l.getD j 0) (hc : l.getD k 0 < 128) (hb : (0 < k ∧ l.getD k 0 = 0) ∨ (k = 9 ∧ 1 < l.getD k 0)) : takeN l = (0, 0, 3) := by
  simp only [takeN, find_some hk h hc]
  rw [if_neg (by omega), if_pos hb]
theorem takeN_good {l : List Nat} {k : Nat} (hk : k < l.length) (h : ∀ j, j < k → 128 ≤ l.getD j 0) (hc : l.getD k 0 < 128) (hb : ¬ ((0 < k ∧ l.getD k 0 = 0) ∨ (k = 9 ∧ 1 < l.getD k 0))) : takeN l = (val (l.take (k + 1)), k + 1, 0) := by
  simp only [takeN, find_some hk h hc]
  rw [if_neg (by omega), if_neg hb]
theorem take_snocN {l : List Nat} {k : Nat} (h : k < l.length) : l.take (k + 1) = l.take k ++ [l.getD k 0] := by
  rw [List.take_succ_eq_append_getElem h]
  simp [List.getD, h]
theorem val_take_succ {l : List Nat} {k : Nat} (h : k < l.length) : val (l.take (k + 1)) = val (l.take k) + l.getD k 0 % 128 * 128 ^ k := by
  rw [take_snocN h, val_snoc, List.length_take]
  congr 3
  omega
theorem pow_128 (k : Nat) : 128 ^ k = 2 ^ (7 * k) := by rw [Nat.pow_mul]
theorem or_nat {X d k : Nat} (hX : X < 128 ^ k) : X ||| d * 128 ^ k = X + d * 128 ^ k := by
  rw [pow_128] at *
  rw [Nat.or_comm, Nat.mul_comm d, ← Nat.two_pow_add_eq_or_of_lt hX d, Nat.add_comm]
theorem pow_fits {k : Nat} (hk : k ≤ 9) : 128 ^ k ≤ 9223372036854775808 := by
  have h : (128 : Nat) ^ k ≤ 128 ^ 9 := Nat.pow_le_pow_right (by omega) hk
  simpa using h
theorem shift_fits {d k : Nat} (h : (k ≤ 8 ∧ d < 128) ∨ (k = 9 ∧ d ≤ 1)) : d * 128 ^ k < 18446744073709551616 := by
  rcases h with ⟨hk, hd⟩ | ⟨rfl, hd⟩
  · have h1 : (128 : Nat) ^ k ≤ 128 ^ 8 := Nat.pow_le_pow_right (by omega) hk
    have h2 : d * 128 ^ k ≤ 127 * 128 ^ 8 := Nat.mul_le_mul (by omega) h1
    omega
  · omega
theorem or_step {X d k : Nat} (hX : X < 128 ^ k) (h : (k ≤ 8 ∧ d < 128) ∨ (k = 9 ∧ d ≤ 1)) : bits .or .u64 (X : Int) (IntKind.u64.wrap ((d : Int) * 2 ^ (7 * k))) = ((X + d * 128 ^ k : Nat) : Int) := by
  have hf := shift_fits h
  have e : (d : Int) * 2 ^ (7 * k) = ((d * 128 ^ k : Nat) : Int) := by rw [pow_128]; simp
  have hk : k ≤ 9 := by omega
  have hp := pow_fits hk
  rw [e, IntKind.wrap_u64, Int.emod_eq_of_lt (by omega) (by omega), u64_or_nat _ _ (by omega) hf, or_nat hX]
/-- whatever it is, it is a number -/
theorem or_some (X : Nat) (y : Int) : ∃ Z : Nat, bits .or .u64 (X : Int) (IntKind.u64.wrap y) = (Z : Int) := by
  have h : 0 ≤ bits .or .u64 (X : Int) (IntKind.u64.wrap y) := by
    show 0 ≤ IntKind.u64.wrap _
    rw [IntKind.wrap_u64]
    omega
  exact Int.eq_ofNat_of_zero_le h
end Go.Proofs.Ytjknoiibfoddkaa
