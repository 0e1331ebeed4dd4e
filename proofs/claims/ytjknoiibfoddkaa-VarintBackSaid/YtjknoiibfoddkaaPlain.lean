/- Numbers as bytes, in plain Lean: no program here. -/
namespace Go.Proofs.Ytjknoiibfoddkaa
/-- the bytes of a number: seven bits each, the lowest first; each but the last has 128 more -/
def putN (n : Nat) : List Nat := if n < 128 then [n] else (n % 128 + 128) :: putN (n / 128)
termination_by n
decreasing_by omega
theorem putN_lt {n : Nat} (h : n < 128) : putN n = [n] := by rw [putN, if_pos h]
theorem putN_ge {n : Nat} (h : 128 ≤ n) : putN n = (n % 128 + 128) :: putN (n / 128) := by rw [putN, if_neg (by omega)]
theorem putN_pos (n : Nat) : 0 < (putN n).length := by
  by_cases h : n < 128
  · rw [putN_lt h]; simp
  · rw [putN_ge (by omega)]; simp
theorem putN_len : ∀ (k n : Nat), n < 128 ^ (k + 1) → (putN n).length ≤ k + 1
  | 0, n, h => by rw [putN_lt (by simpa using h)]; simp
  | k + 1, n, h => by
    by_cases h1 : n < 128
    · rw [putN_lt h1]; simp
    · rw [putN_ge (by omega)]
      have := putN_len k (n / 128) (by rw [Nat.div_lt_iff_lt_mul (by omega)]; rw [Nat.pow_succ] at h; exact h)
      simp; omega
theorem putN_len_ge : ∀ (k n : Nat), 128 ^ k ≤ n → k + 1 ≤ (putN n).length
  | 0, n, _ => putN_pos n
  | k + 1, n, h => by
    have h1 : 128 ≤ n := by
      have : 128 ^ (k + 1) = 128 ^ k * 128 := Nat.pow_succ _ _
      have : 0 < 128 ^ k := Nat.pow_pos (by omega)
      omega
    rw [putN_ge h1]
    have := putN_len_ge k (n / 128) (by rw [Nat.le_div_iff_mul_le (by omega)]; rw [Nat.pow_succ] at h; exact h)
    simp; omega
/-- 64 bits are ten bytes at most -/
theorem putN_ten {n : Nat} (h : n < 18446744073709551616) : (putN n).length ≤ 10 := putN_len 9 n (by omega)
theorem putN_small : ∀ (n : Nat), ∀ x ∈ putN n, x < 256 := by
  intro n
  induction n using Nat.strongRecOn with
  | ind n ih =>
    intro x hx
    by_cases h : n < 128
    · rw [putN_lt h] at hx; simp at hx; omega
    · rw [putN_ge (by omega)] at hx
      rcases List.mem_cons.1 hx with rfl | hx
      · omega
      · exact ih (n / 128) (by omega) x hx
/-- what the bytes of a row come to, the lowest first -/
def val : List Nat → Nat
  | [] => 0
  | c :: l => c % 128 + 128 * val l
theorem val_snoc : ∀ (l : List Nat) (c : Nat), val (l ++ [c]) = val l + c % 128 * 128 ^ l.length
  | [], c => by simp [val]
  | x :: l, c => by
    have ih := val_snoc l c
    simp only [List.cons_append, val, ih, List.length_cons, Nat.pow_succ, Nat.mul_add]
    have : 128 * (c % 128 * 128 ^ l.length) = c % 128 * (128 ^ l.length * 128) := by
      rw [Nat.mul_left_comm, Nat.mul_comm 128 (128 ^ _)]
    omega
theorem val_lt : ∀ (l : List Nat), val l < 128 ^ l.length
  | [] => by simp [val]
  | c :: l => by
    have ih := val_lt l
    simp only [val, List.length_cons, Nat.pow_succ]
    have := Nat.mod_lt c (show 128 > 0 by omega)
    omega
theorem val_put : ∀ (n : Nat), val (putN n) = n := by
  intro n
  induction n using Nat.strongRecOn with
  | ind n ih =>
    by_cases h : n < 128
    · rw [putN_lt h]; simp [val]; omega
    · rw [putN_ge (by omega), val, ih (n / 128) (by omega)]; omega
/-- each byte but the last goes on -/
def GoesOn (l : List Nat) : Prop := ∀ i, i + 1 < l.length → 128 ≤ l.getD i 0
theorem put_goes : ∀ (n : Nat), GoesOn (putN n) := by
  intro n
  induction n using Nat.strongRecOn with
  | ind n ih =>
    intro i hi
    by_cases h : n < 128
    · rw [putN_lt h] at hi; simp at hi
    · rw [putN_ge (by omega)] at hi ⊢
      cases i with
      | zero => simp
      | succ i => simp only [List.getD_cons_succ]; exact ih (n / 128) (by omega) i (by simpa using hi)
theorem put_last : ∀ (n : Nat), (putN n).getD ((putN n).length - 1) 0 < 128 ∧ (1 < (putN n).length → (putN n).getD ((putN n).length - 1) 0 ≠ 0) := by
  intro n
  induction n using Nat.strongRecOn with
  | ind n ih =>
    by_cases h : n < 128
    · rw [putN_lt h]; simp; exact h
    · have hp := putN_pos (n / 128)
      obtain ⟨h1, h2⟩ := ih (n / 128) (by omega)
      rw [putN_ge (by omega)]
      have e : (putN (n / 128)).length = (putN (n / 128)).length - 1 + 1 := by omega
      simp only [List.length_cons, Nat.add_sub_cancel]
      rw [e, List.getD_cons_succ]
      refine ⟨h1, fun _ => ?_⟩
      by_cases hl : 1 < (putN (n / 128)).length
      · exact h2 hl
      · by_cases h3 : n / 128 < 128
        · rw [putN_lt h3]; simp; omega
        · rw [putN_ge (by omega)] at hl; have := putN_pos (n / 128 / 128); simp at hl; rw [hl] at this; simp at this
/-- bytes of which all but the last go on, and the last is no nought behind others, are those of the number that they come to -/
theorem put_of_bytes : ∀ (l : List Nat) (c : Nat), (∀ x ∈ l, 128 ≤ x ∧ x < 256) → c < 128 → (l ≠ [] → c ≠ 0) → putN (val (l ++ [c])) = l ++ [c]
  | [], c, _, hc, _ => by
    have e : val ([] ++ [c]) = c := by simp [val]; omega
    rw [e, putN_lt hc]; rfl
  | x :: l, c, hl, hc, h0 => by
    obtain ⟨x1, x2⟩ := hl x (by simp)
    have hc0 : c ≠ 0 := h0 (by simp)
    have ih := put_of_bytes l c (fun y hy => hl y (by simp [hy])) hc (fun _ => hc0)
    have hpos : 0 < val (l ++ [c]) := by
      rw [val_snoc]
      have : c % 128 = c := by omega
      rw [this]
      have : 0 < c * 128 ^ l.length := Nat.mul_pos (by omega) (Nat.pow_pos (by omega))
      omega
    have e : val ((x :: l) ++ [c]) = x % 128 + 128 * val (l ++ [c]) := rfl
    rw [e, putN_ge (by omega)]
    have e1 : (x % 128 + 128 * val (l ++ [c])) % 128 + 128 = x := by omega
    have e2 : (x % 128 + 128 * val (l ++ [c])) / 128 = val (l ++ [c]) := by omega
    rw [e1, e2, ih]; rfl
end Go.Proofs.Ytjknoiibfoddkaa
