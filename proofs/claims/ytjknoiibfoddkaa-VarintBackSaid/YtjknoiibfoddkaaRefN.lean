/- The reference's way to the number at the beginning of bytes comes to the same: plain Lean. -/
import Derived.Test.YtjknoiibfoddkaaTakeN
namespace Go.Proofs.Ytjknoiibfoddkaa
theorem getD_mem {l : List Nat} {i : Nat} (h : i < l.length) : l.getD i 0 ∈ l := by simp [List.getD, h]
theorem mod_small' {c : Nat} (h : c < 128) : c % 128 = c := by omega
theorem val_drop {l : List Nat} {i : Nat} (h : i < l.length) : val (l.drop i) = l.getD i 0 % 128 + 128 * val (l.drop (i + 1)) := by
  rw [List.drop_eq_getElem_cons h]
  simp [val, List.getD, h]
/-- one round: times 128, and the byte's seven bits, in 64 bits -/
theorem horner (V c : Nat) : (V % 18446744073709551616 * 128 % 18446744073709551616 + c % 128) % 18446744073709551616 = (c % 128 + 128 * V) % 18446744073709551616 := by omega
/-- of bytes of which the last alone is below 128 -/
theorem put_back {l : List Nat} {k : Nat} (hs : ∀ x ∈ l, x < 256) (hk : k < l.length) (h10 : l.length ≤ 10) (h : ∀ j, j < k → 128 ≤ l.getD j 0) (hc : l.getD k 0 < 128) :
    putN (val (l.take (k + 1)) % 18446744073709551616) = l.take (k + 1) ↔ ¬ ((0 < k ∧ l.getD k 0 = 0) ∨ (k = 9 ∧ 1 < l.getD k 0)) := by
  have hsn := take_snocN hk
  have hv := val_take_succ hk
  have hlen : (l.take k).length = k := by rw [List.length_take]; omega
  have hvl := val_lt (l.take k)
  rw [hlen] at hvl
  have hmem : ∀ x ∈ l.take k, 128 ≤ x ∧ x < 256 := by
    intro x hx
    obtain ⟨j, hj, rfl⟩ := List.getElem_of_mem hx
    have hjk : j < k := by omega
    have hjl : j < l.length := by omega
    have h1 := h j hjk
    refine ⟨?_, hs _ (List.mem_of_mem_take hx)⟩
    simp [List.getD, hjl] at h1
    simpa using h1
  rw [mod_small' hc] at hv
  constructor
  · intro he hb
    rcases hb with ⟨hk0, hz⟩ | ⟨rfl, h2⟩
    · have hl := put_last (val (l.take (k + 1)) % 18446744073709551616)
      rw [he, List.length_take] at hl
      have e : min (k + 1) l.length - 1 = k := by omega
      rw [e] at hl
      have h3 := hl.2 (by omega)
      have e2 : (l.take (k + 1)).getD k 0 = l.getD k 0 := by simp [List.getD]
      exact h3 (e2.trans hz)
    · have h3 := val_put (val (l.take (9 + 1)) % 18446744073709551616)
      rw [he] at h3
      have h4 : 2 * 128 ^ 9 ≤ l.getD 9 0 * 128 ^ 9 := Nat.mul_le_mul_right _ h2
      omega
  · intro hb
    have hlt : val (l.take (k + 1)) < 18446744073709551616 := by
      have hf := shift_fits (d := l.getD k 0) (k := k) (by omega)
      rcases Nat.lt_or_ge k 9 with h9 | h9
      · have h1 := val_lt (l.take (k + 1))
        rw [List.length_take] at h1
        have e : min (k + 1) l.length = k + 1 := by omega
        rw [e] at h1
        have := pow_fits (k := k + 1) (by omega)
        omega
      · obtain rfl : k = 9 := by omega
        have h1 : l.getD 9 0 ≤ 1 := by omega
        have h2 : l.getD 9 0 * 128 ^ 9 ≤ 1 * 128 ^ 9 := Nat.mul_le_mul_right _ h1
        omega
    rw [Nat.mod_eq_of_lt hlt, hsn]
    exact put_of_bytes _ _ hmem hc (fun hne => fun hz => hb (Or.inl ⟨by
      rcases Nat.eq_zero_or_pos k with h0 | h0
      · exact absurd (List.eq_nil_of_length_eq_zero (by omega)) hne
      · exact h0, hz⟩))
end Go.Proofs.Ytjknoiibfoddkaa
