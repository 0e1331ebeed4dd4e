/- What is taken of the bytes of a number, and what is taken of any bytes, in plain Lean. -/
import Derived.Test.YtjknoiibfoddkaaTakeN
import Derived.Test.YtjknoiibfoddkaaPlain2
namespace Go.Proofs.Ytjknoiibfoddkaa
theorem take_put (n : Nat) (rest : List Nat) (hn : n < 18446744073709551616) : takeN ((putN n ++ rest).take 10) = (n, (putN n).length, 0) := by
  have hp := putN_pos n
  have hten := putN_ten hn
  have hla := put_last n
  have hgo := put_goes n
  have g : ∀ j, j < (putN n).length → ((putN n ++ rest).take 10).getD j 0 = (putN n).getD j 0 := by
    intro j hj
    have h10 : j < 10 := by omega
    simp [List.getD, h10, List.getElem?_append, hj]
  have hlen : (putN n).length - 1 < ((putN n ++ rest).take 10).length := by rw [List.length_take, List.length_append]; omega
  have e1 : (putN n).length - 1 + 1 = (putN n).length := by omega
  have e2 : ((putN n ++ rest).take 10).take (putN n).length = putN n := by
    rw [List.take_take, Nat.min_eq_left hten, List.take_left]
  have key := takeN_good (l := (putN n ++ rest).take 10) (k := (putN n).length - 1) hlen (fun j hj => by rw [g j (by omega)]; exact hgo j (by omega)) (by rw [g _ (by omega)]; exact hla.1) (by
    rw [g _ (by omega)]
    rintro (⟨h1, h2⟩ | ⟨h1, h2⟩)
    · exact hla.2 (by omega) h2
    · have hv := val_put n
      have hs : putN n = (putN n).take ((putN n).length - 1) ++ [(putN n).getD ((putN n).length - 1) 0] := by
        rw [← take_snocN (by omega), e1, List.take_length]
      rw [hs, val_snoc, List.length_take, Nat.min_eq_left (by omega)] at hv
      have h3 : (putN n).getD ((putN n).length - 1) 0 % 128 = (putN n).getD ((putN n).length - 1) 0 := Nat.mod_eq_of_lt hla.1
      rw [h3, h1] at hv
      rw [h1] at h2
      generalize (putN n).getD 9 0 = c at hv h2
      have : c * 128 ^ 9 ≥ 2 * 128 ^ 9 := Nat.mul_le_mul_right _ (by omega)
      omega)
  rw [e1, e2, val_put] at key
  exact key
theorem take_any_cases (l : List Nat) (hs : ∀ x ∈ l, x < 256) :
    (∃ m y, takeN (l.take 10) = (y, m, 0) ∧ 1 ≤ m ∧ m ≤ l.length ∧ putN y = l.take m ∧ y < 18446744073709551616) ∨ takeN (l.take 10) = (0, 0, 2) ∨ takeN (l.take 10) = (0, 0, 3) := by
  by_cases hall : ∀ j, j < (l.take 10).length → 128 ≤ (l.take 10).getD j 0
  · rw [takeN_none hall]
    split
    · exact .inr (.inr rfl)
    · exact .inr (.inl rfl)
  · have hk : (l.take 10).findIdx (fun c => decide (c < 128)) < (l.take 10).length := by
      rw [List.findIdx_lt_length]
      simp only [Classical.not_forall] at hall
      obtain ⟨j, hj, h⟩ := hall
      refine ⟨(l.take 10)[j], List.getElem_mem _, ?_⟩
      simp [List.getD] at h
      have hj10 : j < 10 := by rw [List.length_take] at hj; omega
      have hjl : j < l.length := by rw [List.length_take] at hj; omega
      simp [hj10, hjl] at h
      simpa using h
    obtain ⟨k, ek⟩ : ∃ k, k = (l.take 10).findIdx (fun c => decide (c < 128)) := ⟨_, rfl⟩
    have hc : (l.take 10).getD k 0 < 128 := by
      have := List.findIdx_getElem (w := hk)
      rw [ek]
      simp only [List.getD, List.getElem?_eq_getElem hk, Option.getD_some]
      exact of_decide_eq_true this
    have hb : ∀ j, j < k → 128 ≤ (l.take 10).getD j 0 := by
      intro j hj
      have h1 : j < (l.take 10).findIdx (fun c => decide (c < 128)) := by omega
      have := List.not_of_lt_findIdx h1
      have hjl : j < (l.take 10).length := by omega
      simp only [List.getD, List.getElem?_eq_getElem hjl, Option.getD_some]
      simpa using this
    rw [← ek] at hk
    by_cases hbad : (0 < k ∧ (l.take 10).getD k 0 = 0) ∨ (k = 9 ∧ 1 < (l.take 10).getD k 0)
    · exact .inr (.inr (takeN_bad hk hb hc hbad))
    · refine .inl ⟨k + 1, _, takeN_good hk hb hc hbad, by omega, by rw [List.length_take] at hk; omega, ?_, ?_⟩
      · have hk9 : k < 10 := by rw [List.length_take] at hk; omega
        have e : (l.take 10).take (k + 1) = l.take (k + 1) := by rw [List.take_take, Nat.min_eq_left (by omega)]
        rw [← e, take_snocN hk]
        refine put_of_bytes _ _ (fun x hx => ?_) hc (fun hne => ?_)
        · obtain ⟨j, hj, rfl⟩ := List.getElem_of_mem hx
          rw [List.length_take] at hj
          have h1 := hb j (by omega)
          have hjl : j < (l.take 10).length := by omega
          simp only [List.getD, List.getElem?_eq_getElem hjl, Option.getD_some] at h1
          rw [List.getElem_take]
          exact ⟨h1, hs _ (List.mem_of_mem_take (List.getElem_mem hjl))⟩
        · intro h0
          rcases Nat.eq_zero_or_pos k with hz | hz
          · subst hz; exact hne (by simp)
          · exact hbad (.inl ⟨hz, h0⟩)
      · have hk9 : k ≤ 9 := by rw [List.length_take] at hk; omega
        have h1 := val_lt ((l.take 10).take (k + 1))
        rw [List.length_take, Nat.min_eq_left (by omega)] at h1
        rcases Nat.lt_or_ge k 9 with h | h
        · have h2 : (128 : Nat) ^ (k + 1) ≤ 128 ^ 9 := Nat.pow_le_pow_right (by omega) (by omega)
          omega
        · have h9 : k = 9 := by omega
          subst h9
          rw [val_take_succ hk]
          have h2 := val_lt ((l.take 10).take 9)
          rw [List.length_take, Nat.min_eq_left (by omega)] at h2
          have h3 : (l.take 10).getD 9 0 ≤ 1 := by
            rcases Nat.lt_or_ge 1 ((l.take 10).getD 9 0) with h | h
            · exact absurd (.inr ⟨rfl, h⟩) hbad
            · exact h
          have h4 : (l.take 10).getD 9 0 % 128 = (l.take 10).getD 9 0 := Nat.mod_eq_of_lt hc
          rw [h4]
          have h5 : (l.take 10).getD 9 0 * 128 ^ 9 ≤ 1 * 128 ^ 9 := Nat.mul_le_mul_right _ h3
          omega
end Go.Proofs.Ytjknoiibfoddkaa
