/- kithref01.Take walked: it answers as varint.Take does. -/
import Derived.Test.YtjknoiibfoddkaaShown
import Derived.Test.YtjknoiibfoddkaaRefN
import Derived.Test.YtjknoiibfoddkaaSched
namespace Go.Proofs.Ytjknoiibfoddkaa
open Go.RowKit
/-- the post of the reference: the same answer; it makes memory -/
def RTakePost (l : List Nat) (w : World) (e : Ending) (w' : World) : Prop := e = .returned (.tuple #[.int .u64 ((takeN l).1 : Nat), .int .i64 ((takeN l).2.1 : Nat), .int .i64 ((takeN l).2.2 : Nat)]) ∧ Below w.heap.size w w'
theorem rtake_is {l : List Nat} {a b c : Nat} {w w' : World} (h : takeN l = (a, b, c)) (hb : Below w.heap.size w w') : RTakePost l w (.returned (.tuple #[.int .u64 (a : Nat), .int .i64 (b : Nat), .int .i64 (c : Nat)])) w' := by
  unfold RTakePost; rw [h]; exact ⟨rfl, hb⟩

set_option maxRecDepth 10000 in
set_option maxHeartbeats 4000000 in
theorem rtake_big (b off n0 cap : Nat) (l : List Nat) (w : World) (hbig : 10 < n0) (hl : l.length = 10) (hs : ∀ x ∈ l, x < 256) (hcap : n0 ≤ cap) (hcm : cap ≤ maxLen) (hbl : b < w.heap.size)
    (hc : ∀ i, i < 10 → w.cell? ⟨b, off + i, none⟩ = some (.int .u8 ((l.getD i 0 : Nat) : Int))) :
    Calls Try.prog 12 #[.slice (some ⟨b, off, none⟩) n0 cap] w (RTakePost l w) := by
  have HCM := Lib.hid hcm
  unfold maxLen at hcm
  have HC := Lib.hid hc; have HS := Lib.hid hs; have HL := Lib.hid hl
  clear hc hs hl
  go_enter Try.func12, Try.ntmps12
  go_wp2_with fail
  go_loop [6] (fun i => ∃ k : Nat, k ≤ 10 ∧ i = .int .i64 k ∧ Hid (∀ j, j < k → 128 ≤ l.getD j 0)) (fun i => 10 - (intOf i).toNat)
  case atStart => exact ⟨0, by omega, rfl, fun j hj => by omega⟩
  case round =>
    obtain ⟨k, hk, rfl, HG⟩ := hrel
    by_cases hlt : k < 10
    · have hc1 := HC.out k hlt
      have hll : k < l.length := by rw [HL.out]; exact hlt
      have hgood := fun (h : l.getD k 0 < 128) hb => takeN_good hll HG.out h hb
      have hbad := fun (h : l.getD k 0 < 128) hb => takeN_bad hll HG.out h hb
      have hback := fun (h : l.getD k 0 < 128) => put_back HS.out hll (by rw [HL.out]; omega) HG.out h
      have hgo : 128 ≤ l.getD k 0 → ∀ j, j < k + 1 → 128 ≤ l.getD j 0 := fun h j hj => by
        rcases Nat.lt_or_ge j k with h1 | h1
        · exact HG.out j h1
        · obtain rfl : j = k := by omega
          exact h
      generalize l.getD k 0 = c at hc1 hgood hbad hgo hback
      have HGood := Lib.hid hgood; have HBad := Lib.hid hbad; have HGo := Lib.hid hgo; have HBack := Lib.hid hback
      clear hgood hbad hgo hll hback
      by_cases h128 : 128 ≤ c
      · go_wp2_with fail
        go_round
        case rel => exact ⟨k + 1, by omega, by go_num, HGo.out h128⟩
        case measure => simp [intOf]; omega
      · have hkm : ((k : Int) == 10) = false := by simp; omega
        have hclt : c < 128 := by omega
        go_wp2_with fail
        go_loop [7, 8] (fun x i => ∃ j : Nat, j ≤ k + 1 ∧ i = .int .i64 ((j : Int) - 1) ∧ x = .int .u64 ((val ((l.take (k + 1)).drop j) % 18446744073709551616 : Nat) : Int)) (fun _ i => (intOf i + 1).toNat)
        case atStart =>
          refine ⟨k + 1, Nat.le_refl _, by go_num, ?_⟩
          have e : (l.take (k + 1)).drop (k + 1) = [] := List.drop_eq_nil_of_le (by rw [List.length_take]; omega)
          rw [e]; rfl
        case round =>
          obtain ⟨j, hj, rfl, rfl⟩ := hrel
          rcases j with _ | i
          · generalize hN : val ((l.take (k + 1)).drop 0) % 18446744073709551616 = N
            have hN' : val (l.take (k + 1)) % 18446744073709551616 = N := hN
            have hNb : N < 18446744073709551616 := by omega
            have HN := Lib.hid hN'
            clear hN hN'
            have e0 : ((0 : Nat) : Int) - 1 = -1 := by omega
            rw [e0]
            clear e0
            have hbx : Bytes w (some ⟨b, off, none⟩) (k + 1) cap (l.take (k + 1)) := ⟨by omega, HCM.out, .inr ⟨b, off, rfl, hbl, by rw [List.length_take, HL.out]; omega, fun q hq => by rw [take_getD hq]; exact HC.out q (by omega)⟩⟩
            have hsl : ((k : Int) + 1).toNat = k + 1 := by omega
            have hkc : k + 1 ≤ cap := by omega
            have hkc2 : (k : Int) + 1 ≤ cap := by omega
            have hk01 : (0 : Int) ≤ (k : Int) + 1 := by omega
            have hw1 : IntKind.i64.wrap ((k : Int) + 1) = (k : Int) + 1 := IntWalk.i64_in _ (by omega)
            have HW1 := Lib.hid hw1; have HSL := Lib.hid hsl
            clear hw1 hsl
            have hK : Kept w.heap.size w w := ⟨Below.refl _ _, Nat.le_refl _⟩
            have hcvx : ∀ w', Kept w.heap.size w w' → Sem.run Try.prog (convert 23 9 (.slice (some ⟨b, off, none⟩) (k + 1) cap)) w' = .ok (.string (str (l.take (k + 1)))) w' :=
              fun w' h => run_str Try.underlying23 Try.underlying5 (hbx.kept h.below (Nat.le_refl _)) 9 Try.underlying9
            have HCV := Lib.hid hcvx
            clear hbx hcvx
            go_wp2_with fail
            refine wp_region_noPanic (wp_region_sched (fun w' => Kept w.heap.size w w') [(0, true), (3, true), (4, true), (5, true), (6, true), (7, true), (1, false), (2, false), (8, true)] (by kernel_rfl) (by kernel_rfl) (fun _ _ _ _ _ h => h) hK.drew (fun hHeld => ?_))
            obtain ⟨v, hvv⟩ : ∃ v, v = decide (putN N = l.take (k + 1)) := ⟨_, rfl⟩
            have hse := str_beq (putN_small N) (fun x hx => HS.out x (List.mem_of_mem_take hx) : ∀ x ∈ l.take (k + 1), x < 256)
            rw [← hvv] at hse
            have hvb : v = true ↔ ¬ ((0 < k ∧ c = 0) ∨ (k = 9 ∧ 1 < c)) := by
              rw [hvv, decide_eq_true_eq, ← HN.out]
              exact HBack.out hclt
            have HSE := Lib.hid hse; have HVB := Lib.hid hvb
            clear hvv hse hvb
            have hw1 := HW1.out
            have hsl := HSL.out
            iterate 5 (refine sched_pure (v := ?_) rfl (by rfl) ?_ ?_; rotate_left 1; (intro w' hS'; go_simp; (with_reducible rfl)); simp only [Act.put, List.setIfInBounds_toArray, List.set_cons_zero, List.set_cons_succ])
            refine sched_pure (v := ?_) rfl (by rfl) ?_ ?_
            rotate_left 1
            · intro w' hS'
              have hcv := HCV.out w' hS'
              go_simp
              with_reducible rfl
            simp only [Act.put, List.setIfInBounds_toArray, List.set_cons_zero, List.set_cons_succ]
            clear hw1 hsl
            refine sched_eff rfl (by rfl) (fun K hK' => ?_)
            go_simp
            refine (rput_any N _ hNb).mono ?_
            rintro e w2 ⟨vv, rfl, hown, hb2⟩
            have hS2 : Kept w.heap.size w w2 := hHeld.step hb2
            refine hK'.out (fun w' => Kept w.heap.size w w') _ _ (fun _ h => h) hS2 (fun hHeld => ?_)
            clear hK' K hS2
            obtain ⟨a2, c2, hv2, hp2⟩ := Bytes.of_own hown
            rw [hv2]
            clear hown hv2
            try simp only [Act.put, List.setIfInBounds_toArray, List.set_cons_zero, List.set_cons_succ]
            refine sched_eff rfl (by rfl) (fun K hK' => ?_)
            have hcv2 := run_str (P := Try.prog) Try.underlying23 Try.underlying5 hp2 9 Try.underlying9
            go_simp
            refine hK'.out (fun w' => Kept w.heap.size w w') _ _ (fun _ h => h) hHeld (fun hHeld => ?_)
            clear hK' K hcv2
            try simp only [Act.put, List.setIfInBounds_toArray, List.set_cons_zero, List.set_cons_succ]
            have hse := HSE.out
            refine sched_pure (v := ?_) rfl (by rfl) ?_ ?_
            rotate_left 1
            · intro w' hS'
              go_simp
              with_reducible rfl
            simp only [Act.put, List.setIfInBounds_toArray, List.set_cons_zero, List.set_cons_succ]
            clear hse
            refine sched_end (NoPanic.normal ?_)
            have hb3 := hHeld.below
            clear hHeld
            cases v
            · have hT := rtake_is (HBad.out hclt (Classical.byContradiction fun h => by have := HVB.out.2 h; cases this)) hb3
              have HT := Lib.hid hT
              clear hT
              go_wp2_with fail
              go_ret3
              exact HT.out
            · have hgood := (HVB.out).1 rfl
              have heq := (HBack.out hclt).2 hgood
              have hval : val (l.take (k + 1)) = N := by
                have h1 := val_put N
                rw [HN.out] at heq
                rw [heq] at h1
                exact h1
              have hT := rtake_is (HGood.out hclt hgood) hb3
              rw [hval] at hT
              have HT := Lib.hid hT
              clear hT hgood heq hval
              go_wp2_with fail
              go_ret3
              exact HT.out
          · have e0 : ((i + 1 : Nat) : Int) - 1 = (i : Int) := by omega
            rw [e0]
            clear e0
            have hci := HC.out i (by omega)
            have hval := val_drop (l := l.take (k + 1)) (i := i) (by rw [List.length_take, HL.out]; omega)
            rw [take_getD (by omega)] at hval
            have hsm : l.getD i 0 < 256 := HS.out _ (getD_mem (by rw [HL.out]; omega))
            generalize l.getD i 0 = d at hci hval hsm
            have hho := horner (val ((l.take (k + 1)).drop (i + 1))) d
            rw [← hval] at hho
            generalize val ((l.take (k + 1)).drop (i + 1)) % 18446744073709551616 = V at hho
            have HHO := Lib.hid hho
            clear hval hho
            go_wp2_with fail
            have hwr : IntKind.u64.wrap (IntKind.u64.wrap ((V : Int) * 128) + (d : Int) % 128) = ((val ((l.take (k + 1)).drop i) % 18446744073709551616 : Nat) : Int) := by
              rw [← HHO.out, IntKind.wrap_u64, IntKind.wrap_u64]
              simp
            rw [hwr]
            go_round
            case rel => exact ⟨i, by omega, rfl, rfl⟩
            case measure => simp [intOf]
    · have hkn : k = 10 := by omega
      have hno := takeN_none (l := l) (fun j hj => HG.out j (by rw [HL.out] at hj; omega))
      rw [HL.out] at hno
      have hT := rtake_is (w := w) hno (Below.refl _ _)
      have HT := Lib.hid hT
      clear hno hT HG
      subst hkn
      go_wp2_with fail
      go_ret3
      exact HT.out

set_option maxRecDepth 10000 in
set_option maxHeartbeats 4000000 in
theorem rtake_small (b off n cap : Nat) (l : List Nat) (w : World) (h10 : n ≤ 10) (hl : l.length = n) (hs : ∀ x ∈ l, x < 256) (hcap : n ≤ cap) (hcm : cap ≤ maxLen) (hbl : b < w.heap.size)
    (hc : ∀ i, i < n → w.cell? ⟨b, off + i, none⟩ = some (.int .u8 ((l.getD i 0 : Nat) : Int))) :
    Calls Try.prog 12 #[.slice (some ⟨b, off, none⟩) n cap] w (RTakePost l w) := by
  have HCM := Lib.hid hcm
  unfold maxLen at hcm
  have HC := Lib.hid hc; have HS := Lib.hid hs; have HL := Lib.hid hl
  clear hc hs hl
  go_enter Try.func12, Try.ntmps12
  go_wp2_with fail
  go_loop [6] (fun i => ∃ k : Nat, k ≤ n ∧ i = .int .i64 k ∧ Hid (∀ j, j < k → 128 ≤ l.getD j 0)) (fun i => n - (intOf i).toNat)
  case atStart => exact ⟨0, by omega, rfl, fun j hj => by omega⟩
  case round =>
    obtain ⟨k, hk, rfl, HG⟩ := hrel
    by_cases hlt : k < n
    · have hc1 := HC.out k hlt
      have hll : k < l.length := by rw [HL.out]; exact hlt
      have hgood := fun (h : l.getD k 0 < 128) hb => takeN_good hll HG.out h hb
      have hbad := fun (h : l.getD k 0 < 128) hb => takeN_bad hll HG.out h hb
      have hback := fun (h : l.getD k 0 < 128) => put_back HS.out hll (by rw [HL.out]; omega) HG.out h
      have hgo : 128 ≤ l.getD k 0 → ∀ j, j < k + 1 → 128 ≤ l.getD j 0 := fun h j hj => by
        rcases Nat.lt_or_ge j k with h1 | h1
        · exact HG.out j h1
        · obtain rfl : j = k := by omega
          exact h
      generalize l.getD k 0 = c at hc1 hgood hbad hgo hback
      have HGood := Lib.hid hgood; have HBad := Lib.hid hbad; have HGo := Lib.hid hgo; have HBack := Lib.hid hback
      clear hgood hbad hgo hll hback
      by_cases h128 : 128 ≤ c
      · go_wp2_with fail
        go_round
        case rel => exact ⟨k + 1, by omega, by go_num, HGo.out h128⟩
        case measure => simp [intOf]; omega
      · have hkm : ((k : Int) == (n : Int)) = false := by simp; omega
        have hclt : c < 128 := by omega
        go_wp2_with fail
        go_loop [7, 8] (fun x i => ∃ j : Nat, j ≤ k + 1 ∧ i = .int .i64 ((j : Int) - 1) ∧ x = .int .u64 ((val ((l.take (k + 1)).drop j) % 18446744073709551616 : Nat) : Int)) (fun _ i => (intOf i + 1).toNat)
        case atStart =>
          refine ⟨k + 1, Nat.le_refl _, by go_num, ?_⟩
          have e : (l.take (k + 1)).drop (k + 1) = [] := List.drop_eq_nil_of_le (by rw [List.length_take]; omega)
          rw [e]; rfl
        case round =>
          obtain ⟨j, hj, rfl, rfl⟩ := hrel
          rcases j with _ | i
          · generalize hN : val ((l.take (k + 1)).drop 0) % 18446744073709551616 = N
            have hN' : val (l.take (k + 1)) % 18446744073709551616 = N := hN
            have hNb : N < 18446744073709551616 := by omega
            have HN := Lib.hid hN'
            clear hN hN'
            have e0 : ((0 : Nat) : Int) - 1 = -1 := by omega
            rw [e0]
            clear e0
            have hbx : Bytes w (some ⟨b, off, none⟩) (k + 1) cap (l.take (k + 1)) := ⟨by omega, HCM.out, .inr ⟨b, off, rfl, hbl, by rw [List.length_take, HL.out]; omega, fun q hq => by rw [take_getD hq]; exact HC.out q (by omega)⟩⟩
            have hsl : ((k : Int) + 1).toNat = k + 1 := by omega
            have hkc : k + 1 ≤ cap := by omega
            have hkc2 : (k : Int) + 1 ≤ cap := by omega
            have hk01 : (0 : Int) ≤ (k : Int) + 1 := by omega
            have hw1 : IntKind.i64.wrap ((k : Int) + 1) = (k : Int) + 1 := IntWalk.i64_in _ (by omega)
            have HW1 := Lib.hid hw1; have HSL := Lib.hid hsl
            clear hw1 hsl
            have hK : Kept w.heap.size w w := ⟨Below.refl _ _, Nat.le_refl _⟩
            have hcvx : ∀ w', Kept w.heap.size w w' → Sem.run Try.prog (convert 23 9 (.slice (some ⟨b, off, none⟩) (k + 1) cap)) w' = .ok (.string (str (l.take (k + 1)))) w' :=
              fun w' h => run_str Try.underlying23 Try.underlying5 (hbx.kept h.below (Nat.le_refl _)) 9 Try.underlying9
            have HCV := Lib.hid hcvx
            clear hbx hcvx
            go_wp2_with fail
            refine wp_region_noPanic (wp_region_sched (fun w' => Kept w.heap.size w w') [(0, true), (3, true), (4, true), (5, true), (6, true), (7, true), (1, false), (2, false), (8, true)] (by kernel_rfl) (by kernel_rfl) (fun _ _ _ _ _ h => h) hK.drew (fun hHeld => ?_))
            obtain ⟨v, hvv⟩ : ∃ v, v = decide (putN N = l.take (k + 1)) := ⟨_, rfl⟩
            have hse := str_beq (putN_small N) (fun x hx => HS.out x (List.mem_of_mem_take hx) : ∀ x ∈ l.take (k + 1), x < 256)
            rw [← hvv] at hse
            have hvb : v = true ↔ ¬ ((0 < k ∧ c = 0) ∨ (k = 9 ∧ 1 < c)) := by
              rw [hvv, decide_eq_true_eq, ← HN.out]
              exact HBack.out hclt
            have HSE := Lib.hid hse; have HVB := Lib.hid hvb
            clear hvv hse hvb
            have hw1 := HW1.out
            have hsl := HSL.out
            iterate 5 (refine sched_pure (v := ?_) rfl (by rfl) ?_ ?_; rotate_left 1; (intro w' hS'; go_simp; (with_reducible rfl)); simp only [Act.put, List.setIfInBounds_toArray, List.set_cons_zero, List.set_cons_succ])
            refine sched_pure (v := ?_) rfl (by rfl) ?_ ?_
            rotate_left 1
            · intro w' hS'
              have hcv := HCV.out w' hS'
              go_simp
              with_reducible rfl
            simp only [Act.put, List.setIfInBounds_toArray, List.set_cons_zero, List.set_cons_succ]
            clear hw1 hsl
            refine sched_eff rfl (by rfl) (fun K hK' => ?_)
            go_simp
            refine (rput_any N _ hNb).mono ?_
            rintro e w2 ⟨vv, rfl, hown, hb2⟩
            have hS2 : Kept w.heap.size w w2 := hHeld.step hb2
            refine hK'.out (fun w' => Kept w.heap.size w w') _ _ (fun _ h => h) hS2 (fun hHeld => ?_)
            clear hK' K hS2
            obtain ⟨a2, c2, hv2, hp2⟩ := Bytes.of_own hown
            rw [hv2]
            clear hown hv2
            try simp only [Act.put, List.setIfInBounds_toArray, List.set_cons_zero, List.set_cons_succ]
            refine sched_eff rfl (by rfl) (fun K hK' => ?_)
            have hcv2 := run_str (P := Try.prog) Try.underlying23 Try.underlying5 hp2 9 Try.underlying9
            go_simp
            refine hK'.out (fun w' => Kept w.heap.size w w') _ _ (fun _ h => h) hHeld (fun hHeld => ?_)
            clear hK' K hcv2
            try simp only [Act.put, List.setIfInBounds_toArray, List.set_cons_zero, List.set_cons_succ]
            have hse := HSE.out
            refine sched_pure (v := ?_) rfl (by rfl) ?_ ?_
            rotate_left 1
            · intro w' hS'
              go_simp
              with_reducible rfl
            simp only [Act.put, List.setIfInBounds_toArray, List.set_cons_zero, List.set_cons_succ]
            clear hse
            refine sched_end (NoPanic.normal ?_)
            have hb3 := hHeld.below
            clear hHeld
            cases v
            · have hT := rtake_is (HBad.out hclt (Classical.byContradiction fun h => by have := HVB.out.2 h; cases this)) hb3
              have HT := Lib.hid hT
              clear hT
              go_wp2_with fail
              go_ret3
              exact HT.out
            · have hgood := (HVB.out).1 rfl
              have heq := (HBack.out hclt).2 hgood
              have hval : val (l.take (k + 1)) = N := by
                have h1 := val_put N
                rw [HN.out] at heq
                rw [heq] at h1
                exact h1
              have hT := rtake_is (HGood.out hclt hgood) hb3
              rw [hval] at hT
              have HT := Lib.hid hT
              clear hT hgood heq hval
              go_wp2_with fail
              go_ret3
              exact HT.out
          · have e0 : ((i + 1 : Nat) : Int) - 1 = (i : Int) := by omega
            rw [e0]
            clear e0
            have hci := HC.out i (by omega)
            have hval := val_drop (l := l.take (k + 1)) (i := i) (by rw [List.length_take, HL.out]; omega)
            rw [take_getD (by omega)] at hval
            have hsm : l.getD i 0 < 256 := HS.out _ (getD_mem (by rw [HL.out]; omega))
            generalize l.getD i 0 = d at hci hval hsm
            have hho := horner (val ((l.take (k + 1)).drop (i + 1))) d
            rw [← hval] at hho
            generalize val ((l.take (k + 1)).drop (i + 1)) % 18446744073709551616 = V at hho
            have HHO := Lib.hid hho
            clear hval hho
            go_wp2_with fail
            have hwr : IntKind.u64.wrap (IntKind.u64.wrap ((V : Int) * 128) + (d : Int) % 128) = ((val ((l.take (k + 1)).drop i) % 18446744073709551616 : Nat) : Int) := by
              rw [← HHO.out, IntKind.wrap_u64, IntKind.wrap_u64]
              simp
            rw [hwr]
            go_round
            case rel => exact ⟨i, by omega, rfl, rfl⟩
            case measure => simp [intOf]
    · have hkn : k = n := by omega
      have hno := takeN_none (l := l) (fun j hj => HG.out j (by rw [HL.out] at hj; omega))
      rw [HL.out] at hno
      have hkk : ((k : Int) == n) = true := by simp; omega
      by_cases h9 : n = 10
      · rw [if_pos h9] at hno
        have hT := rtake_is (w := w) hno (Below.refl _ _)
        have HT := Lib.hid hT
        have h9' : ((n : Int) == 10) = true := by simp; omega
        clear hno hT HG h9 hkn
        go_wp2_with fail
        go_ret3
        exact HT.out
      · rw [if_neg h9] at hno
        have hT := rtake_is (w := w) hno (Below.refl _ _)
        have HT := Lib.hid hT
        have h9' : ((n : Int) == 10) = false := by simp; omega
        clear hno hT HG h9 hkn
        go_wp2_with fail
        go_ret3
        exact HT.out

theorem rtake_zero (a : Option Addr) (cap : Nat) (w : World) : Calls Try.prog 12 #[.slice a 0 cap] w (RTakePost [] w) := by
  go_enter Try.func12, Try.ntmps12
  go_wp2_with fail
  go_loop [6] (fun i => i = .int .i64 0) (fun _ => 0)
  case atStart => rfl
  case round =>
    subst hrel
    go_wp2_with fail
    go_ret3
    exact rtake_is (a := 0) (b := 0) (c := 2) (takeN_none (l := []) (fun j hj => by simp at hj)) (Below.refl _ _)
theorem rtake_any {a : Option Addr} {n cap : Nat} {bs : List Nat} {w : World} (h : Bytes w a n cap bs) (hs : ∀ x ∈ bs, x < 256) :
    Calls Try.prog 12 #[.slice a n cap] w (RTakePost (bs.take 10) w) := by
  have hl := h.len
  obtain ⟨h1, h2, ⟨rfl, rfl⟩ | ⟨b, off, rfl, h4, h5, h6⟩⟩ := h
  · exact rtake_zero a cap w
  · have hs' : ∀ x ∈ bs.take 10, x < 256 := fun x hx => hs x (List.mem_of_mem_take hx)
    rcases Nat.lt_or_ge 10 n with hb | hb
    · exact rtake_big b off n cap (bs.take 10) w hb (by rw [List.length_take]; omega) hs' h1 h2 h4 (fun i hi => by rw [take_getD hi]; exact h6 i (by omega))
    · have e : bs.take 10 = bs := List.take_of_length_le (by omega)
      rw [e]
      exact rtake_small b off n cap bs w hb hl hs h1 h2 h4 h6
end Go.Proofs.Ytjknoiibfoddkaa
