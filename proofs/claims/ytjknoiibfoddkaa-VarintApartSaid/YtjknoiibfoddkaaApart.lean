/- kithlaw01.VarintApart walked: it returns true. -/
import Derived.Test.YtjknoiibfoddkaaAll
import Derived.Test.YtjknoiibfoddkaaPlain2
namespace Go.Proofs.Ytjknoiibfoddkaa
open Go.RowKit
set_option maxRecDepth 10000 in
set_option maxHeartbeats 1000000 in
theorem apart_l (x y lx ly : Nat) (bx by_ : List Nat) (w : World) (hx : x < 18446744073709551616) (hy : y < 18446744073709551616) (hlx : (putN x).length = lx) (hly : (putN y).length = ly) (hbx : putN x = bx) (hby : putN y = by_)
    (hle : lx ≤ ly) (h0 : 0 < lx) (he : ((str (bx.take lx)).toList == (str (by_.take lx)).toList) = decide (x = y)) :
    Calls Try.prog 6 #[.int .u64 x, .int .u64 y] w fun e w' => e = .returned (.bool true) ∧ Below w.heap.size w w' := by
  have h0' : (0 : Int) < lx := by omega
  have hnx : lx ≤ lx := by omega
  have hny : lx ≤ ly := by omega
  have HLX := Lib.hid hlx; have HLY := Lib.hid hly; have HBX := Lib.hid hbx; have HBY := Lib.hid hby; have HE := Lib.hid he
  have hxy : ((x : Int) == y) = decide (x = y) := by
    rw [Bool.eq_iff_iff]; simp; omega
  have HXY := Lib.hid hxy
  clear hlx hly hbx hby he hxy
  go_enter Try.func6, Try.ntmps6
  go_wp2_with fail
  refine (shown_any _).mono ?_
  rintro e w1 ⟨rfl, hb1⟩
  have hk1 : Kept w.heap.size w w1 := Kept.start hb1
  clear hb1
  go_wp2_with fail
  refine (put_any x _ hx).mono ?_
  rintro e w2 ⟨v2, rfl, hown2, hb2⟩
  obtain ⟨a2, c2, hv2, hp2⟩ := Bytes.of_own hown2
  rw [hv2]
  have hk2 := hk1.step hb2
  rw [HLX.out, HBX.out] at hp2
  rw [HLX.out]
  clear hown2 hv2 hk1
  go_wp2_with fail
  refine (put_any y _ hy).mono ?_
  rintro e w3 ⟨v3, rfl, hown3, hb3⟩
  obtain ⟨a3, c3, hv3, hp3⟩ := Bytes.of_own hown3
  rw [hv3]
  have hk3 := hk2.step hb3
  rw [HLY.out, HBY.out] at hp3
  rw [HLY.out]
  have hp2' := hp2.kept hb3 (Nat.le_refl _)
  clear hown3 hv3 hp2 hk2 hb3
  have hc2 := hp2'.cut lx hnx
  have hc3 := hp3.cut lx hny
  have g2 := hp2'.1
  have g3 := hp3.1
  have g2' : lx ≤ c2 := by omega
  have g3' : lx ≤ c3 := by omega
  have hcv2 := fun w' (h : Kept w3.heap.size w3 w') => run_str (P := Try.prog) Try.underlying23 Try.underlying5 (hc2.kept h.below (Nat.le_refl _)) 9 Try.underlying9
  have hcv3 := fun w' (h : Kept w3.heap.size w3 w') => run_str (P := Try.prog) Try.underlying23 Try.underlying5 (hc3.kept h.below (Nat.le_refl _)) 9 Try.underlying9
  have HC2 := Lib.hid hcv2; have HC3 := Lib.hid hcv3
  clear hc2 hc3 hcv2 hcv3 hp2' hp3 hb2
  go_wp2_with fail
  refine wp_region_noPanic (wp_region_sched (fun w' => Kept w3.heap.size w3 w') [(0, true), (1, true), (2, true), (3, true), (4, true), (5, true), (6, true), (7, true), (8, true), (9, true), (10, true), (11, true), (12, true), (13, true), (14, true), (15, true), (16, true), (17, true), (18, true), (19, true), (20, true)] (by kernel_rfl) (by kernel_rfl) (fun _ _ _ _ _ h => h) (Kept.drew ⟨Below.refl _ _, Nat.le_refl _⟩) (fun hHeld => ?_))
  have hcv2 := HC2.out
  have hcv3 := HC3.out
  have hse := HE.out
  have hxy := HXY.out
  repeat (first | (refine sched_skip rfl (by rfl) ?_; simp only [Act.put, List.setIfInBounds_toArray, List.set_cons_zero, List.set_cons_succ]) | (refine sched_pure (v := ?_) rfl (by rfl) ?_ ?_; rotate_left 1; (intro w' hS'; have hcc := hS'.cells; go_simp; with_reducible rfl); simp only [Act.put, List.setIfInBounds_toArray, List.set_cons_zero, List.set_cons_succ]) | fail)
  refine sched_end (NoPanic.normal ?_)
  clear hcv2 hcv3 hse hxy
  have hk4 := hk3.trans hHeld hk3.le
  go_wp2_with fail
  go_ret
  exact ⟨rfl, hk4.below⟩

set_option maxRecDepth 10000 in
set_option maxHeartbeats 1000000 in
theorem apart_r (x y lx ly : Nat) (bx by_ : List Nat) (w : World) (hx : x < 18446744073709551616) (hy : y < 18446744073709551616) (hlx : (putN x).length = lx) (hly : (putN y).length = ly) (hbx : putN x = bx) (hby : putN y = by_)
    (hle : ly < lx) (h0 : 0 < ly) (he : ((str (bx.take ly)).toList == (str (by_.take ly)).toList) = decide (x = y)) :
    Calls Try.prog 6 #[.int .u64 x, .int .u64 y] w fun e w' => e = .returned (.bool true) ∧ Below w.heap.size w w' := by
  have h0' : (0 : Int) < ly := by omega
  have hnx : ly ≤ lx := by omega
  have hny : ly ≤ ly := by omega
  have HLX := Lib.hid hlx; have HLY := Lib.hid hly; have HBX := Lib.hid hbx; have HBY := Lib.hid hby; have HE := Lib.hid he
  have hxy : ((x : Int) == y) = decide (x = y) := by
    rw [Bool.eq_iff_iff]; simp; omega
  have HXY := Lib.hid hxy
  clear hlx hly hbx hby he hxy
  go_enter Try.func6, Try.ntmps6
  go_wp2_with fail
  refine (shown_any _).mono ?_
  rintro e w1 ⟨rfl, hb1⟩
  have hk1 : Kept w.heap.size w w1 := Kept.start hb1
  clear hb1
  go_wp2_with fail
  refine (put_any x _ hx).mono ?_
  rintro e w2 ⟨v2, rfl, hown2, hb2⟩
  obtain ⟨a2, c2, hv2, hp2⟩ := Bytes.of_own hown2
  rw [hv2]
  have hk2 := hk1.step hb2
  rw [HLX.out, HBX.out] at hp2
  rw [HLX.out]
  clear hown2 hv2 hk1
  go_wp2_with fail
  refine (put_any y _ hy).mono ?_
  rintro e w3 ⟨v3, rfl, hown3, hb3⟩
  obtain ⟨a3, c3, hv3, hp3⟩ := Bytes.of_own hown3
  rw [hv3]
  have hk3 := hk2.step hb3
  rw [HLY.out, HBY.out] at hp3
  rw [HLY.out]
  have hp2' := hp2.kept hb3 (Nat.le_refl _)
  clear hown3 hv3 hp2 hk2 hb3
  have hc2 := hp2'.cut ly hnx
  have hc3 := hp3.cut ly hny
  have g2 := hp2'.1
  have g3 := hp3.1
  have g2' : ly ≤ c2 := by omega
  have g3' : ly ≤ c3 := by omega
  have hcv2 := fun w' (h : Kept w3.heap.size w3 w') => run_str (P := Try.prog) Try.underlying23 Try.underlying5 (hc2.kept h.below (Nat.le_refl _)) 9 Try.underlying9
  have hcv3 := fun w' (h : Kept w3.heap.size w3 w') => run_str (P := Try.prog) Try.underlying23 Try.underlying5 (hc3.kept h.below (Nat.le_refl _)) 9 Try.underlying9
  have HC2 := Lib.hid hcv2; have HC3 := Lib.hid hcv3
  clear hc2 hc3 hcv2 hcv3 hp2' hp3 hb2
  go_wp2_with fail
  refine wp_region_noPanic (wp_region_sched (fun w' => Kept w3.heap.size w3 w') [(0, true), (1, true), (2, true), (3, true), (4, true), (5, true), (6, true), (7, true), (8, true), (9, true), (10, true), (11, true), (12, true), (13, true), (14, true), (15, true), (16, true), (17, true), (18, true), (19, true), (20, true)] (by kernel_rfl) (by kernel_rfl) (fun _ _ _ _ _ h => h) (Kept.drew ⟨Below.refl _ _, Nat.le_refl _⟩) (fun hHeld => ?_))
  have hcv2 := HC2.out
  have hcv3 := HC3.out
  have hse := HE.out
  have hxy := HXY.out
  repeat (first | (refine sched_skip rfl (by rfl) ?_; simp only [Act.put, List.setIfInBounds_toArray, List.set_cons_zero, List.set_cons_succ]) | (refine sched_pure (v := ?_) rfl (by rfl) ?_ ?_; rotate_left 1; (intro w' hS'; have hcc := hS'.cells; go_simp; with_reducible rfl); simp only [Act.put, List.setIfInBounds_toArray, List.set_cons_zero, List.set_cons_succ]) | fail)
  refine sched_end (NoPanic.normal ?_)
  clear hcv2 hcv3 hse hxy
  have hk4 := hk3.trans hHeld hk3.le
  go_wp2_with fail
  go_ret
  exact ⟨rfl, hk4.below⟩

theorem apart_any (x y : Nat) (w : World) (hx : x < 18446744073709551616) (hy : y < 18446744073709551616) :
    Calls Try.prog 6 #[.int .u64 x, .int .u64 y] w fun e w' => e = .returned (.bool true) ∧ Below w.heap.size w w' := by
  have hp := put_apart x y
  have he : ∀ n, n = min (putN x).length (putN y).length → ((str ((putN x).take n)).toList == (str ((putN y).take n)).toList) = decide (x = y) := by
    rintro n rfl
    rw [str_beq (fun z hz => putN_small x z (List.mem_of_mem_take hz)) (fun z hz => putN_small y z (List.mem_of_mem_take hz))]
    exact decide_eq_decide.2 hp
  have h1 := putN_pos x
  have h2 := putN_pos y
  rcases Nat.lt_or_ge (putN y).length (putN x).length with h | h
  · exact apart_r x y _ _ _ _ w hx hy rfl rfl rfl rfl h h2 (he _ (by omega))
  · exact apart_l x y _ _ _ _ w hx hy rfl rfl rfl rfl h h1 (he _ (by omega))
end Go.Proofs.Ytjknoiibfoddkaa
