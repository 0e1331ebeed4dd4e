/- kithlaw01.VarintAll walked: it returns true. -/
import Derived.Test.YtjknoiibfoddkaaRef
namespace Go.Proofs.Ytjknoiibfoddkaa
open Go.RowKit
set_option maxRecDepth 10000 in
set_option maxHeartbeats 1000000 in
theorem all_any (n : Nat) (a : Option Addr) (m cap : Nat) (bs : List Nat) (w : World) (hn : n < 18446744073709551616) (h : Bytes w a m cap bs) (hs : ∀ x ∈ bs, x < 256) :
    Calls Try.prog 3 #[.int .u64 n, .slice a m cap] w fun e w' => e = .returned (.bool true) ∧ Below w.heap.size w w' := by
  obtain ⟨m', hm'⟩ : ∃ m', m' = min m 20 := ⟨_, rfl⟩
  have HB := Lib.hid h; have HM := Lib.hid hm'
  have hc := h.cut m' (by omega)
  have HC := Lib.hid hc
  have hs' : ∀ x ∈ bs.take m', x < 256 := fun x hx => hs x (List.mem_of_mem_take hx)
  have HS := Lib.hid hs'
  clear h hm' hc hs hs'
  go_enter Try.func3, Try.ntmps3
  go_wp2_with fail
  refine (shown_any _).mono ?_
  rintro e w1 ⟨rfl, hb1⟩
  have hk1 : Kept w.heap.size w w1 := Kept.start hb1
  clear hb1
  go_wp2_with fail
  refine (few_is HM.out (HB.out.kept hk1.below (Nat.le_refl _))).mono ?_
  rintro e w2 ⟨rfl, rfl⟩
  go_wp2_with fail
  refine (take_any (HC.out.kept hk1.below (Nat.le_refl _)) HS.out).mono ?_
  rintro e w2 hT
  obtain ⟨rfl, rfl⟩ := hT
  go_wp2_with fail
  refine (few_is HM.out (HB.out.kept hk1.below (Nat.le_refl _))).mono ?_
  rintro e w2 ⟨rfl, rfl⟩
  go_wp2_with fail
  refine (rtake_any (HC.out.kept hk1.below (Nat.le_refl _)) HS.out).mono ?_
  rintro e w3 hT
  obtain ⟨rfl, hb3⟩ := hT
  have hk3 := hk1.step hb3
  clear hb3
  generalize (takeN ((bs.take m').take 10)).1 = t1
  generalize (takeN ((bs.take m').take 10)).2.1 = t2
  generalize (takeN ((bs.take m').take 10)).2.2 = t3
  go_wp2_with fail
  refine wp_region_noPanic (wp_region_sched (fun w' => Kept w3.heap.size w3 w') [(0, true), (1, true), (2, true), (5, true), (3, false), (4, true), (6, false), (7, true), (8, true), (9, true), (10, true), (11, true), (12, true), (13, true), (14, true), (15, true), (16, true), (17, true), (18, true), (19, true), (20, true), (21, true), (22, true), (23, true), (24, true), (25, true)] (by kernel_rfl) (by kernel_rfl) (fun _ _ _ _ _ h => h) (Kept.drew ⟨Below.refl _ _, Nat.le_refl _⟩) (fun hHeld => ?_))
  repeat (first | (refine sched_skip rfl (by rfl) ?_; simp only [Act.put, List.setIfInBounds_toArray, List.set_cons_zero, List.set_cons_succ]) | (refine sched_pure (v := ?_) rfl (by rfl) ?_ ?_; rotate_left 1; (intro w' hS'; have hcc := hS'.cells; go_simp; with_reducible rfl); simp only [Act.put, List.setIfInBounds_toArray, List.set_cons_zero, List.set_cons_succ]) | fail)
  refine sched_eff rfl (by rfl) (fun K hK => ?_)
  go_simp
  refine (put_any n _ hn).mono ?_
  rintro e w4 ⟨v4, rfl, hown4, hb⟩
  have hk_w4 := hHeld.step hb
  refine hK.out (fun w' => Kept w4.heap.size w4 w') _ _ (fun _ h => hk_w4.trans h hk_w4.le) ⟨Below.refl _ _, Nat.le_refl _⟩ (fun hHeld' => ?_)
  clear hHeld hK K
  have hHeld := hHeld'
  clear hHeld'
  try simp only [Act.put, List.setIfInBounds_toArray, List.set_cons_zero, List.set_cons_succ]
  obtain ⟨a4, c4, hv4, hp4⟩ := Bytes.of_own hown4
  rw [hv4]
  clear hown4 hv4
  have hcv4 := fun w' (h : Kept w4.heap.size w4 w') => run_str (P := Try.prog) Try.underlying23 Try.underlying5 (hp4.kept h.below (Nat.le_refl _)) 9 Try.underlying9
  repeat (first | (refine sched_skip rfl (by rfl) ?_; simp only [Act.put, List.setIfInBounds_toArray, List.set_cons_zero, List.set_cons_succ]) | (refine sched_pure (v := ?_) rfl (by rfl) ?_ ?_; rotate_left 1; (intro w' hS'; have hcc := hS'.cells; go_simp; with_reducible rfl); simp only [Act.put, List.setIfInBounds_toArray, List.set_cons_zero, List.set_cons_succ]) | fail)
  refine sched_eff rfl (by rfl) (fun K hK => ?_)
  go_simp
  refine (rput_any n _ hn).mono ?_
  rintro e w5 ⟨v5, rfl, hown5, hb⟩
  have hk_w5 := hHeld.step hb
  refine hK.out (fun w' => Kept w5.heap.size w5 w') _ _ (fun _ h => hk_w5.trans h hk_w5.le) ⟨Below.refl _ _, Nat.le_refl _⟩ (fun hHeld' => ?_)
  clear hHeld hK K
  have hHeld := hHeld'
  clear hHeld'
  try simp only [Act.put, List.setIfInBounds_toArray, List.set_cons_zero, List.set_cons_succ]
  obtain ⟨a5, c5, hv5, hp5⟩ := Bytes.of_own hown5
  rw [hv5]
  clear hown5 hv5 hcv4
  have hcv5 := fun w' (h : Kept w5.heap.size w5 w') => run_str (P := Try.prog) Try.underlying23 Try.underlying5 (hp5.kept h.below (Nat.le_refl _)) 9 Try.underlying9
  repeat (first | (refine sched_skip rfl (by rfl) ?_; simp only [Act.put, List.setIfInBounds_toArray, List.set_cons_zero, List.set_cons_succ]) | (refine sched_pure (v := ?_) rfl (by rfl) ?_ ?_; rotate_left 1; (intro w' hS'; have hcc := hS'.cells; go_simp; with_reducible rfl); simp only [Act.put, List.setIfInBounds_toArray, List.set_cons_zero, List.set_cons_succ]) | fail)
  refine sched_end (NoPanic.normal ?_)
  have hk6 := (hk3.trans hk_w4 hk3.le).trans hk_w5 (Nat.le_trans hk3.le hk_w4.le)
  go_wp2_with fail
  go_ret
  exact ⟨rfl, hk6.below⟩
end Go.Proofs.Ytjknoiibfoddkaa
