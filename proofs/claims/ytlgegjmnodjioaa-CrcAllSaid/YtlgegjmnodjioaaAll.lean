/- kithlaw02.CrcAll walked: it returns true. -/
import Derived.Test.YtlgegjmnodjioaaShown
import Derived.Test.YtlgegjmnodjioaaROpen
namespace Go.Proofs.Ytlgegjmnodjioaa
open Go.RowKit
instance (bs : List Nat) : Decidable (Opens bs) := by unfold Opens; infer_instance
def okN (bs : List Nat) : Bool := decide (Opens bs)
def resN (bs : List Nat) : List Nat := if Opens bs then bs.take (bs.length - 4) else []
theorem open_res {bs : List Nat} {w w' : World} {e : Ending} (h : OpenPost bs w e w') :
    ∃ a c, e = .returned (.tuple #[.slice a (resN bs).length c, .bool (okN bs)]) ∧ Bytes w' a (resN bs).length c (resN bs) ∧ Below w.heap.size w w' := by
  rcases h with ⟨ho, v, rfl, hown, hb⟩ | ⟨hno, rfl, hb⟩
  · have e1 : resN bs = bs.take (bs.length - 4) := if_pos ho
    have e2 : okN bs = true := decide_eq_true ho
    have e3 : (bs.take (bs.length - 4)).length = bs.length - 4 := by rw [List.length_take]; omega
    obtain ⟨a, c, rfl, hp⟩ := Bytes.of_own hown
    rw [e1, e2, e3]
    exact ⟨a, c, rfl, hp, hb⟩
  · have e1 : resN bs = [] := if_neg hno
    have e2 : okN bs = false := decide_eq_false hno
    rw [e1, e2]
    exact ⟨none, 0, rfl, ⟨Nat.le_refl _, by unfold maxLen; omega, .inl ⟨rfl, rfl⟩⟩, hb⟩
theorem res_len (bs : List Nat) : (resN bs).length ≤ bs.length := by
  unfold resN
  split
  · rw [List.length_take]; omega
  · simp

set_option maxRecDepth 10000 in
set_option maxHeartbeats 2000000 in
theorem all_any (a : Option Addr) (n cap : Nat) (bs : List Nat) (r : Nat) (cI : Int) (w : World) (h : Bytes w a n cap bs) (hs : ∀ x ∈ bs, x < 256) (hr : r < 4294967296) (hc0 : 0 ≤ cI) (hc1 : cI ≤ 255) :
    Calls Try.prog 3 #[.slice a n cap, .int .u32 r, .int .u8 cI] w fun e w' => e = .returned (.bool true) ∧ Below w.heap.size w w' := by
  obtain ⟨c, rfl⟩ := Int.eq_ofNat_of_zero_le hc0
  have hc : c < 256 := by omega
  obtain ⟨m, hm⟩ : ∃ m, m = min n 300 := ⟨_, rfl⟩
  have hcut := h.cut m (by omega)
  have hsm : ∀ x ∈ bs.take m, x < 256 := fun x hx => hs x (List.mem_of_mem_take hx)
  have hm300 : m ≤ 300 := by omega
  have HB := Lib.hid h; have HM := Lib.hid hm; have HC := Lib.hid hcut; have HS := Lib.hid hsm
  clear h hs hm hcut hsm
  go_enter Try.func3, Try.ntmps3
  go_wp2_with fail
  refine (shown_any _).mono ?_
  rintro e w1 ⟨rfl, hb1⟩
  have hk1 : Kept w.heap.size w w1 := Kept.start hb1
  clear hb1
  go_wp2_with fail
  refine (few_is HM.out (HB.out.kept hk1.below (Nat.le_refl _))).mono ?_
  rintro e w2 ⟨rfl, rfl⟩
  go_wp2_with fail
  refine (open_any (HC.out.kept hk1.below (Nat.le_refl _)) HS.out (by omega)).mono ?_
  rintro e w2 hO
  obtain ⟨a2, c2, rfl, hp2, hb2⟩ := open_res hO
  have hk2 := hk1.step hb2
  have HP2 := Lib.hid hp2
  clear hO hp2 hb2
  go_wp2_with fail
  refine (ropen_any (HC.out.kept hk2.below (Nat.le_refl _)) HS.out (by omega)).mono ?_
  rintro e w3 hO
  obtain ⟨a3, c3, rfl, hp3, hb3⟩ := open_res hO
  have hk3 := hk2.step hb3
  have hx2 := HP2.out.kept hb3 (Nat.le_refl _)
  have HP3 := Lib.hid hp3; have HX2 := Lib.hid hx2
  clear hO hp3 hb3 hx2 HP2
  generalize resN (bs.take m) = R at HP3 HX2 ⊢
  generalize okN (bs.take m) = ok at *
  generalize hRl : R.length = rl at HP3 HX2 ⊢
  clear hRl
  have hcx := HC.out.kept hk3.below (Nat.le_refl _)
  have HCX := Lib.hid hcx
  clear hcx
  generalize bs.take m = l at HS HCX ⊢
  go_wp2_with fail
  refine wp_region_noPanic (wp_region_sched (fun w' => Kept w3.heap.size w3 w') [(0, true), (1, true), (2, true), (4, true), (3, false), (5, false), (6, true), (7, true), (8, true), (9, true), (10, true), (12, true), (13, true), (11, false), (14, false), (15, true), (16, true), (17, true), (18, true), (21, true), (19, false), (20, true), (22, false), (23, true), (24, true), (25, true), (26, true), (27, true), (28, true), (29, true), (30, true), (31, true), (32, true), (33, true), (34, true), (35, true), (36, true), (37, true), (38, true)] (by kernel_rfl) (by kernel_rfl) (fun _ _ _ _ _ h => h) (Kept.drew ⟨Below.refl _ _, Nat.le_refl _⟩) (fun hHeld => ?_))
  repeat (first | (refine sched_skip rfl (by rfl) ?_; simp only [Act.put, List.setIfInBounds_toArray, List.set_cons_zero, List.set_cons_succ]) | (refine sched_pure (v := ?_) rfl (by rfl) ?_ ?_; rotate_left 1; (intro w' hS'; have hcc := hS'.cells; go_simp; with_reducible rfl); simp only [Act.put, List.setIfInBounds_toArray, List.set_cons_zero, List.set_cons_succ]) | fail)
  refine sched_eff rfl (by rfl) (fun K hK => ?_)
  go_simp
  refine (sum_any (HCX.out.kept hHeld.below (Nat.le_refl _)) HS.out).mono ?_
  rintro e w4 ⟨rfl, rfl⟩
  refine hK.out (fun w' => Kept w3.heap.size w3 w') _ _ (fun _ h => h) hHeld (fun hHeld' => ?_)
  clear hHeld hK K
  have hHeld := hHeld'
  clear hHeld'
  try simp only [Act.put, List.setIfInBounds_toArray, List.set_cons_zero, List.set_cons_succ]
  repeat (first | (refine sched_skip rfl (by rfl) ?_; simp only [Act.put, List.setIfInBounds_toArray, List.set_cons_zero, List.set_cons_succ]) | (refine sched_pure (v := ?_) rfl (by rfl) ?_ ?_; rotate_left 1; (intro w' hS'; have hcc := hS'.cells; go_simp; with_reducible rfl); simp only [Act.put, List.setIfInBounds_toArray, List.set_cons_zero, List.set_cons_succ]) | fail)
  refine sched_eff rfl (by rfl) (fun K hK => ?_)
  go_simp
  refine (rsum_any (HCX.out.kept hHeld.below (Nat.le_refl _)) HS.out).mono ?_
  rintro e w4 ⟨rfl, rfl⟩
  refine hK.out (fun w' => Kept w3.heap.size w3 w') _ _ (fun _ h => h) hHeld (fun hHeld' => ?_)
  clear hHeld hK K
  have hHeld := hHeld'
  clear hHeld'
  try simp only [Act.put, List.setIfInBounds_toArray, List.set_cons_zero, List.set_cons_succ]
  generalize sumN l = S
  repeat (first | (refine sched_skip rfl (by rfl) ?_; simp only [Act.put, List.setIfInBounds_toArray, List.set_cons_zero, List.set_cons_succ]) | (refine sched_pure (v := ?_) rfl (by rfl) ?_ ?_; rotate_left 1; (intro w' hS'; have hcc := hS'.cells; go_simp; with_reducible rfl); simp only [Act.put, List.setIfInBounds_toArray, List.set_cons_zero, List.set_cons_succ]) | fail)
  refine sched_eff rfl (by rfl) (fun K hK => ?_)
  go_simp
  refine (step_any r c _ hr hc).mono ?_
  rintro e w4 ⟨rfl, rfl⟩
  refine hK.out (fun w' => Kept w3.heap.size w3 w') _ _ (fun _ h => h) hHeld (fun hHeld' => ?_)
  clear hHeld hK K
  have hHeld := hHeld'
  clear hHeld'
  try simp only [Act.put, List.setIfInBounds_toArray, List.set_cons_zero, List.set_cons_succ]
  repeat (first | (refine sched_skip rfl (by rfl) ?_; simp only [Act.put, List.setIfInBounds_toArray, List.set_cons_zero, List.set_cons_succ]) | (refine sched_pure (v := ?_) rfl (by rfl) ?_ ?_; rotate_left 1; (intro w' hS'; have hcc := hS'.cells; go_simp; with_reducible rfl); simp only [Act.put, List.setIfInBounds_toArray, List.set_cons_zero, List.set_cons_succ]) | fail)
  refine sched_eff rfl (by rfl) (fun K hK => ?_)
  go_simp
  refine (rstep_any r c _ hr hc).mono ?_
  rintro e w4 ⟨rfl, rfl⟩
  refine hK.out (fun w' => Kept w3.heap.size w3 w') _ _ (fun _ h => h) hHeld (fun hHeld' => ?_)
  clear hHeld hK K
  have hHeld := hHeld'
  clear hHeld'
  try simp only [Act.put, List.setIfInBounds_toArray, List.set_cons_zero, List.set_cons_succ]
  generalize stepN r c = S2
  repeat (first | (refine sched_skip rfl (by rfl) ?_; simp only [Act.put, List.setIfInBounds_toArray, List.set_cons_zero, List.set_cons_succ]) | (refine sched_pure (v := ?_) rfl (by rfl) ?_ ?_; rotate_left 1; (intro w' hS'; have hcc := hS'.cells; go_simp; with_reducible rfl); simp only [Act.put, List.setIfInBounds_toArray, List.set_cons_zero, List.set_cons_succ]) | fail)
  refine sched_eff rfl (by rfl) (fun K hK => ?_)
  go_simp
  refine (seal_any (HCX.out.kept hHeld.below (Nat.le_refl _)) HS.out (by omega)).mono ?_
  rintro e w5 ⟨v5, rfl, hown_w5, hb⟩
  have hk_w5 := hHeld.step hb
  refine hK.out (fun w' => Kept w5.heap.size w5 w') _ _ (fun _ h => hk_w5.trans h hk_w5.le) ⟨Below.refl _ _, Nat.le_refl _⟩ (fun hHeld' => ?_)
  clear hHeld hK K
  have hHeld := hHeld'
  clear hHeld'
  try simp only [Act.put, List.setIfInBounds_toArray, List.set_cons_zero, List.set_cons_succ]
  obtain ⟨a_w5, c_w5, hv_w5, hp_w5⟩ := Bytes.of_own hown_w5
  rw [hv_w5]
  clear hown_w5 hv_w5
  have hcv5 := fun w' (h : Kept w5.heap.size w5 w') => run_str (P := Try.prog) Try.underlying22 Try.underlying5 (hp_w5.kept h.below (Nat.le_refl _)) 9 Try.underlying9
  repeat (first | (refine sched_skip rfl (by rfl) ?_; simp only [Act.put, List.setIfInBounds_toArray, List.set_cons_zero, List.set_cons_succ]) | (refine sched_pure (v := ?_) rfl (by rfl) ?_ ?_; rotate_left 1; (intro w' hS'; have hcc := hS'.cells; go_simp; with_reducible rfl); simp only [Act.put, List.setIfInBounds_toArray, List.set_cons_zero, List.set_cons_succ]) | fail)
  clear hcv5
  have hcx5 := HCX.out.kept hk_w5.below (Nat.le_refl _)
  refine sched_eff rfl (by rfl) (fun K hK => ?_)
  go_simp
  refine (rseal_any (hcx5.kept hHeld.below (Nat.le_refl _)) HS.out (by omega)).mono ?_
  rintro e w6 ⟨v6, rfl, hown_w6, hb⟩
  have hk_w6 := hHeld.step hb
  refine hK.out (fun w' => Kept w6.heap.size w6 w') _ _ (fun _ h => hk_w6.trans h hk_w6.le) ⟨Below.refl _ _, Nat.le_refl _⟩ (fun hHeld' => ?_)
  clear hHeld hK K
  have hHeld := hHeld'
  clear hHeld'
  try simp only [Act.put, List.setIfInBounds_toArray, List.set_cons_zero, List.set_cons_succ]
  obtain ⟨a_w6, c_w6, hv_w6, hp_w6⟩ := Bytes.of_own hown_w6
  rw [hv_w6]
  clear hown_w6 hv_w6
  have hk36 := hk_w5.trans hk_w6 hk_w5.le
  have hcv6 := fun w' (h : Kept w6.heap.size w6 w') => run_str (P := Try.prog) Try.underlying22 Try.underlying5 (hp_w6.kept h.below (Nat.le_refl _)) 9 Try.underlying9
  have hcv7 := fun w' (h : Kept w6.heap.size w6 w') => run_str (P := Try.prog) Try.underlying22 Try.underlying5 ((HX2.out.kept hk36.below (Nat.le_refl _)).kept h.below (Nat.le_refl _)) 9 Try.underlying9
  have hcv8 := fun w' (h : Kept w6.heap.size w6 w') => run_str (P := Try.prog) Try.underlying22 Try.underlying5 ((HP3.out.kept hk36.below (Nat.le_refl _)).kept h.below (Nat.le_refl _)) 9 Try.underlying9
  repeat (first | (refine sched_skip rfl (by rfl) ?_; simp only [Act.put, List.setIfInBounds_toArray, List.set_cons_zero, List.set_cons_succ]) | (refine sched_pure (v := ?_) rfl (by rfl) ?_ ?_; rotate_left 1; (intro w' hS'; have hcc := hS'.cells; go_simp; with_reducible rfl); simp only [Act.put, List.setIfInBounds_toArray, List.set_cons_zero, List.set_cons_succ]) | fail)
  refine sched_end (NoPanic.normal ?_)
  have hk7 := hk3.trans hk36 hk3.le
  go_wp2_with fail
  go_ret
  exact ⟨rfl, hk7.below⟩
end Go.Proofs.Ytlgegjmnodjioaa
