/- kithlaw04.StampOrders walked: it returns true. -/
import Derived.Test.YtekcechjibigbaaAll
namespace Go.Proofs.Ytekcechjibigbaa
open Go.RowKit
theorem less_is {ah ar bh br : Int} {v : Bool} (h : lessB (ah, ar) (bh, br) = v) (w : World) :
    Calls Try.prog 9 #[.agg #[.int .i64 ah, .int .i64 ar], .agg #[.int .i64 bh, .int .i64 br]] w fun e w' => e = .returned (.bool v) ∧ Below w.heap.size w w' := by
  subst h; exact less_any ah ar bh br w

/-- the three boxes that the law lays, and the world from there on -/
theorem boxes3 (ah ar bh br ch cr : Int) (w w' : World) (hb : Below (((w.alloc (.cells #[.int .i64 ah, .int .i64 ar] 23)).alloc (.cells #[.int .i64 bh, .int .i64 br] 23)).alloc (.cells #[.int .i64 ch, .int .i64 cr] 23)).heap.size (((w.alloc (.cells #[.int .i64 ah, .int .i64 ar] 23)).alloc (.cells #[.int .i64 bh, .int .i64 br] 23)).alloc (.cells #[.int .i64 ch, .int .i64 cr] 23)) w') :
    (w'.cell? ⟨w.heap.size, 0, none⟩ = some (.int .i64 ah) ∧ w'.cell? ⟨w.heap.size, 1, none⟩ = some (.int .i64 ar) ∧ w'.cell? ⟨w.heap.size + 1, 0, none⟩ = some (.int .i64 bh) ∧ w'.cell? ⟨w.heap.size + 1, 1, none⟩ = some (.int .i64 br) ∧
    w'.cell? ⟨w.heap.size + 1 + 1, 0, none⟩ = some (.int .i64 ch) ∧ w'.cell? ⟨w.heap.size + 1 + 1, 1, none⟩ = some (.int .i64 cr)) ∧ w.heap.size + 1 + 1 < w'.heap.size ∧ Below w.heap.size w w' := by
  have b0 := Blk.new w 23 #[.int .i64 ah, .int .i64 ar]
  have b1 := Blk.new (w.alloc (.cells #[.int .i64 ah, .int .i64 ar] 23)) 23 #[.int .i64 bh, .int .i64 br]
  have b2 := Blk.new ((w.alloc (.cells #[.int .i64 ah, .int .i64 ar] 23)).alloc (.cells #[.int .i64 bh, .int .i64 br] 23)) 23 #[.int .i64 ch, .int .i64 cr]
  have c0 := ((b0.alloc (.cells #[.int .i64 bh, .int .i64 br] 23)).alloc (.cells #[.int .i64 ch, .int .i64 cr] 23)).below hb (by simp; omega)
  have c1 := (b1.alloc (.cells #[.int .i64 ch, .int .i64 cr] 23)).below hb (by simp)
  have c2 := b2.below hb (by simp)
  simp at c1 c2
  have hs := hb.size
  simp at hs
  exact ⟨⟨c0.cell 0, c0.cell 1, c1.cell 0, c1.cell 1, c2.cell 0, c2.cell 1⟩, by omega, ((((Below.refl _ _).alloc (Nat.le_refl _) _).alloc (by simp) _).alloc (by simp; omega) _).trans (hb.mono (by simp; omega))⟩

set_option maxHeartbeats 400000 in
theorem orders_eq (ah ar ch cr : Int) (w : World) (hz : lessB (ah, ar) (ah, ar) = false) :
    Calls Try.prog 4 #[.agg #[.int .i64 ah, .int .i64 ar], .agg #[.int .i64 ah, .int .i64 ar], .agg #[.int .i64 ch, .int .i64 cr]] w fun e w' => e = .returned (.bool true) ∧ Below w.heap.size w w' := by
  have hz' := fun w => less_is hz w
  have HZ := Lib.hid hz'; clear hz' hz
  go_enter Try.func4, Try.ntmps4
  go_wp2_with fail
  refine (shown_any _).mono ?_
  rintro e w1 ⟨rfl, hb1⟩
  obtain ⟨⟨c0, c1, c2, c3, c4, c5⟩, hsz, hbel⟩ := boxes3 _ _ _ _ _ _ _ _ hb1
  have s0 : w.heap.size < w1.heap.size := by omega
  have s1 : w.heap.size + 1 < w1.heap.size := by omega
  have hk0 : Kept w1.heap.size w1 w1 := ⟨Below.refl _ _, Nat.le_refl _⟩
  clear hb1
  go_wp2_with fail
  refine (HZ.out _).mono ?_
  rintro e w2 ⟨rfl, hb⟩
  have hk1 := hk0.step hb
  clear hb
  have hcc1 := hk1.cells
  go_wp2_with fail
  refine (HZ.out _).mono ?_
  rintro e w3 ⟨rfl, hb⟩
  have hk2 := hk1.step hb
  clear hb
  have hcc2 := hk2.cells
  go_wp2_with fail
  refine (HZ.out _).mono ?_
  rintro e w4 ⟨rfl, hb⟩
  have hk3 := hk2.step hb
  clear hb
  have hcc3 := hk3.cells
  go_wp2_with fail
  all_goals
    go_ret
    exact ⟨rfl, hbel.trans (hk3.below.mono (by omega))⟩
set_option maxHeartbeats 400000 in
theorem orders_gt_h (ah ar bh br ch cr : Int) (w : World) (hne : ¬ ah = bh) (hp : lessB (ah, ar) (bh, br) = false) (hq : lessB (bh, br) (ah, ar) = true) (hz : lessB (ah, ar) (ah, ar) = false) :
    Calls Try.prog 4 #[.agg #[.int .i64 ah, .int .i64 ar], .agg #[.int .i64 bh, .int .i64 br], .agg #[.int .i64 ch, .int .i64 cr]] w fun e w' => e = .returned (.bool true) ∧ Below w.heap.size w w' := by
  have hp' := fun w => less_is hp w
  have HP := Lib.hid hp'; clear hp' hp
  have hq' := fun w => less_is hq w
  have HQ := Lib.hid hq'; clear hq' hq
  have hz' := fun w => less_is hz w
  have HZ := Lib.hid hz'; clear hz' hz
  go_enter Try.func4, Try.ntmps4
  go_wp2_with fail
  refine (shown_any _).mono ?_
  rintro e w1 ⟨rfl, hb1⟩
  obtain ⟨⟨c0, c1, c2, c3, c4, c5⟩, hsz, hbel⟩ := boxes3 _ _ _ _ _ _ _ _ hb1
  have s0 : w.heap.size < w1.heap.size := by omega
  have s1 : w.heap.size + 1 < w1.heap.size := by omega
  have hk0 : Kept w1.heap.size w1 w1 := ⟨Below.refl _ _, Nat.le_refl _⟩
  clear hb1
  go_wp2_with fail
  refine (HP.out _).mono ?_
  rintro e w2 ⟨rfl, hb⟩
  have hk1 := hk0.step hb
  clear hb
  have hcc1 := hk1.cells
  go_wp2_with fail
  refine (HQ.out _).mono ?_
  rintro e w3 ⟨rfl, hb⟩
  have hk2 := hk1.step hb
  clear hb
  have hcc2 := hk2.cells
  go_wp2_with (go_at_call 9; refine (HZ.out _).mono ?_; rintro e w4 ⟨rfl, hb⟩)
  all_goals
    have hk3 := hk2.step hb
    go_ret
    exact ⟨rfl, hbel.trans (hk3.below.mono (by omega))⟩
set_option maxHeartbeats 400000 in
theorem orders_lt_h (ah ar bh br ch cr : Int) (w : World) (hne : ¬ ah = bh) (hp : lessB (ah, ar) (bh, br) = true) (hq : lessB (bh, br) (ah, ar) = false) (hr : lessB (bh, br) (ch, cr) = false) (hz : lessB (ah, ar) (ah, ar) = false) :
    Calls Try.prog 4 #[.agg #[.int .i64 ah, .int .i64 ar], .agg #[.int .i64 bh, .int .i64 br], .agg #[.int .i64 ch, .int .i64 cr]] w fun e w' => e = .returned (.bool true) ∧ Below w.heap.size w w' := by
  have hp' := fun w => less_is hp w
  have HP := Lib.hid hp'; clear hp' hp
  have hq' := fun w => less_is hq w
  have HQ := Lib.hid hq'; clear hq' hq
  have hr' := fun w => less_is hr w
  have HR := Lib.hid hr'; clear hr' hr
  have hz' := fun w => less_is hz w
  have HZ := Lib.hid hz'; clear hz' hz
  go_enter Try.func4, Try.ntmps4
  go_wp2_with fail
  refine (shown_any _).mono ?_
  rintro e w1 ⟨rfl, hb1⟩
  obtain ⟨⟨c0, c1, c2, c3, c4, c5⟩, hsz, hbel⟩ := boxes3 _ _ _ _ _ _ _ _ hb1
  have s0 : w.heap.size < w1.heap.size := by omega
  have s1 : w.heap.size + 1 < w1.heap.size := by omega
  have hk0 : Kept w1.heap.size w1 w1 := ⟨Below.refl _ _, Nat.le_refl _⟩
  clear hb1
  go_wp2_with fail
  refine (HP.out _).mono ?_
  rintro e w2 ⟨rfl, hb⟩
  have hk1 := hk0.step hb
  clear hb
  have hcc1 := hk1.cells
  go_wp2_with fail
  refine (HQ.out _).mono ?_
  rintro e w3 ⟨rfl, hb⟩
  have hk2 := hk1.step hb
  clear hb
  have hcc2 := hk2.cells
  go_wp2_with fail
  refine (HR.out _).mono ?_
  rintro e w4 ⟨rfl, hb⟩
  have hk3 := hk2.step hb
  clear hb
  have hcc3 := hk3.cells
  go_wp2_with (go_at_call 9; refine (HZ.out _).mono ?_; rintro e w5 ⟨rfl, hb⟩)
  all_goals
    have hk4 := hk3.step hb
    go_ret
    exact ⟨rfl, hbel.trans (hk4.below.mono (by omega))⟩
set_option maxHeartbeats 400000 in
theorem orders_lts_h (ah ar bh br ch cr : Int) (w : World) (hne : ¬ ah = bh) (hp : lessB (ah, ar) (bh, br) = true) (hq : lessB (bh, br) (ah, ar) = false) (hr : lessB (bh, br) (ch, cr) = true) (hs : lessB (ah, ar) (ch, cr) = true) (hz : lessB (ah, ar) (ah, ar) = false) :
    Calls Try.prog 4 #[.agg #[.int .i64 ah, .int .i64 ar], .agg #[.int .i64 bh, .int .i64 br], .agg #[.int .i64 ch, .int .i64 cr]] w fun e w' => e = .returned (.bool true) ∧ Below w.heap.size w w' := by
  have hp' := fun w => less_is hp w
  have HP := Lib.hid hp'; clear hp' hp
  have hq' := fun w => less_is hq w
  have HQ := Lib.hid hq'; clear hq' hq
  have hr' := fun w => less_is hr w
  have HR := Lib.hid hr'; clear hr' hr
  have hs' := fun w => less_is hs w
  have HS := Lib.hid hs'; clear hs' hs
  have hz' := fun w => less_is hz w
  have HZ := Lib.hid hz'; clear hz' hz
  go_enter Try.func4, Try.ntmps4
  go_wp2_with fail
  refine (shown_any _).mono ?_
  rintro e w1 ⟨rfl, hb1⟩
  obtain ⟨⟨c0, c1, c2, c3, c4, c5⟩, hsz, hbel⟩ := boxes3 _ _ _ _ _ _ _ _ hb1
  have s0 : w.heap.size < w1.heap.size := by omega
  have s1 : w.heap.size + 1 < w1.heap.size := by omega
  have hk0 : Kept w1.heap.size w1 w1 := ⟨Below.refl _ _, Nat.le_refl _⟩
  clear hb1
  go_wp2_with fail
  refine (HP.out _).mono ?_
  rintro e w2 ⟨rfl, hb⟩
  have hk1 := hk0.step hb
  clear hb
  have hcc1 := hk1.cells
  go_wp2_with fail
  refine (HQ.out _).mono ?_
  rintro e w3 ⟨rfl, hb⟩
  have hk2 := hk1.step hb
  clear hb
  have hcc2 := hk2.cells
  go_wp2_with fail
  refine (HR.out _).mono ?_
  rintro e w4 ⟨rfl, hb⟩
  have hk3 := hk2.step hb
  clear hb
  have hcc3 := hk3.cells
  go_wp2_with fail
  refine (HS.out _).mono ?_
  rintro e w5 ⟨rfl, hb⟩
  have hk4 := hk3.step hb
  clear hb
  have hcc4 := hk4.cells
  go_wp2_with (go_at_call 9; refine (HZ.out _).mono ?_; rintro e w6 ⟨rfl, hb⟩)
  all_goals
    have hk5 := hk4.step hb
    go_ret
    exact ⟨rfl, hbel.trans (hk5.below.mono (by omega))⟩

set_option maxHeartbeats 400000 in
theorem orders_gt_r (ah ar br ch cr : Int) (w : World) (hne : ¬ ar = br) (hp : lessB (ah, ar) (ah, br) = false) (hq : lessB (ah, br) (ah, ar) = true) (hz : lessB (ah, ar) (ah, ar) = false) :
    Calls Try.prog 4 #[.agg #[.int .i64 ah, .int .i64 ar], .agg #[.int .i64 ah, .int .i64 br], .agg #[.int .i64 ch, .int .i64 cr]] w fun e w' => e = .returned (.bool true) ∧ Below w.heap.size w w' := by
  have hp' := fun w => less_is hp w
  have HP := Lib.hid hp'; clear hp' hp
  have hq' := fun w => less_is hq w
  have HQ := Lib.hid hq'; clear hq' hq
  have hz' := fun w => less_is hz w
  have HZ := Lib.hid hz'; clear hz' hz
  go_enter Try.func4, Try.ntmps4
  go_wp2_with fail
  refine (shown_any _).mono ?_
  rintro e w1 ⟨rfl, hb1⟩
  obtain ⟨⟨c0, c1, c2, c3, c4, c5⟩, hsz, hbel⟩ := boxes3 _ _ _ _ _ _ _ _ hb1
  have s0 : w.heap.size < w1.heap.size := by omega
  have s1 : w.heap.size + 1 < w1.heap.size := by omega
  have hk0 : Kept w1.heap.size w1 w1 := ⟨Below.refl _ _, Nat.le_refl _⟩
  clear hb1
  go_wp2_with fail
  refine (HP.out _).mono ?_
  rintro e w2 ⟨rfl, hb⟩
  have hk1 := hk0.step hb
  clear hb
  have hcc1 := hk1.cells
  go_wp2_with fail
  refine (HQ.out _).mono ?_
  rintro e w3 ⟨rfl, hb⟩
  have hk2 := hk1.step hb
  clear hb
  have hcc2 := hk2.cells
  go_wp2_with (go_at_call 9; refine (HZ.out _).mono ?_; rintro e w4 ⟨rfl, hb⟩)
  all_goals
    have hk3 := hk2.step hb
    go_ret
    exact ⟨rfl, hbel.trans (hk3.below.mono (by omega))⟩
set_option maxHeartbeats 400000 in
theorem orders_lt_r (ah ar br ch cr : Int) (w : World) (hne : ¬ ar = br) (hp : lessB (ah, ar) (ah, br) = true) (hq : lessB (ah, br) (ah, ar) = false) (hr : lessB (ah, br) (ch, cr) = false) (hz : lessB (ah, ar) (ah, ar) = false) :
    Calls Try.prog 4 #[.agg #[.int .i64 ah, .int .i64 ar], .agg #[.int .i64 ah, .int .i64 br], .agg #[.int .i64 ch, .int .i64 cr]] w fun e w' => e = .returned (.bool true) ∧ Below w.heap.size w w' := by
  have hp' := fun w => less_is hp w
  have HP := Lib.hid hp'; clear hp' hp
  have hq' := fun w => less_is hq w
  have HQ := Lib.hid hq'; clear hq' hq
  have hr' := fun w => less_is hr w
  have HR := Lib.hid hr'; clear hr' hr
  have hz' := fun w => less_is hz w
  have HZ := Lib.hid hz'; clear hz' hz
  go_enter Try.func4, Try.ntmps4
  go_wp2_with fail
  refine (shown_any _).mono ?_
  rintro e w1 ⟨rfl, hb1⟩
  obtain ⟨⟨c0, c1, c2, c3, c4, c5⟩, hsz, hbel⟩ := boxes3 _ _ _ _ _ _ _ _ hb1
  have s0 : w.heap.size < w1.heap.size := by omega
  have s1 : w.heap.size + 1 < w1.heap.size := by omega
  have hk0 : Kept w1.heap.size w1 w1 := ⟨Below.refl _ _, Nat.le_refl _⟩
  clear hb1
  go_wp2_with fail
  refine (HP.out _).mono ?_
  rintro e w2 ⟨rfl, hb⟩
  have hk1 := hk0.step hb
  clear hb
  have hcc1 := hk1.cells
  go_wp2_with fail
  refine (HQ.out _).mono ?_
  rintro e w3 ⟨rfl, hb⟩
  have hk2 := hk1.step hb
  clear hb
  have hcc2 := hk2.cells
  go_wp2_with fail
  refine (HR.out _).mono ?_
  rintro e w4 ⟨rfl, hb⟩
  have hk3 := hk2.step hb
  clear hb
  have hcc3 := hk3.cells
  go_wp2_with (go_at_call 9; refine (HZ.out _).mono ?_; rintro e w5 ⟨rfl, hb⟩)
  all_goals
    have hk4 := hk3.step hb
    go_ret
    exact ⟨rfl, hbel.trans (hk4.below.mono (by omega))⟩
set_option maxHeartbeats 400000 in
theorem orders_lts_r (ah ar br ch cr : Int) (w : World) (hne : ¬ ar = br) (hp : lessB (ah, ar) (ah, br) = true) (hq : lessB (ah, br) (ah, ar) = false) (hr : lessB (ah, br) (ch, cr) = true) (hs : lessB (ah, ar) (ch, cr) = true) (hz : lessB (ah, ar) (ah, ar) = false) :
    Calls Try.prog 4 #[.agg #[.int .i64 ah, .int .i64 ar], .agg #[.int .i64 ah, .int .i64 br], .agg #[.int .i64 ch, .int .i64 cr]] w fun e w' => e = .returned (.bool true) ∧ Below w.heap.size w w' := by
  have hp' := fun w => less_is hp w
  have HP := Lib.hid hp'; clear hp' hp
  have hq' := fun w => less_is hq w
  have HQ := Lib.hid hq'; clear hq' hq
  have hr' := fun w => less_is hr w
  have HR := Lib.hid hr'; clear hr' hr
  have hs' := fun w => less_is hs w
  have HS := Lib.hid hs'; clear hs' hs
  have hz' := fun w => less_is hz w
  have HZ := Lib.hid hz'; clear hz' hz
  go_enter Try.func4, Try.ntmps4
  go_wp2_with fail
  refine (shown_any _).mono ?_
  rintro e w1 ⟨rfl, hb1⟩
  obtain ⟨⟨c0, c1, c2, c3, c4, c5⟩, hsz, hbel⟩ := boxes3 _ _ _ _ _ _ _ _ hb1
  have s0 : w.heap.size < w1.heap.size := by omega
  have s1 : w.heap.size + 1 < w1.heap.size := by omega
  have hk0 : Kept w1.heap.size w1 w1 := ⟨Below.refl _ _, Nat.le_refl _⟩
  clear hb1
  go_wp2_with fail
  refine (HP.out _).mono ?_
  rintro e w2 ⟨rfl, hb⟩
  have hk1 := hk0.step hb
  clear hb
  have hcc1 := hk1.cells
  go_wp2_with fail
  refine (HQ.out _).mono ?_
  rintro e w3 ⟨rfl, hb⟩
  have hk2 := hk1.step hb
  clear hb
  have hcc2 := hk2.cells
  go_wp2_with fail
  refine (HR.out _).mono ?_
  rintro e w4 ⟨rfl, hb⟩
  have hk3 := hk2.step hb
  clear hb
  have hcc3 := hk3.cells
  go_wp2_with fail
  refine (HS.out _).mono ?_
  rintro e w5 ⟨rfl, hb⟩
  have hk4 := hk3.step hb
  clear hb
  have hcc4 := hk4.cells
  go_wp2_with (go_at_call 9; refine (HZ.out _).mono ?_; rintro e w6 ⟨rfl, hb⟩)
  all_goals
    have hk5 := hk4.step hb
    go_ret
    exact ⟨rfl, hbel.trans (hk5.below.mono (by omega))⟩

theorem orders_any (ah ar bh br ch cr : Int) (w : World) : Calls Try.prog 4 #[.agg #[.int .i64 ah, .int .i64 ar], .agg #[.int .i64 bh, .int .i64 br], .agg #[.int .i64 ch, .int .i64 cr]] w fun e w' => e = .returned (.bool true) ∧ Below w.heap.size w w' := by
  have hz : lessB (ah, ar) (ah, ar) = false := by rw [lessB_false]; simp only; omega
  cases hp : lessB (ah, ar) (bh, br) <;> cases hq : lessB (bh, br) (ah, ar)
  · have e := eq_of_less _ _ hp hq
    simp only [Prod.mk.injEq] at e
    obtain ⟨rfl, rfl⟩ := e
    exact orders_eq _ _ _ _ w hz
  · by_cases he : ah = bh
    · subst he
      exact orders_gt_r _ _ _ _ _ w (by rintro rfl; rw [hp] at hq; cases hq) hp hq hz
    · exact orders_gt_h _ _ _ _ _ _ w he hp hq hz
  · have hs : lessB (bh, br) (ch, cr) = true → lessB (ah, ar) (ch, cr) = true := by
      intro hr
      rw [lessB_iff] at hp hr ⊢
      simp only at hp hr ⊢
      omega
    by_cases he : ah = bh
    · subst he
      have hne : ¬ ar = br := by rintro rfl; rw [hp] at hq; cases hq
      cases hr : lessB (ah, br) (ch, cr)
      · exact orders_lt_r _ _ _ _ _ w hne hp hq hr hz
      · exact orders_lts_r _ _ _ _ _ w hne hp hq hr (hs hr) hz
    · cases hr : lessB (bh, br) (ch, cr)
      · exact orders_lt_h _ _ _ _ _ _ w he hp hq hr hz
      · exact orders_lts_h _ _ _ _ _ _ w he hp hq hr (hs hr) hz
  · rw [lessB_iff] at hp hq
    simp only at hp hq
    omega
end Go.Proofs.Ytekcechjibigbaa
