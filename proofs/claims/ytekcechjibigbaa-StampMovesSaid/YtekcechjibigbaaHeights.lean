/- kithlaw04.StampHeights walked: it returns true. -/
import Derived.Test.YtekcechjibigbaaOrders
namespace Go.Proofs.Ytekcechjibigbaa
open Go.RowKit
theorem two_stamps (x y : Int × Int) (w : World) : Row (w.alloc (.cells #[.int .i64 x.1, .int .i64 x.2, .int .i64 y.1, .int .i64 y.2] 23)) (some ⟨w.heap.size, 0, none⟩) 2 2 [x, y] := by
  refine .inr ⟨w.heap.size, 0, rfl, by omega, by unfold maxLen; omega, by simp, rfl, fun i hi => ?_⟩
  have hb := Blk.new w 23 #[.int .i64 x.1, .int .i64 x.2, .int .i64 y.1, .int .i64 y.2]
  have h : i = 0 ∨ i = 1 := by omega
  rcases h with rfl | rfl <;> exact ⟨hb.cell _, hb.cell _⟩
theorem last_two {xa xb ya yb v : Int} (hv : lastZ [(xa, xb), (ya, yb)] = v) (w : World) :
    Calls Try.prog 11 #[.slice (some ⟨w.heap.size, 0, none⟩) 2 2] (w.alloc (.cells #[.int .i64 xa, .int .i64 xb, .int .i64 ya, .int .i64 yb] 23)) fun e w' => e = .returned (.int .i64 v) ∧
      Below (w.alloc (.cells #[.int .i64 xa, .int .i64 xb, .int .i64 ya, .int .i64 yb] 23)).heap.size (w.alloc (.cells #[.int .i64 xa, .int .i64 xb, .int .i64 ya, .int .i64 yb] 23)) w' := by
  subst hv
  exact last_row (by omega) (two_stamps (xa, xb) (ya, yb) w)
theorem Kept.allocTwo {B : Nat} {w w' : World} (h : (∀ b o, b < B → w'.cell? ⟨b, o, none⟩ = w.cell? ⟨b, o, none⟩) ∧ Kept B w w') (o : Obj) :
    (∀ b o', b < B → (w'.alloc o).cell? ⟨b, o', none⟩ = w.cell? ⟨b, o', none⟩) ∧ Kept B w (w'.alloc o) := (h.2.alloc o).two
theorem boxes4 (a0 a1 b0 b1 c0 c1 d0 d1 : Int) (w : World) : let W := (((w.alloc (.cells #[.int .i64 a0, .int .i64 a1] 23)).alloc (.cells #[.int .i64 b0, .int .i64 b1] 23)).alloc (.cells #[.int .i64 c0, .int .i64 c1] 23)).alloc (.cells #[.int .i64 d0, .int .i64 d1] 23)
    W.cell? ⟨w.heap.size, 0, none⟩ = some (.int .i64 a0) ∧ W.cell? ⟨w.heap.size, 1, none⟩ = some (.int .i64 a1) ∧ W.cell? ⟨w.heap.size + 1, 0, none⟩ = some (.int .i64 b0) ∧ W.cell? ⟨w.heap.size + 1, 1, none⟩ = some (.int .i64 b1) ∧
    W.cell? ⟨w.heap.size + 1 + 1, 0, none⟩ = some (.int .i64 c0) ∧ W.cell? ⟨w.heap.size + 1 + 1, 1, none⟩ = some (.int .i64 c1) ∧ W.cell? ⟨w.heap.size + 1 + 1 + 1, 0, none⟩ = some (.int .i64 d0) ∧ W.cell? ⟨w.heap.size + 1 + 1 + 1, 1, none⟩ = some (.int .i64 d1) ∧
    (∀ b o, b < w.heap.size → W.cell? ⟨b, o, none⟩ = w.cell? ⟨b, o, none⟩) ∧ W.heap.size = w.heap.size + 1 + 1 + 1 + 1 ∧ Below w.heap.size w W := by
  have hA := (((Blk.new w 23 #[.int .i64 a0, .int .i64 a1]).alloc (.cells #[.int .i64 b0, .int .i64 b1] 23)).alloc (.cells #[.int .i64 c0, .int .i64 c1] 23)).alloc (.cells #[.int .i64 d0, .int .i64 d1] 23)
  have hB := ((Blk.new (w.alloc (.cells #[.int .i64 a0, .int .i64 a1] 23)) 23 #[.int .i64 b0, .int .i64 b1]).alloc (.cells #[.int .i64 c0, .int .i64 c1] 23)).alloc (.cells #[.int .i64 d0, .int .i64 d1] 23)
  have hC := (Blk.new ((w.alloc (.cells #[.int .i64 a0, .int .i64 a1] 23)).alloc (.cells #[.int .i64 b0, .int .i64 b1] 23)) 23 #[.int .i64 c0, .int .i64 c1]).alloc (.cells #[.int .i64 d0, .int .i64 d1] 23)
  have hD := Blk.new (((w.alloc (.cells #[.int .i64 a0, .int .i64 a1] 23)).alloc (.cells #[.int .i64 b0, .int .i64 b1] 23)).alloc (.cells #[.int .i64 c0, .int .i64 c1] 23)) 23 #[.int .i64 d0, .int .i64 d1]
  have hb := (((((Below.refl w.heap.size w).alloc (Nat.le_refl _) (.cells #[.int .i64 a0, .int .i64 a1] 23)).alloc (by simp) (.cells #[.int .i64 b0, .int .i64 b1] 23)).alloc (by simp; omega) (.cells #[.int .i64 c0, .int .i64 c1] 23)).alloc (by simp; omega) (.cells #[.int .i64 d0, .int .i64 d1] 23))
  simp only [World.size_alloc] at hB hC hD
  exact ⟨hA.cell 0, hA.cell 1, hB.cell 0, hB.cell 1, hC.cell 0, hC.cell 1, hD.cell 0, hD.cell 1, fun b o h => hb.cell (p := ⟨b, o, none⟩) h, by simp, hb⟩

set_option maxHeartbeats 2000000 in
theorem heights_a1 (h r0 r1 more : Int) (w : World) (_hh1 : -9223372036854775808 ≤ h) (_hh2 : h ≤ 9223372036854775807) (hl : h ≤ 4611686018427387904) (hr01 : r0 < r1) (hne : (r0 != r1) = true) (hm1 : 0 ≤ more) (hm2 : more ≤ 65535)
    (hp : lessB (h, r0) (h + 1 + more, r1) = true) (hq : lessB (h + 1 + more, r1) (h, r0) = false) (hr : lessB (h, r0) (h, r1) = true)
    (hs : lastZ [(h + 1 + more, r1), (h, r0)] = 0) (ht : lastZ [(h, r0), (h + 1 + more, r1)] = 1) :
    Calls Try.prog 7 #[.int .i64 h, .agg #[.int .i64 r0, .int .i64 r1], .int .u16 more] w fun e w' => e = .returned (.bool true) ∧ Below w.heap.size w w' := by
  have hp' := fun w => less_is hp w
  have HP := Lib.hid hp'; clear hp' hp
  have hq' := fun w => less_is hq w
  have HQ := Lib.hid hq'; clear hq' hq
  have hr' := fun w => less_is hr w
  have HR := Lib.hid hr'; clear hr' hr
  have hs' := fun w => last_two hs w
  have HS := Lib.hid hs'; clear hs' hs
  have ht' := fun w => last_two ht w
  have HT := Lib.hid ht'; clear ht' ht
  go_enter Try.func7, Try.ntmps7
  go_wp2_with fail
  refine (shown_any _).mono ?_
  rintro e w1 ⟨rfl, hb1⟩
  have c0 := hb1.cell (p := ⟨w.heap.size, 0, none⟩) (by simp)
  have c1 := hb1.cell (p := ⟨w.heap.size, 1, none⟩) (by simp)
  simp [go_sem] at c0 c1
  have hsz := hb1.size
  simp at hsz
  have s0 : w.heap.size < w1.heap.size := by omega
  have s2 : w.heap.size < w1.heap.size + 1 := by omega
  have s3 : w.heap.size < w1.heap.size + 1 + 1 := by omega
  have s4 : w.heap.size < w1.heap.size + 1 + 1 + 1 := by omega
  have hbel : Below w.heap.size w w1 := ((Below.refl _ _).alloc (Nat.le_refl _) _).trans (hb1.mono (by simp))
  clear hb1 hsz
  go_wp2_with fail
  have F := boxes4 h r0 (h + 1 + more) r1 h r0 h r1 w1
  dsimp only at F
  generalize (((w1.alloc (.cells #[.int .i64 (h), .int .i64 r0] 23)).alloc (.cells #[.int .i64 (h + 1 + more), .int .i64 r1] 23)).alloc (.cells #[.int .i64 h, .int .i64 r0] 23)).alloc (.cells #[.int .i64 h, .int .i64 r1] 23) = w2 at F ⊢
  obtain ⟨f0, f1, f2, f3, f4, f5, f6, f7, F8, f9, f10⟩ := F
  have g0 := (F8 _ 0 s0).trans c0
  have g1 := (F8 _ 1 s0).trans c1
  have hK : Kept w2.heap.size w2 w2 := ⟨Below.refl _ _, Nat.le_refl _⟩
  have z0 : w.heap.size < w2.heap.size := by omega
  have z1 : w1.heap.size < w2.heap.size := by omega
  have z2 : w1.heap.size + 1 < w2.heap.size := by omega
  have z3 : w1.heap.size + 1 + 1 < w2.heap.size := by omega
  have z4 : w1.heap.size + 1 + 1 + 1 < w2.heap.size := by omega
  have f10' := f10.mono (Nat.le_of_lt s0)
  clear F8 c0 c1 s0 s2 s3 s4 f9
  go_region_held3 (fun w' => (∀ b o, b < w2.heap.size → w'.cell? ⟨b, o, none⟩ = w2.cell? ⟨b, o, none⟩) ∧ Kept w2.heap.size w2 w') (first | exact hK.drew.two | assumption | exact Kept.stepTwo (by assumption) hb2 | exact Kept.allocTwo (by assumption) _) (first | (go_at_call 9; (first | (with_reducible refine (HP.out _).mono ?_) | (with_reducible refine (HQ.out _).mono ?_) | (with_reducible refine (HR.out _).mono ?_)); rintro e w3 ⟨rfl, hb2⟩) | (go_at_call 11; (first | (with_reducible refine (HS.out _).mono ?_) | (with_reducible refine (HT.out _).mono ?_)); rintro e w3 ⟨rfl, hb2⟩))
  rename_i hh
  have hb3 := (hbel.trans f10').trans (hh.2.below.mono (by omega))
  clear hh
  go_wp2_with fail
  go_ret
  exact ⟨rfl, hb3⟩

set_option maxHeartbeats 2000000 in
theorem heights_a2 (h r0 more : Int) (w : World) (_hh1 : -9223372036854775808 ≤ h) (_hh2 : h ≤ 9223372036854775807) (hl : h ≤ 4611686018427387904)  (hm1 : 0 ≤ more) (hm2 : more ≤ 65535)
    (hp : lessB (h, r0) (h + 1 + more, r0) = true) (hq : lessB (h + 1 + more, r0) (h, r0) = false) (hr : lessB (h, r0) (h, r0) = false)
    (hs : lastZ [(h + 1 + more, r0), (h, r0)] = 0) (ht : lastZ [(h, r0), (h + 1 + more, r0)] = 1) :
    Calls Try.prog 7 #[.int .i64 h, .agg #[.int .i64 r0, .int .i64 r0], .int .u16 more] w fun e w' => e = .returned (.bool true) ∧ Below w.heap.size w w' := by
  have hp' := fun w => less_is hp w
  have HP := Lib.hid hp'; clear hp' hp
  have hq' := fun w => less_is hq w
  have HQ := Lib.hid hq'; clear hq' hq
  have hr' := fun w => less_is hr w
  have HR := Lib.hid hr'; clear hr' hr
  have hs' := fun w => last_two hs w
  have HS := Lib.hid hs'; clear hs' hs
  have ht' := fun w => last_two ht w
  have HT := Lib.hid ht'; clear ht' ht
  go_enter Try.func7, Try.ntmps7
  go_wp2_with fail
  refine (shown_any _).mono ?_
  rintro e w1 ⟨rfl, hb1⟩
  have c0 := hb1.cell (p := ⟨w.heap.size, 0, none⟩) (by simp)
  have c1 := hb1.cell (p := ⟨w.heap.size, 1, none⟩) (by simp)
  simp [go_sem] at c0 c1
  have hsz := hb1.size
  simp at hsz
  have s0 : w.heap.size < w1.heap.size := by omega
  have s2 : w.heap.size < w1.heap.size + 1 := by omega
  have s3 : w.heap.size < w1.heap.size + 1 + 1 := by omega
  have s4 : w.heap.size < w1.heap.size + 1 + 1 + 1 := by omega
  have hbel : Below w.heap.size w w1 := ((Below.refl _ _).alloc (Nat.le_refl _) _).trans (hb1.mono (by simp))
  clear hb1 hsz
  go_wp2_with fail
  have F := boxes4 h r0 (h + 1 + more) r0 h r0 h r0 w1
  dsimp only at F
  generalize (((w1.alloc (.cells #[.int .i64 (h), .int .i64 r0] 23)).alloc (.cells #[.int .i64 (h + 1 + more), .int .i64 r0] 23)).alloc (.cells #[.int .i64 h, .int .i64 r0] 23)).alloc (.cells #[.int .i64 h, .int .i64 r0] 23) = w2 at F ⊢
  obtain ⟨f0, f1, f2, f3, f4, f5, f6, f7, F8, f9, f10⟩ := F
  have g0 := (F8 _ 0 s0).trans c0
  have g1 := (F8 _ 1 s0).trans c1
  have hK : Kept w2.heap.size w2 w2 := ⟨Below.refl _ _, Nat.le_refl _⟩
  have z0 : w.heap.size < w2.heap.size := by omega
  have z1 : w1.heap.size < w2.heap.size := by omega
  have z2 : w1.heap.size + 1 < w2.heap.size := by omega
  have z3 : w1.heap.size + 1 + 1 < w2.heap.size := by omega
  have z4 : w1.heap.size + 1 + 1 + 1 < w2.heap.size := by omega
  have f10' := f10.mono (Nat.le_of_lt s0)
  clear F8 c0 c1 s0 s2 s3 s4 f9
  go_region_held3 (fun w' => (∀ b o, b < w2.heap.size → w'.cell? ⟨b, o, none⟩ = w2.cell? ⟨b, o, none⟩) ∧ Kept w2.heap.size w2 w') (first | exact hK.drew.two | assumption | exact Kept.stepTwo (by assumption) hb2 | exact Kept.allocTwo (by assumption) _) (first | (go_at_call 9; (first | (with_reducible refine (HP.out _).mono ?_) | (with_reducible refine (HQ.out _).mono ?_) | (with_reducible refine (HR.out _).mono ?_)); rintro e w3 ⟨rfl, hb2⟩) | (go_at_call 11; (first | (with_reducible refine (HS.out _).mono ?_) | (with_reducible refine (HT.out _).mono ?_)); rintro e w3 ⟨rfl, hb2⟩))
  rename_i hh
  have hb3 := (hbel.trans f10').trans (hh.2.below.mono (by omega))
  clear hh
  go_wp2_with fail
  go_ret
  exact ⟨rfl, hb3⟩

set_option maxHeartbeats 2000000 in
theorem heights_a3 (h r0 r1 more : Int) (w : World) (_hh1 : -9223372036854775808 ≤ h) (_hh2 : h ≤ 9223372036854775807) (hl : h ≤ 4611686018427387904) (hr01 : r1 < r0) (hne : (r0 != r1) = true) (hm1 : 0 ≤ more) (hm2 : more ≤ 65535)
    (hp : lessB (h, r0) (h + 1 + more, r1) = true) (hq : lessB (h + 1 + more, r1) (h, r0) = false) (hr : lessB (h, r1) (h, r0) = true)
    (hs : lastZ [(h + 1 + more, r1), (h, r0)] = 0) (ht : lastZ [(h, r0), (h + 1 + more, r1)] = 1) :
    Calls Try.prog 7 #[.int .i64 h, .agg #[.int .i64 r0, .int .i64 r1], .int .u16 more] w fun e w' => e = .returned (.bool true) ∧ Below w.heap.size w w' := by
  have hp' := fun w => less_is hp w
  have HP := Lib.hid hp'; clear hp' hp
  have hq' := fun w => less_is hq w
  have HQ := Lib.hid hq'; clear hq' hq
  have hr' := fun w => less_is hr w
  have HR := Lib.hid hr'; clear hr' hr
  have hs' := fun w => last_two hs w
  have HS := Lib.hid hs'; clear hs' hs
  have ht' := fun w => last_two ht w
  have HT := Lib.hid ht'; clear ht' ht
  go_enter Try.func7, Try.ntmps7
  go_wp2_with fail
  refine (shown_any _).mono ?_
  rintro e w1 ⟨rfl, hb1⟩
  have c0 := hb1.cell (p := ⟨w.heap.size, 0, none⟩) (by simp)
  have c1 := hb1.cell (p := ⟨w.heap.size, 1, none⟩) (by simp)
  simp [go_sem] at c0 c1
  have hsz := hb1.size
  simp at hsz
  have s0 : w.heap.size < w1.heap.size := by omega
  have s2 : w.heap.size < w1.heap.size + 1 := by omega
  have s3 : w.heap.size < w1.heap.size + 1 + 1 := by omega
  have s4 : w.heap.size < w1.heap.size + 1 + 1 + 1 := by omega
  have hbel : Below w.heap.size w w1 := ((Below.refl _ _).alloc (Nat.le_refl _) _).trans (hb1.mono (by simp))
  clear hb1 hsz
  go_wp2_with fail
  have F := boxes4 h r0 (h + 1 + more) r1 h r1 h r0 w1
  dsimp only at F
  generalize (((w1.alloc (.cells #[.int .i64 (h), .int .i64 r0] 23)).alloc (.cells #[.int .i64 (h + 1 + more), .int .i64 r1] 23)).alloc (.cells #[.int .i64 h, .int .i64 r1] 23)).alloc (.cells #[.int .i64 h, .int .i64 r0] 23) = w2 at F ⊢
  obtain ⟨f0, f1, f2, f3, f4, f5, f6, f7, F8, f9, f10⟩ := F
  have g0 := (F8 _ 0 s0).trans c0
  have g1 := (F8 _ 1 s0).trans c1
  have hK : Kept w2.heap.size w2 w2 := ⟨Below.refl _ _, Nat.le_refl _⟩
  have z0 : w.heap.size < w2.heap.size := by omega
  have z1 : w1.heap.size < w2.heap.size := by omega
  have z2 : w1.heap.size + 1 < w2.heap.size := by omega
  have z3 : w1.heap.size + 1 + 1 < w2.heap.size := by omega
  have z4 : w1.heap.size + 1 + 1 + 1 < w2.heap.size := by omega
  have f10' := f10.mono (Nat.le_of_lt s0)
  clear F8 c0 c1 s0 s2 s3 s4 f9
  go_region_held3 (fun w' => (∀ b o, b < w2.heap.size → w'.cell? ⟨b, o, none⟩ = w2.cell? ⟨b, o, none⟩) ∧ Kept w2.heap.size w2 w') (first | exact hK.drew.two | assumption | exact Kept.stepTwo (by assumption) hb2 | exact Kept.allocTwo (by assumption) _) (first | (go_at_call 9; (first | (with_reducible refine (HP.out _).mono ?_) | (with_reducible refine (HQ.out _).mono ?_) | (with_reducible refine (HR.out _).mono ?_)); rintro e w3 ⟨rfl, hb2⟩) | (go_at_call 11; (first | (with_reducible refine (HS.out _).mono ?_) | (with_reducible refine (HT.out _).mono ?_)); rintro e w3 ⟨rfl, hb2⟩))
  rename_i hh
  have hb3 := (hbel.trans f10').trans (hh.2.below.mono (by omega))
  clear hh
  go_wp2_with fail
  go_ret
  exact ⟨rfl, hb3⟩

set_option maxHeartbeats 2000000 in
theorem heights_b1 (h r0 r1 more : Int) (w : World) (_hh1 : -9223372036854775808 ≤ h) (_hh2 : h ≤ 9223372036854775807) (hl : 4611686018427387904 < h) (hr01 : r0 < r1) (hne : (r0 != r1) = true) (hm1 : 0 ≤ more) (hm2 : more ≤ 65535)
    (hp : lessB (4611686018427387904, r0) (4611686018427387905 + more, r1) = true) (hq : lessB (4611686018427387905 + more, r1) (4611686018427387904, r0) = false) (hr : lessB (h, r0) (h, r1) = true)
    (hs : lastZ [(4611686018427387905 + more, r1), (4611686018427387904, r0)] = 0) (ht : lastZ [(4611686018427387904, r0), (4611686018427387905 + more, r1)] = 1) :
    Calls Try.prog 7 #[.int .i64 h, .agg #[.int .i64 r0, .int .i64 r1], .int .u16 more] w fun e w' => e = .returned (.bool true) ∧ Below w.heap.size w w' := by
  have hp' := fun w => less_is hp w
  have HP := Lib.hid hp'; clear hp' hp
  have hq' := fun w => less_is hq w
  have HQ := Lib.hid hq'; clear hq' hq
  have hr' := fun w => less_is hr w
  have HR := Lib.hid hr'; clear hr' hr
  have hs' := fun w => last_two hs w
  have HS := Lib.hid hs'; clear hs' hs
  have ht' := fun w => last_two ht w
  have HT := Lib.hid ht'; clear ht' ht
  go_enter Try.func7, Try.ntmps7
  go_wp2_with fail
  refine (shown_any _).mono ?_
  rintro e w1 ⟨rfl, hb1⟩
  have c0 := hb1.cell (p := ⟨w.heap.size, 0, none⟩) (by simp)
  have c1 := hb1.cell (p := ⟨w.heap.size, 1, none⟩) (by simp)
  simp [go_sem] at c0 c1
  have hsz := hb1.size
  simp at hsz
  have s0 : w.heap.size < w1.heap.size := by omega
  have s2 : w.heap.size < w1.heap.size + 1 := by omega
  have s3 : w.heap.size < w1.heap.size + 1 + 1 := by omega
  have s4 : w.heap.size < w1.heap.size + 1 + 1 + 1 := by omega
  have hbel : Below w.heap.size w w1 := ((Below.refl _ _).alloc (Nat.le_refl _) _).trans (hb1.mono (by simp))
  clear hb1 hsz
  go_wp2_with fail
  have F := boxes4 4611686018427387904 r0 (4611686018427387905 + more) r1 h r0 h r1 w1
  dsimp only at F
  generalize (((w1.alloc (.cells #[.int .i64 (4611686018427387904), .int .i64 r0] 23)).alloc (.cells #[.int .i64 (4611686018427387905 + more), .int .i64 r1] 23)).alloc (.cells #[.int .i64 h, .int .i64 r0] 23)).alloc (.cells #[.int .i64 h, .int .i64 r1] 23) = w2 at F ⊢
  obtain ⟨f0, f1, f2, f3, f4, f5, f6, f7, F8, f9, f10⟩ := F
  have g0 := (F8 _ 0 s0).trans c0
  have g1 := (F8 _ 1 s0).trans c1
  have hK : Kept w2.heap.size w2 w2 := ⟨Below.refl _ _, Nat.le_refl _⟩
  have z0 : w.heap.size < w2.heap.size := by omega
  have z1 : w1.heap.size < w2.heap.size := by omega
  have z2 : w1.heap.size + 1 < w2.heap.size := by omega
  have z3 : w1.heap.size + 1 + 1 < w2.heap.size := by omega
  have z4 : w1.heap.size + 1 + 1 + 1 < w2.heap.size := by omega
  have f10' := f10.mono (Nat.le_of_lt s0)
  clear F8 c0 c1 s0 s2 s3 s4 f9
  go_region_held3 (fun w' => (∀ b o, b < w2.heap.size → w'.cell? ⟨b, o, none⟩ = w2.cell? ⟨b, o, none⟩) ∧ Kept w2.heap.size w2 w') (first | exact hK.drew.two | assumption | exact Kept.stepTwo (by assumption) hb2 | exact Kept.allocTwo (by assumption) _) (first | (go_at_call 9; (first | (with_reducible refine (HP.out _).mono ?_) | (with_reducible refine (HQ.out _).mono ?_) | (with_reducible refine (HR.out _).mono ?_)); rintro e w3 ⟨rfl, hb2⟩) | (go_at_call 11; (first | (with_reducible refine (HS.out _).mono ?_) | (with_reducible refine (HT.out _).mono ?_)); rintro e w3 ⟨rfl, hb2⟩))
  rename_i hh
  have hb3 := (hbel.trans f10').trans (hh.2.below.mono (by omega))
  clear hh
  go_wp2_with fail
  go_ret
  exact ⟨rfl, hb3⟩

set_option maxHeartbeats 2000000 in
theorem heights_b2 (h r0 more : Int) (w : World) (_hh1 : -9223372036854775808 ≤ h) (_hh2 : h ≤ 9223372036854775807) (hl : 4611686018427387904 < h)  (hm1 : 0 ≤ more) (hm2 : more ≤ 65535)
    (hp : lessB (4611686018427387904, r0) (4611686018427387905 + more, r0) = true) (hq : lessB (4611686018427387905 + more, r0) (4611686018427387904, r0) = false) (hr : lessB (h, r0) (h, r0) = false)
    (hs : lastZ [(4611686018427387905 + more, r0), (4611686018427387904, r0)] = 0) (ht : lastZ [(4611686018427387904, r0), (4611686018427387905 + more, r0)] = 1) :
    Calls Try.prog 7 #[.int .i64 h, .agg #[.int .i64 r0, .int .i64 r0], .int .u16 more] w fun e w' => e = .returned (.bool true) ∧ Below w.heap.size w w' := by
  have hp' := fun w => less_is hp w
  have HP := Lib.hid hp'; clear hp' hp
  have hq' := fun w => less_is hq w
  have HQ := Lib.hid hq'; clear hq' hq
  have hr' := fun w => less_is hr w
  have HR := Lib.hid hr'; clear hr' hr
  have hs' := fun w => last_two hs w
  have HS := Lib.hid hs'; clear hs' hs
  have ht' := fun w => last_two ht w
  have HT := Lib.hid ht'; clear ht' ht
  go_enter Try.func7, Try.ntmps7
  go_wp2_with fail
  refine (shown_any _).mono ?_
  rintro e w1 ⟨rfl, hb1⟩
  have c0 := hb1.cell (p := ⟨w.heap.size, 0, none⟩) (by simp)
  have c1 := hb1.cell (p := ⟨w.heap.size, 1, none⟩) (by simp)
  simp [go_sem] at c0 c1
  have hsz := hb1.size
  simp at hsz
  have s0 : w.heap.size < w1.heap.size := by omega
  have s2 : w.heap.size < w1.heap.size + 1 := by omega
  have s3 : w.heap.size < w1.heap.size + 1 + 1 := by omega
  have s4 : w.heap.size < w1.heap.size + 1 + 1 + 1 := by omega
  have hbel : Below w.heap.size w w1 := ((Below.refl _ _).alloc (Nat.le_refl _) _).trans (hb1.mono (by simp))
  clear hb1 hsz
  go_wp2_with fail
  have F := boxes4 4611686018427387904 r0 (4611686018427387905 + more) r0 h r0 h r0 w1
  dsimp only at F
  generalize (((w1.alloc (.cells #[.int .i64 (4611686018427387904), .int .i64 r0] 23)).alloc (.cells #[.int .i64 (4611686018427387905 + more), .int .i64 r0] 23)).alloc (.cells #[.int .i64 h, .int .i64 r0] 23)).alloc (.cells #[.int .i64 h, .int .i64 r0] 23) = w2 at F ⊢
  obtain ⟨f0, f1, f2, f3, f4, f5, f6, f7, F8, f9, f10⟩ := F
  have g0 := (F8 _ 0 s0).trans c0
  have g1 := (F8 _ 1 s0).trans c1
  have hK : Kept w2.heap.size w2 w2 := ⟨Below.refl _ _, Nat.le_refl _⟩
  have z0 : w.heap.size < w2.heap.size := by omega
  have z1 : w1.heap.size < w2.heap.size := by omega
  have z2 : w1.heap.size + 1 < w2.heap.size := by omega
  have z3 : w1.heap.size + 1 + 1 < w2.heap.size := by omega
  have z4 : w1.heap.size + 1 + 1 + 1 < w2.heap.size := by omega
  have f10' := f10.mono (Nat.le_of_lt s0)
  clear F8 c0 c1 s0 s2 s3 s4 f9
  go_region_held3 (fun w' => (∀ b o, b < w2.heap.size → w'.cell? ⟨b, o, none⟩ = w2.cell? ⟨b, o, none⟩) ∧ Kept w2.heap.size w2 w') (first | exact hK.drew.two | assumption | exact Kept.stepTwo (by assumption) hb2 | exact Kept.allocTwo (by assumption) _) (first | (go_at_call 9; (first | (with_reducible refine (HP.out _).mono ?_) | (with_reducible refine (HQ.out _).mono ?_) | (with_reducible refine (HR.out _).mono ?_)); rintro e w3 ⟨rfl, hb2⟩) | (go_at_call 11; (first | (with_reducible refine (HS.out _).mono ?_) | (with_reducible refine (HT.out _).mono ?_)); rintro e w3 ⟨rfl, hb2⟩))
  rename_i hh
  have hb3 := (hbel.trans f10').trans (hh.2.below.mono (by omega))
  clear hh
  go_wp2_with fail
  go_ret
  exact ⟨rfl, hb3⟩

set_option maxHeartbeats 2000000 in
theorem heights_b3 (h r0 r1 more : Int) (w : World) (_hh1 : -9223372036854775808 ≤ h) (_hh2 : h ≤ 9223372036854775807) (hl : 4611686018427387904 < h) (hr01 : r1 < r0) (hne : (r0 != r1) = true) (hm1 : 0 ≤ more) (hm2 : more ≤ 65535)
    (hp : lessB (4611686018427387904, r0) (4611686018427387905 + more, r1) = true) (hq : lessB (4611686018427387905 + more, r1) (4611686018427387904, r0) = false) (hr : lessB (h, r1) (h, r0) = true)
    (hs : lastZ [(4611686018427387905 + more, r1), (4611686018427387904, r0)] = 0) (ht : lastZ [(4611686018427387904, r0), (4611686018427387905 + more, r1)] = 1) :
    Calls Try.prog 7 #[.int .i64 h, .agg #[.int .i64 r0, .int .i64 r1], .int .u16 more] w fun e w' => e = .returned (.bool true) ∧ Below w.heap.size w w' := by
  have hp' := fun w => less_is hp w
  have HP := Lib.hid hp'; clear hp' hp
  have hq' := fun w => less_is hq w
  have HQ := Lib.hid hq'; clear hq' hq
  have hr' := fun w => less_is hr w
  have HR := Lib.hid hr'; clear hr' hr
  have hs' := fun w => last_two hs w
  have HS := Lib.hid hs'; clear hs' hs
  have ht' := fun w => last_two ht w
  have HT := Lib.hid ht'; clear ht' ht
  go_enter Try.func7, Try.ntmps7
  go_wp2_with fail
  refine (shown_any _).mono ?_
  rintro e w1 ⟨rfl, hb1⟩
  have c0 := hb1.cell (p := ⟨w.heap.size, 0, none⟩) (by simp)
  have c1 := hb1.cell (p := ⟨w.heap.size, 1, none⟩) (by simp)
  simp [go_sem] at c0 c1
  have hsz := hb1.size
  simp at hsz
  have s0 : w.heap.size < w1.heap.size := by omega
  have s2 : w.heap.size < w1.heap.size + 1 := by omega
  have s3 : w.heap.size < w1.heap.size + 1 + 1 := by omega
  have s4 : w.heap.size < w1.heap.size + 1 + 1 + 1 := by omega
  have hbel : Below w.heap.size w w1 := ((Below.refl _ _).alloc (Nat.le_refl _) _).trans (hb1.mono (by simp))
  clear hb1 hsz
  go_wp2_with fail
  have F := boxes4 4611686018427387904 r0 (4611686018427387905 + more) r1 h r1 h r0 w1
  dsimp only at F
  generalize (((w1.alloc (.cells #[.int .i64 (4611686018427387904), .int .i64 r0] 23)).alloc (.cells #[.int .i64 (4611686018427387905 + more), .int .i64 r1] 23)).alloc (.cells #[.int .i64 h, .int .i64 r1] 23)).alloc (.cells #[.int .i64 h, .int .i64 r0] 23) = w2 at F ⊢
  obtain ⟨f0, f1, f2, f3, f4, f5, f6, f7, F8, f9, f10⟩ := F
  have g0 := (F8 _ 0 s0).trans c0
  have g1 := (F8 _ 1 s0).trans c1
  have hK : Kept w2.heap.size w2 w2 := ⟨Below.refl _ _, Nat.le_refl _⟩
  have z0 : w.heap.size < w2.heap.size := by omega
  have z1 : w1.heap.size < w2.heap.size := by omega
  have z2 : w1.heap.size + 1 < w2.heap.size := by omega
  have z3 : w1.heap.size + 1 + 1 < w2.heap.size := by omega
  have z4 : w1.heap.size + 1 + 1 + 1 < w2.heap.size := by omega
  have f10' := f10.mono (Nat.le_of_lt s0)
  clear F8 c0 c1 s0 s2 s3 s4 f9
  go_region_held3 (fun w' => (∀ b o, b < w2.heap.size → w'.cell? ⟨b, o, none⟩ = w2.cell? ⟨b, o, none⟩) ∧ Kept w2.heap.size w2 w') (first | exact hK.drew.two | assumption | exact Kept.stepTwo (by assumption) hb2 | exact Kept.allocTwo (by assumption) _) (first | (go_at_call 9; (first | (with_reducible refine (HP.out _).mono ?_) | (with_reducible refine (HQ.out _).mono ?_) | (with_reducible refine (HR.out _).mono ?_)); rintro e w3 ⟨rfl, hb2⟩) | (go_at_call 11; (first | (with_reducible refine (HS.out _).mono ?_) | (with_reducible refine (HT.out _).mono ?_)); rintro e w3 ⟨rfl, hb2⟩))
  rename_i hh
  have hb3 := (hbel.trans f10').trans (hh.2.below.mono (by omega))
  clear hh
  go_wp2_with fail
  go_ret
  exact ⟨rfl, hb3⟩

theorem lastZ_first {x y : Int × Int} (h : lessB x y = false) : lastZ [x, y] = 0 := by
  refine lastZ_of (k := 0) ⟨by simp, fun j hj => ?_, fun j hj => by omega⟩
  have h' : j = 0 ∨ j = 1 := by simp at hj; omega
  rcases h' with rfl | rfl
  · show lessB x x = false
    rw [lessB_false]; omega
  · exact h
theorem lastZ_second {x y : Int × Int} (h : lessB x y = true) : lastZ [x, y] = 1 := by
  refine lastZ_of (k := 1) ⟨by simp, fun j hj => ?_, fun j hj => ?_⟩
  · have h' : j = 0 ∨ j = 1 := by simp at hj; omega
    rcases h' with rfl | rfl
    · show lessB y x = false
      rw [lessB_iff] at h
      rw [lessB_false]; omega
    · show lessB y y = false
      rw [lessB_false]; omega
  · obtain rfl : j = 0 := by omega
    show x ≠ y
    rintro rfl
    rw [lessB_iff] at h
    omega
theorem heights_any (h r0 r1 more : Int) (w : World) (hh1 : -9223372036854775808 ≤ h) (hh2 : h ≤ 9223372036854775807) (hm1 : 0 ≤ more) (hm2 : more ≤ 65535) :
    Calls Try.prog 7 #[.int .i64 h, .agg #[.int .i64 r0, .int .i64 r1], .int .u16 more] w fun e w' => e = .returned (.bool true) ∧ Below w.heap.size w w' := by
  have hp : ∀ lo hi a b : Int, lo < hi → lessB (lo, a) (hi, b) = true := fun lo hi a b hlt => by rw [lessB_iff]; exact Or.inl hlt
  have hq : ∀ lo hi a b : Int, lo < hi → lessB (hi, b) (lo, a) = false := fun lo hi a b hlt => by rw [lessB_false]; simp only; omega
  have hs : ∀ lo hi a b : Int, lo < hi → lastZ [(hi, b), (lo, a)] = 0 := fun lo hi a b hlt => lastZ_first (hq lo hi a b hlt)
  have ht : ∀ lo hi a b : Int, lo < hi → lastZ [(lo, a), (hi, b)] = 1 := fun lo hi a b hlt => lastZ_second (hp lo hi a b hlt)
  have h1 : ∀ a b : Int, a < b → lessB (h, a) (h, b) = true := fun a b hab => by rw [lessB_iff]; exact Or.inr ⟨rfl, hab⟩
  have h2 : ∀ a : Int, lessB (h, a) (h, a) = false := fun a => by rw [lessB_false]; simp only; omega
  rcases (by omega : 4611686018427387904 < h ∨ h ≤ 4611686018427387904) with hl | hl
  · rcases Int.lt_trichotomy r0 r1 with hr | hr | hr
    · exact heights_b1 h r0 r1 more w hh1 hh2 hl hr (by simp; omega) hm1 hm2 (hp _ _ _ _ (by omega)) (hq _ _ _ _ (by omega)) (h1 _ _ hr) (hs _ _ _ _ (by omega)) (ht _ _ _ _ (by omega))
    · subst hr
      exact heights_b2 h r0 more w hh1 hh2 hl hm1 hm2 (hp _ _ _ _ (by omega)) (hq _ _ _ _ (by omega)) (h2 _) (hs _ _ _ _ (by omega)) (ht _ _ _ _ (by omega))
    · exact heights_b3 h r0 r1 more w hh1 hh2 hl hr (by simp; omega) hm1 hm2 (hp _ _ _ _ (by omega)) (hq _ _ _ _ (by omega)) (h1 _ _ hr) (hs _ _ _ _ (by omega)) (ht _ _ _ _ (by omega))
  · rcases Int.lt_trichotomy r0 r1 with hr | hr | hr
    · exact heights_a1 h r0 r1 more w hh1 hh2 hl hr (by simp; omega) hm1 hm2 (hp _ _ _ _ (by omega)) (hq _ _ _ _ (by omega)) (h1 _ _ hr) (hs _ _ _ _ (by omega)) (ht _ _ _ _ (by omega))
    · subst hr
      exact heights_a2 h r0 more w hh1 hh2 hl hm1 hm2 (hp _ _ _ _ (by omega)) (hq _ _ _ _ (by omega)) (h2 _) (hs _ _ _ _ (by omega)) (ht _ _ _ _ (by omega))
    · exact heights_a3 h r0 r1 more w hh1 hh2 hl hr (by simp; omega) hm1 hm2 (hp _ _ _ _ (by omega)) (hq _ _ _ _ (by omega)) (h1 _ _ hr) (hs _ _ _ _ (by omega)) (ht _ _ _ _ (by omega))
end Go.Proofs.Ytekcechjibigbaa
