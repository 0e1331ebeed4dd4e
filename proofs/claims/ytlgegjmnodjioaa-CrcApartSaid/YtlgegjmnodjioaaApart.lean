/- kithlaw02.CrcApart walked: it returns true. -/
import Derived.Test.YtlgegjmnodjioaaShown
namespace Go.Proofs.Ytlgegjmnodjioaa
open Go.RowKit
theorem step_inj {a b c : Nat} (ha : a < 4294967296) (hb : b < 4294967296) (hc : c < 256) : stepN a c = stepN b c ↔ a = b := by
  constructor
  · intro h
    have h1 := run_inj 8 (xor_lt ha (by omega)) (xor_lt hb (by omega)) h
    have h2 : a ^^^ c ^^^ c = b ^^^ c ^^^ c := by rw [h1]
    simpa [Nat.xor_assoc] using h2
  · rintro rfl; rfl
theorem step_inj' {a c d : Nat} (ha : a < 4294967296) (hc : c < 256) (hd : d < 256) : stepN a c = stepN a d ↔ c = d := by
  constructor
  · intro h
    have h1 := run_inj 8 (xor_lt ha (by omega)) (xor_lt ha (by omega)) h
    have h2 : a ^^^ (a ^^^ c) = a ^^^ (a ^^^ d) := by rw [h1]
    simpa [← Nat.xor_assoc] using h2
  · rintro rfl; rfl
theorem dec_int (a b : Nat) : ((a : Int) == (b : Int)) = decide (a = b) := by
  rw [Bool.eq_iff_iff]
  simp only [beq_iff_eq, decide_eq_true_eq]
  omega
set_option maxRecDepth 10000 in
set_option maxHeartbeats 2000000 in
theorem apart_any (a b c0 c1 : Nat) (w : World) (ha : a < 4294967296) (hb : b < 4294967296) (h0 : c0 < 256) (h1 : c1 < 256) :
    Calls Try.prog 6 #[.int .u32 a, .int .u32 b, .agg #[.int .u8 (c0 : Int), .int .u8 (c1 : Int)]] w fun e w' => e = .returned (.bool true) ∧ Below w.heap.size w w' := by
  obtain ⟨s1, hs1⟩ : ∃ s, s = stepN a c0 := ⟨_, rfl⟩
  obtain ⟨s2, hs2⟩ : ∃ s, s = stepN b c0 := ⟨_, rfl⟩
  obtain ⟨s3, hs3⟩ : ∃ s, s = stepN a c1 := ⟨_, rfl⟩
  have i1 := step_inj ha hb h0
  have i2 := step_inj' ha h0 h1
  rw [← hs1, ← hs2] at i1
  rw [← hs1, ← hs3] at i2
  obtain ⟨p, hp⟩ : ∃ p, p = decide (a = b) := ⟨_, rfl⟩
  obtain ⟨q, hq⟩ : ∃ q, q = decide (c0 = c1) := ⟨_, rfl⟩
  have f1 : ((s1 : Int) == (s2 : Int)) = p := by rw [dec_int, hp]; exact decide_eq_decide.2 i1
  have f2 : ((a : Int) == (b : Int)) = p := by rw [dec_int, hp]
  have f3 : ((s1 : Int) == (s3 : Int)) = q := by rw [dec_int, hq]; exact decide_eq_decide.2 i2
  have f4 : ((c0 : Int) == (c1 : Int)) = q := by rw [dec_int, hq]
  have H1 := Lib.hid hs1; have H2 := Lib.hid hs2; have H3 := Lib.hid hs3
  clear hs1 hs2 hs3 i1 i2 hp hq
  have hblk := Blk.new w 33 #[.int .u8 (c0 : Int), .int .u8 (c1 : Int)]
  have hk0 := (Kept.start (Below.refl w.heap.size w)).alloc (.cells #[.int .u8 (c0 : Int), .int .u8 (c1 : Int)] 33)
  have hsz : (w.alloc (.cells #[.int .u8 (c0 : Int), .int .u8 (c1 : Int)] 33)).heap.size = w.heap.size + 1 := by simp
  have HBL := Lib.hid hblk; have HSZ := Lib.hid hsz
  clear hblk hsz
  go_enter Try.func6, Try.ntmps6
  go_wp2_with fail
  generalize w.alloc (.cells #[.int .u8 (c0 : Int), .int .u8 (c1 : Int)] 33) = w0 at hk0 HBL HSZ ⊢
  refine (shown_any _).mono ?_
  rintro e w1 ⟨rfl, hb1⟩
  have hk1 := hk0.step hb1
  have hbl1 := HBL.out.below hb1 HBL.out.lt
  have hlt := hbl1.lt
  have k0 := hbl1.cell 0
  have k1 := hbl1.cell 1
  have e0 : (#[Value.int .u8 (c0 : Int), .int .u8 (c1 : Int)] : Array Value)[0]? = some (.int .u8 (c0 : Int)) := rfl
  have e1 : (#[Value.int .u8 (c0 : Int), .int .u8 (c1 : Int)] : Array Value)[1]? = some (.int .u8 (c1 : Int)) := rfl
  rw [e0] at k0
  rw [e1] at k1
  clear e0 e1 hbl1 hb1 hk0
  go_wp2_with fail
  refine wp_region_noPanic (wp_region_sched (fun w' => Kept w1.heap.size w1 w') [(0, true), (1, true), (2, true), (3, true), (4, true), (6, true), (7, true), (8, true), (11, true), (12, true), (13, true), (5, false), (9, false), (10, true), (14, true), (15, true), (16, true), (17, true), (18, true), (19, true), (21, true), (22, true), (23, true), (26, true), (27, true), (28, true), (29, true), (30, true), (20, false), (24, false), (25, true), (31, true), (32, true), (33, true)] (by kernel_rfl) (by kernel_rfl) (fun _ _ _ _ _ h => h) (Kept.drew ⟨Below.refl _ _, Nat.le_refl _⟩) (fun hHeld => ?_))
  repeat (first | (refine sched_skip rfl (by rfl) ?_; simp only [Act.put, List.setIfInBounds_toArray, List.set_cons_zero, List.set_cons_succ]) | (refine sched_pure (v := ?_) rfl (by rfl) ?_ ?_; rotate_left 1; (intro w' hS'; have hcc := hS'.cells; go_simp; with_reducible rfl); simp only [Act.put, List.setIfInBounds_toArray, List.set_cons_zero, List.set_cons_succ]) | fail)
  refine sched_eff rfl (by rfl) (fun K hK => ?_)
  go_simp
  refine (step_any a c0 _ ha h0).mono ?_
  rintro e w4 ⟨rfl, rfl⟩
  rw [← H1.out]
  refine hK.out (fun w' => Kept w1.heap.size w1 w') _ _ (fun _ h => h) hHeld (fun hHeld' => ?_)
  clear hHeld hK K
  have hHeld := hHeld'
  clear hHeld'
  try simp only [Act.put, List.setIfInBounds_toArray, List.set_cons_zero, List.set_cons_succ]
  repeat (first | (refine sched_skip rfl (by rfl) ?_; simp only [Act.put, List.setIfInBounds_toArray, List.set_cons_zero, List.set_cons_succ]) | (refine sched_pure (v := ?_) rfl (by rfl) ?_ ?_; rotate_left 1; (intro w' hS'; have hcc := hS'.cells; go_simp; with_reducible rfl); simp only [Act.put, List.setIfInBounds_toArray, List.set_cons_zero, List.set_cons_succ]) | fail)
  refine sched_eff rfl (by rfl) (fun K hK => ?_)
  go_simp
  refine (step_any b c0 _ hb h0).mono ?_
  rintro e w4 ⟨rfl, rfl⟩
  rw [← H2.out]
  refine hK.out (fun w' => Kept w1.heap.size w1 w') _ _ (fun _ h => h) hHeld (fun hHeld' => ?_)
  clear hHeld hK K
  have hHeld := hHeld'
  clear hHeld'
  try simp only [Act.put, List.setIfInBounds_toArray, List.set_cons_zero, List.set_cons_succ]
  repeat (first | (refine sched_skip rfl (by rfl) ?_; simp only [Act.put, List.setIfInBounds_toArray, List.set_cons_zero, List.set_cons_succ]) | (refine sched_pure (v := ?_) rfl (by rfl) ?_ ?_; rotate_left 1; (intro w' hS'; have hcc := hS'.cells; go_simp; with_reducible rfl); simp only [Act.put, List.setIfInBounds_toArray, List.set_cons_zero, List.set_cons_succ]) | fail)
  refine sched_eff rfl (by rfl) (fun K hK => ?_)
  go_simp
  refine (step_any a c0 _ ha h0).mono ?_
  rintro e w4 ⟨rfl, rfl⟩
  rw [← H1.out]
  refine hK.out (fun w' => Kept w1.heap.size w1 w') _ _ (fun _ h => h) hHeld (fun hHeld' => ?_)
  clear hHeld hK K
  have hHeld := hHeld'
  clear hHeld'
  try simp only [Act.put, List.setIfInBounds_toArray, List.set_cons_zero, List.set_cons_succ]
  repeat (first | (refine sched_skip rfl (by rfl) ?_; simp only [Act.put, List.setIfInBounds_toArray, List.set_cons_zero, List.set_cons_succ]) | (refine sched_pure (v := ?_) rfl (by rfl) ?_ ?_; rotate_left 1; (intro w' hS'; have hcc := hS'.cells; go_simp; with_reducible rfl); simp only [Act.put, List.setIfInBounds_toArray, List.set_cons_zero, List.set_cons_succ]) | fail)
  refine sched_eff rfl (by rfl) (fun K hK => ?_)
  go_simp
  refine (step_any a c1 _ ha h1).mono ?_
  rintro e w4 ⟨rfl, rfl⟩
  rw [← H3.out]
  refine hK.out (fun w' => Kept w1.heap.size w1 w') _ _ (fun _ h => h) hHeld (fun hHeld' => ?_)
  clear hHeld hK K
  have hHeld := hHeld'
  clear hHeld'
  try simp only [Act.put, List.setIfInBounds_toArray, List.set_cons_zero, List.set_cons_succ]
  repeat (first | (refine sched_skip rfl (by rfl) ?_; simp only [Act.put, List.setIfInBounds_toArray, List.set_cons_zero, List.set_cons_succ]) | (refine sched_pure (v := ?_) rfl (by rfl) ?_ ?_; rotate_left 1; (intro w' hS'; have hcc := hS'.cells; go_simp; with_reducible rfl); simp only [Act.put, List.setIfInBounds_toArray, List.set_cons_zero, List.set_cons_succ]) | fail)
  refine sched_end (NoPanic.normal ?_)
  go_wp2_with fail
  go_ret
  exact ⟨rfl, hk1.drew.below⟩
end Go.Proofs.Ytlgegjmnodjioaa
