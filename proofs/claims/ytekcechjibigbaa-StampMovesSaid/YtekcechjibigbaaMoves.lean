/- kithlaw04.StampMoves walked: it returns true. -/
import Derived.Test.YtekcechjibigbaaFlat
import Derived.Test.YtekcechjibigbaaHeights
import Derived.Test.YtekcechjibigbaaLasts
namespace Go.Proofs.Ytekcechjibigbaa
open Go.RowKit
theorem moved_same {xs : List (Int × Int)} {k i j : Nat} (hi : IsLast xs i) (hj : IsLast (xs.drop k ++ xs.take k) j) : xs.getD i (0, 0) = (xs.drop k ++ xs.take k).getD j (0, 0) := by
  obtain ⟨i1, i2, _⟩ := hi
  obtain ⟨j1, j2, _⟩ := hj
  have gd : ∀ (l : List (Int × Int)) q, q < l.length → l.getD q (0, 0) ∈ l := fun l q h => by simp [List.getD, h]
  have mem1 : (xs.drop k ++ xs.take k).getD j (0, 0) ∈ xs := by
    have := gd _ _ j1
    rw [List.mem_append] at this
    rcases this with h | h
    · exact List.mem_of_mem_drop h
    · exact List.mem_of_mem_take h
  have mem2 : xs.getD i (0, 0) ∈ xs.drop k ++ xs.take k := by
    have := gd _ _ i1
    rw [← List.take_append_drop k xs, List.mem_append] at this
    rw [List.mem_append]
    rcases this with h | h
    · right; simpa using h
    · left; simpa using h
  have at_ : ∀ (l : List (Int × Int)) x, x ∈ l → ∃ q, q < l.length ∧ l.getD q (0, 0) = x := fun l x h => by
    obtain ⟨q, hq, rfl⟩ := List.getElem_of_mem h
    exact ⟨q, hq, by simp [List.getD, hq]⟩
  obtain ⟨q, q1, q2⟩ := at_ _ _ mem1
  obtain ⟨p, p1, p2⟩ := at_ _ _ mem2
  have h1 := i2 q q1
  have h2 := j2 p p1
  rw [q2] at h1
  rw [p2] at h2
  exact eq_of_less _ _ h1 h2

theorem row_take {w : World} {b off n cap k : Nat} {xs : List (Int × Int)} (h : Row w (some ⟨b, off, none⟩) n cap xs) (hk : k ≤ n) : Row w (some ⟨b, off, none⟩) k cap (xs.take k) := by
  rcases h with ⟨rfl, rfl⟩ | ⟨b', off', h1, h2, h3, h4, h5, h6⟩
  · exact .inl ⟨by omega, by simp⟩
  · refine .inr ⟨b', off', h1, by omega, h3, h4, by rw [List.length_take]; omega, fun i hi => ?_⟩
    rw [getD_take hi]
    exact h6 i (by omega)
theorem row_drop {w : World} {b off n cap k : Nat} {xs : List (Int × Int)} (h : Row w (some ⟨b, off, none⟩) n cap xs) (hk : k < n) : Row w (some ⟨b, off + k * 2, none⟩) (n - k) (cap - k) (xs.drop k) := by
  rcases h with ⟨rfl, rfl⟩ | ⟨b', off', h1, h2, h3, h4, h5, h6⟩
  · omega
  · injection h1 with h1
    injection h1 with h1 h1' _
    subst h1 h1'
    refine .inr ⟨_, _, rfl, by omega, by omega, h4, by rw [List.length_drop]; omega, fun i hi => ?_⟩
    have e : (xs.drop k).getD i (0, 0) = xs.getD (k + i) (0, 0) := by simp [List.getD, List.getElem?_drop]
    have o : off + k * 2 + i * 2 = off + (k + i) * 2 := by omega
    rw [e, o]
    exact h6 (k + i) (by omega)
set_option maxHeartbeats 1000000 in
theorem moves_empty (a : Option Addr) (n ca : Nat) (at_ : Int) (xs : List (Int × Int)) (w : World) (hx : Row w a n ca xs) (hn' : 0 = min n 30) :
    Calls Try.prog 6 #[.slice a n ca, .int .u8 at_] w fun e w' => e = .returned (.bool true) ∧ Below w.heap.size w w' := by
  have HX := Lib.hid hx
  have HN := Lib.hid hn'
  clear hx hn'
  go_enter Try.func6, Try.ntmps6
  go_wp2_with fail
  refine (shown_any _).mono ?_
  rintro e w1 ⟨rfl, hb1⟩
  have hk0 : Kept w.heap.size w w1 := Kept.start hb1
  clear hb1
  go_wp2_with fail
  refine (few_is HN.out (HX.out.kept hk0.below (Nat.le_refl _))).mono ?_
  rintro e w2 ⟨rfl, rfl⟩
  go_wp2_with fail
  go_ret
  exact ⟨rfl, hk0.below⟩

set_option maxHeartbeats 4000000 in
theorem moves_some (a : Option Addr) (n n' ca q k iN jN : Nat) (xs : List (Int × Int)) (w : World) (hx : Row w a n ca xs) (hn' : n' = min n 30) (h0 : 0 < n') (hq : k = q % n') (hqb : q ≤ 255)
    (hi : lastZ (xs.take 30) = iN) (hiN : iN < n') (hj : lastZ ((xs.take 30).drop k ++ (xs.take 30).take k) = jN) (hjN : jN < n')
    (he : (xs.take 30).getD iN (0, 0) = ((xs.take 30).drop k ++ (xs.take 30).take k).getD jN (0, 0)) :
    Calls Try.prog 6 #[.slice a n ca, .int .u8 q] w fun e w' => e = .returned (.bool true) ∧ Below w.heap.size w w' := by
  have hn : n' ≤ 30 := by omega
  have hz : ((n' : Int) == 0) = false := mfact h0
  have hkn : k < n' := by rw [hq]; exact Nat.mod_lt _ h0
  obtain ⟨b, off, rfl, hnc, hcm⟩ : ∃ b off, a = some ⟨b, off, none⟩ ∧ n ≤ ca ∧ ca ≤ maxLen := by
    rcases hx with ⟨rfl, _⟩ | ⟨b, off, h1, h2, h3, _⟩
    · omega
    · exact ⟨b, off, h1, h2, h3⟩
  unfold maxLen at hcm
  have hck : ¬ ca = k := by omega
  have hkn2 : (k : Int) < n' := by omega
  have hkc : k ≤ ca := by omega
  have hkn3 : k ≤ n' := by omega
  have hnc' : n' ≤ ca := by omega
  have HX := Lib.hid hx
  have HN := Lib.hid hn'
  have HQ := Lib.hid hq
  have HI := Lib.hid hi
  have HJ := Lib.hid hj
  have HE := Lib.hid he
  clear hx hn' hq hi hj he
  go_enter Try.func6, Try.ntmps6
  go_wp2_with fail
  refine (shown_any _).mono ?_
  rintro e w1 ⟨rfl, hb1⟩
  have hk0 : Kept w.heap.size w w1 := Kept.start hb1
  clear hb1
  go_wp2_with fail
  refine (few_is HN.out (HX.out.kept hk0.below (Nat.le_refl _))).mono ?_
  rintro e w2 ⟨rfl, rfl⟩
  go_wp2_with fail
  have eqk : (q : Int) % (n' : Int) = (k : Int) := by rw [HQ.out]; simp
  rw [eqk]
  clear eqk
  have hK : Kept w1.heap.size w1 w1 := ⟨Below.refl _ _, Nat.le_refl _⟩
  refine wp_region_noPanic (wp_region_sched (fun w' => (∀ b o, b < w1.heap.size → w'.cell? ⟨b, o, none⟩ = w1.cell? ⟨b, o, none⟩) ∧ Kept w1.heap.size w1 w') [(1, true), (2, true), (3, true), (5, true), (6, true), (7, true), (0, false), (4, false), (8, false), (9, true)] (by kernel_rfl) (by kernel_rfl) (fun _ _ _ _ _ h => h) (hK.drew.two) (fun hHeld => ?_))
  repeat (first | (refine sched_skip rfl (by rfl) ?_; simp only [Act.put, List.setIfInBounds_toArray, List.set_cons_zero, List.set_cons_succ]) | (refine sched_pure (v := ?_) rfl (by rfl) ?_ ?_; rotate_left 1; (intro w' hS'; (try dsimp only at hS'); go_simp; (try with_reducible rfl)); simp only [Act.put, List.setIfInBounds_toArray, List.set_cons_zero, List.set_cons_succ]) | fail)
  have hown0 := own_empty w1.drew w.heap.size hk0.le
  have HO0 := Lib.hid hown0
  have hx1 := (HX.out.kept hk0.below (Nat.le_refl _)).cutIs HN.out
  have hxl := hx1.len
  have hrd := reads_row (row_drop hx1 hkn)
  have hrt := reads_row (row_take hx1 (Nat.le_of_lt hkn))
  have HRD := Lib.hid hrd
  have HRT := Lib.hid hrt
  have HXL := Lib.hid hxl
  clear hown0 hrd hrt hxl
  obtain ⟨i0, hi0, hz0, hz1, hz2⟩ := info_parts stamp_info
  refine sched_eff rfl (by rfl) (fun K hK' => ?_)
  go_simp
  refine hK'.out _ _ (Kept.allocTwo (by assumption) _) (fun hHeld => ?_)
  clear hK' K
  have hl1 : (xs.take 30).length - k = n' - k := by rw [HXL.out]
  refine sched_eff rfl (by rfl) (fun K hK' => ?_)
  refine wp_append_any _ (.tmp 23) (.tmp 26) _ rfl w.heap.size 23 i0 _ 2 16 Try.underlying24 hi0 hz0 hz1 hz2 rfl (by omega) _ 0 (flat []) rfl
    HO0.out w1.heap.size (some ⟨b, off + k * 2, none⟩) (n' - k) (ca - k) (flat ((xs.take 30).drop k)) rfl ((HRD.out.drew).alloc (Nat.le_refl _) _) (flat_one _) (by simp only [maxLen]; omega) (by omega) (Nat.le_trans hk0.le (by simp)) ?_
  intro v1 w4 hown1 hg1 hat1
  have hg1' : (w1.drew.alloc (.cells #[] 23)).grownBy w4 (some w1.heap.size) := hg1
  have hat1' : v1.ownBlock = some w1.heap.size ∨ v1.ownBlock = some (w1.drew.alloc (.cells #[] 23)).heap.size := hat1
  have hb4 : Below w1.heap.size w1 w4 := (((Below.refl _ _).drew).alloc (Nat.le_refl _) (.cells #[] 23)).grown hg1' (by simp) (fun g hg => by injection hg with hg; exact Nat.le_of_eq hg)
  have HO1 := Lib.hid hown1
  have HAT1 := Lib.hid hat1'
  clear hown1 hat1 hat1' hg1
  refine hK'.out _ _ (Kept.two (hK.trans ⟨hb4, hb4.size⟩ (Nat.le_refl _))) (fun hHeld => ?_)
  clear hK' K
  (try simp only [Act.put, List.setIfInBounds_toArray, List.set_cons_zero, List.set_cons_succ])
  refine sched_eff rfl (by rfl) (fun K hK' => ?_)
  refine wp_append_any _ (.tmp 27) (.tmp 30) _ rfl w.heap.size 23 i0 _ 2 16 Try.underlying24 hi0 hz0 hz1 hz2 rfl (by omega) v1 (0 + (n' - k)) (flat [] ++ flat ((xs.take 30).drop k)) rfl
    HO1.out w1.heap.size (some ⟨b, off, none⟩) k ca (flat ((xs.take 30).take k)) rfl (HRT.out.below hb4) (flat_one _) (by simp only [maxLen]; omega) (by omega) (Nat.le_trans hk0.le hb4.size) ?_
  intro v2 w5 hown2 hg2 hat2
  have hb5 : Below w1.heap.size w1 w5 := hb4.grown hg2 hb4.size (fun g hg => by
    rcases HAT1.out with e | e
    · rw [e] at hg; injection hg with hg; omega
    · rw [e] at hg; injection hg with hg; simp at hg; omega)
  clear hg2 hat2 HAT1 HO1 HO0 HRD HRT hg1' hb4
  refine hK'.out _ _ (Kept.two (hK.trans ⟨hb5, hb5.size⟩ (Nat.le_refl _))) (fun hHeld => ?_)
  clear hK' K
  (try simp only [Act.put, List.setIfInBounds_toArray, List.set_cons_zero, List.set_cons_succ])
  have eF : flat [] ++ flat ((xs.take 30).drop k) ++ flat ((xs.take 30).take k) = flat ((xs.take 30).drop k ++ (xs.take 30).take k) := by rw [flat_append]; rfl
  have eN : 0 + (n' - k) + k = n' := by omega
  rw [eF, eN] at hown2
  obtain ⟨a2, c2, hv2, hr2⟩ := row_of_own hown2 (by have := HXL.out; simp only [List.length_append, List.length_drop, List.length_take] at *; omega)
  rw [hv2]
  clear hown2 eF eN hv2 hl1 hz0 hz1 hz2 hi0 i0
  repeat (first | (refine sched_skip rfl (by rfl) ?_; simp only [Act.put, List.setIfInBounds_toArray, List.set_cons_zero, List.set_cons_succ]) | (refine sched_pure (v := ?_) rfl (by rfl) ?_ ?_; rotate_left 1; (intro w' hS'; (try dsimp only at hS'); go_simp; (try with_reducible rfl)); simp only [Act.put, List.setIfInBounds_toArray, List.set_cons_zero, List.set_cons_succ]) | fail)
  refine sched_end (NoPanic.normal ?_)
  clear hHeld
  have hk5 : Kept w.heap.size w w5 := hk0.step hb5
  have hx5 := hx1.kept hb5 (Nat.le_refl _)
  have HX5 := Lib.hid hx5
  clear hx1 hx5
  go_wp2_with fail
  refine (last_is HI.out (by omega) HX5.out).mono ?_
  rintro e w6 ⟨rfl, hb6⟩
  have hx6 := HX5.out.kept hb6 (Nat.le_refl _)
  have hr6 := hr2.kept hb6 (Nat.le_refl _)
  have hk6 := hk5.step hb6
  clear hb6 hr2
  go_wp2_with fail
  refine (last_is HJ.out (by omega) hr6).mono ?_
  rintro e w7 ⟨rfl, hb7⟩
  have hx7 := hx6.kept hb7 (Nat.le_refl _)
  have hr7 := hr6.kept hb7 (Nat.le_refl _)
  have hk7 := hk6.step hb7
  clear hb7 hr6 hx6 hk6 hk5
  obtain ⟨bx, ox, ex, hbx, hcx⟩ := hx7.pos h0
  injection ex with ex
  injection ex with ex1 ex2 _
  subst ex1 ex2
  obtain ⟨bv, ov, rfl, hbv, hcv⟩ := hr7.pos h0
  obtain ⟨c0, c1⟩ := hcx iN hiN
  obtain ⟨d0, d1⟩ := hcv jN hjN
  have hE := HE.out
  generalize (xs.take 30).getD iN (0, 0) = xi at c0 c1 hE
  generalize ((xs.take 30).drop k ++ (xs.take 30).take k).getD jN (0, 0) = xj at d0 d1 hE
  subst hE
  obtain ⟨ia, ib⟩ := xi
  simp only [] at c0 c1 d0 d1
  have hK7 : Kept w7.heap.size w7 w7 := ⟨Below.refl _ _, Nat.le_refl _⟩
  clear hcx hcv HE HI HJ
  go_wp2_with fail
  refine wp_region_noPanic (wp_region_sched (fun w' => (∀ b o, b < w7.heap.size → w'.cell? ⟨b, o, none⟩ = w7.cell? ⟨b, o, none⟩) ∧ Kept w7.heap.size w7 w') [(0, true), (1, true), (2, true), (3, true), (4, true), (5, true), (6, true), (7, true), (8, true), (9, true), (10, true), (11, true), (12, true), (13, true), (14, true), (15, true), (16, true), (17, true), (18, true), (19, true), (20, true), (21, true), (22, true), (23, true), (24, true), (25, true), (26, true), (27, true), (28, true), (29, true), (30, true), (31, true), (32, true)] (by kernel_rfl) (by kernel_rfl) (fun _ _ _ _ _ h => h) (hK7.drew.two) (fun hHeld => ?_))
  repeat (first | (refine sched_skip rfl (by rfl) ?_; simp only [Act.put, List.setIfInBounds_toArray, List.set_cons_zero, List.set_cons_succ]) | (refine sched_pure (v := ?_) rfl (by rfl) ?_ ?_; rotate_left 1; (intro w' hS'; (try dsimp only at hS'); go_simp; (try with_reducible rfl)); simp only [Act.put, List.setIfInBounds_toArray, List.set_cons_zero, List.set_cons_succ]) | fail)
  refine sched_end (NoPanic.normal ?_)
  have hk8 := hk7.trans hHeld.2 hk7.le
  clear hHeld
  go_wp2_with fail
  go_ret
  exact ⟨rfl, hk8.below⟩
theorem moves_any (a : Option Addr) (n ca : Nat) (at_ : Int) (xs : List (Int × Int)) (w : World) (hx : Row w a n ca xs) (h1 : 0 ≤ at_) (h2 : at_ ≤ 255) :
    Calls Try.prog 6 #[.slice a n ca, .int .u8 at_] w fun e w' => e = .returned (.bool true) ∧ Below w.heap.size w w' := by
  obtain ⟨n', hn'⟩ : ∃ n', n' = min n 30 := ⟨_, rfl⟩
  have hxl : (xs.take 30).length = n' := by have := hx.len; rw [List.length_take]; omega
  by_cases h0 : n' = 0
  · subst h0
    exact moves_empty a n ca at_ xs w hx hn'
  · obtain ⟨q, rfl⟩ := Int.eq_ofNat_of_zero_le h1
    have hk : q % n' < n' := Nat.mod_lt _ (by omega)
    have hvl : ((xs.take 30).drop (q % n') ++ (xs.take 30).take (q % n')).length = n' := by simp only [List.length_append, List.length_drop, List.length_take] at *; omega
    obtain ⟨i, i1, i2⟩ := lastZ_is (xs := xs.take 30) (by omega)
    obtain ⟨j, j1, j2⟩ := lastZ_is (xs := (xs.take 30).drop (q % n') ++ (xs.take 30).take (q % n')) (by omega)
    exact moves_some a n n' ca q (q % n') i j xs w hx hn' (by omega) rfl (by omega) i1 (by have := i2.1; omega) j1 (by have := j2.1; omega) (moved_same i2 j2)
end Go.Proofs.Ytekcechjibigbaa
