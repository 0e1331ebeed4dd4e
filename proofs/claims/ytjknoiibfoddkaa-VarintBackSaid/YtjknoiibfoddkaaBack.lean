/- kithlaw01.VarintBack walked: it returns true. -/
import Derived.Test.YtjknoiibfoddkaaAll
import Derived.Test.YtjknoiibfoddkaaPlain3
namespace Go.Proofs.Ytjknoiibfoddkaa
open Go.RowKit
theorem own_emptyB (w : World) (B : Nat) (hB : B ≤ w.heap.size) : (w.alloc (.cells #[] 5)).ownsRow B 5 1 (.slice (some ⟨w.heap.size, 0, none⟩) 0 0) 0 (cells []) :=
  ⟨rfl, .inr ⟨w.heap.size, 0, #[], rfl, hB, Blk.new w 5 #[], Nat.le_refl _, by unfold maxLen; omega, rfl, rfl⟩⟩

set_option maxRecDepth 10000 in
set_option maxHeartbeats 2000000 in
theorem back_any (n : Nat) (a1 : Option Addr) (n1 c1 : Nat) (bs1 : List Nat) (a2 : Option Addr) (n2 c2 : Nat) (bs2 : List Nat) (w : World) (hn : n < 18446744073709551616)
    (h1 : Bytes w a1 n1 c1 bs1) (hs1 : ∀ x ∈ bs1, x < 256) (h2 : Bytes w a2 n2 c2 bs2) (hs2 : ∀ x ∈ bs2, x < 256) :
    Calls Try.prog 4 #[.int .u64 n, .slice a1 n1 c1, .slice a2 n2 c2] w fun e w' => e = .returned (.bool true) ∧ Below w.heap.size w w' := by
  obtain ⟨m1, hm1⟩ : ∃ m1, m1 = min n1 20 := ⟨_, rfl⟩
  obtain ⟨m2, hm2⟩ : ∃ m2, m2 = min n2 20 := ⟨_, rfl⟩
  obtain ⟨L, hL⟩ : ∃ L, L = (putN n).length := ⟨_, rfl⟩
  have hten := putN_ten hn
  have hpos := putN_pos n
  rw [← hL] at hten hpos
  have hm20 : m1 ≤ 20 := by omega
  have hm22 : m2 ≤ 20 := by omega
  have hmc2 : m2 ≤ c2 := by have := h2.1; omega
  have hcm2 : c2 ≤ maxLen := h2.2.1
  unfold maxLen at hcm2
  have hcut1 := h1.cut m1 (by omega)
  have hcut2 := h2.cut m2 (by omega)
  have hsm2 : ∀ x ∈ bs2.take m2, x < 256 := fun x hx => hs2 x (List.mem_of_mem_take hx)
  have hsm1 : ∀ x ∈ putN n ++ bs1.take m1, x < 256 := by
    intro x hx
    rcases List.mem_append.1 hx with h | h
    · exact putN_small n x h
    · exact hs1 x (List.mem_of_mem_take h)
  have htp := take_put n (bs1.take m1) hn
  have htc := take_any_cases (bs2.take m2) hsm2
  have hlen2 := hcut2.len
  rw [← hL] at htp
  rw [hlen2] at htc
  have HB1 := Lib.hid h1; have HB2 := Lib.hid h2; have HM1 := Lib.hid hm1; have HM2 := Lib.hid hm2; have HL := Lib.hid hL
  have HC1 := Lib.hid hcut1; have HC2 := Lib.hid hcut2; have HS2 := Lib.hid hsm2; have HS1 := Lib.hid hsm1; have HTP := Lib.hid htp; have HTC := Lib.hid htc
  clear h1 h2 hm1 hm2 hL hcut1 hcut2 hsm1 hsm2 hs1 hs2 htp htc hlen2
  obtain ⟨i0, hi, hz0, hz1, hz2⟩ := info_parts byte_info
  go_enter Try.func4, Try.ntmps4
  go_wp2_with fail
  refine (shown_any _).mono ?_
  rintro e w1 ⟨rfl, hb1⟩
  have hk1 : Kept w.heap.size w w1 := Kept.start hb1
  clear hb1
  go_wp2_with fail
  refine (put_any n _ hn).mono ?_
  rintro e w2 ⟨v2, rfl, hown2, hb2⟩
  rw [← HL.out] at hown2
  have hk2 := hk1.step hb2
  obtain ⟨ap, cp, hvp, hp2⟩ := Bytes.of_own hown2
  rw [hvp]
  try rw [← HL.out]
  have hown0 := own_emptyB w2 w.heap.size hk2.le
  have hrd := hp2.reads.alloc (Nat.le_refl _) (.cells #[] 5)
  have HO0 := Lib.hid hown0; have HRD := Lib.hid hrd; have HP2 := Lib.hid hp2
  clear hown2 hvp hown0 hrd hp2 hb2
  have hle2 := hk2.le
  go_wp2_with (at_builtin; refine wpList_append_any _ rfl (.tmp 20) (.tmp 21) _ rfl w.heap.size 5 i0 _ 1 1 Try.underlying23 hi hz0 hz1 hz2 rfl (by omega) (.slice (some ⟨w2.heap.size, 0, none⟩) 0 0) 0 (cells []) rfl HO0.out w2.heap.size ap L cp (cells (putN n)) rfl HRD.out (cells_one _) (by simp only [maxLen]; omega) (by omega) (Nat.le_trans hle2 (by simp)) ?_; intro v3 w3 hown3 hg3 hat3)
  have hg3' : (w2.alloc (.cells #[] 5)).grownBy w3 (some w2.heap.size) := hg3
  have hat3' : v3.ownBlock = some w2.heap.size ∨ v3.ownBlock = some (w2.alloc (.cells #[] 5)).heap.size := hat3
  have hb3 : Below w2.heap.size w2 w3 := ((Below.refl _ _).alloc (Nat.le_refl _) (.cells #[] 5)).grown hg3' (by simp) (fun g hg => by injection hg with hg; exact Nat.le_of_eq hg)
  have hk3 := hk2.step hb3
  have HO3 := Lib.hid hown3; have HAT3 := Lib.hid hat3'; have HB3 := Lib.hid hb3
  clear hown3 hat3 hat3' hg3 hg3' HO0 HRD hb3
  refine (few_is HM1.out (HB1.out.kept hk3.below (Nat.le_refl _))).mono ?_
  rintro e w4 ⟨rfl, rfl⟩
  have hrd1 := (HC1.out.kept hk3.below (Nat.le_refl _)).reads
  have HRD1 := Lib.hid hrd1
  clear hrd1
  go_wp2_with (at_builtin; refine wpList_append_any _ rfl (.tmp 22) (.tmp 24) _ rfl w.heap.size 5 i0 _ 1 1 Try.underlying23 hi hz0 hz1 hz2 rfl (by omega) v3 (0 + L) (cells [] ++ cells (putN n)) rfl HO3.out w3.heap.size a1 m1 c1 (cells (bs1.take m1)) rfl HRD1.out (cells_one _) (by simp only [maxLen]; omega) (by omega) hk3.le ?_; intro v4 w4 hown4 hg4 hat4)
  have hb4 : Below w2.heap.size w2 w4 := HB3.out.grown hg4 HB3.out.size (fun g hg => by
    rcases HAT3.out with e | e
    · rw [e] at hg; injection hg with hg; omega
    · rw [e] at hg; injection hg with hg; simp at hg; omega)
  have hk4 := hk2.step hb4
  have eF : cells [] ++ cells (putN n) ++ cells (bs1.take m1) = cells (putN n ++ bs1.take m1) := by simp [cells]
  rw [eF] at hown4
  obtain ⟨a4, c4, hv4, hp4⟩ := Bytes.of_own hown4
  rw [hv4]
  have HP4 := Lib.hid hp4
  clear hown4 hg4 hat4 hp4 hv4 eF HAT3 HB3 HO3 HRD1 hk3 hb4
  go_wp2_with fail
  refine (take_any HP4.out HS1.out).mono ?_
  rintro e w5 hT
  unfold TakePost at hT
  rw [HTP.out] at hT
  obtain ⟨rfl, rfl⟩ := hT
  go_wp2_with fail
  refine (few_is HM2.out (HB2.out.kept hk4.below (Nat.le_refl _))).mono ?_
  rintro e w5 ⟨rfl, rfl⟩
  go_wp2_with fail
  refine (take_any (HC2.out.kept hk4.below (Nat.le_refl _)) HS2.out).mono ?_
  rintro e w5 hT
  unfold TakePost at hT
  rcases HTC.out with ⟨m, y, het, hm1, hm2, hpy, hy⟩ | het | het
  · rw [het] at hT
    obtain ⟨rfl, rfl⟩ := hT
    have hcy := (HC2.out.kept hk4.below (Nat.le_refl _)).cut m hm2
    rw [← hpy] at hcy
    have HCY := Lib.hid hcy
    have hmc : m ≤ c2 := by omega
    have hlt1 : decide ((m : Int) < 1) = false := by simp; omega
    have hgt1 : decide ((m : Int) > (m2 : Int)) = false := by simp; omega
    have hgt3 : decide (m2 < m) = false := by simp; omega
    have hgt2 : decide ((m2 : Int) < (m : Int)) = false := by simp; omega
    clear het hpy hcy
    have hcv0 := fun w' (h : Kept w4.heap.size w4 w') => run_str (P := Try.prog) Try.underlying23 Try.underlying5 (HCY.out.kept h.below (Nat.le_refl _)) 9 Try.underlying9
    go_wp2_with fail
    refine wp_region_noPanic (wp_region_sched (fun w' => Kept w4.heap.size w4 w') [(0, true), (1, true), (2, true), (3, true), (4, true), (5, true), (6, true), (7, true), (8, true), (9, true), (10, true), (11, true), (12, true), (15, true), (16, true), (17, true), (18, true), (13, false), (14, true), (19, true), (20, true), (21, true)] (by kernel_rfl) (by kernel_rfl) (fun _ _ _ _ _ h => h) (Kept.drew ⟨Below.refl _ _, Nat.le_refl _⟩) (fun hHeld => ?_))
    repeat (first | (refine sched_skip rfl (by rfl) ?_; simp only [Act.put, List.setIfInBounds_toArray, List.set_cons_zero, List.set_cons_succ]) | (refine sched_pure (v := ?_) rfl (by rfl) ?_ ?_; rotate_left 1; (intro w' hS'; have hcc := hS'.cells; go_simp; with_reducible rfl); simp only [Act.put, List.setIfInBounds_toArray, List.set_cons_zero, List.set_cons_succ]) | fail)
    refine sched_eff rfl (by rfl) (fun K hK => ?_)
    go_simp
    refine (put_any y _ hy).mono ?_
    rintro e w6 ⟨v6, rfl, hown6, hb⟩
    have hk_w6 := hHeld.step hb
    refine hK.out (fun w' => Kept w6.heap.size w6 w') _ _ (fun _ h => hk_w6.trans h hk_w6.le) ⟨Below.refl _ _, Nat.le_refl _⟩ (fun hHeld' => ?_)
    clear hHeld hK K
    have hHeld := hHeld'
    clear hHeld'
    try simp only [Act.put, List.setIfInBounds_toArray, List.set_cons_zero, List.set_cons_succ]
    obtain ⟨a6, c6, hv6, hp6⟩ := Bytes.of_own hown6
    rw [hv6]
    clear hown6 hv6
    have hcv1 := fun w' (h : Kept w6.heap.size w6 w') => run_str (P := Try.prog) Try.underlying23 Try.underlying5 (hp6.kept h.below (Nat.le_refl _)) 9 Try.underlying9
    repeat (first | (refine sched_skip rfl (by rfl) ?_; simp only [Act.put, List.setIfInBounds_toArray, List.set_cons_zero, List.set_cons_succ]) | (refine sched_pure (v := ?_) rfl (by rfl) ?_ ?_; rotate_left 1; (intro w' hS'; have hcc := hS'.cells; go_simp; with_reducible rfl); simp only [Act.put, List.setIfInBounds_toArray, List.set_cons_zero, List.set_cons_succ]) | fail)
    refine sched_end (NoPanic.normal ?_)
    have hk7 := hk4.trans hk_w6 hk4.le
    go_wp2_with fail
    go_ret
    exact ⟨rfl, hk7.below⟩
  · rw [het] at hT
    obtain ⟨rfl, rfl⟩ := hT
    clear het
    go_wp2_with fail
    refine wp_region_noPanic (wp_region_sched (fun w' => Kept w4.heap.size w4 w') [(0, true), (1, true), (2, true), (3, true), (4, true), (5, true), (6, true), (7, true), (8, true), (9, true), (10, true), (11, true), (12, true), (15, true), (16, true), (17, true), (18, true), (13, false), (14, true), (19, true), (20, true), (21, true)] (by kernel_rfl) (by kernel_rfl) (fun _ _ _ _ _ h => h) (Kept.drew ⟨Below.refl _ _, Nat.le_refl _⟩) (fun hHeld => ?_))
    repeat (first | (refine sched_skip rfl (by rfl) ?_; simp only [Act.put, List.setIfInBounds_toArray, List.set_cons_zero, List.set_cons_succ]) | (refine sched_pure (v := ?_) rfl (by rfl) ?_ ?_; rotate_left 1; (intro w' hS'; have hcc := hS'.cells; go_simp; with_reducible rfl); simp only [Act.put, List.setIfInBounds_toArray, List.set_cons_zero, List.set_cons_succ]) | fail)
    refine sched_end (NoPanic.normal ?_)
    go_wp2_with fail
    go_ret
    exact ⟨rfl, hk4.drew.below⟩
  · rw [het] at hT
    obtain ⟨rfl, rfl⟩ := hT
    clear het
    go_wp2_with fail
    refine wp_region_noPanic (wp_region_sched (fun w' => Kept w4.heap.size w4 w') [(0, true), (1, true), (2, true), (3, true), (4, true), (5, true), (6, true), (7, true), (8, true), (9, true), (10, true), (11, true), (12, true), (15, true), (16, true), (17, true), (18, true), (13, false), (14, true), (19, true), (20, true), (21, true)] (by kernel_rfl) (by kernel_rfl) (fun _ _ _ _ _ h => h) (Kept.drew ⟨Below.refl _ _, Nat.le_refl _⟩) (fun hHeld => ?_))
    repeat (first | (refine sched_skip rfl (by rfl) ?_; simp only [Act.put, List.setIfInBounds_toArray, List.set_cons_zero, List.set_cons_succ]) | (refine sched_pure (v := ?_) rfl (by rfl) ?_ ?_; rotate_left 1; (intro w' hS'; have hcc := hS'.cells; go_simp; with_reducible rfl); simp only [Act.put, List.setIfInBounds_toArray, List.set_cons_zero, List.set_cons_succ]) | fail)
    refine sched_end (NoPanic.normal ?_)
    go_wp2_with fail
    go_ret
    exact ⟨rfl, hk4.drew.below⟩
end Go.Proofs.Ytjknoiibfoddkaa
