/- kithlaw04.StampLasts walked: it returns true. -/
import Derived.Test.YtekcechjibigbaaFlat
import Derived.Test.YtekcechjibigbaaOrders
import Derived.Test.YtekcechjibigbaaSched
import Derived.Deep.RegionHeld3
import Derived.BigQuiet
import Derived.Deep.QuietTactic
namespace Go.Proofs.Ytekcechjibigbaa
open Go.RowKit
theorem stamp_info : (Try.prog.info? 23).map (fun i => (i.zero, i.size, i.bytes)) = some (some (.agg #[.int .i64 0, .int .i64 0]), 2, 16) := by kernel_rfl
theorem few_is {a : Option Addr} {n n' cap : Nat} {xs : List (Int × Int)} {w : World} (hn : n' = min n 30) (h : Row w a n cap xs) :
    Calls Try.prog 12 #[.slice a n cap] w fun e w' => e = .returned (.slice a n' cap) ∧ w = w' := by subst hn; exact few_row h
theorem last_is {a : Option Addr} {n cap : Nat} {xs : List (Int × Int)} {w : World} {v : Int} (hv : lastZ xs = v) (hn : n ≤ 100) (h : Row w a n cap xs) :
    Calls Try.prog 11 #[.slice a n cap] w fun e w' => e = .returned (.int .i64 v) ∧ Below w.heap.size w w' := by subst hv; exact last_row hn h
theorem Row.cutIs {w : World} {a : Option Addr} {n n' cap : Nat} {xs : List (Int × Int)} (hn : n' = min n 30) (h : Row w a n cap xs) : Row w a n' cap (xs.take 30) := by subst hn; exact h.cut
theorem kfact (k : Nat) : ((k : Int) == -1) = false := by simp
theorem mfact {m : Nat} (h : 0 < m) : ((m : Int) == 0) = false := by simp; omega
theorem Row.pos {w : World} {a : Option Addr} {n cap : Nat} {xs : List (Int × Int)} (h : Row w a n cap xs) (hn : 0 < n) : ∃ b off, a = some ⟨b, off, none⟩ ∧ b < w.heap.size ∧
    ∀ i, i < n → w.cell? ⟨b, off + i * 2, none⟩ = some (.int .i64 (xs.getD i (0, 0)).1) ∧ w.cell? ⟨b, off + i * 2 + 1, none⟩ = some (.int .i64 (xs.getD i (0, 0)).2) := by
  rcases h with ⟨rfl, _⟩ | ⟨b, off, h1, _, _, h4, _, h6⟩
  · omega
  · exact ⟨b, off, h1, h4, h6⟩
theorem gefact {k m : Nat} (h : k < m) : decide (m ≤ k) = false := by simpa using h
theorem own_empty (w : World) (B : Nat) (hB : B ≤ w.heap.size) : (w.alloc (.cells #[] 23)).ownsRow B 23 2 (.slice (some ⟨w.heap.size, 0, none⟩) 0 0) 0 (flat []) :=
  ⟨rfl, .inr ⟨w.heap.size, 0, #[], rfl, hB, Blk.new w 23 #[], Nat.le_refl _, by unfold maxLen; omega, rfl, rfl⟩⟩


set_option maxHeartbeats 4000000 in
theorem lasts_A0 (a b : Option Addr) (n m ca cb : Nat) (xs ys : List (Int × Int))  (w : World) (hx : Row w a n ca xs) (hy : Row w b m cb ys) (hn' : 0 = min n 30) (hm' : 0 = min m 30)
    (hi : lastZ (xs.take 30) = -1) (hk : lastZ (ys.take 30) = -1) (hr : lastZ (xs.take 30 ++ ys.take 30) = -1)  :
    Calls Try.prog 5 #[.slice a n ca, .slice b m cb] w fun e w' => e = .returned (.bool true) ∧ Below w.heap.size w w' := by
  have HX := Lib.hid hx
  have HY := Lib.hid hy
  have HN := Lib.hid hn'
  have HM := Lib.hid hm'
  clear hx hy hn' hm'
  have HI := Lib.hid hi
  have HK := Lib.hid hk
  have HR := Lib.hid hr
  clear hi hk hr
  go_enter Try.func5, Try.ntmps5
  go_wp2_with fail
  refine (shown_any _).mono ?_
  rintro e w1 ⟨rfl, hb1⟩
  have hk0 : Kept w.heap.size w w1 := Kept.start hb1
  clear hb1
  go_wp2_with fail
  refine (few_is HN.out (HX.out.kept hk0.below (Nat.le_refl _))).mono ?_
  rintro e w2 ⟨rfl, rfl⟩
  go_wp2_with fail
  refine (few_is HM.out (HY.out.kept hk0.below (Nat.le_refl _))).mono ?_
  rintro e w2 ⟨rfl, rfl⟩
  go_wp2_with fail
  refine (last_is HI.out (by omega) ((HX.out.kept hk0.below (Nat.le_refl _)).cutIs HN.out)).mono ?_
  rintro e w2 ⟨rfl, hb2⟩
  have hk1 := hk0.step hb2
  clear hb2
  go_wp2_with fail
  refine (last_is HK.out (by omega) ((HY.out.kept hk1.below (Nat.le_refl _)).cutIs HM.out)).mono ?_
  rintro e w3 ⟨rfl, hb3⟩
  have hk2 := hk1.step hb3
  clear hb3 hk0 hk1
  have hx3 := (HX.out.kept hk2.below (Nat.le_refl _)).cutIs HN.out
  have hy3 := (HY.out.kept hk2.below (Nat.le_refl _)).cutIs HM.out
  have HX3 := Lib.hid hx3
  have HY3 := Lib.hid hy3
  have hown0 := own_empty w3 w.heap.size hk2.le
  have HO0 := Lib.hid hown0
  have hrx := (reads_row hx3).alloc (Nat.le_refl _) (.cells #[] 23)
  have hry := (reads_row hy3).alloc (Nat.le_refl _) (.cells #[] 23)
  have HRX := Lib.hid hrx
  have HRY := Lib.hid hry
  have HXL := Lib.hid hx3.len
  have HYL := Lib.hid hy3.len
  have hk3 := hk2.alloc (.cells #[] 23)
  clear hx3 hy3 hown0 hrx hry
  obtain ⟨i0, hi0, hz0, hz1, hz2⟩ := info_parts stamp_info
  go_wp2_with (first
    | (at_builtin
       refine wpList_append_any _ rfl (.tmp 21) (.tmp 22) _ rfl w.heap.size 23 i0 _ 2 16 Try.underlying24 hi0 hz0 hz1 hz2 rfl (by omega) _ 0 (flat []) rfl
         HO0.out w3.heap.size a 0 ca (flat (xs.take 30)) rfl HRX.out (flat_one _) (by simp only [maxLen]; omega) (by omega) hk3.le ?_
       intro v1 w4 hown1 hg1 hat1
       have HO1 := Lib.hid hown1
       have hg1' : (w3.alloc (.cells #[] 23)).grownBy w4 (some w3.heap.size) := hg1
       have hat1' : v1.ownBlock = some w3.heap.size ∨ v1.ownBlock = some (w3.alloc (.cells #[] 23)).heap.size := hat1
       have HG1 := Lib.hid hg1'
       have HAT1 := Lib.hid hat1'
       clear hown1 hg1 hat1 hg1' hat1')
    | (at_builtin
       refine wpList_append_any _ rfl (.tmp 23) (.tmp 24) _ rfl w.heap.size 23 i0 _ 2 16 Try.underlying24 hi0 hz0 hz1 hz2 rfl (by omega) v1 (0 + 0) (flat [] ++ flat (xs.take 30)) rfl
         HO1.out w3.heap.size b 0 cb (flat (ys.take 30)) rfl (HRY.out.grown HG1.out (by simp) (fun g hg => by injection hg with hg; omega)) (flat_one _) (by simp only [maxLen]; omega) (by omega) (Nat.le_trans hk3.le HG1.out.size) ?_
       intro v2 w5 hown2 hg2 hat2))
  have hbw4 : Below w3.heap.size w3 w4 := ((Below.refl _ _).alloc (Nat.le_refl _) _).grown HG1.out (by simp) (fun g hg => by injection hg with hg; omega)
  have hbw5 : Below w3.heap.size w3 w5 := hbw4.grown hg2 hbw4.size (fun g hg => by
    rcases HAT1.out with e | e
    · rw [e] at hg; injection hg with hg; omega
    · rw [e] at hg; injection hg with hg; simp at hg; omega)
  have eF : flat [] ++ flat (xs.take 30) ++ flat (ys.take 30) = flat (xs.take 30 ++ ys.take 30) := by rw [flat_append]; rfl
  rw [eF, Nat.zero_add] at hown2
  obtain ⟨a2, c2, hv2, hr2⟩ := row_of_own hown2 (by have e1 := HXL.out; have e2 := HYL.out; rw [List.length_append]; omega)
  clear hown2 eF hg2 hat2 HAT1 HG1 HO1 HO0 HRX HRY hz0 hz1 hz2 hi0 i0
  rw [hv2]
  clear hv2
  refine (last_is HR.out (by omega) hr2).mono ?_
  rintro e w6 ⟨rfl, hb6⟩
  have hbw6 : Below w3.heap.size w3 w6 := hbw5.trans (hb6.mono hbw5.size)
  have hk6 : Kept w.heap.size w w6 := hk2.step hbw6
  have hx6 := HX3.out.kept hbw6 (Nat.le_refl _)
  have hy6 := HY3.out.kept hbw6 (Nat.le_refl _)
  clear hb6 hbw5 hbw4 hbw6 hk3 hk2 hr2 HX3 HY3
  go_wp2_with fail
  go_loopw [11] (fun j wr => j = .int .i64 0 ∧ wr = w6) (fun _ _ => 0)
  case atStart => exact ⟨rfl, rfl⟩
  case round =>
    obtain ⟨rfl, rfl⟩ := hrel
    go_wp2_with fail
    go_ret
    exact ⟨rfl, hk6.below⟩


set_option maxHeartbeats 4000000 in
theorem lasts_A1 (a b : Option Addr) (n m m' ca cb : Nat) (xs ys : List (Int × Int)) (kn : Nat) (w : World) (hx : Row w a n ca xs) (hy : Row w b m cb ys) (hn' : 0 = min n 30) (hm' : m' = min m 30)
    (hi : lastZ (xs.take 30) = -1) (hk : lastZ (ys.take 30) = kn) (hr : lastZ (xs.take 30 ++ ys.take 30) = kn) (hkn : kn < m') :
    Calls Try.prog 5 #[.slice a n ca, .slice b m cb] w fun e w' => e = .returned (.bool true) ∧ Below w.heap.size w w' := by
  have hm : m' ≤ 30 := by omega
  have HX := Lib.hid hx
  have HY := Lib.hid hy
  have HN := Lib.hid hn'
  have HM := Lib.hid hm'
  clear hx hy hn' hm'
  have HI := Lib.hid hi
  have HK := Lib.hid hk
  have HR := Lib.hid hr
  clear hi hk hr
  have qkn1 := kfact kn
  have qkn2 := mfact (by omega : 0 < m')
  have qkn3 := gefact hkn
  go_enter Try.func5, Try.ntmps5
  go_wp2_with fail
  refine (shown_any _).mono ?_
  rintro e w1 ⟨rfl, hb1⟩
  have hk0 : Kept w.heap.size w w1 := Kept.start hb1
  clear hb1
  go_wp2_with fail
  refine (few_is HN.out (HX.out.kept hk0.below (Nat.le_refl _))).mono ?_
  rintro e w2 ⟨rfl, rfl⟩
  go_wp2_with fail
  refine (few_is HM.out (HY.out.kept hk0.below (Nat.le_refl _))).mono ?_
  rintro e w2 ⟨rfl, rfl⟩
  go_wp2_with fail
  refine (last_is HI.out (by omega) ((HX.out.kept hk0.below (Nat.le_refl _)).cutIs HN.out)).mono ?_
  rintro e w2 ⟨rfl, hb2⟩
  have hk1 := hk0.step hb2
  clear hb2
  go_wp2_with fail
  refine (last_is HK.out (by omega) ((HY.out.kept hk1.below (Nat.le_refl _)).cutIs HM.out)).mono ?_
  rintro e w3 ⟨rfl, hb3⟩
  have hk2 := hk1.step hb3
  clear hb3 hk0 hk1
  have hx3 := (HX.out.kept hk2.below (Nat.le_refl _)).cutIs HN.out
  have hy3 := (HY.out.kept hk2.below (Nat.le_refl _)).cutIs HM.out
  have HX3 := Lib.hid hx3
  have HY3 := Lib.hid hy3
  have hown0 := own_empty w3 w.heap.size hk2.le
  have HO0 := Lib.hid hown0
  have hrx := (reads_row hx3).alloc (Nat.le_refl _) (.cells #[] 23)
  have hry := (reads_row hy3).alloc (Nat.le_refl _) (.cells #[] 23)
  have HRX := Lib.hid hrx
  have HRY := Lib.hid hry
  have HXL := Lib.hid hx3.len
  have HYL := Lib.hid hy3.len
  have hk3 := hk2.alloc (.cells #[] 23)
  clear hx3 hy3 hown0 hrx hry
  obtain ⟨i0, hi0, hz0, hz1, hz2⟩ := info_parts stamp_info
  go_wp2_with (first
    | (at_builtin
       refine wpList_append_any _ rfl (.tmp 21) (.tmp 22) _ rfl w.heap.size 23 i0 _ 2 16 Try.underlying24 hi0 hz0 hz1 hz2 rfl (by omega) _ 0 (flat []) rfl
         HO0.out w3.heap.size a 0 ca (flat (xs.take 30)) rfl HRX.out (flat_one _) (by simp only [maxLen]; omega) (by omega) hk3.le ?_
       intro v1 w4 hown1 hg1 hat1
       have HO1 := Lib.hid hown1
       have hg1' : (w3.alloc (.cells #[] 23)).grownBy w4 (some w3.heap.size) := hg1
       have hat1' : v1.ownBlock = some w3.heap.size ∨ v1.ownBlock = some (w3.alloc (.cells #[] 23)).heap.size := hat1
       have HG1 := Lib.hid hg1'
       have HAT1 := Lib.hid hat1'
       clear hown1 hg1 hat1 hg1' hat1')
    | (at_builtin
       refine wpList_append_any _ rfl (.tmp 23) (.tmp 24) _ rfl w.heap.size 23 i0 _ 2 16 Try.underlying24 hi0 hz0 hz1 hz2 rfl (by omega) v1 (0 + 0) (flat [] ++ flat (xs.take 30)) rfl
         HO1.out w3.heap.size b m' cb (flat (ys.take 30)) rfl (HRY.out.grown HG1.out (by simp) (fun g hg => by injection hg with hg; omega)) (flat_one _) (by simp only [maxLen]; omega) (by omega) (Nat.le_trans hk3.le HG1.out.size) ?_
       intro v2 w5 hown2 hg2 hat2))
  have hbw4 : Below w3.heap.size w3 w4 := ((Below.refl _ _).alloc (Nat.le_refl _) _).grown HG1.out (by simp) (fun g hg => by injection hg with hg; omega)
  have hbw5 : Below w3.heap.size w3 w5 := hbw4.grown hg2 hbw4.size (fun g hg => by
    rcases HAT1.out with e | e
    · rw [e] at hg; injection hg with hg; omega
    · rw [e] at hg; injection hg with hg; simp at hg; omega)
  have eF : flat [] ++ flat (xs.take 30) ++ flat (ys.take 30) = flat (xs.take 30 ++ ys.take 30) := by rw [flat_append]; rfl
  rw [eF, Nat.zero_add] at hown2
  obtain ⟨a2, c2, hv2, hr2⟩ := row_of_own hown2 (by have e1 := HXL.out; have e2 := HYL.out; rw [List.length_append]; omega)
  clear hown2 eF hg2 hat2 HAT1 HG1 HO1 HO0 HRX HRY hz0 hz1 hz2 hi0 i0
  rw [hv2]
  clear hv2
  refine (last_is HR.out (by omega) hr2).mono ?_
  rintro e w6 ⟨rfl, hb6⟩
  have hbw6 : Below w3.heap.size w3 w6 := hbw5.trans (hb6.mono hbw5.size)
  have hk6 : Kept w.heap.size w w6 := hk2.step hbw6
  have hx6 := HX3.out.kept hbw6 (Nat.le_refl _)
  have hy6 := HY3.out.kept hbw6 (Nat.le_refl _)
  clear hb6 hbw5 hbw4 hbw6 hk3 hk2 hr2 HX3 HY3
  go_wp2_with fail
  go_loopw [11] (fun j wr => j = .int .i64 0 ∧ wr = w6) (fun _ _ => 0)
  case atStart => exact ⟨rfl, rfl⟩
  case round =>
    obtain ⟨rfl, rfl⟩ := hrel
    go_wp2_with fail
    go_ret
    exact ⟨rfl, hk6.below⟩


set_option maxHeartbeats 4000000 in
theorem lasts_B0 (a b : Option Addr) (n n' m ca cb : Nat) (xs ys : List (Int × Int)) (iN : Nat) (w : World) (hx : Row w a n ca xs) (hy : Row w b m cb ys) (hn' : n' = min n 30) (hm' : 0 = min m 30)
    (hi : lastZ (xs.take 30) = iN) (hk : lastZ (ys.take 30) = -1) (hr : lastZ (xs.take 30 ++ ys.take 30) = iN) (hiN : iN < n') (ht : ∀ q, q < n' → lessB ((xs.take 30).getD iN (0, 0)) ((xs.take 30).getD q (0, 0)) = false) (he : ∀ q, q < iN → (xs.take 30).getD q (0, 0) ≠ (xs.take 30).getD iN (0, 0)) :
    Calls Try.prog 5 #[.slice a n ca, .slice b m cb] w fun e w' => e = .returned (.bool true) ∧ Below w.heap.size w w' := by
  have hn : n' ≤ 30 := by omega
  have HX := Lib.hid hx
  have HY := Lib.hid hy
  have HN := Lib.hid hn'
  have HM := Lib.hid hm'
  clear hx hy hn' hm'
  have HI := Lib.hid hi
  have HK := Lib.hid hk
  have HR := Lib.hid hr
  clear hi hk hr
  have HT := Lib.hid ht
  have HE := Lib.hid he
  clear ht he
  have qiN1 := kfact iN
  have qiN2 := mfact (by omega : 0 < n')
  have qiN3 := gefact hiN
  go_enter Try.func5, Try.ntmps5
  go_wp2_with fail
  refine (shown_any _).mono ?_
  rintro e w1 ⟨rfl, hb1⟩
  have hk0 : Kept w.heap.size w w1 := Kept.start hb1
  clear hb1
  go_wp2_with fail
  refine (few_is HN.out (HX.out.kept hk0.below (Nat.le_refl _))).mono ?_
  rintro e w2 ⟨rfl, rfl⟩
  go_wp2_with fail
  refine (few_is HM.out (HY.out.kept hk0.below (Nat.le_refl _))).mono ?_
  rintro e w2 ⟨rfl, rfl⟩
  go_wp2_with fail
  refine (last_is HI.out (by omega) ((HX.out.kept hk0.below (Nat.le_refl _)).cutIs HN.out)).mono ?_
  rintro e w2 ⟨rfl, hb2⟩
  have hk1 := hk0.step hb2
  clear hb2
  go_wp2_with fail
  refine (last_is HK.out (by omega) ((HY.out.kept hk1.below (Nat.le_refl _)).cutIs HM.out)).mono ?_
  rintro e w3 ⟨rfl, hb3⟩
  have hk2 := hk1.step hb3
  clear hb3 hk0 hk1
  have hx3 := (HX.out.kept hk2.below (Nat.le_refl _)).cutIs HN.out
  have hy3 := (HY.out.kept hk2.below (Nat.le_refl _)).cutIs HM.out
  have HX3 := Lib.hid hx3
  have HY3 := Lib.hid hy3
  have hown0 := own_empty w3 w.heap.size hk2.le
  have HO0 := Lib.hid hown0
  have hrx := (reads_row hx3).alloc (Nat.le_refl _) (.cells #[] 23)
  have hry := (reads_row hy3).alloc (Nat.le_refl _) (.cells #[] 23)
  have HRX := Lib.hid hrx
  have HRY := Lib.hid hry
  have HXL := Lib.hid hx3.len
  have HYL := Lib.hid hy3.len
  have hk3 := hk2.alloc (.cells #[] 23)
  clear hx3 hy3 hown0 hrx hry
  obtain ⟨i0, hi0, hz0, hz1, hz2⟩ := info_parts stamp_info
  go_wp2_with (first
    | (at_builtin
       refine wpList_append_any _ rfl (.tmp 21) (.tmp 22) _ rfl w.heap.size 23 i0 _ 2 16 Try.underlying24 hi0 hz0 hz1 hz2 rfl (by omega) _ 0 (flat []) rfl
         HO0.out w3.heap.size a n' ca (flat (xs.take 30)) rfl HRX.out (flat_one _) (by simp only [maxLen]; omega) (by omega) hk3.le ?_
       intro v1 w4 hown1 hg1 hat1
       have HO1 := Lib.hid hown1
       have hg1' : (w3.alloc (.cells #[] 23)).grownBy w4 (some w3.heap.size) := hg1
       have hat1' : v1.ownBlock = some w3.heap.size ∨ v1.ownBlock = some (w3.alloc (.cells #[] 23)).heap.size := hat1
       have HG1 := Lib.hid hg1'
       have HAT1 := Lib.hid hat1'
       clear hown1 hg1 hat1 hg1' hat1')
    | (at_builtin
       refine wpList_append_any _ rfl (.tmp 23) (.tmp 24) _ rfl w.heap.size 23 i0 _ 2 16 Try.underlying24 hi0 hz0 hz1 hz2 rfl (by omega) v1 (0 + n') (flat [] ++ flat (xs.take 30)) rfl
         HO1.out w3.heap.size b 0 cb (flat (ys.take 30)) rfl (HRY.out.grown HG1.out (by simp) (fun g hg => by injection hg with hg; omega)) (flat_one _) (by simp only [maxLen]; omega) (by omega) (Nat.le_trans hk3.le HG1.out.size) ?_
       intro v2 w5 hown2 hg2 hat2))
  have hbw4 : Below w3.heap.size w3 w4 := ((Below.refl _ _).alloc (Nat.le_refl _) _).grown HG1.out (by simp) (fun g hg => by injection hg with hg; omega)
  have hbw5 : Below w3.heap.size w3 w5 := hbw4.grown hg2 hbw4.size (fun g hg => by
    rcases HAT1.out with e | e
    · rw [e] at hg; injection hg with hg; omega
    · rw [e] at hg; injection hg with hg; simp at hg; omega)
  have eF : flat [] ++ flat (xs.take 30) ++ flat (ys.take 30) = flat (xs.take 30 ++ ys.take 30) := by rw [flat_append]; rfl
  rw [eF, Nat.zero_add] at hown2
  obtain ⟨a2, c2, hv2, hr2⟩ := row_of_own hown2 (by have e1 := HXL.out; have e2 := HYL.out; rw [List.length_append]; omega)
  clear hown2 eF hg2 hat2 HAT1 HG1 HO1 HO0 HRX HRY hz0 hz1 hz2 hi0 i0
  rw [hv2]
  clear hv2
  refine (last_is HR.out (by omega) hr2).mono ?_
  rintro e w6 ⟨rfl, hb6⟩
  have hbw6 : Below w3.heap.size w3 w6 := hbw5.trans (hb6.mono hbw5.size)
  have hk6 : Kept w.heap.size w w6 := hk2.step hbw6
  have hx6 := HX3.out.kept hbw6 (Nat.le_refl _)
  have hy6 := HY3.out.kept hbw6 (Nat.le_refl _)
  clear hb6 hbw5 hbw4 hbw6 hk3 hk2 hr2 HX3 HY3
  obtain ⟨ba, oa, rfl, hba, hca⟩ := hx6.pos (by omega)
  have HCA := Lib.hid hca
  clear hca
  go_wp2_with fail
  go_loopw [11] (fun j wr => ∃ q : Nat, q ≤ n' ∧ j = .int .i64 q ∧ Kept w6.heap.size w6 wr) (fun j _ => n' - (intOf j).toNat)
  case atStart => exact ⟨0, Nat.zero_le _, rfl, ⟨Below.refl _ _, Nat.le_refl _⟩⟩
  case round =>
    obtain ⟨q, hq, rfl, hkr⟩ := hrel
    by_cases hlt : q < n'
    · obtain ⟨c0, c1⟩ := HCA.out iN hiN
      obtain ⟨d0, d1⟩ := HCA.out q hlt
      rw [← hkr.below.cell (p := ⟨ba, _, none⟩) hba] at c0 c1 d0 d1
      have hL := HT.out q hlt
      have hne : q < iN → (xs.take 30).getD q (0, 0) ≠ (xs.take 30).getD iN (0, 0) := HE.out q
      generalize (xs.take 30).getD iN (0, 0) = xi at c0 c1 hL hne
      generalize (xs.take 30).getD q (0, 0) = xq at d0 d1 hL hne
      obtain ⟨ia, ib⟩ := xi
      obtain ⟨qa, qb⟩ := xq
      simp only [] at c0 c1 d0 d1
      have hL' := fun w => less_is hL w
      have HL := Lib.hid hL'
      have hbr : ba < wr.heap.size := Nat.lt_of_lt_of_le hba hkr.below.size
      have hK : Kept wr.heap.size wr wr := ⟨Below.refl _ _, Nat.le_refl _⟩
      clear hL hL'
      rcases Nat.lt_or_ge q iN with hqi | hqi
      · have hne' := hne hqi
        clear hne
        by_cases h1 : qa = ia
        · subst h1
          have h2 : (qb == ib) = false := by simpa using hne'
          clear hne'
          go_wp2_with fail
          go_region_held3 (fun w' => (∀ b o, b < wr.heap.size → w'.cell? ⟨b, o, none⟩ = wr.cell? ⟨b, o, none⟩) ∧ Kept wr.heap.size wr w') (first | exact hK.drew.two | assumption | exact Kept.stepTwo (by assumption) hb) ((go_at_call 9; refine (HL.out _).mono ?_; rintro e w7 ⟨rfl, hb⟩))
          rename_i hh
          have hkr2 := hkr.trans hh.2 hkr.below.size
          clear hh
          go_wp2_with fail
          go_roundw
          case rel => exact ⟨q + 1, by omega, by go_num, hkr2⟩
          case measure => simp [intOf]; omega
        · have h2 : (qa == ia) = false := by simpa using h1
          clear hne' h1
          go_wp2_with fail
          go_region_held3 (fun w' => (∀ b o, b < wr.heap.size → w'.cell? ⟨b, o, none⟩ = wr.cell? ⟨b, o, none⟩) ∧ Kept wr.heap.size wr w') (first | exact hK.drew.two | assumption | exact Kept.stepTwo (by assumption) hb) ((go_at_call 9; refine (HL.out _).mono ?_; rintro e w7 ⟨rfl, hb⟩))
          rename_i hh
          have hkr2 := hkr.trans hh.2 hkr.below.size
          clear hh
          go_wp2_with fail
          go_roundw
          case rel => exact ⟨q + 1, by omega, by go_num, hkr2⟩
          case measure => simp [intOf]; omega
      · have h2 : decide (q < iN) = false := by simpa using hqi
        clear hne
        go_wp2_with fail
        refine wp_region_noPanic (wp_region_sched (fun w' => (∀ b o, b < wr.heap.size → w'.cell? ⟨b, o, none⟩ = wr.cell? ⟨b, o, none⟩) ∧ Kept wr.heap.size wr w') [(0, true), (1, true), (2, true), (3, true), (4, true), (5, true), (6, true), (7, true), (8, false), (9, true), (10, true), (11, true), (12, true), (13, true), (14, true), (15, true), (16, true), (17, true), (18, true), (19, true), (20, true), (21, true), (22, true), (23, true), (24, true)] (by kernel_rfl) (by kernel_rfl) (fun _ _ _ _ _ h => h) (hK.drew.two) (fun hHeld => ?_))
        repeat (first | (refine sched_skip rfl (by rfl) ?_; simp only [Act.put, List.setIfInBounds_toArray, List.set_cons_zero, List.set_cons_succ]) | (refine sched_pure (v := ?_) rfl (by rfl) ?_ ?_; rotate_left 1; (intro w' hS'; (try dsimp only at hS'); go_simp; (try with_reducible rfl)); simp only [Act.put, List.setIfInBounds_toArray, List.set_cons_zero, List.set_cons_succ]) | (refine sched_eff rfl (by rfl) (fun K hK => ?_); go_simp; go_at_call 9; refine (HL.out _).mono ?_; rintro e w7 ⟨rfl, hb⟩; refine hK.out _ _ (Kept.stepTwo (by assumption) hb) (fun hHeld => ?_); clear hK K; try simp only [Act.put, List.setIfInBounds_toArray, List.set_cons_zero, List.set_cons_succ]) | fail)
        refine sched_end (NoPanic.normal ?_)
        have hkr2 := hkr.trans hHeld.2 hkr.below.size
        clear hHeld
        go_wp2_with fail
        go_roundw
        case rel => exact ⟨q + 1, by omega, by go_num, hkr2⟩
        case measure => simp [intOf]; omega
    · have hk7 := hk6.trans hkr hk6.le
      have hK : Kept wr.heap.size wr wr := ⟨Below.refl _ _, Nat.le_refl _⟩
      clear hkr
      go_wp2_with fail
      refine wp_region_noPanic (wp_region_sched (fun w' => (∀ b o, b < wr.heap.size → w'.cell? ⟨b, o, none⟩ = wr.cell? ⟨b, o, none⟩) ∧ Kept wr.heap.size wr w') [(0, true), (1, true), (2, true), (3, true), (4, true), (5, true), (6, true), (7, true), (8, true), (9, true), (10, true), (11, false), (12, true)] (by kernel_rfl) (by kernel_rfl) (fun _ _ _ _ _ h => h) (hK.drew.two) (fun hHeld => ?_))
      repeat (first | (refine sched_skip rfl (by rfl) ?_; simp only [Act.put, List.setIfInBounds_toArray, List.set_cons_zero, List.set_cons_succ]) | (refine sched_pure (v := ?_) rfl (by rfl) ?_ ?_; rotate_left 1; (intro w' hS'; (try dsimp only at hS'); go_simp; (try with_reducible rfl)); simp only [Act.put, List.setIfInBounds_toArray, List.set_cons_zero, List.set_cons_succ]) | fail)
      refine sched_end (NoPanic.normal ?_)
      have hk8 := hk7.trans hHeld.2 hk7.le
      clear hHeld
      go_wp2_with fail
      go_ret
      exact ⟨rfl, hk8.below⟩


set_option maxHeartbeats 4000000 in
theorem lasts_C (a b : Option Addr) (n n' m m' ca cb : Nat) (xs ys : List (Int × Int)) (iN kN : Nat) (w : World) (hx : Row w a n ca xs) (hy : Row w b m cb ys) (hn' : n' = min n 30) (hm' : m' = min m 30)
    (hi : lastZ (xs.take 30) = iN) (hk : lastZ (ys.take 30) = kN) (hr : lastZ (xs.take 30 ++ ys.take 30) = ((n' + kN : Nat) : Int)) (hiN : iN < n') (ht : ∀ q, q < n' → lessB ((xs.take 30).getD iN (0, 0)) ((xs.take 30).getD q (0, 0)) = false) (he : ∀ q, q < iN → (xs.take 30).getD q (0, 0) ≠ (xs.take 30).getD iN (0, 0)) (hkN : kN < m') (hlt : lessB ((xs.take 30).getD iN (0, 0)) ((ys.take 30).getD kN (0, 0)) = true) :
    Calls Try.prog 5 #[.slice a n ca, .slice b m cb] w fun e w' => e = .returned (.bool true) ∧ Below w.heap.size w w' := by
  have hn : n' ≤ 30 := by omega
  have hm : m' ≤ 30 := by omega
  have HX := Lib.hid hx
  have HY := Lib.hid hy
  have HN := Lib.hid hn'
  have HM := Lib.hid hm'
  clear hx hy hn' hm'
  have HI := Lib.hid hi
  have HK := Lib.hid hk
  have HR := Lib.hid hr
  clear hi hk hr
  have HT := Lib.hid ht
  have HE := Lib.hid he
  clear ht he
  have qiN1 := kfact iN
  have qiN2 := mfact (by omega : 0 < n')
  have qiN3 := gefact hiN
  have HLT := Lib.hid hlt
  clear hlt
  have qkN1 := kfact kN
  have qkN2 := mfact (by omega : 0 < m')
  have qkN3 := gefact hkN
  go_enter Try.func5, Try.ntmps5
  go_wp2_with fail
  refine (shown_any _).mono ?_
  rintro e w1 ⟨rfl, hb1⟩
  have hk0 : Kept w.heap.size w w1 := Kept.start hb1
  clear hb1
  go_wp2_with fail
  refine (few_is HN.out (HX.out.kept hk0.below (Nat.le_refl _))).mono ?_
  rintro e w2 ⟨rfl, rfl⟩
  go_wp2_with fail
  refine (few_is HM.out (HY.out.kept hk0.below (Nat.le_refl _))).mono ?_
  rintro e w2 ⟨rfl, rfl⟩
  go_wp2_with fail
  refine (last_is HI.out (by omega) ((HX.out.kept hk0.below (Nat.le_refl _)).cutIs HN.out)).mono ?_
  rintro e w2 ⟨rfl, hb2⟩
  have hk1 := hk0.step hb2
  clear hb2
  go_wp2_with fail
  refine (last_is HK.out (by omega) ((HY.out.kept hk1.below (Nat.le_refl _)).cutIs HM.out)).mono ?_
  rintro e w3 ⟨rfl, hb3⟩
  have hk2 := hk1.step hb3
  clear hb3 hk0 hk1
  have hx3 := (HX.out.kept hk2.below (Nat.le_refl _)).cutIs HN.out
  have hy3 := (HY.out.kept hk2.below (Nat.le_refl _)).cutIs HM.out
  have HX3 := Lib.hid hx3
  have HY3 := Lib.hid hy3
  have hown0 := own_empty w3 w.heap.size hk2.le
  have HO0 := Lib.hid hown0
  have hrx := (reads_row hx3).alloc (Nat.le_refl _) (.cells #[] 23)
  have hry := (reads_row hy3).alloc (Nat.le_refl _) (.cells #[] 23)
  have HRX := Lib.hid hrx
  have HRY := Lib.hid hry
  have HXL := Lib.hid hx3.len
  have HYL := Lib.hid hy3.len
  have hk3 := hk2.alloc (.cells #[] 23)
  clear hx3 hy3 hown0 hrx hry
  obtain ⟨i0, hi0, hz0, hz1, hz2⟩ := info_parts stamp_info
  go_wp2_with (first
    | (at_builtin
       refine wpList_append_any _ rfl (.tmp 21) (.tmp 22) _ rfl w.heap.size 23 i0 _ 2 16 Try.underlying24 hi0 hz0 hz1 hz2 rfl (by omega) _ 0 (flat []) rfl
         HO0.out w3.heap.size a n' ca (flat (xs.take 30)) rfl HRX.out (flat_one _) (by simp only [maxLen]; omega) (by omega) hk3.le ?_
       intro v1 w4 hown1 hg1 hat1
       have HO1 := Lib.hid hown1
       have hg1' : (w3.alloc (.cells #[] 23)).grownBy w4 (some w3.heap.size) := hg1
       have hat1' : v1.ownBlock = some w3.heap.size ∨ v1.ownBlock = some (w3.alloc (.cells #[] 23)).heap.size := hat1
       have HG1 := Lib.hid hg1'
       have HAT1 := Lib.hid hat1'
       clear hown1 hg1 hat1 hg1' hat1')
    | (at_builtin
       refine wpList_append_any _ rfl (.tmp 23) (.tmp 24) _ rfl w.heap.size 23 i0 _ 2 16 Try.underlying24 hi0 hz0 hz1 hz2 rfl (by omega) v1 (0 + n') (flat [] ++ flat (xs.take 30)) rfl
         HO1.out w3.heap.size b m' cb (flat (ys.take 30)) rfl (HRY.out.grown HG1.out (by simp) (fun g hg => by injection hg with hg; omega)) (flat_one _) (by simp only [maxLen]; omega) (by omega) (Nat.le_trans hk3.le HG1.out.size) ?_
       intro v2 w5 hown2 hg2 hat2))
  have hbw4 : Below w3.heap.size w3 w4 := ((Below.refl _ _).alloc (Nat.le_refl _) _).grown HG1.out (by simp) (fun g hg => by injection hg with hg; omega)
  have hbw5 : Below w3.heap.size w3 w5 := hbw4.grown hg2 hbw4.size (fun g hg => by
    rcases HAT1.out with e | e
    · rw [e] at hg; injection hg with hg; omega
    · rw [e] at hg; injection hg with hg; simp at hg; omega)
  have eF : flat [] ++ flat (xs.take 30) ++ flat (ys.take 30) = flat (xs.take 30 ++ ys.take 30) := by rw [flat_append]; rfl
  rw [eF, Nat.zero_add] at hown2
  obtain ⟨a2, c2, hv2, hr2⟩ := row_of_own hown2 (by have e1 := HXL.out; have e2 := HYL.out; rw [List.length_append]; omega)
  clear hown2 eF hg2 hat2 HAT1 HG1 HO1 HO0 HRX HRY hz0 hz1 hz2 hi0 i0
  rw [hv2]
  clear hv2
  refine (last_is HR.out (by omega) hr2).mono ?_
  rintro e w6 ⟨rfl, hb6⟩
  have hbw6 : Below w3.heap.size w3 w6 := hbw5.trans (hb6.mono hbw5.size)
  have hk6 : Kept w.heap.size w w6 := hk2.step hbw6
  have hx6 := HX3.out.kept hbw6 (Nat.le_refl _)
  have hy6 := HY3.out.kept hbw6 (Nat.le_refl _)
  clear hb6 hbw5 hbw4 hbw6 hk3 hk2 hr2 HX3 HY3
  obtain ⟨ba, oa, rfl, hba, hca⟩ := hx6.pos (by omega)
  have HCA := Lib.hid hca
  clear hca
  go_wp2_with fail
  go_loopw [11] (fun j wr => ∃ q : Nat, q ≤ n' ∧ j = .int .i64 q ∧ Kept w6.heap.size w6 wr) (fun j _ => n' - (intOf j).toNat)
  case atStart => exact ⟨0, Nat.zero_le _, rfl, ⟨Below.refl _ _, Nat.le_refl _⟩⟩
  case round =>
    obtain ⟨q, hq, rfl, hkr⟩ := hrel
    by_cases hlt : q < n'
    · obtain ⟨c0, c1⟩ := HCA.out iN hiN
      obtain ⟨d0, d1⟩ := HCA.out q hlt
      rw [← hkr.below.cell (p := ⟨ba, _, none⟩) hba] at c0 c1 d0 d1
      have hL := HT.out q hlt
      have hne : q < iN → (xs.take 30).getD q (0, 0) ≠ (xs.take 30).getD iN (0, 0) := HE.out q
      generalize (xs.take 30).getD iN (0, 0) = xi at c0 c1 hL hne
      generalize (xs.take 30).getD q (0, 0) = xq at d0 d1 hL hne
      obtain ⟨ia, ib⟩ := xi
      obtain ⟨qa, qb⟩ := xq
      simp only [] at c0 c1 d0 d1
      have hL' := fun w => less_is hL w
      have HL := Lib.hid hL'
      have hbr : ba < wr.heap.size := Nat.lt_of_lt_of_le hba hkr.below.size
      have hK : Kept wr.heap.size wr wr := ⟨Below.refl _ _, Nat.le_refl _⟩
      clear hL hL'
      rcases Nat.lt_or_ge q iN with hqi | hqi
      · have hne' := hne hqi
        clear hne
        by_cases h1 : qa = ia
        · subst h1
          have h2 : (qb == ib) = false := by simpa using hne'
          clear hne'
          go_wp2_with fail
          go_region_held3 (fun w' => (∀ b o, b < wr.heap.size → w'.cell? ⟨b, o, none⟩ = wr.cell? ⟨b, o, none⟩) ∧ Kept wr.heap.size wr w') (first | exact hK.drew.two | assumption | exact Kept.stepTwo (by assumption) hb) ((go_at_call 9; refine (HL.out _).mono ?_; rintro e w7 ⟨rfl, hb⟩))
          rename_i hh
          have hkr2 := hkr.trans hh.2 hkr.below.size
          clear hh
          go_wp2_with fail
          go_roundw
          case rel => exact ⟨q + 1, by omega, by go_num, hkr2⟩
          case measure => simp [intOf]; omega
        · have h2 : (qa == ia) = false := by simpa using h1
          clear hne' h1
          go_wp2_with fail
          go_region_held3 (fun w' => (∀ b o, b < wr.heap.size → w'.cell? ⟨b, o, none⟩ = wr.cell? ⟨b, o, none⟩) ∧ Kept wr.heap.size wr w') (first | exact hK.drew.two | assumption | exact Kept.stepTwo (by assumption) hb) ((go_at_call 9; refine (HL.out _).mono ?_; rintro e w7 ⟨rfl, hb⟩))
          rename_i hh
          have hkr2 := hkr.trans hh.2 hkr.below.size
          clear hh
          go_wp2_with fail
          go_roundw
          case rel => exact ⟨q + 1, by omega, by go_num, hkr2⟩
          case measure => simp [intOf]; omega
      · have h2 : decide (q < iN) = false := by simpa using hqi
        clear hne
        go_wp2_with fail
        refine wp_region_noPanic (wp_region_sched (fun w' => (∀ b o, b < wr.heap.size → w'.cell? ⟨b, o, none⟩ = wr.cell? ⟨b, o, none⟩) ∧ Kept wr.heap.size wr w') [(0, true), (1, true), (2, true), (3, true), (4, true), (5, true), (6, true), (7, true), (8, false), (9, true), (10, true), (11, true), (12, true), (13, true), (14, true), (15, true), (16, true), (17, true), (18, true), (19, true), (20, true), (21, true), (22, true), (23, true), (24, true)] (by kernel_rfl) (by kernel_rfl) (fun _ _ _ _ _ h => h) (hK.drew.two) (fun hHeld => ?_))
        repeat (first | (refine sched_skip rfl (by rfl) ?_; simp only [Act.put, List.setIfInBounds_toArray, List.set_cons_zero, List.set_cons_succ]) | (refine sched_pure (v := ?_) rfl (by rfl) ?_ ?_; rotate_left 1; (intro w' hS'; (try dsimp only at hS'); go_simp; (try with_reducible rfl)); simp only [Act.put, List.setIfInBounds_toArray, List.set_cons_zero, List.set_cons_succ]) | (refine sched_eff rfl (by rfl) (fun K hK => ?_); go_simp; go_at_call 9; refine (HL.out _).mono ?_; rintro e w7 ⟨rfl, hb⟩; refine hK.out _ _ (Kept.stepTwo (by assumption) hb) (fun hHeld => ?_); clear hK K; try simp only [Act.put, List.setIfInBounds_toArray, List.set_cons_zero, List.set_cons_succ]) | fail)
        refine sched_end (NoPanic.normal ?_)
        have hkr2 := hkr.trans hHeld.2 hkr.below.size
        clear hHeld
        go_wp2_with fail
        go_roundw
        case rel => exact ⟨q + 1, by omega, by go_num, hkr2⟩
        case measure => simp [intOf]; omega
    · have hk7 := hk6.trans hkr hk6.le
      have hK : Kept wr.heap.size wr wr := ⟨Below.refl _ _, Nat.le_refl _⟩
      obtain ⟨bb, ob, rfl, hbb, hcb⟩ := hy6.pos (by omega)
      obtain ⟨c0, c1⟩ := HCA.out iN hiN
      obtain ⟨d0, d1⟩ := hcb kN hkN
      rw [← hkr.below.cell (p := ⟨ba, _, none⟩) hba] at c0 c1
      rw [← hkr.below.cell (p := ⟨bb, _, none⟩) hbb] at d0 d1
      have hL := HLT.out
      generalize (xs.take 30).getD iN (0, 0) = xi at c0 c1 hL
      generalize (ys.take 30).getD kN (0, 0) = yk at d0 d1 hL
      obtain ⟨ia, ib⟩ := xi
      obtain ⟨ka, kb⟩ := yk
      simp only [] at c0 c1 d0 d1
      have hL' := fun w => less_is hL w
      have HL := Lib.hid hL'
      have hbr : ba < wr.heap.size := Nat.lt_of_lt_of_le hba hkr.below.size
      have hbr2 : bb < wr.heap.size := Nat.lt_of_lt_of_le hbb hkr.below.size
      clear hL hL' hkr hcb
      go_wp2_with fail
      go_region_held3 (fun w' => (∀ b o, b < wr.heap.size → w'.cell? ⟨b, o, none⟩ = wr.cell? ⟨b, o, none⟩) ∧ Kept wr.heap.size wr w') (first | exact hK.drew.two | assumption | exact Kept.stepTwo (by assumption) hb) ((go_at_call 9; refine (HL.out _).mono ?_; rintro e w7 ⟨rfl, hb⟩))
      rename_i hh
      have hk8 := hk7.trans hh.2 hk7.le
      clear hh
      go_wp2_with fail
      go_ret
      exact ⟨rfl, hk8.below⟩


set_option maxHeartbeats 4000000 in
theorem lasts_D (a b : Option Addr) (n n' m m' ca cb : Nat) (xs ys : List (Int × Int)) (iN kN : Nat) (w : World) (hx : Row w a n ca xs) (hy : Row w b m cb ys) (hn' : n' = min n 30) (hm' : m' = min m 30)
    (hi : lastZ (xs.take 30) = iN) (hk : lastZ (ys.take 30) = kN) (hr : lastZ (xs.take 30 ++ ys.take 30) = iN) (hiN : iN < n') (ht : ∀ q, q < n' → lessB ((xs.take 30).getD iN (0, 0)) ((xs.take 30).getD q (0, 0)) = false) (he : ∀ q, q < iN → (xs.take 30).getD q (0, 0) ≠ (xs.take 30).getD iN (0, 0)) (hkN : kN < m') (hlt : lessB ((xs.take 30).getD iN (0, 0)) ((ys.take 30).getD kN (0, 0)) = false) :
    Calls Try.prog 5 #[.slice a n ca, .slice b m cb] w fun e w' => e = .returned (.bool true) ∧ Below w.heap.size w w' := by
  have hn : n' ≤ 30 := by omega
  have hm : m' ≤ 30 := by omega
  have HX := Lib.hid hx
  have HY := Lib.hid hy
  have HN := Lib.hid hn'
  have HM := Lib.hid hm'
  clear hx hy hn' hm'
  have HI := Lib.hid hi
  have HK := Lib.hid hk
  have HR := Lib.hid hr
  clear hi hk hr
  have HT := Lib.hid ht
  have HE := Lib.hid he
  clear ht he
  have qiN1 := kfact iN
  have qiN2 := mfact (by omega : 0 < n')
  have qiN3 := gefact hiN
  have HLT := Lib.hid hlt
  clear hlt
  have qkN1 := kfact kN
  have qkN2 := mfact (by omega : 0 < m')
  have qkN3 := gefact hkN
  go_enter Try.func5, Try.ntmps5
  go_wp2_with fail
  refine (shown_any _).mono ?_
  rintro e w1 ⟨rfl, hb1⟩
  have hk0 : Kept w.heap.size w w1 := Kept.start hb1
  clear hb1
  go_wp2_with fail
  refine (few_is HN.out (HX.out.kept hk0.below (Nat.le_refl _))).mono ?_
  rintro e w2 ⟨rfl, rfl⟩
  go_wp2_with fail
  refine (few_is HM.out (HY.out.kept hk0.below (Nat.le_refl _))).mono ?_
  rintro e w2 ⟨rfl, rfl⟩
  go_wp2_with fail
  refine (last_is HI.out (by omega) ((HX.out.kept hk0.below (Nat.le_refl _)).cutIs HN.out)).mono ?_
  rintro e w2 ⟨rfl, hb2⟩
  have hk1 := hk0.step hb2
  clear hb2
  go_wp2_with fail
  refine (last_is HK.out (by omega) ((HY.out.kept hk1.below (Nat.le_refl _)).cutIs HM.out)).mono ?_
  rintro e w3 ⟨rfl, hb3⟩
  have hk2 := hk1.step hb3
  clear hb3 hk0 hk1
  have hx3 := (HX.out.kept hk2.below (Nat.le_refl _)).cutIs HN.out
  have hy3 := (HY.out.kept hk2.below (Nat.le_refl _)).cutIs HM.out
  have HX3 := Lib.hid hx3
  have HY3 := Lib.hid hy3
  have hown0 := own_empty w3 w.heap.size hk2.le
  have HO0 := Lib.hid hown0
  have hrx := (reads_row hx3).alloc (Nat.le_refl _) (.cells #[] 23)
  have hry := (reads_row hy3).alloc (Nat.le_refl _) (.cells #[] 23)
  have HRX := Lib.hid hrx
  have HRY := Lib.hid hry
  have HXL := Lib.hid hx3.len
  have HYL := Lib.hid hy3.len
  have hk3 := hk2.alloc (.cells #[] 23)
  clear hx3 hy3 hown0 hrx hry
  obtain ⟨i0, hi0, hz0, hz1, hz2⟩ := info_parts stamp_info
  go_wp2_with (first
    | (at_builtin
       refine wpList_append_any _ rfl (.tmp 21) (.tmp 22) _ rfl w.heap.size 23 i0 _ 2 16 Try.underlying24 hi0 hz0 hz1 hz2 rfl (by omega) _ 0 (flat []) rfl
         HO0.out w3.heap.size a n' ca (flat (xs.take 30)) rfl HRX.out (flat_one _) (by simp only [maxLen]; omega) (by omega) hk3.le ?_
       intro v1 w4 hown1 hg1 hat1
       have HO1 := Lib.hid hown1
       have hg1' : (w3.alloc (.cells #[] 23)).grownBy w4 (some w3.heap.size) := hg1
       have hat1' : v1.ownBlock = some w3.heap.size ∨ v1.ownBlock = some (w3.alloc (.cells #[] 23)).heap.size := hat1
       have HG1 := Lib.hid hg1'
       have HAT1 := Lib.hid hat1'
       clear hown1 hg1 hat1 hg1' hat1')
    | (at_builtin
       refine wpList_append_any _ rfl (.tmp 23) (.tmp 24) _ rfl w.heap.size 23 i0 _ 2 16 Try.underlying24 hi0 hz0 hz1 hz2 rfl (by omega) v1 (0 + n') (flat [] ++ flat (xs.take 30)) rfl
         HO1.out w3.heap.size b m' cb (flat (ys.take 30)) rfl (HRY.out.grown HG1.out (by simp) (fun g hg => by injection hg with hg; omega)) (flat_one _) (by simp only [maxLen]; omega) (by omega) (Nat.le_trans hk3.le HG1.out.size) ?_
       intro v2 w5 hown2 hg2 hat2))
  have hbw4 : Below w3.heap.size w3 w4 := ((Below.refl _ _).alloc (Nat.le_refl _) _).grown HG1.out (by simp) (fun g hg => by injection hg with hg; omega)
  have hbw5 : Below w3.heap.size w3 w5 := hbw4.grown hg2 hbw4.size (fun g hg => by
    rcases HAT1.out with e | e
    · rw [e] at hg; injection hg with hg; omega
    · rw [e] at hg; injection hg with hg; simp at hg; omega)
  have eF : flat [] ++ flat (xs.take 30) ++ flat (ys.take 30) = flat (xs.take 30 ++ ys.take 30) := by rw [flat_append]; rfl
  rw [eF, Nat.zero_add] at hown2
  obtain ⟨a2, c2, hv2, hr2⟩ := row_of_own hown2 (by have e1 := HXL.out; have e2 := HYL.out; rw [List.length_append]; omega)
  clear hown2 eF hg2 hat2 HAT1 HG1 HO1 HO0 HRX HRY hz0 hz1 hz2 hi0 i0
  rw [hv2]
  clear hv2
  refine (last_is HR.out (by omega) hr2).mono ?_
  rintro e w6 ⟨rfl, hb6⟩
  have hbw6 : Below w3.heap.size w3 w6 := hbw5.trans (hb6.mono hbw5.size)
  have hk6 : Kept w.heap.size w w6 := hk2.step hbw6
  have hx6 := HX3.out.kept hbw6 (Nat.le_refl _)
  have hy6 := HY3.out.kept hbw6 (Nat.le_refl _)
  clear hb6 hbw5 hbw4 hbw6 hk3 hk2 hr2 HX3 HY3
  obtain ⟨ba, oa, rfl, hba, hca⟩ := hx6.pos (by omega)
  have HCA := Lib.hid hca
  clear hca
  go_wp2_with fail
  go_loopw [11] (fun j wr => ∃ q : Nat, q ≤ n' ∧ j = .int .i64 q ∧ Kept w6.heap.size w6 wr) (fun j _ => n' - (intOf j).toNat)
  case atStart => exact ⟨0, Nat.zero_le _, rfl, ⟨Below.refl _ _, Nat.le_refl _⟩⟩
  case round =>
    obtain ⟨q, hq, rfl, hkr⟩ := hrel
    by_cases hlt : q < n'
    · obtain ⟨c0, c1⟩ := HCA.out iN hiN
      obtain ⟨d0, d1⟩ := HCA.out q hlt
      rw [← hkr.below.cell (p := ⟨ba, _, none⟩) hba] at c0 c1 d0 d1
      have hL := HT.out q hlt
      have hne : q < iN → (xs.take 30).getD q (0, 0) ≠ (xs.take 30).getD iN (0, 0) := HE.out q
      generalize (xs.take 30).getD iN (0, 0) = xi at c0 c1 hL hne
      generalize (xs.take 30).getD q (0, 0) = xq at d0 d1 hL hne
      obtain ⟨ia, ib⟩ := xi
      obtain ⟨qa, qb⟩ := xq
      simp only [] at c0 c1 d0 d1
      have hL' := fun w => less_is hL w
      have HL := Lib.hid hL'
      have hbr : ba < wr.heap.size := Nat.lt_of_lt_of_le hba hkr.below.size
      have hK : Kept wr.heap.size wr wr := ⟨Below.refl _ _, Nat.le_refl _⟩
      clear hL hL'
      rcases Nat.lt_or_ge q iN with hqi | hqi
      · have hne' := hne hqi
        clear hne
        by_cases h1 : qa = ia
        · subst h1
          have h2 : (qb == ib) = false := by simpa using hne'
          clear hne'
          go_wp2_with fail
          go_region_held3 (fun w' => (∀ b o, b < wr.heap.size → w'.cell? ⟨b, o, none⟩ = wr.cell? ⟨b, o, none⟩) ∧ Kept wr.heap.size wr w') (first | exact hK.drew.two | assumption | exact Kept.stepTwo (by assumption) hb) ((go_at_call 9; refine (HL.out _).mono ?_; rintro e w7 ⟨rfl, hb⟩))
          rename_i hh
          have hkr2 := hkr.trans hh.2 hkr.below.size
          clear hh
          go_wp2_with fail
          go_roundw
          case rel => exact ⟨q + 1, by omega, by go_num, hkr2⟩
          case measure => simp [intOf]; omega
        · have h2 : (qa == ia) = false := by simpa using h1
          clear hne' h1
          go_wp2_with fail
          go_region_held3 (fun w' => (∀ b o, b < wr.heap.size → w'.cell? ⟨b, o, none⟩ = wr.cell? ⟨b, o, none⟩) ∧ Kept wr.heap.size wr w') (first | exact hK.drew.two | assumption | exact Kept.stepTwo (by assumption) hb) ((go_at_call 9; refine (HL.out _).mono ?_; rintro e w7 ⟨rfl, hb⟩))
          rename_i hh
          have hkr2 := hkr.trans hh.2 hkr.below.size
          clear hh
          go_wp2_with fail
          go_roundw
          case rel => exact ⟨q + 1, by omega, by go_num, hkr2⟩
          case measure => simp [intOf]; omega
      · have h2 : decide (q < iN) = false := by simpa using hqi
        clear hne
        go_wp2_with fail
        refine wp_region_noPanic (wp_region_sched (fun w' => (∀ b o, b < wr.heap.size → w'.cell? ⟨b, o, none⟩ = wr.cell? ⟨b, o, none⟩) ∧ Kept wr.heap.size wr w') [(0, true), (1, true), (2, true), (3, true), (4, true), (5, true), (6, true), (7, true), (8, false), (9, true), (10, true), (11, true), (12, true), (13, true), (14, true), (15, true), (16, true), (17, true), (18, true), (19, true), (20, true), (21, true), (22, true), (23, true), (24, true)] (by kernel_rfl) (by kernel_rfl) (fun _ _ _ _ _ h => h) (hK.drew.two) (fun hHeld => ?_))
        repeat (first | (refine sched_skip rfl (by rfl) ?_; simp only [Act.put, List.setIfInBounds_toArray, List.set_cons_zero, List.set_cons_succ]) | (refine sched_pure (v := ?_) rfl (by rfl) ?_ ?_; rotate_left 1; (intro w' hS'; (try dsimp only at hS'); go_simp; (try with_reducible rfl)); simp only [Act.put, List.setIfInBounds_toArray, List.set_cons_zero, List.set_cons_succ]) | (refine sched_eff rfl (by rfl) (fun K hK => ?_); go_simp; go_at_call 9; refine (HL.out _).mono ?_; rintro e w7 ⟨rfl, hb⟩; refine hK.out _ _ (Kept.stepTwo (by assumption) hb) (fun hHeld => ?_); clear hK K; try simp only [Act.put, List.setIfInBounds_toArray, List.set_cons_zero, List.set_cons_succ]) | fail)
        refine sched_end (NoPanic.normal ?_)
        have hkr2 := hkr.trans hHeld.2 hkr.below.size
        clear hHeld
        go_wp2_with fail
        go_roundw
        case rel => exact ⟨q + 1, by omega, by go_num, hkr2⟩
        case measure => simp [intOf]; omega
    · have hk7 := hk6.trans hkr hk6.le
      have hK : Kept wr.heap.size wr wr := ⟨Below.refl _ _, Nat.le_refl _⟩
      obtain ⟨bb, ob, rfl, hbb, hcb⟩ := hy6.pos (by omega)
      obtain ⟨c0, c1⟩ := HCA.out iN hiN
      obtain ⟨d0, d1⟩ := hcb kN hkN
      rw [← hkr.below.cell (p := ⟨ba, _, none⟩) hba] at c0 c1
      rw [← hkr.below.cell (p := ⟨bb, _, none⟩) hbb] at d0 d1
      have hL := HLT.out
      generalize (xs.take 30).getD iN (0, 0) = xi at c0 c1 hL
      generalize (ys.take 30).getD kN (0, 0) = yk at d0 d1 hL
      obtain ⟨ia, ib⟩ := xi
      obtain ⟨ka, kb⟩ := yk
      simp only [] at c0 c1 d0 d1
      have hL' := fun w => less_is hL w
      have HL := Lib.hid hL'
      have hbr : ba < wr.heap.size := Nat.lt_of_lt_of_le hba hkr.below.size
      have hbr2 : bb < wr.heap.size := Nat.lt_of_lt_of_le hbb hkr.below.size
      clear hL hL' hkr hcb
      go_wp2_with fail
      go_region_held3 (fun w' => (∀ b o, b < wr.heap.size → w'.cell? ⟨b, o, none⟩ = wr.cell? ⟨b, o, none⟩) ∧ Kept wr.heap.size wr w') (first | exact hK.drew.two | assumption | exact Kept.stepTwo (by assumption) hb) ((go_at_call 9; refine (HL.out _).mono ?_; rintro e w7 ⟨rfl, hb⟩))
      rename_i hh
      have hk8 := hk7.trans hh.2 hk7.le
      clear hh
      go_wp2_with fail
      go_ret
      exact ⟨rfl, hk8.below⟩


theorem lasts_any (a b : Option Addr) (n m ca cb : Nat) (xs ys : List (Int × Int)) (w : World) (hx : Row w a n ca xs) (hy : Row w b m cb ys) :
    Calls Try.prog 5 #[.slice a n ca, .slice b m cb] w fun e w' => e = .returned (.bool true) ∧ Below w.heap.size w w' := by
  obtain ⟨n', hn'⟩ : ∃ n', n' = min n 30 := ⟨_, rfl⟩
  obtain ⟨m', hm'⟩ : ∃ m', m' = min m 30 := ⟨_, rfl⟩
  have hxl : (xs.take 30).length = n' := by have := hx.len; rw [List.length_take]; omega
  have hyl : (ys.take 30).length = m' := by have := hy.len; rw [List.length_take]; omega
  by_cases h0 : n' = 0
  · subst h0
    by_cases h1 : m' = 0
    · subst h1
      exact lasts_A0 a b n m ca cb xs ys w hx hy hn' hm' (lastZ_none hxl) (lastZ_none hyl) (by rw [lastZ_append_left hxl]; exact lastZ_none hyl)
    · obtain ⟨k, k1, k2⟩ := lastZ_is (xs := ys.take 30) (by omega)
      exact lasts_A1 a b n m m' ca cb xs ys k w hx hy hn' hm' (lastZ_none hxl) k1 (by rw [lastZ_append_left hxl]; exact k1) (by have := k2.1; omega)
  · obtain ⟨i, i1, i2⟩ := lastZ_is (xs := xs.take 30) (by omega)
    have hiN : i < n' := by have := i2.1; omega
    by_cases h1 : m' = 0
    · subst h1
      exact lasts_B0 a b n n' m ca cb xs ys i w hx hy hn' hm' i1 (lastZ_none hyl) (by rw [lastZ_append_right hyl]; exact i1) hiN (fun q hq => i2.2.1 q (by omega)) i2.2.2
    · obtain ⟨k, k1, k2⟩ := lastZ_is (xs := ys.take 30) (by omega)
      have hkN : k < m' := by have := k2.1; omega
      cases hL : lessB ((xs.take 30).getD i (0, 0)) ((ys.take 30).getD k (0, 0))
      · exact lasts_D a b n n' m m' ca cb xs ys i k w hx hy hn' hm' i1 k1 (lastZ_first_row i2 k2 hL) hiN (fun q hq => i2.2.1 q (by omega)) i2.2.2 hkN hL
      · exact lasts_C a b n n' m m' ca cb xs ys i k w hx hy hn' hm' i1 k1 (by rw [lastZ_second_row i2 k2 hL, hxl]) hiN (fun q hq => i2.2.1 q (by omega)) i2.2.2 hkN hL
end Go.Proofs.Ytekcechjibigbaa
