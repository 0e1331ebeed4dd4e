/- kithlaw02.CrcLinear walked: it returns true. -/
import Derived.Test.YtlgegjmnodjioaaBlks
namespace Go.Proofs.Ytlgegjmnodjioaa
open Go.RowKit
/-- a row cut to a length, or filled up with noughts -/
def fit (m : Nat) (l : List Nat) : List Nat := l.take m ++ List.replicate (m - (l.take m).length) 0
theorem fit_len (m : Nat) (l : List Nat) : (fit m l).length = m := by simp [fit]; omega
theorem fit_small {m : Nat} {l : List Nat} (h : ∀ x ∈ l, x < 256) : ∀ x ∈ fit m l, x < 256 := by
  intro x hx
  rcases List.mem_append.1 hx with h1 | h1
  · exact h x (List.mem_of_mem_take h1)
  · rw [List.eq_of_mem_replicate h1]; omega
theorem wpList_copy_blk {P : Program} {w : World} {ops : Array Oper} {rest : List Oper} {o : Oper} {a : Act} {Q : Exit → Act → World → Prop} (hgd : o.guard = none) (d s : Operand) (dT sT : TypeId)
    (ho : o.op = .call { callee := .builtin .copy, args := #[d, s], argTypes := #[dT, sT] }) (elem : TypeId) (hu : P.underlying dT = some (.slice elem)) (hsz : (P.info? elem).map (·.size) = some 1)
    (dp sp : Option Addr) (dLen dCap sLen sCap : Nat) (hd : a.eval d = .slice dp dLen dCap) (hs : a.eval s = .slice sp sLen sCap)
    (g off : Nat) (cur : List Value) (t : TypeId) (hg : Blk w g t cur.toArray) (cs : List Value) (hn : cs.length = Nat.min sLen dLen)
    (hpos : 0 < cs.length → dp = some ⟨g, off, none⟩ ∧ ∃ ad, sp = some ad ∧ ∀ j v, cs[j]? = some v → w.cell? (ad.add j) = some v)
    (hfit : off + cs.length ≤ cur.length) (h1 : ∀ v ∈ cs, v.oneCell' = true) (B : Nat) (w0 : World) (hb : Below B w0 w) (hBg : B ≤ g)
    (h : ∀ w', Blk w' g t (splice cur off cs).toArray → Below B w0 w' → (∀ k, k ≠ g → w'.heap[k]? = w.heap[k]?) → w'.heap.size = w.heap.size → wpList P ops Q rest (a.put o.dst (goInt cs.length)) w') :
    wpList P ops Q (o :: rest) a w := by
  by_cases h0 : cs.length = 0
  · obtain rfl : cs = [] := List.eq_nil_of_length_eq_zero h0
    refine wpList_copy_nothing hgd d s dT sT ho elem hu hsz dp sp dLen dCap sLen sCap hd hs (by simpa using hn.symm) ?_
    exact h w (by simpa [splice] using hg) hb (fun _ _ => rfl) rfl
  · obtain ⟨rfl, ad, rfl, hsrc⟩ := hpos (by omega)
    refine wpList_copy_own hgd d s dT sT ho elem hu hsz g off dLen dCap ad sLen sCap hd hs cur.toArray t hg cs hn hsrc (by simpa using hfit) h1 ?_
    exact h _ (show _ = _ by simpa [splice] using setRow_heap w g _ _ t _ hg) (below_setRow hb hBg _) (fun k hk => setRow_other w g k _ hk) (by simp [World.setRow])
theorem blk_cell {w : World} {g q : Nat} {l : List Nat} (h : Blk w g 5 (cells l).toArray) (hq : q < l.length) : w.cell? ⟨g, q, none⟩ = some (.int .u8 ((l.getD q 0 : Nat) : Int)) := by
  rw [h.cell]
  simp only [List.getElem?_toArray]
  exact cells_get hq
theorem copy_src {w : World} {a : Option Addr} {n c : Nat} {bs : List Nat} (h : Bytes w a n c bs) (m : Nat) (h0 : 0 < (cells (bs.take m)).length) :
    ∃ ad, a = some ad ∧ ∀ j v, (cells (bs.take m))[j]? = some v → w.cell? (ad.add j) = some v := by
  have hr := h.reads
  rw [cells_length, List.length_take, h.len] at h0
  obtain ⟨ad, h1, _, h3⟩ := hr.2 (by omega)
  refine ⟨ad, h1, fun j v hj => h3 j v ?_⟩
  simp only [cells, List.map_take] at hj ⊢
  rw [List.getElem?_take] at hj
  split at hj
  · exact hj
  · cases hj
theorem copy_len {w : World} {a : Option Addr} {n c : Nat} {bs : List Nat} (h : Bytes w a n c bs) (m : Nat) : (cells (bs.take m)).length = Nat.min n m := by
  rw [cells_length, List.length_take, h.len]
  exact Nat.min_comm _ _
set_option maxRecDepth 10000 in
set_option maxHeartbeats 2000000 in
theorem linear_any (a0 : Option Addr) (n0 c0 : Nat) (bs0 : List Nat) (a1 : Option Addr) (n1 c1 : Nat) (bs1 : List Nat) (a2 : Option Addr) (n2 c2 : Nat) (bs2 : List Nat) (w : World)
    (h0 : Bytes w a0 n0 c0 bs0) (hs0 : ∀ x ∈ bs0, x < 256) (h1 : Bytes w a1 n1 c1 bs1) (hs1 : ∀ x ∈ bs1, x < 256) (h2 : Bytes w a2 n2 c2 bs2) (hs2 : ∀ x ∈ bs2, x < 256) :
    Calls Try.prog 7 #[.slice a0 n0 c0, .slice a1 n1 c1, .slice a2 n2 c2] w fun e w' => e = .returned (.bool true) ∧ Below w.heap.size w w' := by
  obtain ⟨m, hm⟩ : ∃ m, m = min n0 300 := ⟨_, rfl⟩
  have hm300 : m ≤ 300 := by omega
  have hcut := h0.cut m (by omega)
  have hsm : ∀ x ∈ bs0.take m, x < 256 := fun x hx => hs0 x (List.mem_of_mem_take hx)
  obtain ⟨i0, hi, hz0, hz1, hz2⟩ := info_parts byte_info
  have hmk := fun W => run_make_rowN (P := Try.prog) 22 5 i0 (.int .u8 0) Try.underlying22 hi hz0 .i64 .i64 m m (Nat.le_refl _) (by rw [hz2]; omega) (by omega) W
  simp only [hz1, made_cells] at hmk
  have HB := Lib.hid h0; have HM := Lib.hid hm; have HC := Lib.hid hcut; have HS := Lib.hid hsm; have HMK := Lib.hid hmk; have HB1 := Lib.hid h1; have HB2 := Lib.hid h2
  clear h0 hm hcut hsm hmk h1 h2 hs0
  go_enter Try.func7, Try.ntmps7
  go_wp2_with fail
  refine (shown_any _).mono ?_
  rintro e w1 ⟨rfl, hb1⟩
  have hk1 : Kept w.heap.size w w1 := Kept.start hb1
  clear hb1
  go_wp2_with fail
  refine (few_is HM.out (HB.out.kept hk1.below (Nat.le_refl _))).mono ?_
  rintro e w2 ⟨rfl, rfl⟩
  go_wp2_with fail
  rw [HMK.out]
  have hy1 : Blk (w1.alloc (.cells (cells (List.replicate m 0)).toArray 5)) w1.heap.size 5 (cells (List.replicate m 0)).toArray := Blk.new w1 5 _
  have hk2 := hk1.alloc (.cells (cells (List.replicate m 0)).toArray 5)
  have hle1 := hk1.le
  generalize w1.alloc (.cells (cells (List.replicate m 0)).toArray 5) = w2 at hy1 hk2 ⊢
  generalize hgy : w1.heap.size = gy at hy1 hle1 ⊢
  clear hgy hk1
  have HY1 := Lib.hid hy1
  clear hy1
  go_wp2_with fail
  rw [HMK.out]
  have hz1' : Blk (w2.alloc (.cells (cells (List.replicate m 0)).toArray 5)) w2.heap.size 5 (cells (List.replicate m 0)).toArray := Blk.new w2 5 _
  have hk3 := hk2.alloc (.cells (cells (List.replicate m 0)).toArray 5)
  have hy2 := HY1.out.alloc (.cells (cells (List.replicate m 0)).toArray 5)
  have hlt2 := HY1.out.lt
  have hle2 := hk2.le
  generalize w2.alloc (.cells (cells (List.replicate m 0)).toArray 5) = w3 at hz1' hk3 hy2 ⊢
  generalize hgz : w2.heap.size = gz at hz1' hlt2 hle2 ⊢
  clear hgz hk2 HY1
  have HY2 := Lib.hid hy2; have HZ1 := Lib.hid hz1'
  clear hy2 hz1'
  have hsz5 : (Try.prog.info? 5).map (·.size) = some 1 := by rw [hi]; simp [hz1]
  have hcs1 := HB1.out.kept hk3.below (Nat.le_refl _)
  have HK3 := hk3; have HCS1 := Lib.hid hcs1
  have hgy : w.heap.size ≤ gy := hle1
  have hgz : w.heap.size ≤ gz := hle2
  clear hcs1 hk3
  have HLT := Lib.hid hlt2
  have hsp := splice_cells m
  have HSP := Lib.hid hsp
  clear hsp
  go_wp2_with (first
    | (refine wpList_copy_blk rfl (.tmp 22) (.tmp 23) _ _ rfl 5 Try.underlying22 hsz5 (some ⟨gy, 0, none⟩) a1 m m n1 c1 rfl rfl gy 0 (cells (List.replicate m 0)) 5 HY2.out (cells (bs1.take m)) (copy_len HCS1.out m) (fun h => ⟨rfl, copy_src HCS1.out m h⟩) (by simp [cells]; omega) (cells_one _) w.heap.size w HK3.below hgy ?_; intro w4 hg4 hb4 ho4 hs4
       have hY4 : Blk w4 gy 5 (cells (fit m bs1)).toArray := by rw [HSP.out] at hg4; exact hg4
       have hZ4 : Blk w4 gz 5 (cells (List.replicate m 0)).toArray := by have h := ho4 gz (by have := HLT.out; omega); unfold Blk; rw [h]; exact HZ1.out
       have HY4 := Lib.hid hY4; have HZ4 := Lib.hid hZ4
       have hcs2 := HB2.out.kept hb4 (Nat.le_refl _)
       have HCS2 := Lib.hid hcs2; have HB4 := hb4
       have HS4 := Lib.hid hs4
       clear hg4 hY4 hZ4 hcs2 ho4 hs4)
    | (refine wpList_copy_blk rfl (.tmp 25) (.tmp 26) _ _ rfl 5 Try.underlying22 hsz5 (some ⟨gz, 0, none⟩) a2 m m n2 c2 rfl rfl gz 0 (cells (List.replicate m 0)) 5 HZ4.out (cells (bs2.take m)) (copy_len HCS2.out m) (fun h => ⟨rfl, copy_src HCS2.out m h⟩) (by simp [cells]; omega) (cells_one _) w.heap.size w HB4 hgz ?_; intro w5 hg5 hb5 ho5 hs5))
  rw [HMK.out]
  have hZ5 : Blk w5 gz 5 (cells (fit m bs2)).toArray := by rw [HSP.out] at hg5; exact hg5
  have hY5 : Blk w5 gy 5 (cells (fit m bs1)).toArray := by have h := ho5 gy (by have := HLT.out; omega); unfold Blk; rw [h]; exact HY4.out
  have hk5 : Kept w.heap.size w w5 := ⟨hb5, hb5.size⟩
  have hT6 : Blk (w5.alloc (.cells (cells (List.replicate m 0)).toArray 5)) w5.heap.size 5 (cells (List.replicate m 0)).toArray := Blk.new w5 5 _
  have hZ6 := hZ5.alloc (.cells (cells (List.replicate m 0)).toArray 5)
  have hY6 := hY5.alloc (.cells (cells (List.replicate m 0)).toArray 5)
  have hk6 := hk5.alloc (.cells (cells (List.replicate m 0)).toArray 5)
  have hle5 := hk5.le
  have hzt := hZ5.lt
  have hyt := hY5.lt
  generalize w5.alloc (.cells (cells (List.replicate m 0)).toArray 5) = w6 at hT6 hZ6 hY6 hk6 ⊢
  generalize hgt : w5.heap.size = gt at hT6 hle5 hzt hyt ⊢
  clear hgt hg5 hb5 ho5 hs5 hZ5 hY5 hk5 HY2 HZ1 HY4 HZ4 HCS1 HCS2 HS4
  have hxs := HS.out
  have hys := fit_small (m := m) hs1
  have hzs := fit_small (m := m) hs2
  have hyl := fit_len m bs1
  have hzl := fit_len m bs2
  have hxl := HC.out.len
  generalize fit m bs1 = yl at hY6 hys hyl
  generalize fit m bs2 = zl at hZ6 hzs hzl
  generalize bs0.take m = xl at HC HS hxs hxl
  have HY6 := Lib.hid hY6; have HZ6 := Lib.hid hZ6; have HT6 := Lib.hid hT6; have HXS := Lib.hid hxs; have HYS := Lib.hid hys; have HZS := Lib.hid hzs; have HXL := Lib.hid hxl; have HYL := Lib.hid hyl; have HZL := Lib.hid hzl
  clear hY6 hZ6 hT6 hxs hys hzs hxl hyl hzl HB1 HB2 HB hs1 hs2
  go_wp2_with fail
  go_loopw [12] (fun i wr => ∃ (q : Nat) (tl : List Nat), q ≤ m ∧ i = .int .i64 q ∧ Hid (tl.length = m) ∧ Hid (∀ j, j < q → tl.getD j 0 = xl.getD j 0 ^^^ yl.getD j 0 ^^^ zl.getD j 0) ∧ Hid (∀ x ∈ tl, x < 256) ∧ Hid (Blk wr gt 5 (cells tl).toArray) ∧ Hid (Blk wr gy 5 (cells yl).toArray) ∧ Hid (Blk wr gz 5 (cells zl).toArray) ∧ Kept w.heap.size w wr) (fun i _ => m - (intOf i).toNat)
  case atStart => exact ⟨0, List.replicate m 0, by omega, rfl, Lib.hid (by simp), Lib.hid (fun j hj => by omega), Lib.hid (fun x hx => by rw [List.eq_of_mem_replicate hx]; omega), HT6, HY6, HZ6, hk6⟩
  case round =>
    clear hk6
    obtain ⟨q, tl, hq, rfl, HTL, HTX, HTS, HT, HY, HZ, hk⟩ := hrel
    have hlex := hk.le
    by_cases hqm : q < m
    · obtain ⟨b, off, hab, hbw, hce⟩ := HC.out.pos (by omega)
      subst hab
      have hcx := HC.out.kept hk.below (Nat.le_refl _)
      obtain ⟨b', off', hab', hbl, hce'⟩ := hcx.pos (by omega)
      injection hab' with hab'
      injection hab' with e1 e2
      subst e1 e2
      have kx := hce' q hqm
      have ky := blk_cell HY.out (q := q) (by rw [HYL.out]; exact hqm)
      have kz := blk_cell HZ.out (q := q) (by rw [HZL.out]; exact hqm)
      have kt := blk_cell HT.out (q := q) (by rw [HTL.out]; exact hqm)
      have fz := HT.out.frozen q
      have ltY := HY.out.lt
      have ltZ := HZ.out.lt
      have ltT := HT.out.lt
      have bx := getD_small HXS.out q
      have by' := getD_small HYS.out q
      have bz := getD_small HZS.out q
      have hT2 := blk_set (i := q) (d := xl.getD q 0 ^^^ yl.getD q 0 ^^^ zl.getD q 0) HT.out.drew
      have hlt : q < tl.length := by rw [HTL.out]; exact hqm
      have hn : ∀ j, j < q + 1 → (tl.set q (xl.getD q 0 ^^^ yl.getD q 0 ^^^ zl.getD q 0)).getD j 0 = xl.getD j 0 ^^^ yl.getD j 0 ^^^ zl.getD j 0 := by
        intro j hj
        rcases Nat.lt_or_ge j q with h | h
        · have := HTX.out j h
          rw [← this]
          have hne : q ≠ j := by omega
          simp [List.getD, hne]
        · obtain rfl : j = q := by omega
          simp [List.getD, hlt]
      have hss : ∀ x ∈ tl.set q (xl.getD q 0 ^^^ yl.getD q 0 ^^^ zl.getD q 0), x < 256 := by
        intro x hx
        rcases List.mem_or_eq_of_mem_set hx with h | h
        · exact HTS.out x h
        · rw [h]; exact Nat.xor_lt_two_pow (n := 8) (Nat.xor_lt_two_pow (n := 8) bx by') bz
      have hb1 := u8_xor_nat (xl.getD q 0) (yl.getD q 0) bx by'
      have hb2 := u8_xor_nat (xl.getD q 0 ^^^ yl.getD q 0) (zl.getD q 0) (Nat.xor_lt_two_pow (n := 8) bx by') bz
      have hk' := hk.drew.setCell (p := ⟨gt, q, none⟩) hle5 (.int .u8 ((xl.getD q 0 ^^^ yl.getD q 0 ^^^ zl.getD q 0 : Nat) : Int))
      have hy' := HY.out.drew.far (p := ⟨gt, q, none⟩) (by show gy ≠ gt; omega) (.int .u8 ((xl.getD q 0 ^^^ yl.getD q 0 ^^^ zl.getD q 0 : Nat) : Int))
      have hz' := HZ.out.drew.far (p := ⟨gt, q, none⟩) (by show gz ≠ gt; omega) (.int .u8 ((xl.getD q 0 ^^^ yl.getD q 0 ^^^ zl.getD q 0 : Nat) : Int))
      have htl' : (tl.set q (xl.getD q 0 ^^^ yl.getD q 0 ^^^ zl.getD q 0)).length = m := by rw [List.length_set, HTL.out]
      generalize tl.set q (xl.getD q 0 ^^^ yl.getD q 0 ^^^ zl.getD q 0) = tl' at hT2 hn hss htl'
      generalize xl.getD q 0 ^^^ yl.getD q 0 ^^^ zl.getD q 0 = D at hT2 hk' hy' hz' hb2
      generalize xl.getD q 0 ^^^ yl.getD q 0 = D1 at hb1 hb2
      generalize xl.getD q 0 = x at kx bx hb1
      generalize yl.getD q 0 = y at ky by' hb1
      generalize zl.getD q 0 = z at kz bz hb2
      generalize tl.getD q 0 = old at kt
      have HN := Lib.hid hn; have HSS := Lib.hid hss; have HT2 := Lib.hid hT2; have HK := Lib.hid hk'; have HY' := Lib.hid hy'; have HZ' := Lib.hid hz'; have HL' := Lib.hid htl'
      have hmc : m ≤ c0 := HC.out.1
      have hbt : b < gt := by omega
      clear hn hss hT2 hk' hy' hz' htl' hce hce' hcx hlt
      go_wp2_with fail
      refine wp_region_noPanic (wp_region_sched (fun w' => Kept gt wr w') [(0, true), (1, true), (2, true), (3, true), (4, true), (5, true), (6, true), (7, true), (8, true), (9, true), (10, true), (11, true), (12, true), (13, true), (14, true), (15, true), (16, true), (17, false)] (by kernel_rfl) (by kernel_rfl) (fun _ _ _ _ _ h => h) (Kept.drew ⟨Below.refl _ _, Nat.le_of_lt ltT⟩) (fun hHeld => ?_))
      repeat (first | (refine sched_skip rfl (by rfl) ?_; simp only [Act.put, List.setIfInBounds_toArray, List.set_cons_zero, List.set_cons_succ]) | (refine sched_pure (v := ?_) rfl (by rfl) ?_ ?_; rotate_left 1; (intro w' hS'; have hcc := hS'.cells; go_simp; with_reducible rfl); simp only [Act.put, List.setIfInBounds_toArray, List.set_cons_zero, List.set_cons_succ]) | fail)
      refine sched_eff rfl (by rfl) (fun K hK => ?_)
      go_simp
      refine hK.out (fun w' => Kept gt wr w') _ _ (fun _ h => h) (hHeld.setCell (p := ⟨gt, q, none⟩) (Nat.le_refl _) _) (fun hHeld' => ?_)
      clear hHeld hK K hHeld'
      refine sched_end (NoPanic.normal ?_)
      go_wp2_with fail
      go_roundw
      case rel => exact ⟨q + 1, tl', by omega, by go_num, HL', HN, HSS, HT2, HY', HZ', HK.out⟩
      case measure => simp [intOf]; omega
    · obtain rfl : m = q := by omega
      have hX := HC.out.kept hk.below (Nat.le_refl _)
      have hY := bytes_blk HY.out (by rw [HYL.out]; unfold maxLen; omega)
      have hZ := bytes_blk HZ.out (by rw [HZL.out]; unfold maxLen; omega)
      have hT := bytes_blk HT.out (by rw [HTL.out]; unfold maxLen; omega)
      rw [HYL.out] at hY
      rw [HZL.out] at hZ
      rw [HTL.out] at hT
      have e1 : yl.length = xl.length := by rw [HYL.out, HXL.out]
      have e2 : zl.length = xl.length := by rw [HZL.out, HXL.out]
      have e3 : tl.length = xl.length := by rw [HTL.out, HXL.out]
      have hmix := mixed HXS.out HYS.out HZS.out e1 e2 e3 (fun i hi => HTX.out i (by rw [HXL.out] at hi; exact hi))
      have h3 := three HXS.out HYS.out HZS.out HTS.out e1 e2 e3 hmix
      have x1 := u32_xor_nat (sumN xl) (sumN yl) (sum_lt xl) (sum_lt yl)
      have x2 := u32_xor_nat (sumN xl ^^^ sumN yl) (sumN zl) (xor_lt (sum_lt xl) (sum_lt yl)) (sum_lt zl)
      rw [h3] at x2
      have hsx := sum_any hX HXS.out
      have hsy := sum_any hY HYS.out
      have hsz := sum_any hZ HZS.out
      have hst := sum_any hT HTS.out
      generalize sumN xl ^^^ sumN yl = s12 at x1 x2
      generalize sumN xl = s1 at x1 hsx
      generalize sumN yl = s2 at x1 hsy
      generalize sumN zl = s3 at x2 hsz
      generalize sumN tl = s4 at x2 hst
      have HSX := Lib.hid hsx; have HSY := Lib.hid hsy; have HSZ := Lib.hid hsz; have HST := Lib.hid hst
      clear hX hY hZ hT e1 e2 e3 hmix h3 hsx hsy hsz hst
      go_wp2_with fail
      refine HSX.out.mono ?_
      rintro e w7 ⟨rfl, rfl⟩
      go_wp2_with fail
      refine HSY.out.mono ?_
      rintro e w7 ⟨rfl, rfl⟩
      go_wp2_with fail
      refine HSZ.out.mono ?_
      rintro e w7 ⟨rfl, rfl⟩
      go_wp2_with fail
      refine HST.out.mono ?_
      rintro e w7 ⟨rfl, rfl⟩
      go_wp2_with fail
      go_ret
      exact ⟨rfl, hk.below⟩
end Go.Proofs.Ytlgegjmnodjioaa
