/- kithlaw02.CrcBursts walked: it returns true. -/
import Derived.Test.YtlgegjmnodjioaaBlks
import Derived.Test.YtlgegjmnodjioaaParts
import Derived.StillTailTactics
namespace Go.Proofs.Ytlgegjmnodjioaa
open Go.RowKit
theorem pow_xor (k a b : Nat) : 2 ^ k * (a ^^^ b) = 2 ^ k * a ^^^ 2 ^ k * b := by
  have e := Nat.shiftLeft_xor_distrib (a := a) (b := b) (i := k)
  simp only [Nat.shiftLeft_eq] at e
  rw [Nat.mul_comm (2 ^ k), Nat.mul_comm (2 ^ k), Nat.mul_comm (2 ^ k)]
  exact e
theorem low_set {x i : Nat} (h : x < 2 ^ i) : 2 ^ i + x = x ^^^ 2 ^ i := by
  have h1 := Nat.two_pow_add_eq_or_of_lt (b := x) (i := i) h 1
  rw [Nat.mul_one] at h1
  rw [h1]
  apply Nat.eq_of_testBit_eq
  intro j
  rw [Nat.testBit_xor, Nat.testBit_or, Nat.testBit_two_pow]
  by_cases hj : i = j
  · subst hj
    have : x.testBit i = false := Nat.testBit_lt_two_pow h
    simp [this]
  · simp [hj]
theorem mask_yes {m q : Nat} (h : m / 2 ^ q % 2 = 1) : m % 2 ^ (q + 1) = m % 2 ^ q ^^^ 2 ^ q := by
  have hl : m % 2 ^ q < 2 ^ q := Nat.mod_lt _ (Nat.two_pow_pos q)
  rw [Nat.mod_pow_succ, h, Nat.mul_one, Nat.add_comm, low_set hl]
theorem mask_no {m q : Nat} (h : m / 2 ^ q % 2 = 0) : m % 2 ^ (q + 1) = m % 2 ^ q := by
  rw [Nat.mod_pow_succ, h, Nat.mul_zero, Nat.add_zero]
theorem shl_one {b : Nat} (h : b < 8) : (2 : Int) ^ b % 256 = ((2 ^ b : Nat) : Int) := by
  rcases (by omega : b = 0 ∨ b = 1 ∨ b = 2 ∨ b = 3 ∨ b = 4 ∨ b = 5 ∨ b = 6 ∨ b = 7) with rfl | rfl | rfl | rfl | rfl | rfl | rfl | rfl <;> rfl
/-- what the loop keeps -/
def Turned (s t : List Nat) (k : Nat) (mask q : Nat) : Prop := t.length = s.length ∧ (∀ x ∈ t, x < 256) ∧ big t = big s ^^^ 2 ^ k * (mask % 2 ^ q)
theorem Turned.zero {s : List Nat} (hs : ∀ x ∈ s, x < 256) (k mask : Nat) : Turned s s k mask 0 := ⟨rfl, hs, by simp [Nat.mod_one]⟩
theorem Turned.no {s t : List Nat} {k mask q : Nat} (h : Turned s t k mask q) (h0 : mask / 2 ^ q % 2 = 0) : Turned s t k mask (q + 1) := ⟨h.1, h.2.1, by rw [mask_no h0]; exact h.2.2⟩
theorem Turned.yes {s t : List Nat} {k mask q : Nat} (h : Turned s t k mask q) (h1 : mask / 2 ^ q % 2 = 1) (hq : k + q < 8 * s.length) :
    Turned s (t.set ((k + q) / 8) (t.getD ((k + q) / 8) 0 ^^^ 2 ^ ((k + q) % 8))) k mask (q + 1) := by
  obtain ⟨hl, hs, hb⟩ := h
  have hj : (k + q) / 8 < t.length := by omega
  have hbt := big_turn hs hj (b := (k + q) % 8) (by omega)
  refine ⟨by rw [List.length_set, hl], ?_, ?_⟩
  · intro x hx
    rcases List.mem_or_eq_of_mem_set hx with h | h
    · exact hs x h
    · rw [h]
      exact Nat.xor_lt_two_pow (n := 8) (getD_small hs _) (Nat.pow_lt_pow_right (n := 8) (by omega) (by omega))
  · rw [hbt, mask_yes h1, pow_xor, hb, show 8 * ((k + q) / 8) + (k + q) % 8 = k + q by omega, Nat.pow_add, Nat.xor_assoc]
/-- turned so, it opens only where nothing was turned -/
theorem turned_open {l t : List Nat} {k mask q : Nat} (hl : ∀ x ∈ l, x < 256) (h : Turned (sealN l) t k mask q) (hk : k ≤ 8 * (sealN l).length) (hm : mask < 4294967296) (ho : Opens t) : t = sealN l := by
  obtain ⟨h1, h2, h3⟩ := h
  have hlen : t.length - 4 + 4 = t.length := by have := ho.1; omega
  have ho2 := ho.2
  have e : t = t.take (t.length - 4) ++ t.drop (t.length - 4) := (List.take_append_drop _ _).symm
  have hr : regN ones t = residue := by
    have hd : (t.drop (t.length - 4)).length = 4 := by rw [List.length_drop]; omega
    have := (opens_iff (l := t.take (t.length - 4)) (d := t.drop (t.length - 4)) (fun x hx => h2 x (List.mem_of_mem_take hx)) (fun x hx => h2 x (List.mem_of_mem_drop hx)) hd).1 ho2
    rwa [← e] at this
  refine burst (seal_small hl) h2 h1 hk (w := mask % 2 ^ q) (Nat.lt_of_le_of_lt (Nat.mod_le _ _) hm) h3 ?_
  rw [hr, seal_reg hl]
theorem start_k {at_ : Int} {m : Nat} (hm : m ≤ 300) : ∃ k : Nat, (wrap64 (at_.tmod (8 * ((m : Int) + 4)) + 8 * ((m : Int) + 4))).tmod (8 * ((m : Int) + 4)) = (k : Int) ∧ k < 8 * (m + 4) := by
  obtain ⟨n, hn⟩ : ∃ n : Nat, n = 8 * (m + 4) := ⟨_, rfl⟩
  have e : 8 * ((m : Int) + 4) = (n : Int) := by omega
  rw [e, ← hn]
  have h0 := Int.tmod_lt_of_pos at_ (b := (n : Int)) (by omega)
  have h1 : 0 ≤ Int.tmod at_ n + n := by
    have := Int.lt_tmod_of_pos at_ (b := (n : Int)) (by omega)
    omega
  have hw : wrap64 (Int.tmod at_ n + n) = Int.tmod at_ n + n := IntWalk.wrap64_in _ (by omega)
  rw [hw]
  have h2 : 0 ≤ Int.tmod (Int.tmod at_ n + n) n := Int.tmod_nonneg _ h1
  have h3 : Int.tmod (Int.tmod at_ n + n) n < n := Int.tmod_lt_of_pos _ (by omega)
  exact ⟨(Int.tmod (Int.tmod at_ n + n) n).toNat, by omega, by omega⟩
set_option maxRecDepth 10000 in
set_option maxHeartbeats 2000000 in
theorem bursts_any (a : Option Addr) (n0 cap : Nat) (bs : List Nat) (at_ : Int) (mask : Nat) (w : World) (h : Bytes w a n0 cap bs) (hs : ∀ x ∈ bs, x < 256)
    (_ha0 : -9223372036854775808 ≤ at_) (_ha1 : at_ ≤ 9223372036854775807) (hm : mask < 4294967296) :
    Calls Try.prog 5 #[.slice a n0 cap, .int .i64 at_, .int .u32 mask] w fun e w' => e = .returned (.bool true) ∧ Below w.heap.size w w' := by
  obtain ⟨m, hm'⟩ : ∃ m, m = min n0 300 := ⟨_, rfl⟩
  have hcut := h.cut m (by omega)
  have hsm : ∀ x ∈ bs.take m, x < 256 := fun x hx => hs x (List.mem_of_mem_take hx)
  have hm300 : m ≤ 300 := by omega
  have HB := Lib.hid h; have HM := Lib.hid hm'; have HC := Lib.hid hcut; have HS := Lib.hid hsm
  clear h hs hm' hcut hsm
  obtain ⟨i0, hi, hz0, hz1, hz2⟩ := info_parts byte_info
  go_enter Try.func5, Try.ntmps5
  go_wp2_with fail
  refine (shown_any _).mono ?_
  rintro e w1 ⟨rfl, hb1⟩
  have hk1 : Kept w.heap.size w w1 := Kept.start hb1
  clear hb1
  go_wp2_with fail
  refine (few_is HM.out (HB.out.kept hk1.below (Nat.le_refl _))).mono ?_
  rintro e w2 ⟨rfl, rfl⟩
  have hc1 := HC.out.kept hk1.below (Nat.le_refl _)
  have HC1 := Lib.hid hc1
  clear hc1
  go_wp2_with fail
  refine (seal_any HC1.out HS.out hm300).mono ?_
  rintro e w2 ⟨v2, rfl, hown2, hb2⟩
  have hk2 := hk1.step hb2
  obtain ⟨a2, c2, hv2, hp2⟩ := Bytes.of_own hown2
  rw [hv2]
  have hc2 := HC1.out.kept hb2 (Nat.le_refl _)
  have HP2 := Lib.hid hp2; have HC2 := Lib.hid hc2
  have hsl := seal_small HS.out
  have hos := opens_sealed (bs.take m)
  have hlm : (bs.take m).length = m := HC.out.len
  have hN : (sealN (bs.take m)).length = m + 4 := by rw [seal_len, hlm]
  have HSL := Lib.hid hsl; have HOS := Lib.hid hos; have HN := Lib.hid hN
  clear hown2 hv2 hp2 hb2 hk1 hc2 HC1 HB hsl hos HC
  rw [hN] at HP2 ⊢
  have HLM := Lib.hid hlm
  clear hlm hN
  go_wp2_with fail
  refine (open_any HP2.out HSL.out (by omega)).mono ?_
  rintro e w3 hO
  obtain ⟨v3, rfl, hown3, hb3⟩ : ∃ v, e = .returned (.tuple #[v, .bool true]) ∧ w3.ownsRow w2.heap.size 5 1 v m (cells (bs.take m)) ∧ Below w2.heap.size w2 w3 := by
    rcases hO with ⟨_, v, h1, h2, h3⟩ | ⟨hno, _, _⟩
    · rw [HOS.out.2.2.2, HOS.out.2.1, HLM.out] at h2
      exact ⟨v, h1, h2, h3⟩
    · exact absurd HOS.out.1 hno
  have hk3 := hk2.step hb3
  obtain ⟨a3, c3, hv3, hp3⟩ := Bytes.of_own hown3
  rw [hv3]
  have hc3 := HC2.out.kept hb3 (Nat.le_refl _)
  have hs3 := HP2.out.kept hb3 (Nat.le_refl _)
  have hcv1 := run_str (P := Try.prog) Try.underlying22 Try.underlying5 hp3 9 Try.underlying9
  have hcv2 := run_str (P := Try.prog) Try.underlying22 Try.underlying5 hc3 9 Try.underlying9
  have HS3 := Lib.hid hs3
  have hpl := hk2
  generalize hle : bs.take m = l at *
  have hmm : m + 4 ≤ 304 := by omega
  clear hown3 hv3 hp3 hc3 hs3 HC2 HP2 hk2 hpl hb3 hle
  obtain ⟨k, hkk, hkn⟩ := start_k (at_ := at_) hm300
  have hown0 := own_emptyB w3 w.heap.size hk3.le
  have hrd := HS3.out.reads.alloc (Nat.le_refl _) (.cells #[] 5)
  have HO0 := Lib.hid hown0; have HRD := Lib.hid hrd; have HK3 := hk3
  have HKK := Lib.hid hkk
  clear hown0 hrd hkk
  go_wp2_with (at_builtin; (refine wpList_append_any _ rfl (.tmp 59) (.tmp 60) _ rfl w.heap.size 5 i0 _ 1 1 Try.underlying22 hi hz0 hz1 hz2 rfl (by omega) (.slice (some ⟨w3.heap.size, 0, none⟩) 0 0) 0 (cells []) rfl HO0.out w3.heap.size a2 (m + 4) c2 (cells (sealN l)) rfl HRD.out (cells_one _) (by simp only [maxLen]; omega) (by omega) (Nat.le_trans HK3.le (by simp)) ?_; intro v4 w4 hown4 hg4 hat4))
  rw [HKK.out]
  rw [Nat.zero_add] at hown4
  have e0 : cells [] ++ cells (sealN l) = cells (sealN l) := rfl
  rw [e0] at hown4
  obtain ⟨g, c4, rfl, hbg, hgc⟩ := own_form hown4 (by omega)
  have hg4' : (w3.alloc (.cells #[] 5)).grownBy w4 (some w3.heap.size) := hg4
  have hb4 : Below w3.heap.size w3 w4 := ((Below.refl _ _).alloc (Nat.le_refl _) (.cells #[] 5)).grown hg4' (by simp) (fun g hg => by injection hg with hg; exact Nat.le_of_eq hg)
  have hat4' : some g = some w3.heap.size ∨ some g = some (w3.alloc (.cells #[] 5)).heap.size := hat4
  have hg3 : w3.heap.size ≤ g := by
    rcases hat4' with h | h
    · injection h with h; omega
    · injection h with h; simp at h; omega
  have hk4 : Kept w3.heap.size w3 w4 := Kept.start hb4
  have hgm : g < w4.heap.size := by
    rcases hown4.2 with ⟨h, _⟩ | ⟨g', _, _, h, _, hh, _⟩
    · cases h
    · injection h with h; injection h with h; injection h with h; subst h
      rcases Nat.lt_or_ge g w4.heap.size with h | h
      · exact h
      · rw [Array.getElem?_eq_none h] at hh; cases hh
  have htz := Turned.zero HSL.out k mask
  have HN' := HN.out
  have HO4 := Lib.hid hown4; have HTZ := Lib.hid htz
  clear hown4 hg4 hg4' hb4 hat4 hat4' e0 htz hcv1 hcv2 HO0 HRD HKK HN'
  have hc4m : c4 ≤ maxLen := by
    rcases HO4.out.2 with ⟨h, _⟩ | ⟨_, _, _, h, _, _, _, hm, _⟩
    · cases h
    · injection h with h1 h2 h3; omega
  unfold maxLen at hc4m
  go_wp2_with fail
  go_loopw [15] (fun i wr => ∃ (q : Nat) (tl : List Nat), q ≤ 32 ∧ i = .int .i64 q ∧ Hid (Turned (sealN l) tl k mask q) ∧ Hid (wr.ownsRow w.heap.size 5 1 (.slice (some ⟨g, 0, none⟩) (m + 4) c4) (m + 4) (cells tl)) ∧ Kept w3.heap.size w3 wr ∧ g < wr.heap.size) (fun i _ => 32 - (intOf i).toNat)
  case atStart => exact ⟨0, sealN l, by omega, rfl, HTZ, HO4, hk4, hgm⟩
  case round =>
    clear hk4 hgm
    obtain ⟨q, tl, hq, rfl, HT, HO, hk, hgw⟩ := hrel
    by_cases hgo : q < 32 ∧ k + q < 8 * (m + 4)
    · obtain ⟨hq32, hkq⟩ := hgo
      rcases Nat.mod_two_eq_zero_or_one (mask / 2 ^ q) with h2 | h2
      · have ht' := HT.out.no h2
        have hand := and_one_u32 (x := mask / 2 ^ q) (Nat.lt_of_le_of_lt (Nat.div_le_self _ _) hm)
        rw [h2] at hand
        have hsh : (mask : Int) / 2 ^ q = ((mask / 2 ^ q : Nat) : Int) := by simp
        rw [← hsh] at hand
        have HT' := Lib.hid ht'
        clear h2 ht' hsh
        go_wp2_with fail
        go_roundw
        case rel => exact ⟨q + 1, tl, by omega, by go_num, HT', HO, hk, hgw⟩
        case measure => simp [intOf]; omega
      · have hand := and_one_u32 (x := mask / 2 ^ q) (Nat.lt_of_le_of_lt (Nat.div_le_self _ _) hm)
        rw [h2] at hand
        have hsh : (mask : Int) / 2 ^ q = ((mask / 2 ^ q : Nat) : Int) := by simp
        rw [← hsh] at hand
        have hlen : tl.length = m + 4 := by rw [HT.out.1, HN.out]
        have ht' := HT.out.yes h2 (by rw [HN.out]; exact hkq)
        have hj : (k + q) / 8 < m + 4 := by omega
        have hcell := HO.out.cellAt ((k + q) / 8) (by omega)
        rw [cells_get (by omega)] at hcell
        have hfr := HO.out.frozenAt ((k + q) / 8)
        have hsl1 := shl_one (b := (k + q) % 8) (by omega)
        have hgs := getD_small HT.out.2.1 ((k + q) / 8)
        have hxo := u8_xor_nat (tl.getD ((k + q) / 8) 0) (2 ^ ((k + q) % 8)) hgs (Nat.pow_lt_pow_right (n := 8) (by omega) (by omega))
        obtain ⟨hown', hgr'⟩ := HO.out.stored ((k + q) / 8) (.int .u8 ((tl.getD ((k + q) / 8) 0 ^^^ 2 ^ ((k + q) % 8) : Nat) : Int))
        have hjI : ((k : Int) + (q : Int)).tdiv 8 = (((k + q) / 8 : Nat) : Int) := by rw [Int.tdiv_eq_ediv_of_nonneg (by omega)]; omega
        have hbI : ((k : Int) + (q : Int)).tmod 8 = (((k + q) % 8 : Nat) : Int) := by rw [Int.tmod_eq_emod_of_nonneg (by omega)]; omega
        have hwj : IntKind.i64.wrap (((k + q) / 8 : Nat) : Int) = (((k + q) / 8 : Nat) : Int) := IntWalk.i64_in _ (by omega)
        have hwb : IntKind.i64.wrap (((k + q) % 8 : Nat) : Int) = (((k + q) % 8 : Nat) : Int) := IntWalk.i64_in _ (by omega)
        have hw0 : IntKind.i64.wrap ((k : Int) + (q : Int)) = (k : Int) + (q : Int) := IntWalk.i64_in _ (by omega)
        generalize (k + q) / 8 = j at *
        have hb8 : (k + q) % 8 < 8 := by omega
        have hjm : (j : Int) < (m : Int) + 4 := by omega
        have hjm2 : decide ((j : Int) < (m : Int) + 4) = true := by simp; omega
        generalize (k + q) % 8 = b at *
        generalize tl.getD j 0 ^^^ 2 ^ b = D at *
        generalize tl.getD j 0 = old at *
        generalize (2 : Nat) ^ b = pb at hsl1 hxo
        have HT' := Lib.hid ht'; have HO' := Lib.hid hown'; have HG' := Lib.hid hgr'
        clear h2 ht' hsh hown' hgr'
        go_wp2_with fail
        go_still_tail 19, (by kernel_rfl)
        change wpList _ _ _ _ _ wr.drew
        go_wp2_with fail
        have hkd := (hk.setCell (p := ⟨g, j, none⟩) hg3 (.int .u8 (D : Int))).drew
        have hown2 := HO'.out
        rw [cells_set] at hown2
        have HO2 := Lib.hid (show World.ownsRow (wr.setCell ⟨g, j, none⟩ (.int .u8 (D : Int))).drew w.heap.size 5 1 (.slice (some ⟨g, 0, none⟩) (m + 4) c4) (m + 4) (cells (tl.set j D)) from hown2)
        go_roundw
        case rel => exact ⟨q + 1, tl.set j D, by omega, by go_num, HT', HO2, hkd, by simpa [World.setCell] using hgw⟩
        case measure => simp [intOf]; omega
    · have hgo' : q < 32 → ¬ (k + q < 8 * (m + 4)) := fun h1 h2 => hgo ⟨h1, h2⟩
      have hlen : tl.length = m + 4 := by rw [HT.out.1, HN.out]
      have htsm := HT.out.2.1
      have hpt : Bytes wr (some ⟨g, 0, none⟩) (m + 4) c4 tl := by
        obtain ⟨a', c', h1, h2⟩ := Bytes.of_own HO.out
        injection h1 with h1 h3 h4
        rw [h1, h4]
        exact h2
      have hop : Opens tl → tl = sealN l := fun ho => turned_open HS.out HT.out (by rw [HN.out]; omega) hm ho
      have HPT := Lib.hid hpt; have HTS := Lib.hid htsm; have HOP := Lib.hid hop; have HLN := Lib.hid hlen
      clear hpt htsm hop hlen hgo
      by_cases hq32 : q < 32
      · have hstop : ¬ (k + q < 8 * (m + 4)) := hgo' hq32
        clear hgo'
        go_wp2_with fail
        refine (open_any HPT.out HTS.out (by omega)).mono ?_
        rintro e w5 hO5
        have hs5 := HS3.out.kept hk.below (Nat.le_refl _)
        have HS5 := Lib.hid hs5
        rcases hO5 with ⟨ho, v5, rfl, hown5, hb5⟩ | ⟨hno, rfl, hb5⟩
        · have ht := HOP.out ho
          have hp5 := HPT.out.kept hb5 (Nat.le_refl _)
          have hs6 := HS5.out.kept hb5 (Nat.le_refl _)
          have hcv1 := run_str (P := Try.prog) Try.underlying22 Try.underlying5 hp5 9 Try.underlying9
          have hcv2 := run_str (P := Try.prog) Try.underlying22 Try.underlying5 hs6 9 Try.underlying9
          rw [ht] at hcv1
          have hkf := (hk3.trans hk hk3.le).step hb5
          clear ht hp5 hs6 hown5 hb5 hs5
          go_wp2_with fail
          go_ret
          exact ⟨rfl, hkf.below⟩
        · have hp5 := HPT.out.kept hb5 (Nat.le_refl _)
          have hs6 := HS5.out.kept hb5 (Nat.le_refl _)
          have hcv1 := run_str (P := Try.prog) Try.underlying22 Try.underlying5 hp5 9 Try.underlying9
          have hcv2 := run_str (P := Try.prog) Try.underlying22 Try.underlying5 hs6 9 Try.underlying9
          have hne : ((str tl).toList == (str (sealN l)).toList) = false := by
            rw [str_beq HTS.out HSL.out]
            exact decide_eq_false (fun h => hno (by rw [h]; exact HOS.out.1))
          have hkf := (hk3.trans hk hk3.le).step hb5
          clear hp5 hs6 hb5 hno hs5
          go_wp2_with fail
          go_ret
          exact ⟨rfl, hkf.below⟩
      · clear hgo'
        go_wp2_with fail
        refine (open_any HPT.out HTS.out (by omega)).mono ?_
        rintro e w5 hO5
        have hs5 := HS3.out.kept hk.below (Nat.le_refl _)
        have HS5 := Lib.hid hs5
        rcases hO5 with ⟨ho, v5, rfl, hown5, hb5⟩ | ⟨hno, rfl, hb5⟩
        · have ht := HOP.out ho
          have hp5 := HPT.out.kept hb5 (Nat.le_refl _)
          have hs6 := HS5.out.kept hb5 (Nat.le_refl _)
          have hcv1 := run_str (P := Try.prog) Try.underlying22 Try.underlying5 hp5 9 Try.underlying9
          have hcv2 := run_str (P := Try.prog) Try.underlying22 Try.underlying5 hs6 9 Try.underlying9
          rw [ht] at hcv1
          have hkf := (hk3.trans hk hk3.le).step hb5
          clear ht hp5 hs6 hown5 hb5 hs5
          go_wp2_with fail
          go_ret
          exact ⟨rfl, hkf.below⟩
        · have hp5 := HPT.out.kept hb5 (Nat.le_refl _)
          have hs6 := HS5.out.kept hb5 (Nat.le_refl _)
          have hcv1 := run_str (P := Try.prog) Try.underlying22 Try.underlying5 hp5 9 Try.underlying9
          have hcv2 := run_str (P := Try.prog) Try.underlying22 Try.underlying5 hs6 9 Try.underlying9
          have hne : ((str tl).toList == (str (sealN l)).toList) = false := by
            rw [str_beq HTS.out HSL.out]
            exact decide_eq_false (fun h => hno (by rw [h]; exact HOS.out.1))
          have hkf := (hk3.trans hk hk3.le).step hb5
          clear hp5 hs6 hb5 hno hs5
          go_wp2_with fail
          go_ret
          exact ⟨rfl, hkf.below⟩
end Go.Proofs.Ytlgegjmnodjioaa
