/- kithlaw02.CrcParts walked: it returns true. -/
import Derived.Test.YtlgegjmnodjioaaShown
namespace Go.Proofs.Ytlgegjmnodjioaa
open Go.RowKit
section
variable {P : Program} (w : World)
theorem wpList_append_any_g {ops : Array Oper} {rest : List Oper} {o : Oper} {a : Act} {Q : Exit → Act → World → Prop} (hgd : Region.wanted o (yielded ops a.tmps) = true) (s x : Operand) (t : TypeId)
    (ho : o.op = .call { callee := .builtin .append, args := #[s, x], argTypes := #[t, t] })
    (base : Nat) (e : TypeId) (i : TypeInfo) (z : Value) (size bytes : Nat) (ht : P.underlying t = some (.slice e)) (hi : P.info? e = some i) (hz : i.zero = some z)
    (hsize : i.size = size) (hby : i.bytes = bytes) (hzs : z.cells.size = size) (hsz : 0 < size)
    (v : Value) (n : Nat) (xs : List Value) (hs : a.eval s = v) (hown : w.ownsRow base e size v n xs)
    (B : Nat) (A : Option Addr) (m c : Nat) (news : List Value) (hx : a.eval x = .slice A m c) (hr : Reads w B size A m news) (h1 : ∀ u ∈ news, u.oneCell' = true)
    (h63 : n + m ≤ maxLen) (hbytes : (n + m) * bytes ≤ 140737488355328) (hbase : base ≤ w.heap.size)
    (h : ∀ v' w', w'.ownsRow base e size v' (n + m) (xs ++ news) → w.grownBy w' v.ownBlock → (v'.ownBlock = v.ownBlock ∨ v'.ownBlock = some w.heap.size) → wpList P ops Q rest (a.put o.dst v') w') : wpList P ops Q (o :: rest) a w :=
  wpList_step fun K hK => by
    rw [if_pos hgd]
    exact wp_append_any w s x t ho base e i z size bytes ht hi hz hsize hby hzs hsz v n xs hs hown B A m c news hx hr h1 h63 hbytes hbase fun v' w' h2 h3 h4 => hK _ _ (h v' w' h2 h3 h4)
end
theorem not_sum (l : List Nat) (h : ∀ x ∈ l, x < 256) : bits .xor .u32 IntKind.u32.max ((sumN l : Nat) : Int) = ((regN ones l : Nat) : Int) := by
  rw [not_u32 (sum_lt l)]
  have h1 := ones_twice (reg_lt h (r := ones) (by decide))
  have e : 4294967295 - sumN l = regN ones l := h1
  rw [e]
set_option maxRecDepth 10000 in
set_option maxHeartbeats 2000000 in
theorem parts_any (a1 : Option Addr) (n1 c1 : Nat) (bs1 : List Nat) (a2 : Option Addr) (n2 c2 : Nat) (bs2 : List Nat) (w : World)
    (h1 : Bytes w a1 n1 c1 bs1) (hs1 : ∀ x ∈ bs1, x < 256) (h2 : Bytes w a2 n2 c2 bs2) (hs2 : ∀ x ∈ bs2, x < 256) :
    Calls Try.prog 4 #[.slice a1 n1 c1, .slice a2 n2 c2] w fun e w' => e = .returned (.bool true) ∧ Below w.heap.size w w' := by
  obtain ⟨m1, hm1⟩ : ∃ m1, m1 = min n1 300 := ⟨_, rfl⟩
  obtain ⟨m2, hm2⟩ : ∃ m2, m2 = min n2 300 := ⟨_, rfl⟩
  have hl1 : m1 ≤ 300 := by omega
  have hl2 : m2 ≤ 300 := by omega
  have hcut1 := h1.cut m1 (by omega)
  have hcut2 := h2.cut m2 (by omega)
  have hsm1 : ∀ x ∈ bs1.take m1, x < 256 := fun x hx => hs1 x (List.mem_of_mem_take hx)
  have hsm2 : ∀ x ∈ bs2.take m2, x < 256 := fun x hx => hs2 x (List.mem_of_mem_take hx)
  have HB1 := Lib.hid h1; have HB2 := Lib.hid h2; have HM1 := Lib.hid hm1; have HM2 := Lib.hid hm2
  generalize bs1.take m1 = l1 at hcut1 hsm1
  generalize bs2.take m2 = l2 at hcut2 hsm2
  have hns := not_sum l1 hsm1
  have hR := reg_lt hsm1 (r := ones) (by decide)
  have hT : 4294967295 - regN (regN ones l1) l2 = sumN (l1 ++ l2) := by unfold sumN; rw [reg_append]
  have hsl : ∀ x ∈ l1 ++ l2, x < 256 := by
    intro x hx
    rcases List.mem_append.1 hx with h | h
    · exact hsm1 x h
    · exact hsm2 x h
  have hlen2 := hcut2.len
  have hmc2 : m2 ≤ c2 := hcut2.1
  have hcm2 : c2 ≤ 9223372036854775807 := by have := hcut2.2.1; simpa [maxLen] using this
  generalize hRe : regN ones l1 = R at hns hR hT
  generalize hTe : regN R l2 = T at hT
  have HC1 := Lib.hid hcut1; have HC2 := Lib.hid hcut2; have HS1 := Lib.hid hsm1; have HS2 := Lib.hid hsm2; have HSL := Lib.hid hsl; have HT := Lib.hid hT; have HTe := Lib.hid hTe; have HLN2 := Lib.hid hlen2
  clear h1 h2 hm1 hm2 hcut1 hcut2 hsm1 hsm2 hs1 hs2 hsl hT hTe hRe hlen2
  obtain ⟨i0, hi, hz0, hz1, hz2⟩ := info_parts byte_info
  go_enter Try.func4, Try.ntmps4
  go_wp2_with fail
  refine (shown_any _).mono ?_
  rintro e w1 ⟨rfl, hb1⟩
  have hk1 : Kept w.heap.size w w1 := Kept.start hb1
  clear hb1
  go_wp2_with fail
  refine (few_is HM1.out (HB1.out.kept hk1.below (Nat.le_refl _))).mono ?_
  rintro e w2 ⟨rfl, rfl⟩
  go_wp2_with fail
  refine (few_is HM2.out (HB2.out.kept hk1.below (Nat.le_refl _))).mono ?_
  rintro e w2 ⟨rfl, rfl⟩
  have hx1 := HC1.out.kept hk1.below (Nat.le_refl _)
  have hx2 := HC2.out.kept hk1.below (Nat.le_refl _)
  have HX1 := Lib.hid hx1; have HX2 := Lib.hid hx2
  clear hx1 hx2
  go_wp2_with fail
  refine (sum_any HX1.out HS1.out).mono ?_
  rintro e w2 ⟨rfl, rfl⟩
  go_wp2_with fail
  clear hns
  go_loop [8, 9] (fun v i => ∃ q x : Nat, q ≤ m2 ∧ i = .int .i64 q ∧ v = .int .u32 x ∧ x < 4294967296 ∧ Hid (regN x (l2.drop q) = T)) (fun _ i => m2 - (intOf i).toNat)
  case atStart => exact ⟨0, R, by omega, rfl, rfl, hR, HTe⟩
  case round =>
    obtain ⟨q, x, hq, rfl, rfl, hxl, HX⟩ := hrel
    by_cases hqn : q < m2
    · obtain ⟨b, off, hab, hbl, hce⟩ := HX2.out.pos (by omega)
      subst hab
      have hcq := hce q hqn
      have hcl := getD_small HS2.out q
      have hn := reg_next (l := l2) (q := q) (x := x) (by rw [HLN2.out]; exact hqn)
      rw [HX.out] at hn
      generalize l2.getD q 0 = c at hcq hcl hn
      have hstl := step_lt hxl hcl
      have HN := Lib.hid hn.symm
      clear hn hce
      go_wp2_with fail
      refine (step_any x c _ hxl hcl).mono ?_
      rintro e w' ⟨rfl, rfl⟩
      go_wp2_with fail
      go_round
      case rel => exact ⟨q + 1, _, by omega, by go_num, rfl, hstl, HN⟩
      case measure => simp [intOf]; omega
    · obtain rfl : m2 = q := by omega
      have hX : x = T := by
        have h := HX.out
        rw [← HLN2.out, List.drop_length] at h
        exact h
      subst hX
      have hno := not_u32 hxl
      rw [HT.out] at hno
      have hown0 := own_emptyB w1 w.heap.size hk1.le
      have hrd := HX1.out.reads.alloc (Nat.le_refl _) (.cells #[] 5)
      have HO0 := Lib.hid hown0; have HRD := Lib.hid hrd; have HK1 := hk1
      clear hown0 hrd
      go_wp2_with (at_builtin; first
        | (refine wpList_append_any_g _ (by rfl) (.tmp 34) (.tmp 35) _ rfl w.heap.size 5 i0 _ 1 1 Try.underlying22 hi hz0 hz1 hz2 rfl (by omega) (.slice (some ⟨w1.heap.size, 0, none⟩) 0 0) 0 (cells []) rfl HO0.out w1.heap.size a1 m1 c1 (cells l1) rfl HRD.out (cells_one _) (by simp only [maxLen]; omega) (by omega) (Nat.le_trans HK1.le (by simp)) ?_; intro v3 w3 hown3 hg3 hat3
           have hg3' : (w1.alloc (.cells #[] 5)).grownBy w3 (some w1.heap.size) := hg3
           have hb3 : Below w1.heap.size w1 w3 := ((Below.refl _ _).alloc (Nat.le_refl _) (.cells #[] 5)).grown hg3' (by simp) (fun g hg => by injection hg with hg; exact Nat.le_of_eq hg)
           have hat3' : v3.ownBlock = some w1.heap.size ∨ v3.ownBlock = some (w1.alloc (.cells #[] 5)).heap.size := hat3
           have hk3 := HK1.step hb3
           have hrd3 := (HX2.out.kept hb3 (Nat.le_refl _)).reads
           have HO3 := Lib.hid hown3; have HRD3 := Lib.hid hrd3; have HAT3 := Lib.hid hat3'; have HB3 := Lib.hid hb3
           clear hown3 hrd3 hat3 hat3' hg3 hg3' hb3)
        | (refine wpList_append_any_g _ (by rfl) (.tmp 36) (.tmp 37) _ rfl w.heap.size 5 i0 _ 1 1 Try.underlying22 hi hz0 hz1 hz2 rfl (by omega) v3 (0 + m1) (cells [] ++ cells l1) rfl HO3.out w3.heap.size a2 m2 c2 (cells l2) rfl HRD3.out (cells_one _) (by simp only [maxLen]; omega) (by omega) hk3.le ?_; intro v4 w4 hown4 hg4 hat4))
      have hb4 : Below w1.heap.size w1 w4 := HB3.out.grown hg4 HB3.out.size (fun g hg => by
        rcases HAT3.out with e | e
        · rw [e] at hg; injection hg with hg; omega
        · rw [e] at hg; injection hg with hg; simp at hg; omega)
      have hk4 := hk1.step hb4
      have eF : cells [] ++ cells l1 ++ cells l2 = cells (l1 ++ l2) := by simp [cells]
      rw [eF] at hown4
      obtain ⟨a4, c4, hv4, hp4⟩ := Bytes.of_own hown4
      rw [hv4]
      refine (sum_any hp4 HSL.out).mono ?_
      rintro e w5 ⟨rfl, rfl⟩
      go_wp2_with fail
      go_ret
      exact ⟨rfl, hk4.below⟩
end Go.Proofs.Ytlgegjmnodjioaa
