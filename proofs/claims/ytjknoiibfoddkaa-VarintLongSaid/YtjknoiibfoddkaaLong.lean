/- kithlaw01.VarintLong walked: it returns true. -/
import Derived.Test.YtjknoiibfoddkaaAll
import Derived.Test.YtjknoiibfoddkaaPlain2
import Derived.Laws.MakeOwn
namespace Go.Proofs.Ytjknoiibfoddkaa
open Go.RowKit
theorem run_make_rowN {P : Program} (t e : TypeId) (i : TypeInfo) (z : Value) (ht : P.underlying t = some (.slice e)) (hi : P.info? e = some i) (hz : i.zero = some z)
    (kl kc : IntKind) (n c : Nat) (hnc : n ≤ c) (hbytes : i.bytes * c ≤ 281474976710656) (h63 : c ≤ 9223372036854775807) (w : World) :
    (Instr.makeSlice t (.int kl (n : Int)) (.int kc (c : Int))).run P w = .ok (.slice (some ⟨w.heap.size, 0, none⟩) n c) (w.alloc (.cells (madeCells z.cells (c * i.size)) e)) := by
  have hb : (i.bytes : Int) * (c : Int) ≤ 281474976710656 := by
    have h : ((i.bytes * c : Nat) : Int) ≤ 281474976710656 := by omega
    rwa [Int.natCast_mul] at h
  have hr := run_make (P := P) w t e i z ht hi hz kl kc n c (by omega) (by omega) hb (by omega)
  simp only [Int.toNat_natCast] at hr
  exact hr
theorem or_u8 {c : Nat} (h : c < 256) : ∃ d : Nat, bits .or .u8 (c : Int) 128 = (d : Int) ∧ 128 ≤ d ∧ d < 256 := by
  refine ⟨c ||| 128, ?_, Nat.right_le_or, Nat.or_lt_two_pow (n := 8) (by omega) (by omega)⟩
  have := u8_or_nat c 128 h (by omega)
  simpa using this
/-- all of them go on: too short, or no number, if there are ten -/
theorem take_all {l : List Nat} (h : ∀ x ∈ l, 128 ≤ x) : takeN (l.take 10) = (0, 0, if l.length < 10 then 2 else 3) := by
  rw [takeN_none (fun j hj => ?_)]
  · rw [List.length_take]
    split <;> split <;> first | rfl | omega
  · exact h _ (List.mem_of_mem_take (getD_mem hj))
/-- what goes on, and a nought behind it: no number -/
theorem take_nought {l : List Nat} (h : ∀ x ∈ l, 128 ≤ x) (h0 : 0 < l.length) (h10 : l.length ≤ 10) : takeN ((l ++ [0]).take 10) = (0, 0, 3) := by
  rcases Nat.lt_or_ge l.length 10 with h9 | h9
  · have e : (l ++ [0]).take 10 = l ++ [0] := List.take_of_length_le (by simp; omega)
    rw [e]
    have g : (l ++ [0]).getD l.length 0 = 0 := by simp [List.getD]
    refine takeN_bad (k := l.length) (by simp) (fun j hj => ?_) (by rw [g]; omega) (Or.inl ⟨h0, g⟩)
    have g2 : (l ++ [0]).getD j 0 = l.getD j 0 := by simp [List.getD, List.getElem?_append, hj]
    rw [g2]
    exact h _ (getD_mem hj)
  · have e : (l ++ [0]).take 10 = l.take 10 := by rw [List.take_append_of_le_length (by omega)]
    rw [e, take_all h, if_neg (by omega)]
theorem cells_set (bs : List Nat) (i d : Nat) : (cells bs).set i (.int .u8 (d : Int)) = cells (bs.set i d) := by simp [cells, List.map_set]
theorem set_next (q k d : Nat) (h : q < k) : (List.replicate q d ++ List.replicate (k - q) 0).set q d = List.replicate (q + 1) d ++ List.replicate (k - (q + 1)) 0 := by
  have e : k - q = (k - (q + 1)) + 1 := by omega
  rw [List.set_append_right _ _ (by simp), e, List.length_replicate, Nat.sub_self, List.replicate_succ, List.set_cons_zero, List.replicate_succ']
  simp
theorem own_form {w : World} {base e n : Nat} {v : Value} {xs : List Value} (h : w.ownsRow base e 1 v n xs) (hn : 0 < n) : ∃ g c, v = .slice (some ⟨g, 0, none⟩) n c ∧ base ≤ g ∧ n ≤ c := by
  rcases h.2 with ⟨_, rfl⟩ | ⟨g, cap, cur, rfl, hb, _, hnc, _⟩
  · omega
  · exact ⟨g, cap, rfl, hb, hnc⟩
theorem or_last {e : Nat} (h : e < 128) : bits .or .u8 (e : Int) 128 = ((e + 128 : Nat) : Int) := by
  have h1 := u8_or_nat e 128 (by omega) (by omega)
  have h2 : e ||| 128 = e + 128 := by
    have h3 := Nat.two_pow_add_eq_or_of_lt (b := e) (i := 7) (by omega) 1
    have h4 : 2 ^ 7 * 1 = 128 := by decide
    rw [h4] at h3
    rw [Nat.or_comm, ← h3, Nat.add_comm]
  rw [h2] at h1
  simpa using h1
theorem set_goes (n L : Nat) (hL : L = (putN n).length) : ∀ x ∈ (putN n).set (L - 1) ((putN n).getD (L - 1) 0 + 128), 128 ≤ x ∧ x < 256 := by
  intro x hx
  have hp := putN_pos n
  have hl := (put_last n).1
  rw [← hL] at hl hp
  obtain ⟨i, hi, rfl⟩ := List.getElem_of_mem hx
  rw [List.length_set] at hi
  rw [List.getElem_set]
  split
  · omega
  · have h1 := put_goes n i (by omega)
    have h2 := putN_small n (putN n)[i] (List.getElem_mem _)
    simp [List.getD, hi] at h1
    exact ⟨h1, h2⟩
theorem made_own (w : World) (B k : Nat) (hB : B ≤ w.heap.size) (hk : k ≤ maxLen) : (w.alloc (.cells (madeCells (Value.int .u8 0).cells (k * 1)) 5)).ownsRow B 5 1 (.slice (some ⟨w.heap.size, 0, none⟩) k k) k (cells (List.replicate k 0)) := by
  refine ⟨by simp [cells], .inr ⟨w.heap.size, k, _, rfl, hB, Blk.new w 5 _, Nat.le_refl _, hk, by simp [size_madeCells], ?_⟩⟩
  have e : (Value.int .u8 0).cells = #[.int .u8 0] := rfl
  rw [e, toList_madeCells_one]
  simp [cells]

theorem reads_one_of {w : World} {g : Nat} (h : w.heap.size = g) (e : TypeId) (u : Value) : Reads (w.alloc (.cells #[u] e)) (g + 1) 1 (some ⟨g, 0, none⟩) 1 [u] := by
  subst h
  exact reads_one w e u
set_option maxRecDepth 10000 in
set_option maxHeartbeats 2000000 in
theorem long_any (n : Nat) (my cy : Int) (w : World) (hn : n < 18446744073709551616) (hm0 : 0 ≤ my) (hm1 : my ≤ 255) (hc0 : 0 ≤ cy) (hc1 : cy ≤ 255) :
    Calls Try.prog 8 #[.int .u64 n, .int .u8 my, .int .u8 cy] w fun e w' => e = .returned (.bool true) ∧ Below w.heap.size w w' := by
  obtain ⟨c, rfl⟩ := Int.eq_ofNat_of_zero_le hc0
  obtain ⟨k, hk⟩ : ∃ k : Nat, my % 16 = (k : Int) := Int.eq_ofNat_of_zero_le (by omega)
  have hk16 : k < 16 := by omega
  obtain ⟨d, hd, hd1, hd2⟩ := or_u8 (c := c) (by omega)
  have HD := Lib.hid hd; have HK := Lib.hid hk
  obtain ⟨i0, hi, hz0, hz1, hz2⟩ := info_parts byte_info
  have hmk := fun W => run_make_rowN (P := Try.prog) 23 5 i0 (.int .u8 0) Try.underlying23 hi hz0 .i64 .i64 k k (Nat.le_refl _) (by rw [hz2]; omega) (by omega) W
  rw [hz1] at hmk
  have HMK := Lib.hid hmk
  clear hd hk hmk
  go_enter Try.func8, Try.ntmps8
  go_wp2_with fail
  refine (shown_any _).mono ?_
  rintro e w1 ⟨rfl, hb1⟩
  have hk1 : Kept w.heap.size w w1 := Kept.start hb1
  clear hb1
  go_wp2_with fail
  rw [HK.out, HMK.out]
  have hown0 := made_own w1 w.heap.size k hk1.le (by unfold maxLen; omega)
  have hk2 := hk1.alloc (.cells (madeCells (Value.int .u8 0).cells (k * 1)) 5)
  have hg2 : w.heap.size ≤ w1.heap.size := hk1.le
  generalize w1.alloc (.cells (madeCells (Value.int .u8 0).cells (k * 1)) 5) = w2 at hown0 hk2 ⊢
  generalize w1.heap.size = g at hown0 hg2 ⊢
  have HO0 := Lib.hid hown0
  clear hown0 HMK HK hk1
  go_wp2_with fail
  go_loopw [9] (fun i wr => ∃ q : Nat, q ≤ k ∧ i = .int .i64 q ∧ Hid (wr.ownsRow w.heap.size 5 1 (.slice (some ⟨g, 0, none⟩) k k) k (cells (List.replicate q d ++ List.replicate (k - q) 0))) ∧ Kept w.heap.size w wr) (fun i _ => k - (intOf i).toNat)
  case atStart => exact ⟨0, Nat.zero_le _, rfl, by simpa using HO0, hk2⟩
  case round =>
    clear hk2
    obtain ⟨q, hq, rfl, HOW, hk2⟩ := hrel
    by_cases hqk : q < k
    · have hcell := HOW.out.cellAt q (by omega)
      rw [cells_get (by simp; omega)] at hcell
      have hfr := HOW.out.frozenAt q
      have hst := (HOW.out.stored q (.int .u8 (d : Int))).1
      have hset : (List.replicate q d ++ List.replicate (k - q) 0).set q d = List.replicate (q + 1) d ++ List.replicate (k - (q + 1)) 0 := set_next q k d hqk
      rw [cells_set, hset] at hst
      have HST := Lib.hid hst
      generalize ((List.replicate q d ++ List.replicate (k - q) 0).getD q 0 : Nat) = old at hcell
      have hd := HD.out
      clear hst hset
      go_wp2_with fail
      go_roundw
      case rel => exact ⟨q + 1, by omega, by go_num, HST.out, hk2.setCell hg2 _⟩
      case measure => simp [intOf]; omega
    · obtain rfl : k = q := by omega
      have hall : List.replicate k d ++ List.replicate (k - k) 0 = List.replicate k d := by simp
      have how := HOW.out
      rw [hall] at how
      obtain ⟨al, cl, hal, hbl⟩ := Bytes.of_own how
      injection hal with hal1 _ hal2
      subst hal1 hal2
      have hbs : ∀ x ∈ List.replicate k d, x < 256 := fun x hx => by rw [List.eq_of_mem_replicate hx]; exact hd2
      have hta := take_all (l := List.replicate k d) (fun x hx => by rw [List.eq_of_mem_replicate hx]; exact hd1)
      rw [List.length_replicate] at hta
      obtain ⟨ev, he, hev⟩ : ∃ ev, (if k < 10 then 2 else 3) = ev ∧ ((k < 10 ∧ ev = 2) ∨ (¬ k < 10 ∧ ev = 3)) := by
        by_cases hkk : k < 10
        · exact ⟨2, if_pos hkk, .inl ⟨hkk, rfl⟩⟩
        · exact ⟨3, if_neg hkk, .inr ⟨hkk, rfl⟩⟩
      rw [he] at hta
      have HEV := Lib.hid hev
      clear he hev
      have HBL := Lib.hid hbl; have HBS := Lib.hid hbs; have HTA := Lib.hid hta
      clear how hall hbl hbs hta HOW HO0 hqk
      go_wp2_with fail
      refine (take_any HBL.out HBS.out).mono ?_
      rintro e w3 hT
      unfold TakePost at hT
      rw [HTA.out] at hT
      obtain ⟨rfl, rfl⟩ := hT
      go_wp2_with fail
      refine (put_any n _ hn).mono ?_
      rintro e w4 ⟨v4, rfl, hown4, hb4⟩
      obtain ⟨L, hL⟩ : ∃ L, L = (putN n).length := ⟨_, rfl⟩
      have hten := putN_ten hn
      have hpos := putN_pos n
      rw [← hL] at hown4 hten hpos
      obtain ⟨g4, c4, hv4, hg4, hc4⟩ := own_form hown4 hpos
      rw [hv4] at hown4 ⊢
      try rw [← hL]
      have hk4 := hk2.step hb4
      have hlast := (put_last n).1
      rw [← hL] at hlast
      have hcell := hown4.cellAt (L - 1) (by omega)
      rw [cells_get (by rw [← hL]; omega)] at hcell
      have hfr := hown4.frozenAt (L - 1)
      have hor := or_last (e := (putN n).getD (L - 1) 0) hlast
      have hst := (hown4.stored (L - 1) (.int .u8 (((putN n).getD (L - 1) 0 + 128 : Nat) : Int))).1
      rw [cells_set] at hst
      have hgo : ∀ x ∈ (putN n).set (L - 1) ((putN n).getD (L - 1) 0 + 128), 128 ≤ x ∧ x < 256 := set_goes n L hL
      have hsl : ((putN n).set (L - 1) ((putN n).getD (L - 1) 0 + 128)).length = L := by rw [List.length_set, hL]
      generalize (putN n).set (L - 1) ((putN n).getD (L - 1) 0 + 128) = P at hst hgo hsl
      generalize (putN n).getD (L - 1) 0 = el at hcell hlast hor hst
      have HGO := Lib.hid hgo; have HSL := Lib.hid hsl
      have hLz : ((L : Int) == 0) = false := by simp; omega
      have hLi : ((L : Int) - 1).toNat = L - 1 := by omega
      have hL1 : (0 : Int) ≤ (L : Int) - 1 := by omega
      have hgg : w.heap.size ≤ g4 := Nat.le_trans hk2.le hg4
      have hsm : ∀ x ∈ P ++ [0], x < 256 := by
        intro x hx
        rcases List.mem_append.1 hx with h | h
        · exact (hgo x h).2
        · simp at h; omega
      have htn := take_nought (fun x hx => (hgo x hx).1) (by omega) (by omega)
      have HSM := Lib.hid hsm; have HTN := Lib.hid htn
      clear hsm htn
      obtain ⟨q, hqd⟩ : ∃ q, q = L - 1 := ⟨_, rfl⟩
      rw [← hqd] at hcell hfr hLi hst
      have e128 : ((el + 128 : Nat) : Int) = (el : Int) + 128 := by omega
      rw [e128] at hst
      have hk5 := hk4.setCell (p := ⟨g4, q, none⟩) hgg (.int .u8 ((el : Int) + 128))
      have HST := Lib.hid hst
      have hwr := hk2.le
      have hwr4 : wr.heap.size ≤ w4.heap.size := hb4.size
      have HL := Lib.hid hL
      clear hgo hsl hst hv4 hown4 hb4 HTA HBL HBS hqd hL e128
      have hz5 : (w4.setCell ⟨g4, q, none⟩ (.int .u8 ((el : Int) + 128))).heap.size = w4.heap.size := by simp [World.setCell]
      go_wp2_with (at_builtin; refine wpList_append_any _ rfl (.tmp 58) (.tmp 59) _ rfl wr.heap.size 5 i0 _ 1 1 Try.underlying23 hi hz0 hz1 hz2 rfl (by omega) (.slice (some ⟨g4, 0, none⟩) L c4) L (cells P) rfl (HST.out.alloc _) _ _ 1 1 [.int .u8 0] rfl (reads_one_of hz5 _ _) (by intro u hu; simp at hu; subst hu; rfl) (by simp only [maxLen]; omega) (by omega) (by simp [hz5]; omega) ?_; intro v6 w6 hown6 hg6 _)
      have hk6 : Below w.heap.size w w6 := by
        have ha := hk5.alloc (.cells #[.int .u8 0] 5)
        exact ha.below.grown hg6 ha.le (fun g' hg => by have hg2 : some g4 = some g' := hg; injection hg2 with hg2; rw [← hg2]; exact hgg)
      have e0 : cells P ++ [.int .u8 0] = cells (P ++ [0]) := by simp [cells]
      rw [e0] at hown6
      obtain ⟨a6, c6, hv6, hp6⟩ := Bytes.of_own hown6
      rw [hv6]
      have HP6 := Lib.hid hp6
      clear hown6 hg6 hp6 e0 hv6 hk5 HST hcell hfr hor
      go_wp2_with fail
      refine (take_any HP6.out HSM.out).mono ?_
      rintro e w7 hT
      unfold TakePost at hT
      rw [HTN.out] at hT
      obtain ⟨rfl, rfl⟩ := hT
      rcases HEV.out with ⟨hk10, rfl⟩ | ⟨hk10, rfl⟩
      · have hge : decide ((10 : Int) ≤ k) = false := by simp; omega
        go_wp2_with fail
        go_ret
        exact ⟨rfl, hk6⟩
      · have hge : decide ((10 : Int) ≤ k) = true := by simp; omega
        go_wp2_with fail
        go_ret
        exact ⟨rfl, hk6⟩
end Go.Proofs.Ytjknoiibfoddkaa
