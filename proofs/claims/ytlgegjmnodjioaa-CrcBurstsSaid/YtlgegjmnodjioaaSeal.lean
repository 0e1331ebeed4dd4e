/- crc.Seal walked. -/
import Derived.Test.YtlgegjmnodjioaaMade
namespace Go.Proofs.Ytlgegjmnodjioaa
open Go.RowKit
set_option maxRecDepth 10000 in
set_option maxHeartbeats 1000000 in
theorem seal_any {a : Option Addr} {n cap : Nat} {bs : List Nat} {w : World} (h : Bytes w a n cap bs) (hs : ∀ x ∈ bs, x < 256) (h300 : n ≤ 300) :
    Calls Try.prog 17 #[.slice a n cap] w (Made (sealN bs) w) := by
  obtain ⟨d0, d1, d2, d3, hd⟩ : ∃ d0 d1 d2 d3, tailN (sumN bs) = [d0, d1, d2, d3] := ⟨_, _, _, _, rfl⟩
  obtain ⟨i0, hi, hz0, hz1, hz2⟩ := info_parts byte_info
  have hmk := fun W => run_make_rowN (P := Try.prog) 22 5 i0 (.int .u8 0) Try.underlying22 hi hz0 .i64 .i64 0 (n + 4) (by omega) (by rw [hz2]; omega) (by omega) W
  rw [hz1] at hmk
  have e4 : ((n + 4 : Nat) : Int) = (n : Int) + 4 := by omega
  have e0 : ((0 : Nat) : Int) = 0 := rfl
  rw [e4, e0] at hmk
  have hln := h.len
  have HB := Lib.hid h; have HS := Lib.hid hs; have HD := Lib.hid hd; have HMK := Lib.hid hmk; have HLN := Lib.hid hln
  clear h hs hd hmk e4 e0 hln
  go_enter Try.func17, Try.ntmps17
  go_wp2_with fail
  refine (tail_any HB.out HS.out).mono ?_
  rintro e w1 ⟨rfl, hb1⟩
  have hk1 : Kept w.heap.size w w1 := Kept.start hb1
  clear hb1
  rw [HD.out]
  have hcl : (cells [d0, d1, d2, d3]).toArray = #[.int .u8 (d0 : Int), .int .u8 (d1 : Int), .int .u8 (d2 : Int), .int .u8 (d3 : Int)] := rfl
  rw [hcl]
  clear hcl
  go_wp2_with fail
  rw [HMK.out]
  have hblk : Blk (w1.alloc (.cells #[.int .u8 (d0 : Int), .int .u8 (d1 : Int), .int .u8 (d2 : Int), .int .u8 (d3 : Int)] 37)) w1.heap.size 37 (cells [d0, d1, d2, d3]).toArray := Blk.new w1 37 _
  have hkW := hk1.alloc (.cells #[.int .u8 (d0 : Int), .int .u8 (d1 : Int), .int .u8 (d2 : Int), .int .u8 (d3 : Int)] 37)
  have hBW := HB.out.kept hkW.below (Nat.le_refl _)
  have hszW : (w1.alloc (.cells #[.int .u8 (d0 : Int), .int .u8 (d1 : Int), .int .u8 (d2 : Int), .int .u8 (d3 : Int)] 37)).heap.size = w1.heap.size + 1 := by simp
  generalize w1.alloc (.cells #[.int .u8 (d0 : Int), .int .u8 (d1 : Int), .int .u8 (d2 : Int), .int .u8 (d3 : Int)] 37) = W at hblk hkW hBW hszW ⊢
  have hown0 := made_room W w.heap.size (n + 4) hkW.le (by unfold maxLen; omega)
  have hk3 := hkW.alloc (.cells (madeCells (Value.int .u8 0).cells ((n + 4) * 1)) 5)
  have hblk3 := hblk.alloc (.cells (madeCells (Value.int .u8 0).cells ((n + 4) * 1)) 5)
  have hrd := (hBW.reads).alloc (Nat.le_refl _) (.cells (madeCells (Value.int .u8 0).cells ((n + 4) * 1)) 5)
  have hszX : (W.alloc (.cells (madeCells (Value.int .u8 0).cells ((n + 4) * 1)) 5)).heap.size = W.heap.size + 1 := by simp
  generalize W.alloc (.cells (madeCells (Value.int .u8 0).cells ((n + 4) * 1)) 5) = X at hown0 hk3 hblk3 hrd hszX ⊢
  have hle := hk1.le
  have hW : W.heap.size = w1.heap.size + 1 := hszW
  generalize W.heap.size = gs at hown0 hrd hszX hW ⊢
  have HO0 := Lib.hid hown0; have HRD := Lib.hid hrd; have HBL := Lib.hid hblk3
  have HK3 := hk3
  have HW := Lib.hid hW; have HSX := Lib.hid hszX
  clear hW hszX
  clear hblk hkW hBW hszW hown0 hk3 hblk3 hrd hk1 HMK
  go_wp2_with (at_builtin; first
    | (refine wpList_append_any _ rfl (.tmp 11) (.tmp 12) _ rfl w.heap.size 5 i0 _ 1 1 Try.underlying22 hi hz0 hz1 hz2 rfl (by omega) (.slice (some ⟨gs, 0, none⟩) 0 (n + 4)) 0 (cells []) rfl HO0.out gs a n cap (cells bs) rfl HRD.out (cells_one _) (by simp only [maxLen]; omega) (by omega) HK3.le ?_; intro v4 w4 hown4 hg4 hat4
       have hg4' : X.grownBy w4 (some gs) := hg4
       have hbl4 := HBL.out.grown hg4' (by have hW := HW.out; intro h; injection h with h; omega)
       have hrd4 := reads_blk hbl4 w4.heap.size hbl4.lt
       have hk4 : Below w.heap.size w w4 := HK3.below.grown hg4' HK3.le (fun g hg => by have hW := HW.out; injection hg with hg; omega)
       have HO4 := Lib.hid hown4; have HRD4 := Lib.hid hrd4; have HAT4 := Lib.hid hat4
       clear hown4 hrd4 hg4 hg4' hat4 hbl4)
    | (refine wpList_append_any _ rfl (.tmp 14) (.tmp 15) _ rfl w.heap.size 5 i0 _ 1 1 Try.underlying22 hi hz0 hz1 hz2 rfl (by omega) v4 (0 + n) (cells [] ++ cells bs) rfl HO4.out w4.heap.size (some ⟨w1.heap.size, 0, none⟩) 4 4 (cells [d0, d1, d2, d3]) rfl HRD4.out (cells_one _) (by simp only [maxLen]; omega) (by omega) hk4.size ?_; intro v5 w5 hown5 hg5 hat5))
  have e : sealN bs = bs ++ [d0, d1, d2, d3] := by unfold sealN; rw [HD.out]
  have e2 : cells [] ++ cells bs ++ cells [d0, d1, d2, d3] = cells (sealN bs) := by rw [e, cells_append]; rfl
  have e3 : (sealN bs).length = 0 + n + 4 := by rw [seal_len, HLN.out]; omega
  have hb5 : Below w.heap.size w w5 := hk4.grown hg5 hk4.size (fun g hg => by
    have hW := HW.out
    have hX := HSX.out
    rcases HAT4.out with e | e
    · have e' : v4.ownBlock = some gs := e
      rw [e'] at hg; injection hg with hg; omega
    · rw [e] at hg; injection hg with hg; omega)
  go_ret
  refine ⟨v5, rfl, ?_, hb5⟩
  rw [e3, ← e2]
  exact hown5

def le : Nat → Nat → List Nat
  | 0, _ => []
  | k + 1, s => s % 256 :: le k (s / 256)
theorem le_tail (s : Nat) : le 4 s = tailN s := by
  simp only [le, tailN, Nat.div_div_eq_div_mul]
theorem le_next {q s : Nat} (h : q < 4) : le (4 - q) s = s % 256 :: le (4 - (q + 1)) (s / 256) := by
  rw [show 4 - q = (4 - (q + 1)) + 1 by omega]
  rfl
set_option maxRecDepth 10000 in
set_option maxHeartbeats 1000000 in
theorem rseal_any {a : Option Addr} {n cap : Nat} {bs : List Nat} {w : World} (h : Bytes w a n cap bs) (hs : ∀ x ∈ bs, x < 256) (h300 : n ≤ 300) :
    Calls Try.prog 18 #[.slice a n cap] w (Made (sealN bs) w) := by
  obtain ⟨i0, hi, hz0, hz1, hz2⟩ := info_parts byte_info
  have hln := h.len
  have hSl := sum_lt bs
  have hse : bs ++ le 4 (sumN bs) = sealN bs := by rw [le_tail]; rfl
  generalize hT : sumN bs = S at hSl hse
  have HB := Lib.hid h; have HS := Lib.hid hs; have HLN := Lib.hid hln; have HSE := Lib.hid hse; have HT := Lib.hid hT
  have hown0 := own_emptyB w w.heap.size (Nat.le_refl _)
  have hrd := h.reads.alloc (Nat.le_refl _) (.cells #[] 5)
  have HO0 := Lib.hid hown0; have HRD := Lib.hid hrd
  clear h hs hln hse hT hown0 hrd
  go_enter Try.func18, Try.ntmps18
  go_wp2_with fail
  refine (rsum_any HB.out HS.out).mono ?_
  rintro e w1 ⟨rfl, rfl⟩
  rw [HT.out]
  go_wp2_with (at_builtin; refine wpList_append_any _ rfl (.tmp 8) (.tmp 9) _ rfl w.heap.size 5 i0 _ 1 1 Try.underlying22 hi hz0 hz1 hz2 rfl (by omega) (.slice (some ⟨w.heap.size, 0, none⟩) 0 0) 0 (cells []) rfl HO0.out w.heap.size a n cap (cells bs) rfl HRD.out (cells_one _) (by simp only [maxLen]; omega) (by omega) (by simp) ?_; intro v3 w3 hown3 hg3 hat3)
  have hg3' : (w.alloc (.cells #[] 5)).grownBy w3 (some w.heap.size) := hg3
  have hb3 : Below w.heap.size w w3 := ((Below.refl _ _).alloc (Nat.le_refl _) (.cells #[] 5)).grown hg3' (by simp) (fun g hg => by injection hg with hg; exact Nat.le_of_eq hg)
  have e0 : cells [] ++ cells bs = cells bs := rfl
  rw [e0] at hown3
  have e1 : 0 + n = bs.length := by rw [HLN.out]; omega
  rw [e1] at hown3
  have HO3 := Lib.hid hown3; have HB3 := Lib.hid hb3
  clear hown3 hat3 hg3 hg3' hb3 e0 e1 HO0 HRD
  go_loopw [3, 4, 5] (fun sv v i wr => ∃ (q s : Nat) (acc : List Nat), q ≤ 4 ∧ i = .int .i64 q ∧ sv = .int .u32 s ∧ s < 4294967296 ∧ Hid (sealN bs = acc ++ le (4 - q) s) ∧ acc.length = n + q ∧ Hid (wr.ownsRow w.heap.size 5 1 v acc.length (cells acc)) ∧ Hid (Below w.heap.size w wr)) (fun _ _ i _ => 4 - (intOf i).toNat)
  case atStart => exact ⟨0, S, bs, by omega, rfl, rfl, hSl, HSE.out.symm, HLN.out, HO3, HB3⟩
  case round =>
    obtain ⟨q, s, acc, hq, rfl, rfl, hsl, HE, hal, HO, HBB⟩ := hrel
    clear HO3 HB3
    have hle := HBB.out.size
    by_cases hq4 : q < 4
    · have hnx := le_next (s := s) hq4
      have he := HE.out
      rw [hnx] at he
      have HX := Lib.hid he
      have HAL := Lib.hid hal
      have hac : acc.length ≤ 304 := by omega
      clear hnx he hal
      go_wp2_with (at_builtin; refine wpList_append_any _ rfl (.tmp 15) (.tmp 19) _ rfl w.heap.size 5 i0 _ 1 1 Try.underlying22 hi hz0 hz1 hz2 rfl (by omega) u4 acc.length (cells acc) rfl (HO.out.alloc _) (wr.heap.size + 1) (some ⟨wr.heap.size, 0, none⟩) 1 1 [.int .u8 (s % 256)] rfl (reads_one _ _ _) (by intro u hu; simp at hu; subst hu; rfl) (by simp only [maxLen]; omega) (by omega) (Nat.le_trans hle (by simp)) ?_; intro v1 w1 hown1 hg1 _)
      have hlt := HO.out.lt
      go_roundw
      case rel =>
        have ec : cells acc ++ [.int .u8 ((s : Int) % 256)] = cells (acc ++ [s % 256]) := by simp [cells]
        rw [ec] at hown1
        have eL : acc.length + 1 = (acc ++ [s % 256]).length := by simp
        rw [eL] at hown1
        refine ⟨q + 1, s / 256, acc ++ [s % 256], by omega, by go_num, by go_num, by omega, ?_, ?_, hown1, (HBB.out.alloc hle _).grown hg1 (Nat.le_trans hle (by simp)) (fun g hg => (hlt g hg).1)⟩
        · refine Lib.hid ?_
          rw [HX.out]
          simp
        · have h := HAL.out
          simp; omega
      case measure => simp [intOf]; omega
    · obtain rfl : q = 4 := by omega
      go_wp2_with fail
      go_ret
      refine ⟨_, rfl, ?_, HBB.out⟩
      have h := HE.out
      simp only [Nat.sub_self, le, List.append_nil] at h
      rw [h]
      exact HO.out
end Go.Proofs.Ytlgegjmnodjioaa
