/- varint.Put and the reference's, walked: the bytes of the number, in new memory. -/
import Derived.Test.YtjknoiibfoddkaaBytes
namespace Go.Proofs.Ytjknoiibfoddkaa
open Go.RowKit
theorem byte_info : (Try.prog.info? 5).map (fun i => (i.zero, i.size, i.bytes)) = some (some (.int .u8 0), 1, 1) := by kernel_rfl
theorem reads_one (w : World) (e : TypeId) (u : Value) : Reads (w.alloc (.cells #[u] e)) (w.heap.size + 1) 1 (some ⟨w.heap.size, 0, none⟩) 1 [u] := by
  refine ⟨rfl, fun _ => ⟨_, rfl, by simp, fun j v hj => ?_⟩⟩
  have hj0 : j = 0 := by
    rcases Nat.eq_zero_or_pos j with h | h
    · exact h
    · rw [List.getElem?_eq_none (by simp; omega)] at hj; cases hj
  subst hj0
  simp at hj
  subst hj
  exact (Blk.new w e #[u]).cell 0
theorem cells_snoc (acc : List Nat) (c : Nat) : cells acc ++ [.int .u8 (c : Int)] = cells (acc ++ [c]) := by rw [cells_append]; rfl
/-- what a function that makes the bytes bs leaves -/
def Made (bs : List Nat) (w : World) (e : Ending) (w' : World) : Prop := ∃ v, e = .returned v ∧ w'.ownsRow w.heap.size 5 1 v bs.length (cells bs) ∧ Below w.heap.size w w'

set_option maxRecDepth 10000 in
set_option maxHeartbeats 1000000 in
theorem put_any (n : Nat) (w : World) (hn : n < 18446744073709551616) : Calls Try.prog 13 #[.int .u64 n] w (Made (putN n) w) := by
  have hten := putN_ten hn
  have HN := Lib.hid hten; clear hten
  obtain ⟨i0, hi, hz0, hz1, hz2⟩ := info_parts byte_info
  go_enter Try.func13, Try.ntmps13
  go_wp2_with fail
  go_loopw [0, 3] (fun x v wr => ∃ (k : Nat) (acc : List Nat), x = .int .u64 k ∧ Hid (putN n = acc ++ putN k) ∧ wr.ownsRow w.heap.size 5 1 v acc.length (cells acc) ∧ Below w.heap.size w wr ∧ acc.length ≤ 9 ∧ k < 18446744073709551616) (fun x _ _ => (intOf x).toNat)
  case atStart => exact ⟨n, [], rfl, rfl, ⟨rfl, .inl ⟨rfl, rfl⟩⟩, Below.refl _ _, by simp, hn⟩
  case round =>
    obtain ⟨k, acc, rfl, HP, hown, hbel, hacc, hkb⟩ := hrel
    have HO := Lib.hid hown; clear hown
    by_cases hk : 128 ≤ k
    · go_wp2_with (at_builtin; refine wpList_append_any _ rfl (.tmp 6) (.tmp 11) _ rfl w.heap.size 5 i0 _ 1 1 Try.underlying23 hi hz0 hz1 hz2 rfl (by omega) u3 acc.length (cells acc) rfl (HO.out.alloc _) (wr.heap.size + 1) (some ⟨wr.heap.size, 0, none⟩) 1 1 [.int .u8 (k % 128 + 128)] rfl (reads_one _ _ _) (by intro u hu; simp at hu; subst hu; rfl) (by simp only [maxLen]; omega) (by omega) (Nat.le_trans hbel.size (by simp)) ?_; intro v1 w1 hown1 hg1 _)
      have hlt := HO.out.lt
      go_roundw
      case rel =>
        have hP : putN n = (acc ++ [k % 128 + 128]) ++ putN (k / 128) := by rw [HP.out, putN_ge hk]; simp
        have hL := HN.out
        have hp := putN_pos (k / 128)
        rw [hP] at hL
        simp only [List.length_append] at hL
        refine ⟨k / 128, acc ++ [k % 128 + 128], by go_num, hP, ?_, (hbel.alloc hbel.size _).grown hg1 (Nat.le_trans hbel.size (by simp)) (fun g hg => (hlt g hg).1), by simp at hL ⊢; omega, by omega⟩
        have e : cells acc ++ [.int .u8 ((k : Int) % 128 + 128)] = cells (acc ++ [k % 128 + 128]) := by rw [← cells_snoc]; simp
        rw [e] at hown1
        simpa using hown1
      case measure => simp [intOf]; omega
    · go_wp2_with (at_builtin; refine wpList_append_any _ rfl (.tmp 15) (.tmp 18) _ rfl w.heap.size 5 i0 _ 1 1 Try.underlying23 hi hz0 hz1 hz2 rfl (by omega) u3 acc.length (cells acc) rfl (HO.out.alloc _) (wr.heap.size + 1) (some ⟨wr.heap.size, 0, none⟩) 1 1 [.int .u8 k] rfl (reads_one _ _ _) (by intro u hu; simp at hu; subst hu; rfl) (by simp only [maxLen]; omega) (by omega) (Nat.le_trans hbel.size (by simp)) ?_; intro v1 w1 hown1 hg1 _)
      have hlt := HO.out.lt
      go_ret
      have hP : putN n = acc ++ [k] := by rw [HP.out, putN_lt (by omega)]
      refine ⟨v1, rfl, ?_, (hbel.alloc hbel.size _).grown hg1 (Nat.le_trans hbel.size (by simp)) (fun g hg => (hlt g hg).1)⟩
      rw [hP, ← cells_snoc, List.length_append]
      exact hown1
set_option maxRecDepth 10000 in
set_option maxHeartbeats 1000000 in
theorem rput_any (n : Nat) (w : World) (hn : n < 18446744073709551616) : Calls Try.prog 14 #[.int .u64 n] w (Made (putN n) w) := by
  have hten := putN_ten hn
  have HN := Lib.hid hten; clear hten
  obtain ⟨i0, hi, hz0, hz1, hz2⟩ := info_parts byte_info
  go_enter Try.func14, Try.ntmps14
  go_wp2_with fail
  go_loopw [0, 3] (fun x v wr => ∃ (k : Nat) (acc : List Nat), x = .int .u64 k ∧ Hid (putN n = acc ++ putN k) ∧ wr.ownsRow w.heap.size 5 1 v acc.length (cells acc) ∧ Below w.heap.size w wr ∧ acc.length ≤ 9 ∧ k < 18446744073709551616) (fun x _ _ => (intOf x).toNat)
  case atStart => exact ⟨n, [], rfl, rfl, ⟨rfl, .inr ⟨w.heap.size, 0, #[], rfl, Nat.le_refl _, Blk.new w 5 #[], Nat.le_refl _, by unfold maxLen; omega, rfl, rfl⟩⟩, (Below.refl _ _).alloc (Nat.le_refl _) _, by simp, hn⟩
  case round =>
    obtain ⟨k, acc, rfl, HP, hown, hbel, hacc, hkb⟩ := hrel
    have HO := Lib.hid hown; clear hown
    by_cases hk : 128 ≤ k
    · go_wp2_with (at_builtin; refine wpList_append_any _ rfl (.tmp 7) (.tmp 12) _ rfl w.heap.size 5 i0 _ 1 1 Try.underlying23 hi hz0 hz1 hz2 rfl (by omega) u3 acc.length (cells acc) rfl (HO.out.alloc _) (wr.heap.size + 1) (some ⟨wr.heap.size, 0, none⟩) 1 1 [.int .u8 (k % 128 + 128)] rfl (reads_one _ _ _) (by intro u hu; simp at hu; subst hu; rfl) (by simp only [maxLen]; omega) (by omega) (Nat.le_trans hbel.size (by simp)) ?_; intro v1 w1 hown1 hg1 _)
      have hlt := HO.out.lt
      go_roundw
      case rel =>
        have hP : putN n = (acc ++ [k % 128 + 128]) ++ putN (k / 128) := by rw [HP.out, putN_ge hk]; simp
        have hL := HN.out
        have hp := putN_pos (k / 128)
        rw [hP] at hL
        simp only [List.length_append] at hL
        refine ⟨k / 128, acc ++ [k % 128 + 128], by go_num, hP, ?_, (hbel.alloc hbel.size _).grown hg1 (Nat.le_trans hbel.size (by simp)) (fun g hg => (hlt g hg).1), by simp at hL ⊢; omega, by omega⟩
        have e : cells acc ++ [.int .u8 ((k : Int) % 128 + 128)] = cells (acc ++ [k % 128 + 128]) := by rw [← cells_snoc]; simp
        rw [e] at hown1
        simpa using hown1
      case measure => simp [intOf]; omega
    · go_wp2_with (at_builtin; refine wpList_append_any _ rfl (.tmp 16) (.tmp 19) _ rfl w.heap.size 5 i0 _ 1 1 Try.underlying23 hi hz0 hz1 hz2 rfl (by omega) u3 acc.length (cells acc) rfl (HO.out.alloc _) (wr.heap.size + 1) (some ⟨wr.heap.size, 0, none⟩) 1 1 [.int .u8 k] rfl (reads_one _ _ _) (by intro u hu; simp at hu; subst hu; rfl) (by simp only [maxLen]; omega) (by omega) (Nat.le_trans hbel.size (by simp)) ?_; intro v1 w1 hown1 hg1 _)
      have hlt := HO.out.lt
      go_ret
      have hP : putN n = acc ++ [k] := by rw [HP.out, putN_lt (by omega)]
      refine ⟨v1, rfl, ?_, (hbel.alloc hbel.size _).grown hg1 (Nat.le_trans hbel.size (by simp)) (fun g hg => (hlt g hg).1)⟩
      rw [hP, ← cells_snoc, List.length_append]
      exact hown1
end Go.Proofs.Ytjknoiibfoddkaa
