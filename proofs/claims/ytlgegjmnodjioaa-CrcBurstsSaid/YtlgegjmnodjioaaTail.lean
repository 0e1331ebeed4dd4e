/- crc.tail walked: the sum as four bytes. -/
import Derived.Test.YtlgegjmnodjioaaSum
import Derived.Laws.Rows
namespace Go.Proofs.Ytlgegjmnodjioaa
open Go.RowKit
theorem results_cell {P : Program} {fn : Func} {t ty : Nat} (h : fn.results = #[.cell t ty]) {tmps : Array Value} {w : World} {ad : Addr} {v : Value} (hp : tmps.getD t undef = .pointer (some ad))
    (hl : (loadVar ty ad).run P w = .ok v w) : (results fn tmps).run P w = .ok v w := by
  have hp2 : tmps[t]?.getD undef = .pointer (some ad) := by simpa using hp
  simp [results, h, hp2, asAddr, hl]
/-- the four bytes of s, q of them put in -/
def part (s q : Nat) : Array Value := (cells ((tailN s).take q ++ List.replicate (4 - q) 0)).toArray
theorem tail_get {s q : Nat} (h : q < 4) : IntKind.u8.wrap ((s : Int) / 2 ^ (8 * q)) = (((tailN s).getD q 0 : Nat) : Int) := by
  rw [IntKind.wrap_u8]
  rcases (by omega : q = 0 ∨ q = 1 ∨ q = 2 ∨ q = 3) with rfl | rfl | rfl | rfl <;> simp [tailN] <;> omega
theorem part_set {s q : Nat} (h : q < 4) : (part s q).setIfInBounds q (.int .u8 (((tailN s).getD q 0 : Nat) : Int)) = part s (q + 1) := by
  rcases (by omega : q = 0 ∨ q = 1 ∨ q = 2 ∨ q = 3) with rfl | rfl | rfl | rfl <;> rfl
set_option maxRecDepth 10000 in
set_option maxHeartbeats 1000000 in
theorem tail_any {a : Option Addr} {n cap : Nat} {bs : List Nat} {w : World} (h : Bytes w a n cap bs) (hs : ∀ x ∈ bs, x < 256) :
    Calls Try.prog 19 #[.slice a n cap] w fun e w' => e = .returned (.agg (cells (tailN (sumN bs))).toArray) ∧ Below w.heap.size w w' := by
  obtain ⟨S, hS⟩ : ∃ S, S = sumN bs := ⟨_, rfl⟩
  have hSl : S < 4294967296 := by rw [hS]; exact sum_lt bs
  have HB := Lib.hid h; have HS := Lib.hid hs; have HSS := Lib.hid hS
  clear h hs hS
  go_enter Try.func19, Try.ntmps19
  go_wp2_with fail
  have hb0 : Below w.heap.size w ((w.alloc (Obj.cells #[Value.int IntKind.u8 0, Value.int IntKind.u8 0, Value.int IntKind.u8 0, Value.int IntKind.u8 0] 37)).alloc (Obj.cells #[Value.int IntKind.u8 0, Value.int IntKind.u8 0, Value.int IntKind.u8 0, Value.int IntKind.u8 0] 37)) := ((Below.refl _ _).alloc (Nat.le_refl _) _).alloc (by simp) _
  have hk0 : Kept w.heap.size w _ := Kept.start hb0
  have hblk1 : Blk ((w.alloc (Obj.cells #[Value.int IntKind.u8 0, Value.int IntKind.u8 0, Value.int IntKind.u8 0, Value.int IntKind.u8 0] 37)).alloc (Obj.cells #[Value.int IntKind.u8 0, Value.int IntKind.u8 0, Value.int IntKind.u8 0, Value.int IntKind.u8 0] 37)) w.heap.size 37 (part S 0) := (Blk.new w 37 _).alloc _
  have hblk2 : Blk ((w.alloc (Obj.cells #[Value.int IntKind.u8 0, Value.int IntKind.u8 0, Value.int IntKind.u8 0, Value.int IntKind.u8 0] 37)).alloc (Obj.cells #[Value.int IntKind.u8 0, Value.int IntKind.u8 0, Value.int IntKind.u8 0, Value.int IntKind.u8 0] 37)) (w.heap.size + 1) 37 (part S 0) := by
    have := Blk.new (w.alloc (Obj.cells #[Value.int IntKind.u8 0, Value.int IntKind.u8 0, Value.int IntKind.u8 0, Value.int IntKind.u8 0] 37)) 37 #[Value.int IntKind.u8 0, Value.int IntKind.u8 0, Value.int IntKind.u8 0, Value.int IntKind.u8 0]
    have e : (w.alloc (Obj.cells #[Value.int IntKind.u8 0, Value.int IntKind.u8 0, Value.int IntKind.u8 0, Value.int IntKind.u8 0] 37)).heap.size = w.heap.size + 1 := by simp
    rw [e] at this
    exact this
  generalize (w.alloc (Obj.cells #[Value.int IntKind.u8 0, Value.int IntKind.u8 0, Value.int IntKind.u8 0, Value.int IntKind.u8 0] 37)).alloc (Obj.cells #[Value.int IntKind.u8 0, Value.int IntKind.u8 0, Value.int IntKind.u8 0, Value.int IntKind.u8 0] 37) = w1 at hk0 hblk1 hblk2 ⊢
  clear hb0
  refine (sum_any (HB.out.kept hk0.below (Nat.le_refl _)) HS.out).mono ?_
  rintro e w2 ⟨rfl, rfl⟩
  rw [← HSS.out]
  have HB1 := Lib.hid hblk1; have HB2 := Lib.hid hblk2
  clear hblk1 hblk2
  go_wp2_with fail
  go_loopw [8] (fun i wr => ∃ q : Nat, q ≤ 4 ∧ i = .int .i64 q ∧ Hid (Blk wr w.heap.size 37 (part S 0)) ∧ Hid (Blk wr (w.heap.size + 1) 37 (part S q)) ∧ Kept w.heap.size w wr) (fun i _ => 4 - (intOf i).toNat)
  case atStart => exact ⟨0, by omega, rfl, HB1, HB2, hk0⟩
  case round =>
    clear hk0
    obtain ⟨q, hq, rfl, HX, HY, hk⟩ := hrel
    by_cases hq4 : q < 4
    · have hg := tail_get (s := S) hq4
      have hps := part_set (s := S) hq4
      have hst := HY.out.set_ q (.int .u8 (((tailN S).getD q 0 : Nat) : Int))
      rw [hps] at hst
      have hfar := HX.out.far (p := ⟨w.heap.size + 1, q, none⟩) (by simp) (.int .u8 (((tailN S).getD q 0 : Nat) : Int))
      have hk' := hk.setCell (p := ⟨w.heap.size + 1, q, none⟩) (by simp) (.int .u8 (((tailN S).getD q 0 : Nat) : Int))
      obtain ⟨u, hcell⟩ : ∃ u, wr.cell? ⟨w.heap.size + 1, q, none⟩ = some u := by
        rw [HY.out.cell q]
        have : q < (part S q).size := by simp [part, cells, tailN]; omega
        exact ⟨_, Array.getElem?_eq_getElem this⟩
      have hfr := HY.out.frozen q
      generalize (tailN S).getD q 0 = d at hg hst hfar hk'
      have HG := Lib.hid hst; have HF := Lib.hid hfar; have HK := Lib.hid hk'
      clear hps hst hfar hk'
      go_wp2_with fail
      go_roundw
      case rel => exact ⟨q + 1, by omega, by go_num, HF, HG, HK.out⟩
      case measure => simp [intOf]; omega
    · obtain rfl : q = 4 := by omega
      obtain ⟨d0, d1, d2, d3, hd⟩ : ∃ d0 d1 d2 d3, tailN S = [d0, d1, d2, d3] := ⟨_, _, _, _, rfl⟩
      have c0 : wr.cell? ⟨w.heap.size + 1, 0, none⟩ = some (.int .u8 (d0 : Int)) := by rw [HY.out.cell 0]; unfold part; rw [hd]; rfl
      have c1 : wr.cell? ⟨w.heap.size + 1, 1, none⟩ = some (.int .u8 (d1 : Int)) := by rw [HY.out.cell 1]; unfold part; rw [hd]; rfl
      have c2 : wr.cell? ⟨w.heap.size + 1, 2, none⟩ = some (.int .u8 (d2 : Int)) := by rw [HY.out.cell 2]; unfold part; rw [hd]; rfl
      have c3 : wr.cell? ⟨w.heap.size + 1, 3, none⟩ = some (.int .u8 (d3 : Int)) := by rw [HY.out.cell 3]; unfold part; rw [hd]; rfl
      have x0 : wr.cell? ⟨w.heap.size, 0, none⟩ = some (.int .u8 0) := by rw [HX.out.cell 0]; rfl
      have x1 : wr.cell? ⟨w.heap.size, 1, none⟩ = some (.int .u8 0) := by rw [HX.out.cell 1]; rfl
      have x2 : wr.cell? ⟨w.heap.size, 2, none⟩ = some (.int .u8 0) := by rw [HX.out.cell 2]; rfl
      have x3 : wr.cell? ⟨w.heap.size, 3, none⟩ = some (.int .u8 0) := by rw [HX.out.cell 3]; rfl
      have f0 := HX.out.frozen 0
      have f1 := HX.out.frozen 1
      have f2 := HX.out.frozen 2
      have f3 := HX.out.frozen 3
      have HD := Lib.hid hd
      clear hd
      go_wp2_with fail
      have hbl := (((HX.out.set_ 0 (.int .u8 (d0 : Int))).set_ 1 (.int .u8 (d1 : Int))).set_ 2 (.int .u8 (d2 : Int))).set_ 3 (.int .u8 (d3 : Int))
      have hkk := (((hk.setCell (p := ⟨w.heap.size, 0, none⟩) (Nat.le_refl _) (.int .u8 (d0 : Int))).setCell (p := ⟨w.heap.size, 1, none⟩) (Nat.le_refl _) (.int .u8 (d1 : Int))).setCell (p := ⟨w.heap.size, 2, none⟩) (Nat.le_refl _) (.int .u8 (d2 : Int))).setCell (p := ⟨w.heap.size, 3, none⟩) (Nat.le_refl _) (.int .u8 (d3 : Int))
      have hcs : ((((part S 0).setIfInBounds 0 (.int .u8 (d0 : Int))).setIfInBounds 1 (.int .u8 (d1 : Int))).setIfInBounds 2 (.int .u8 (d2 : Int))).setIfInBounds 3 (.int .u8 (d3 : Int)) = (cells (tailN (sumN bs))).toArray := by
        rw [← HSS.out, HD.out]; rfl
      rw [hcs] at hbl
      (try simp only [Exit.inBlock, Exit.then])
      refine bodyPost_ret (results_cell rfl rfl (run_loadVar_row _ _ _ _ _ _ _ hbl Try.underlying37 rfl (by kernel_rfl))) rfl ?_
      exact ⟨rfl, hkk.below⟩
end Go.Proofs.Ytlgegjmnodjioaa
