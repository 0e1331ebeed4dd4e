/- '!=' of two arrays of four bytes. -/
import Derived.Test.YtlgegjmnodjioaaSeal
import Derived.ChangeKeysEq
import Derived.Laws.StructEq
namespace Go.Proofs.Ytlgegjmnodjioaa
open Go.RowKit
theorem neq_guard : Try.prog.eqGuardType Try.prog.depth 37 = false := by kernel_rfl
theorem cells5 : Try.prog.cellsOf 5 = 1 := by kernel_rfl
theorem plain5 : Try.prog.plainKey 5 = true := by kernel_rfl
def four (e0 e1 e2 e3 : Nat) : Array Value := #[.int .u8 (e0 : Int), .int .u8 (e1 : Int), .int .u8 (e2 : Int), .int .u8 (e3 : Int)]
theorem cast_beq (a b : Nat) : ((a : Int) == (b : Int)) = decide (a = b) := by
  rw [Bool.eq_iff_iff]
  simp only [beq_iff_eq, decide_eq_true_eq]
  omega
theorem neq_four' (e0 e1 e2 e3 d0 d1 d2 d3 : Nat) (w : World) :
    (binOp .neq 37 (.agg (four e0 e1 e2 e3)) (.agg (four d0 d1 d2 d3))).run Try.prog w = .ok (.bool (!decide (e0 = d0 ∧ e1 = d1 ∧ e2 = d2 ∧ e3 = d3))) w := by
  obtain ⟨i0, hi, hz0, hz1, hz2⟩ := info_parts byte_info
  rw [run_neq_struct, show (10000 : Nat) = 9999 + 1 from rfl, run_equalIn_array w 9999 _ _ Try.underlying37 hi]
  have hp := fun (xs : Array Value) (off : Nat) (v : Value) (hx : xs[off]? = some v) (w : World) => run_part_plain (P := Try.prog) (w := w) plain5 hx
  have hq : ∀ (a b : Nat) (w : World), (Op.equalIn 9999 5 (.int .u8 (a : Int)) (.int .u8 (b : Int))).run Try.prog w = .ok (decide (a = b)) w := fun a b w => by
    rw [← cast_beq]
    exact run_equalIn_int (P := Try.prog) w 9998 5 .u8 .u8 a b Try.underlying5
  have a0 := hp (four e0 e1 e2 e3) (0 * 1) (.int .u8 (e0 : Int)) rfl
  have a1 := hp (four e0 e1 e2 e3) (1 * 1) (.int .u8 (e1 : Int)) rfl
  have a2 := hp (four e0 e1 e2 e3) (2 * 1) (.int .u8 (e2 : Int)) rfl
  have a3 := hp (four e0 e1 e2 e3) (3 * 1) (.int .u8 (e3 : Int)) rfl
  have b0 := hp (four d0 d1 d2 d3) (0 * 1) (.int .u8 (d0 : Int)) rfl
  have b1 := hp (four d0 d1 d2 d3) (1 * 1) (.int .u8 (d1 : Int)) rfl
  have b2 := hp (four d0 d1 d2 d3) (2 * 1) (.int .u8 (d2 : Int)) rfl
  have b3 := hp (four d0 d1 d2 d3) (3 * 1) (.int .u8 (d3 : Int)) rfl
  simp only [show List.range 4 = [0, 1, 2, 3] from rfl, Op.eqItems, cells5, Sem.run_bind, a0, b0, hq, Result.andThen_ok]
  rcases hc0 : decide (e0 = d0) with _ | _
  · simp at hc0
    simp [hc0]
  · simp only [Bool.not_true, Bool.false_eq_true, if_false, Sem.run_bind, a1, b1, hq, Result.andThen_ok]
    rcases hc1 : decide (e1 = d1) with _ | _
    · simp at hc1
      simp [hc1]
    · simp only [Bool.not_true, Bool.false_eq_true, if_false, Sem.run_bind, a2, b2, hq, Result.andThen_ok]
      rcases hc2 : decide (e2 = d2) with _ | _
      · simp at hc2
        simp [hc2]
      · simp only [Bool.not_true, Bool.false_eq_true, if_false, Sem.run_bind, a3, b3, hq, Result.andThen_ok]
        rcases hc3 : decide (e3 = d3) with _ | _
        · simp at hc3
          simp [hc3]
        · simp only [decide_eq_true_eq] at hc0 hc1 hc2 hc3
          simp only [hc0, hc1, hc2, hc3, Bool.not_true, Bool.false_eq_true, if_false, Sem.run_pure, Result.andThen_ok, and_self, decide_true]
theorem neq_four (e0 e1 e2 e3 d0 d1 d2 d3 : Nat) (w : World) :
    (binOp .neq 37 (.agg #[.int .u8 (e0 : Int), .int .u8 (e1 : Int), .int .u8 (e2 : Int), .int .u8 (e3 : Int)]) (.agg #[.int .u8 (d0 : Int), .int .u8 (d1 : Int), .int .u8 (d2 : Int), .int .u8 (d3 : Int)])).run Try.prog w
      = .ok (.bool (!decide (e0 = d0 ∧ e1 = d1 ∧ e2 = d2 ∧ e3 = d3))) w := neq_four' e0 e1 e2 e3 d0 d1 d2 d3 w
end Go.Proofs.Ytlgegjmnodjioaa
