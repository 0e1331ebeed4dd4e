/- stamp.Less walked: it returns whether the first stamp is earlier; it only makes blocks. -/
import Derived.Test.YtekcechjibigbaaRows
import Derived.Test.YtekcechjibigbaaPlain
import Derived.WalkKit
import Derived.ProofKit
import Derived.Outline
import Derived.WalkLawsBesides
import Derived.WalkSpells
namespace Go.Proofs.Ytekcechjibigbaa
open Go.RowKit

theorem less_any (ah ar bh br : Int) (w : World) :
    Calls Try.prog 9 #[.agg #[.int .i64 ah, .int .i64 ar], .agg #[.int .i64 bh, .int .i64 br]] w fun e w' => e = .returned (.bool (lessB (ah, ar) (bh, br))) ∧ Below w.heap.size w w' := by
  by_cases h : ah = bh
  · subst h
    go_enter Try.func9, Try.ntmps9
    go_wp2
    go_ret
    exact ⟨by simp [lessB], ((Below.refl _ _).alloc (Nat.le_refl _) _).alloc (by simp) _⟩
  · have h' : (ah != bh) = true := by simpa using h
    go_enter Try.func9, Try.ntmps9
    go_wp2
    go_ret
    exact ⟨by simp [lessB, h], ((Below.refl _ _).alloc (Nat.le_refl _) _).alloc (by simp) _⟩
end Go.Proofs.Ytekcechjibigbaa
