/-
  No cell of these rows narrows 'for every input' (looked for: loops, veiled, ifaces, maps, wideKeys, modest, calm, conditions, laid).
  DERIVED. THE GIVEN ROWS OF THIS SEAT. 5 by the template 'for every input the law returns true; each argument reads behind the call as it read before'; 0 by the template 'total and deterministic' (their statements: YtekcechjibigbaaTotals.lean).
  GIVEN WITH THE SEED: the statements are not yours to turn. If you find one false, say at which input.
  Laid BY PROGRAM, IN A SANDBOX (cutbox-rows.mjs): the forced cells as the released guide's own fill.sh prints them over the translation e0872f32c0f5701c… (all of the seat's roots in one cut). By AI agents, Wed Nov 11 2026. No macro, syntax, notation, axiom, sorry.
-/
import Derived.Test.YtekcechjibigbaaChecked
import GoSem.Claim
import GoSem.ClaimJoined
import GoSem.ClaimMapViews
import Derived.JoinedTies
import Derived.KernelRfl
namespace Go.Proofs.Ytekcechjibigbaa
/- THE CELL 'sum', in the pinned program and in every row, IS THE sha256 OF THE DUMP (.gsa) THAT YtekcechjibigbaaProg.lean LOADS. Nothing in Lean hashes anything: it is a label: what it is worth is what the hold of that sum in a sandbox is worth. -/
noncomputable def Try.pinned : Pinned := { name := "ytekcechjibigbaa", sum := "e0872f32c0f5701c32e9c144122ef785681bb5501cd233548ec4984fe4343b6c", checked := Try.checked }
namespace Rows
def none {H : Type} : Left H := { results := [], args := [] }

/-- 'kithlaw04.StampAll': WHATEVER THE INPUT: true; the input reads as it did. -/
def stampAllSpec : ChangeSpec := { name := "stampAll", fn := fun _ => fun
  | [d1, d2, d3] => { results := [.lit (.bool true)], args := [d1, d2, d3] }
  | _ => none }
def stampAllRow : OpenClaim := { program := "ytekcechjibigbaa", sum := "e0872f32c0f5701c32e9c144122ef785681bb5501cd233548ec4984fe4343b6c", func := "kith/kithlaw04.StampAll", spec := "stampAll", apart := false }
def StampAllSaid : Prop := stampAllRow.holds Try.pinned (OpenSpec.ofChange stampAllSpec)

/-- ITS FALSE NEIGHBOUR: 'it returns false'. Refute it at one input. -/
def stampAllWrong : ChangeSpec := { name := "stampAll", fn := fun _ => fun
  | [d1, d2, d3] => { results := [.lit (.bool false)], args := [d1, d2, d3] }
  | _ => none }
def StampAllWrongFalsely : Prop := stampAllRow.holds Try.pinned (OpenSpec.ofChange stampAllWrong)

/-- 'kithlaw04.StampOrders': WHATEVER THE INPUT: true; the input reads as it did. -/
def stampOrdersSpec : ChangeSpec := { name := "stampOrders", fn := fun _ => fun
  | [d1, d2, d3] => { results := [.lit (.bool true)], args := [d1, d2, d3] }
  | _ => none }
def stampOrdersRow : OpenClaim := { program := "ytekcechjibigbaa", sum := "e0872f32c0f5701c32e9c144122ef785681bb5501cd233548ec4984fe4343b6c", func := "kith/kithlaw04.StampOrders", spec := "stampOrders", apart := false }
def StampOrdersSaid : Prop := stampOrdersRow.holds Try.pinned (OpenSpec.ofChange stampOrdersSpec)

/-- ITS FALSE NEIGHBOUR: 'it returns false'. Refute it at one input. -/
def stampOrdersWrong : ChangeSpec := { name := "stampOrders", fn := fun _ => fun
  | [d1, d2, d3] => { results := [.lit (.bool false)], args := [d1, d2, d3] }
  | _ => none }
def StampOrdersWrongFalsely : Prop := stampOrdersRow.holds Try.pinned (OpenSpec.ofChange stampOrdersWrong)

/-- 'kithlaw04.StampLasts': WHATEVER THE INPUT: true; the input reads as it did. -/
def stampLastsSpec : ChangeSpec := { name := "stampLasts", fn := fun _ => fun
  | [d1, d2] => { results := [.lit (.bool true)], args := [d1, d2] }
  | _ => none }
def stampLastsRow : OpenClaim := { program := "ytekcechjibigbaa", sum := "e0872f32c0f5701c32e9c144122ef785681bb5501cd233548ec4984fe4343b6c", func := "kith/kithlaw04.StampLasts", spec := "stampLasts", apart := false }
def StampLastsSaid : Prop := stampLastsRow.holds Try.pinned (OpenSpec.ofChange stampLastsSpec)

/-- ITS FALSE NEIGHBOUR: 'it returns false'. Refute it at one input. -/
def stampLastsWrong : ChangeSpec := { name := "stampLasts", fn := fun _ => fun
  | [d1, d2] => { results := [.lit (.bool false)], args := [d1, d2] }
  | _ => none }
def StampLastsWrongFalsely : Prop := stampLastsRow.holds Try.pinned (OpenSpec.ofChange stampLastsWrong)

/-- 'kithlaw04.StampMoves': WHATEVER THE INPUT: true; the input reads as it did. -/
def stampMovesSpec : ChangeSpec := { name := "stampMoves", fn := fun _ => fun
  | [d1, d2] => { results := [.lit (.bool true)], args := [d1, d2] }
  | _ => none }
def stampMovesRow : OpenClaim := { program := "ytekcechjibigbaa", sum := "e0872f32c0f5701c32e9c144122ef785681bb5501cd233548ec4984fe4343b6c", func := "kith/kithlaw04.StampMoves", spec := "stampMoves", apart := false }
def StampMovesSaid : Prop := stampMovesRow.holds Try.pinned (OpenSpec.ofChange stampMovesSpec)

/-- ITS FALSE NEIGHBOUR: 'it returns false'. Refute it at one input. -/
def stampMovesWrong : ChangeSpec := { name := "stampMoves", fn := fun _ => fun
  | [d1, d2] => { results := [.lit (.bool false)], args := [d1, d2] }
  | _ => none }
def StampMovesWrongFalsely : Prop := stampMovesRow.holds Try.pinned (OpenSpec.ofChange stampMovesWrong)

/-- 'kithlaw04.StampHeights': WHATEVER THE INPUT: true; the input reads as it did. -/
def stampHeightsSpec : ChangeSpec := { name := "stampHeights", fn := fun _ => fun
  | [d1, d2, d3] => { results := [.lit (.bool true)], args := [d1, d2, d3] }
  | _ => none }
def stampHeightsRow : OpenClaim := { program := "ytekcechjibigbaa", sum := "e0872f32c0f5701c32e9c144122ef785681bb5501cd233548ec4984fe4343b6c", func := "kith/kithlaw04.StampHeights", spec := "stampHeights", apart := false }
def StampHeightsSaid : Prop := stampHeightsRow.holds Try.pinned (OpenSpec.ofChange stampHeightsSpec)

/-- ITS FALSE NEIGHBOUR: 'it returns false'. Refute it at one input. -/
def stampHeightsWrong : ChangeSpec := { name := "stampHeights", fn := fun _ => fun
  | [d1, d2, d3] => { results := [.lit (.bool false)], args := [d1, d2, d3] }
  | _ => none }
def StampHeightsWrongFalsely : Prop := stampHeightsRow.holds Try.pinned (OpenSpec.ofChange stampHeightsWrong)

/- THE SECOND FORM. 'bulk': how many values and letters a reading holds, each counted each time it is reached (what is shared counts as often as it is met; a slice's spare places count too). A statement '..UptoSaid' is the law's where the arguments, and the package variables that the reading takes, are together of bulk at most 1048576: NARROWER than '..Said'. Prove '..Said' where nothing that the law and all that it calls make is longer than what came in: it says more and counts as full. Else prove '..UptoSaid'. A law counts once. -/
mutual
def uptoBulk {H : Type} : DataW H → Nat
  | .lit (.string bytes) => bytes.length + 1
  | .lit _ => 1
  | .nil => 1
  | .ptr d => uptoBulk d + 1
  | .slice elems spare => uptoBulkAll elems + uptoBulkAll spare + 1
  | .agg parts => uptoBulkAll parts + 1
  | .iface _ d => uptoBulk d + 1
  | .map entries => uptoBulkEntries entries + 1
  | .held _ => 1
def uptoBulkAll {H : Type} : List (DataW H) → Nat
  | [] => 0
  | d :: r => uptoBulk d + uptoBulkAll r
def uptoBulkEntries {H : Type} : List (Lit × DataW H) → Nat
  | [] => 0
  | x :: r => uptoBulkEntry x + uptoBulkEntries r
def uptoBulkEntry {H : Type} : Lit × DataW H → Nat
  | (.string bytes, d) => bytes.length + uptoBulk d + 1
  | (_, d) => uptoBulk d + 1
 end
def uptoSmall : (H : Type) → List (DataW H) → Bool := fun _ ds => decide (uptoBulkAll ds ≤ 1048576)
def OpenSpec.upto (s : _root_.Go.ChangeSpec) : _root_.Go.OpenSpec := { _root_.Go.OpenSpec.ofChange s with cond := some uptoSmall }

/-- 'kithlaw04.StampAll', WHERE WHAT IT READS IS OF BULK AT MOST 1048576: true; the input reads as it did. -/
def stampAllUptoRow : OpenClaim := { program := "ytekcechjibigbaa", sum := "e0872f32c0f5701c32e9c144122ef785681bb5501cd233548ec4984fe4343b6c", func := "kith/kithlaw04.StampAll", spec := "stampAll", apart := false, narrowed := true }
def StampAllUptoSaid : Prop := stampAllUptoRow.holds Try.pinned (OpenSpec.upto stampAllSpec)

/-- 'kithlaw04.StampOrders', WHERE WHAT IT READS IS OF BULK AT MOST 1048576: true; the input reads as it did. -/
def stampOrdersUptoRow : OpenClaim := { program := "ytekcechjibigbaa", sum := "e0872f32c0f5701c32e9c144122ef785681bb5501cd233548ec4984fe4343b6c", func := "kith/kithlaw04.StampOrders", spec := "stampOrders", apart := false, narrowed := true }
def StampOrdersUptoSaid : Prop := stampOrdersUptoRow.holds Try.pinned (OpenSpec.upto stampOrdersSpec)

/-- 'kithlaw04.StampLasts', WHERE WHAT IT READS IS OF BULK AT MOST 1048576: true; the input reads as it did. -/
def stampLastsUptoRow : OpenClaim := { program := "ytekcechjibigbaa", sum := "e0872f32c0f5701c32e9c144122ef785681bb5501cd233548ec4984fe4343b6c", func := "kith/kithlaw04.StampLasts", spec := "stampLasts", apart := false, narrowed := true }
def StampLastsUptoSaid : Prop := stampLastsUptoRow.holds Try.pinned (OpenSpec.upto stampLastsSpec)

/-- 'kithlaw04.StampMoves', WHERE WHAT IT READS IS OF BULK AT MOST 1048576: true; the input reads as it did. -/
def stampMovesUptoRow : OpenClaim := { program := "ytekcechjibigbaa", sum := "e0872f32c0f5701c32e9c144122ef785681bb5501cd233548ec4984fe4343b6c", func := "kith/kithlaw04.StampMoves", spec := "stampMoves", apart := false, narrowed := true }
def StampMovesUptoSaid : Prop := stampMovesUptoRow.holds Try.pinned (OpenSpec.upto stampMovesSpec)

/-- 'kithlaw04.StampHeights', WHERE WHAT IT READS IS OF BULK AT MOST 1048576: true; the input reads as it did. -/
def stampHeightsUptoRow : OpenClaim := { program := "ytekcechjibigbaa", sum := "e0872f32c0f5701c32e9c144122ef785681bb5501cd233548ec4984fe4343b6c", func := "kith/kithlaw04.StampHeights", spec := "stampHeights", apart := false, narrowed := true }
def StampHeightsUptoSaid : Prop := stampHeightsUptoRow.holds Try.pinned (OpenSpec.upto stampHeightsSpec)

end Rows
end Go.Proofs.Ytekcechjibigbaa
