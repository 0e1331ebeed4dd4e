/-
  No cell of these rows narrows 'for every input' (looked for: loops, veiled, ifaces, maps, wideKeys, modest, calm, conditions, laid).
  DERIVED. THE GIVEN ROWS OF THIS SEAT. 7 by the template 'for every input the law returns true; each argument reads behind the call as it read before'; 0 by the template 'total and deterministic' (their statements: YtjkfognelhiepaaGreatTotals.lean).
  GIVEN WITH THE SEED: the statements are not yours to turn. If you find one false, say at which input.
  Laid BY PROGRAM, IN A SANDBOX (cutbox-rows.mjs): the forced cells as the released guide's own fill.sh prints them over the translation 7e30ffef954f0731… (all of the seat's roots in one cut). By AI agents, Wed Nov 11 2026. No macro, syntax, notation, axiom, sorry.
-/
import Derived.Test.YtjkfognelhiepaaGreatChecked
import GoSem.Claim
import GoSem.ClaimJoined
import GoSem.ClaimMapViews
import Derived.JoinedTies
import Derived.KernelRfl
namespace Go.Proofs.YtjkfognelhiepaaGreat
/- THE CELL 'sum', in the pinned program and in every row, IS THE sha256 OF THE DUMP (.gsa) THAT YtjkfognelhiepaaGreatProg.lean LOADS. Nothing in Lean hashes anything: it is a label: what it is worth is what the hold of that sum in a sandbox is worth. -/
noncomputable def Tryz.pinned : Pinned := { name := "ytjkfognelhiepaagreat", sum := "7e30ffef954f07315f5d6096ffba2f428fe9d51673a589406931aec94b423155", checked := Tryz.checked }
namespace Rows
def none {H : Type} : Left H := { results := [], args := [] }

/-- 'kithtop.TopAlone': WHATEVER THE INPUT: true; the input reads as it did. -/
def topAloneSpec : ChangeSpec := { name := "topAlone", fn := fun _ => fun
  | [d1, d2] => { results := [.lit (.bool true)], args := [d1, d2] }
  | _ => none }
def topAloneRow : OpenClaim := { program := "ytjkfognelhiepaagreat", sum := "7e30ffef954f07315f5d6096ffba2f428fe9d51673a589406931aec94b423155", func := "kith/kithtop.TopAlone", spec := "topAlone", inPlace := ["sync/atomic.LoadUint32", "(*internal/sync.Mutex).Lock", "internal/race.Disable", "sync/atomic.CompareAndSwapInt32", "internal/race.Enable", "internal/race.Acquire", "(*internal/sync.Mutex).lockSlow", "internal/sync.runtime_canSpin", "internal/sync.runtime_doSpin", "internal/sync.throw", "internal/sync.runtime_nanotime", "internal/sync.runtime_SemacquireMutex", "sync/atomic.AddInt32", "(*internal/sync.Mutex).Unlock", "internal/race.ReleaseMerge", "(*internal/sync.Mutex).unlockSlow", "internal/sync.fatal", "internal/sync.runtime_Semrelease", "sync/atomic.StoreUint32", "sync/atomic.AddInt64"], unfollowed := true, recurses := true, plainKeys := false, apart := false }
def TopAloneSaid : Prop := topAloneRow.holds Tryz.pinned (OpenSpec.ofChange topAloneSpec)

/-- ITS FALSE NEIGHBOUR: 'it returns false'. Refute it at one input. -/
def topAloneWrong : ChangeSpec := { name := "topAlone", fn := fun _ => fun
  | [d1, d2] => { results := [.lit (.bool false)], args := [d1, d2] }
  | _ => none }
def TopAloneWrongFalsely : Prop := topAloneRow.holds Tryz.pinned (OpenSpec.ofChange topAloneWrong)

/-- 'kithtop.TopRests': WHATEVER THE INPUT: true; the input reads as it did. -/
def topRestsSpec : ChangeSpec := { name := "topRests", fn := fun _ => fun
  | [d1, d2, d3] => { results := [.lit (.bool true)], args := [d1, d2, d3] }
  | _ => none }
def topRestsRow : OpenClaim := { program := "ytjkfognelhiepaagreat", sum := "7e30ffef954f07315f5d6096ffba2f428fe9d51673a589406931aec94b423155", func := "kith/kithtop.TopRests", spec := "topRests", inPlace := ["sync/atomic.LoadUint32", "(*internal/sync.Mutex).Lock", "internal/race.Disable", "sync/atomic.CompareAndSwapInt32", "internal/race.Enable", "internal/race.Acquire", "(*internal/sync.Mutex).lockSlow", "internal/sync.runtime_canSpin", "internal/sync.runtime_doSpin", "internal/sync.throw", "internal/sync.runtime_nanotime", "internal/sync.runtime_SemacquireMutex", "sync/atomic.AddInt32", "(*internal/sync.Mutex).Unlock", "internal/race.ReleaseMerge", "(*internal/sync.Mutex).unlockSlow", "internal/sync.fatal", "internal/sync.runtime_Semrelease", "sync/atomic.StoreUint32", "sync/atomic.AddInt64"], unfollowed := true, recurses := true, plainKeys := false, apart := false }
def TopRestsSaid : Prop := topRestsRow.holds Tryz.pinned (OpenSpec.ofChange topRestsSpec)

/-- ITS FALSE NEIGHBOUR: 'it returns false'. Refute it at one input. -/
def topRestsWrong : ChangeSpec := { name := "topRests", fn := fun _ => fun
  | [d1, d2, d3] => { results := [.lit (.bool false)], args := [d1, d2, d3] }
  | _ => none }
def TopRestsWrongFalsely : Prop := topRestsRow.holds Tryz.pinned (OpenSpec.ofChange topRestsWrong)

/-- 'kithtop.TopEdits': WHATEVER THE INPUT: true; the input reads as it did. -/
def topEditsSpec : ChangeSpec := { name := "topEdits", fn := fun _ => fun
  | [d1, d2] => { results := [.lit (.bool true)], args := [d1, d2] }
  | _ => none }
def topEditsRow : OpenClaim := { program := "ytjkfognelhiepaagreat", sum := "7e30ffef954f07315f5d6096ffba2f428fe9d51673a589406931aec94b423155", func := "kith/kithtop.TopEdits", spec := "topEdits", inPlace := ["sync/atomic.LoadUint32", "(*internal/sync.Mutex).Lock", "internal/race.Disable", "sync/atomic.CompareAndSwapInt32", "internal/race.Enable", "internal/race.Acquire", "(*internal/sync.Mutex).lockSlow", "internal/sync.runtime_canSpin", "internal/sync.runtime_doSpin", "internal/sync.throw", "internal/sync.runtime_nanotime", "internal/sync.runtime_SemacquireMutex", "sync/atomic.AddInt32", "(*internal/sync.Mutex).Unlock", "internal/race.ReleaseMerge", "(*internal/sync.Mutex).unlockSlow", "internal/sync.fatal", "internal/sync.runtime_Semrelease", "sync/atomic.StoreUint32", "sync/atomic.AddInt64"], unfollowed := true, recurses := true, plainKeys := false, apart := false }
def TopEditsSaid : Prop := topEditsRow.holds Tryz.pinned (OpenSpec.ofChange topEditsSpec)

/-- ITS FALSE NEIGHBOUR: 'it returns false'. Refute it at one input. -/
def topEditsWrong : ChangeSpec := { name := "topEdits", fn := fun _ => fun
  | [d1, d2] => { results := [.lit (.bool false)], args := [d1, d2] }
  | _ => none }
def TopEditsWrongFalsely : Prop := topEditsRow.holds Tryz.pinned (OpenSpec.ofChange topEditsWrong)

/-- 'kithtop.TopDrops': WHATEVER THE INPUT: true; the input reads as it did. -/
def topDropsSpec : ChangeSpec := { name := "topDrops", fn := fun _ => fun
  | [d1, d2] => { results := [.lit (.bool true)], args := [d1, d2] }
  | _ => none }
def topDropsRow : OpenClaim := { program := "ytjkfognelhiepaagreat", sum := "7e30ffef954f07315f5d6096ffba2f428fe9d51673a589406931aec94b423155", func := "kith/kithtop.TopDrops", spec := "topDrops", inPlace := ["sync/atomic.LoadUint32", "(*internal/sync.Mutex).Lock", "internal/race.Disable", "sync/atomic.CompareAndSwapInt32", "internal/race.Enable", "internal/race.Acquire", "(*internal/sync.Mutex).lockSlow", "internal/sync.runtime_canSpin", "internal/sync.runtime_doSpin", "internal/sync.throw", "internal/sync.runtime_nanotime", "internal/sync.runtime_SemacquireMutex", "sync/atomic.AddInt32", "(*internal/sync.Mutex).Unlock", "internal/race.ReleaseMerge", "(*internal/sync.Mutex).unlockSlow", "internal/sync.fatal", "internal/sync.runtime_Semrelease", "sync/atomic.StoreUint32", "sync/atomic.AddInt64"], unfollowed := true, recurses := true, plainKeys := false, apart := false }
def TopDropsSaid : Prop := topDropsRow.holds Tryz.pinned (OpenSpec.ofChange topDropsSpec)

/-- ITS FALSE NEIGHBOUR: 'it returns false'. Refute it at one input. -/
def topDropsWrong : ChangeSpec := { name := "topDrops", fn := fun _ => fun
  | [d1, d2] => { results := [.lit (.bool false)], args := [d1, d2] }
  | _ => none }
def TopDropsWrongFalsely : Prop := topDropsRow.holds Tryz.pinned (OpenSpec.ofChange topDropsWrong)

/-- 'kithtop.TopGrows': WHATEVER THE INPUT: true; the input reads as it did. -/
def topGrowsSpec : ChangeSpec := { name := "topGrows", fn := fun _ => fun
  | [d1, d2] => { results := [.lit (.bool true)], args := [d1, d2] }
  | _ => none }
def topGrowsRow : OpenClaim := { program := "ytjkfognelhiepaagreat", sum := "7e30ffef954f07315f5d6096ffba2f428fe9d51673a589406931aec94b423155", func := "kith/kithtop.TopGrows", spec := "topGrows", inPlace := ["sync/atomic.LoadUint32", "(*internal/sync.Mutex).Lock", "internal/race.Disable", "sync/atomic.CompareAndSwapInt32", "internal/race.Enable", "internal/race.Acquire", "(*internal/sync.Mutex).lockSlow", "internal/sync.runtime_canSpin", "internal/sync.runtime_doSpin", "internal/sync.throw", "internal/sync.runtime_nanotime", "internal/sync.runtime_SemacquireMutex", "sync/atomic.AddInt32", "(*internal/sync.Mutex).Unlock", "internal/race.ReleaseMerge", "(*internal/sync.Mutex).unlockSlow", "internal/sync.fatal", "internal/sync.runtime_Semrelease", "sync/atomic.StoreUint32", "sync/atomic.AddInt64"], unfollowed := true, recurses := true, plainKeys := false, apart := false }
def TopGrowsSaid : Prop := topGrowsRow.holds Tryz.pinned (OpenSpec.ofChange topGrowsSpec)

/-- ITS FALSE NEIGHBOUR: 'it returns false'. Refute it at one input. -/
def topGrowsWrong : ChangeSpec := { name := "topGrows", fn := fun _ => fun
  | [d1, d2] => { results := [.lit (.bool false)], args := [d1, d2] }
  | _ => none }
def TopGrowsWrongFalsely : Prop := topGrowsRow.holds Tryz.pinned (OpenSpec.ofChange topGrowsWrong)

/-- 'kithtop.TopHears': WHATEVER THE INPUT: true; the input reads as it did. -/
def topHearsSpec : ChangeSpec := { name := "topHears", fn := fun _ => fun
  | [d1, d2] => { results := [.lit (.bool true)], args := [d1, d2] }
  | _ => none }
def topHearsRow : OpenClaim := { program := "ytjkfognelhiepaagreat", sum := "7e30ffef954f07315f5d6096ffba2f428fe9d51673a589406931aec94b423155", func := "kith/kithtop.TopHears", spec := "topHears", inPlace := ["sync/atomic.LoadUint32", "(*internal/sync.Mutex).Lock", "internal/race.Disable", "sync/atomic.CompareAndSwapInt32", "internal/race.Enable", "internal/race.Acquire", "(*internal/sync.Mutex).lockSlow", "internal/sync.runtime_canSpin", "internal/sync.runtime_doSpin", "internal/sync.throw", "internal/sync.runtime_nanotime", "internal/sync.runtime_SemacquireMutex", "sync/atomic.AddInt32", "(*internal/sync.Mutex).Unlock", "internal/race.ReleaseMerge", "(*internal/sync.Mutex).unlockSlow", "internal/sync.fatal", "internal/sync.runtime_Semrelease", "sync/atomic.StoreUint32", "sync/atomic.AddInt64"], unfollowed := true, recurses := true, plainKeys := false, apart := false }
def TopHearsSaid : Prop := topHearsRow.holds Tryz.pinned (OpenSpec.ofChange topHearsSpec)

/-- ITS FALSE NEIGHBOUR: 'it returns false'. Refute it at one input. -/
def topHearsWrong : ChangeSpec := { name := "topHears", fn := fun _ => fun
  | [d1, d2] => { results := [.lit (.bool false)], args := [d1, d2] }
  | _ => none }
def TopHearsWrongFalsely : Prop := topHearsRow.holds Tryz.pinned (OpenSpec.ofChange topHearsWrong)

/-- 'kithtop.TopUnion': WHATEVER THE INPUT: true; the input reads as it did. -/
def topUnionSpec : ChangeSpec := { name := "topUnion", fn := fun _ => fun
  | [d1, d2] => { results := [.lit (.bool true)], args := [d1, d2] }
  | _ => none }
def topUnionRow : OpenClaim := { program := "ytjkfognelhiepaagreat", sum := "7e30ffef954f07315f5d6096ffba2f428fe9d51673a589406931aec94b423155", func := "kith/kithtop.TopUnion", spec := "topUnion", inPlace := ["sync/atomic.LoadUint32", "(*internal/sync.Mutex).Lock", "internal/race.Disable", "sync/atomic.CompareAndSwapInt32", "internal/race.Enable", "internal/race.Acquire", "(*internal/sync.Mutex).lockSlow", "internal/sync.runtime_canSpin", "internal/sync.runtime_doSpin", "internal/sync.throw", "internal/sync.runtime_nanotime", "internal/sync.runtime_SemacquireMutex", "sync/atomic.AddInt32", "(*internal/sync.Mutex).Unlock", "internal/race.ReleaseMerge", "(*internal/sync.Mutex).unlockSlow", "internal/sync.fatal", "internal/sync.runtime_Semrelease", "sync/atomic.StoreUint32", "sync/atomic.AddInt64"], unfollowed := true, recurses := true, plainKeys := false, apart := false }
def TopUnionSaid : Prop := topUnionRow.holds Tryz.pinned (OpenSpec.ofChange topUnionSpec)

/-- ITS FALSE NEIGHBOUR: 'it returns false'. Refute it at one input. -/
def topUnionWrong : ChangeSpec := { name := "topUnion", fn := fun _ => fun
  | [d1, d2] => { results := [.lit (.bool false)], args := [d1, d2] }
  | _ => none }
def TopUnionWrongFalsely : Prop := topUnionRow.holds Tryz.pinned (OpenSpec.ofChange topUnionWrong)

/- THE SECOND FORM. 'bulk': how many values and letters a reading holds, each counted each time it is reached (what is shared counts as often as it is met; a slice's spare places count too). A statement '..UptoSaid' is the law's where the arguments, and the package variables that the reading takes, are together of bulk at most 1048576: NARROWER than '..Said'. Prove '..Said' where nothing that the law and all that it calls make is longer than what came in: it says more and counts as full. Else prove '..UptoSaid'. A law counts once. -/
mutual
def uptoBulk {H : Type} : DataW H → Nat
  | .lit (.string bytes) => bytes.length + 1
  | .lit _ => 1
  | .nil => 1
  | .ptr d => uptoBulk d + 1
  | .slice elems spare => uptoBulkAll elems + uptoBulkAll spare + 1
  | .agg parts => uptoBulkAll parts + 1
  | .iface _ d => uptoBulk d + 1
  | .map entries => uptoBulkEntries entries + 1
  | .held _ => 1
def uptoBulkAll {H : Type} : List (DataW H) → Nat
  | [] => 0
  | d :: r => uptoBulk d + uptoBulkAll r
def uptoBulkEntries {H : Type} : List (Lit × DataW H) → Nat
  | [] => 0
  | x :: r => uptoBulkEntry x + uptoBulkEntries r
def uptoBulkEntry {H : Type} : Lit × DataW H → Nat
  | (.string bytes, d) => bytes.length + uptoBulk d + 1
  | (_, d) => uptoBulk d + 1
 end
def uptoSmall : (H : Type) → List (DataW H) → Bool := fun _ ds => decide (uptoBulkAll ds ≤ 1048576)
def OpenSpec.upto (s : _root_.Go.ChangeSpec) : _root_.Go.OpenSpec := { _root_.Go.OpenSpec.ofChange s with cond := some uptoSmall }

/-- 'kithtop.TopAlone', WHERE WHAT IT READS IS OF BULK AT MOST 1048576: true; the input reads as it did. -/
def topAloneUptoRow : OpenClaim := { program := "ytjkfognelhiepaagreat", sum := "7e30ffef954f07315f5d6096ffba2f428fe9d51673a589406931aec94b423155", func := "kith/kithtop.TopAlone", spec := "topAlone", inPlace := ["sync/atomic.LoadUint32", "(*internal/sync.Mutex).Lock", "internal/race.Disable", "sync/atomic.CompareAndSwapInt32", "internal/race.Enable", "internal/race.Acquire", "(*internal/sync.Mutex).lockSlow", "internal/sync.runtime_canSpin", "internal/sync.runtime_doSpin", "internal/sync.throw", "internal/sync.runtime_nanotime", "internal/sync.runtime_SemacquireMutex", "sync/atomic.AddInt32", "(*internal/sync.Mutex).Unlock", "internal/race.ReleaseMerge", "(*internal/sync.Mutex).unlockSlow", "internal/sync.fatal", "internal/sync.runtime_Semrelease", "sync/atomic.StoreUint32", "sync/atomic.AddInt64"], unfollowed := true, recurses := true, plainKeys := false, apart := false, narrowed := true }
def TopAloneUptoSaid : Prop := topAloneUptoRow.holds Tryz.pinned (OpenSpec.upto topAloneSpec)

/-- 'kithtop.TopRests', WHERE WHAT IT READS IS OF BULK AT MOST 1048576: true; the input reads as it did. -/
def topRestsUptoRow : OpenClaim := { program := "ytjkfognelhiepaagreat", sum := "7e30ffef954f07315f5d6096ffba2f428fe9d51673a589406931aec94b423155", func := "kith/kithtop.TopRests", spec := "topRests", inPlace := ["sync/atomic.LoadUint32", "(*internal/sync.Mutex).Lock", "internal/race.Disable", "sync/atomic.CompareAndSwapInt32", "internal/race.Enable", "internal/race.Acquire", "(*internal/sync.Mutex).lockSlow", "internal/sync.runtime_canSpin", "internal/sync.runtime_doSpin", "internal/sync.throw", "internal/sync.runtime_nanotime", "internal/sync.runtime_SemacquireMutex", "sync/atomic.AddInt32", "(*internal/sync.Mutex).Unlock", "internal/race.ReleaseMerge", "(*internal/sync.Mutex).unlockSlow", "internal/sync.fatal", "internal/sync.runtime_Semrelease", "sync/atomic.StoreUint32", "sync/atomic.AddInt64"], unfollowed := true, recurses := true, plainKeys := false, apart := false, narrowed := true }
def TopRestsUptoSaid : Prop := topRestsUptoRow.holds Tryz.pinned (OpenSpec.upto topRestsSpec)

/-- 'kithtop.TopEdits', WHERE WHAT IT READS IS OF BULK AT MOST 1048576: true; the input reads as it did. -/
def topEditsUptoRow : OpenClaim := { program := "ytjkfognelhiepaagreat", sum := "7e30ffef954f07315f5d6096ffba2f428fe9d51673a589406931aec94b423155", func := "kith/kithtop.TopEdits", spec := "topEdits", inPlace := ["sync/atomic.LoadUint32", "(*internal/sync.Mutex).Lock", "internal/race.Disable", "sync/atomic.CompareAndSwapInt32", "internal/race.Enable", "internal/race.Acquire", "(*internal/sync.Mutex).lockSlow", "internal/sync.runtime_canSpin", "internal/sync.runtime_doSpin", "internal/sync.throw", "internal/sync.runtime_nanotime", "internal/sync.runtime_SemacquireMutex", "sync/atomic.AddInt32", "(*internal/sync.Mutex).Unlock", "internal/race.ReleaseMerge", "(*internal/sync.Mutex).unlockSlow", "internal/sync.fatal", "internal/sync.runtime_Semrelease", "sync/atomic.StoreUint32", "sync/atomic.AddInt64"], unfollowed := true, recurses := true, plainKeys := false, apart := false, narrowed := true }
def TopEditsUptoSaid : Prop := topEditsUptoRow.holds Tryz.pinned (OpenSpec.upto topEditsSpec)

/-- 'kithtop.TopDrops', WHERE WHAT IT READS IS OF BULK AT MOST 1048576: true; the input reads as it did. -/
def topDropsUptoRow : OpenClaim := { program := "ytjkfognelhiepaagreat", sum := "7e30ffef954f07315f5d6096ffba2f428fe9d51673a589406931aec94b423155", func := "kith/kithtop.TopDrops", spec := "topDrops", inPlace := ["sync/atomic.LoadUint32", "(*internal/sync.Mutex).Lock", "internal/race.Disable", "sync/atomic.CompareAndSwapInt32", "internal/race.Enable", "internal/race.Acquire", "(*internal/sync.Mutex).lockSlow", "internal/sync.runtime_canSpin", "internal/sync.runtime_doSpin", "internal/sync.throw", "internal/sync.runtime_nanotime", "internal/sync.runtime_SemacquireMutex", "sync/atomic.AddInt32", "(*internal/sync.Mutex).Unlock", "internal/race.ReleaseMerge", "(*internal/sync.Mutex).unlockSlow", "internal/sync.fatal", "internal/sync.runtime_Semrelease", "sync/atomic.StoreUint32", "sync/atomic.AddInt64"], unfollowed := true, recurses := true, plainKeys := false, apart := false, narrowed := true }
def TopDropsUptoSaid : Prop := topDropsUptoRow.holds Tryz.pinned (OpenSpec.upto topDropsSpec)

/-- 'kithtop.TopGrows', WHERE WHAT IT READS IS OF BULK AT MOST 1048576: true; the input reads as it did. -/
def topGrowsUptoRow : OpenClaim := { program := "ytjkfognelhiepaagreat", sum := "7e30ffef954f07315f5d6096ffba2f428fe9d51673a589406931aec94b423155", func := "kith/kithtop.TopGrows", spec := "topGrows", inPlace := ["sync/atomic.LoadUint32", "(*internal/sync.Mutex).Lock", "internal/race.Disable", "sync/atomic.CompareAndSwapInt32", "internal/race.Enable", "internal/race.Acquire", "(*internal/sync.Mutex).lockSlow", "internal/sync.runtime_canSpin", "internal/sync.runtime_doSpin", "internal/sync.throw", "internal/sync.runtime_nanotime", "internal/sync.runtime_SemacquireMutex", "sync/atomic.AddInt32", "(*internal/sync.Mutex).Unlock", "internal/race.ReleaseMerge", "(*internal/sync.Mutex).unlockSlow", "internal/sync.fatal", "internal/sync.runtime_Semrelease", "sync/atomic.StoreUint32", "sync/atomic.AddInt64"], unfollowed := true, recurses := true, plainKeys := false, apart := false, narrowed := true }
def TopGrowsUptoSaid : Prop := topGrowsUptoRow.holds Tryz.pinned (OpenSpec.upto topGrowsSpec)

/-- 'kithtop.TopHears', WHERE WHAT IT READS IS OF BULK AT MOST 1048576: true; the input reads as it did. -/
def topHearsUptoRow : OpenClaim := { program := "ytjkfognelhiepaagreat", sum := "7e30ffef954f07315f5d6096ffba2f428fe9d51673a589406931aec94b423155", func := "kith/kithtop.TopHears", spec := "topHears", inPlace := ["sync/atomic.LoadUint32", "(*internal/sync.Mutex).Lock", "internal/race.Disable", "sync/atomic.CompareAndSwapInt32", "internal/race.Enable", "internal/race.Acquire", "(*internal/sync.Mutex).lockSlow", "internal/sync.runtime_canSpin", "internal/sync.runtime_doSpin", "internal/sync.throw", "internal/sync.runtime_nanotime", "internal/sync.runtime_SemacquireMutex", "sync/atomic.AddInt32", "(*internal/sync.Mutex).Unlock", "internal/race.ReleaseMerge", "(*internal/sync.Mutex).unlockSlow", "internal/sync.fatal", "internal/sync.runtime_Semrelease", "sync/atomic.StoreUint32", "sync/atomic.AddInt64"], unfollowed := true, recurses := true, plainKeys := false, apart := false, narrowed := true }
def TopHearsUptoSaid : Prop := topHearsUptoRow.holds Tryz.pinned (OpenSpec.upto topHearsSpec)

/-- 'kithtop.TopUnion', WHERE WHAT IT READS IS OF BULK AT MOST 1048576: true; the input reads as it did. -/
def topUnionUptoRow : OpenClaim := { program := "ytjkfognelhiepaagreat", sum := "7e30ffef954f07315f5d6096ffba2f428fe9d51673a589406931aec94b423155", func := "kith/kithtop.TopUnion", spec := "topUnion", inPlace := ["sync/atomic.LoadUint32", "(*internal/sync.Mutex).Lock", "internal/race.Disable", "sync/atomic.CompareAndSwapInt32", "internal/race.Enable", "internal/race.Acquire", "(*internal/sync.Mutex).lockSlow", "internal/sync.runtime_canSpin", "internal/sync.runtime_doSpin", "internal/sync.throw", "internal/sync.runtime_nanotime", "internal/sync.runtime_SemacquireMutex", "sync/atomic.AddInt32", "(*internal/sync.Mutex).Unlock", "internal/race.ReleaseMerge", "(*internal/sync.Mutex).unlockSlow", "internal/sync.fatal", "internal/sync.runtime_Semrelease", "sync/atomic.StoreUint32", "sync/atomic.AddInt64"], unfollowed := true, recurses := true, plainKeys := false, apart := false, narrowed := true }
def TopUnionUptoSaid : Prop := topUnionUptoRow.holds Tryz.pinned (OpenSpec.upto topUnionSpec)

end Rows
end Go.Proofs.YtjkfognelhiepaaGreat
