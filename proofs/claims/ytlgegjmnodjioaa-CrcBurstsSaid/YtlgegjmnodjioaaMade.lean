/- Rows that the code makes; crc's few. -/
import Derived.Test.YtlgegjmnodjioaaTail
import Derived.Laws.MakeOwn
namespace Go.Proofs.Ytlgegjmnodjioaa
open Go.RowKit
theorem few_some (b off n cap : Nat) (w : World) (hn : n ≤ cap) (hc : cap ≤ maxLen) :
    Calls Try.prog 10 #[.slice (some ⟨b, off, none⟩) n cap] w fun e w' => e = .returned (.slice (some ⟨b, off, none⟩) (min n 300) cap) ∧ w = w' := by
  unfold maxLen at hc
  rcases Nat.lt_or_ge 300 n with h | h
  · have e : min n 300 = 300 := by omega
    rw [e]; clear e
    go_enter Try.func10, Try.ntmps10
    go_wp2
    go_ret
    exact ⟨rfl, rfl⟩
  · have e : min n 300 = n := by omega
    rw [e]; clear e
    go_enter Try.func10, Try.ntmps10
    go_wp2
    go_ret
    exact ⟨rfl, rfl⟩
theorem few_zero (a : Option Addr) (cap : Nat) (w : World) :
    Calls Try.prog 10 #[.slice a 0 cap] w fun e w' => e = .returned (.slice a 0 cap) ∧ w = w' := by
  go_enter Try.func10, Try.ntmps10
  go_wp2
  go_ret
  exact ⟨rfl, rfl⟩
theorem few_is {a : Option Addr} {n n' cap : Nat} {bs : List Nat} {w : World} (hn : n' = min n 300) (h : Bytes w a n cap bs) :
    Calls Try.prog 10 #[.slice a n cap] w fun e w' => e = .returned (.slice a n' cap) ∧ w = w' := by
  subst hn
  obtain ⟨h1, h2, ⟨rfl, rfl⟩ | ⟨b, off, rfl, h4, h5, h6⟩⟩ := h
  · exact few_zero a cap w
  · exact few_some b off n cap w h1 h2

/-- a slice that the call has just built -/
theorem built (w : World) (bs : List Nat) (hl : bs.length ≤ maxLen) : Bytes (w.alloc (.cells (cells bs).toArray 5)) (some ⟨w.heap.size, 0, none⟩) bs.length bs.length bs := by
  refine ⟨Nat.le_refl _, hl, .inr ⟨w.heap.size, 0, rfl, by simp, rfl, fun i hi => ?_⟩⟩
  have h := (Blk.new w 5 (cells bs).toArray).cell (0 + i)
  rw [h, Nat.zero_add]
  simp only [List.getElem?_toArray]
  exact cells_get hi
theorem byte_info : (Try.prog.info? 5).map (fun i => (i.zero, i.size, i.bytes)) = some (some (.int .u8 0), 1, 1) := by kernel_rfl
theorem reads_one (w : World) (e : TypeId) (u : Value) : Reads (w.alloc (.cells #[u] e)) (w.heap.size + 1) 1 (some ⟨w.heap.size, 0, none⟩) 1 [u] := by
  refine ⟨rfl, fun _ => ⟨_, rfl, by simp, fun j v hj => ?_⟩⟩
  have hj0 : j = 0 := by
    rcases Nat.eq_zero_or_pos j with h | h
    · exact h
    · rw [List.getElem?_eq_none (by simp; omega)] at hj; cases hj
  subst hj0
  simp at hj
  subst hj
  exact (Blk.new w e #[u]).cell 0
theorem cells_snoc (acc : List Nat) (c : Nat) : cells acc ++ [.int .u8 (c : Int)] = cells (acc ++ [c]) := by rw [cells_append]; rfl
/-- what a function that makes the bytes bs leaves -/
def Made (bs : List Nat) (w : World) (e : Ending) (w' : World) : Prop := ∃ v, e = .returned v ∧ w'.ownsRow w.heap.size 5 1 v bs.length (cells bs) ∧ Below w.heap.size w w'

theorem reads_one_of {w : World} {g : Nat} (h : w.heap.size = g) (e : TypeId) (u : Value) : Reads (w.alloc (.cells #[u] e)) (g + 1) 1 (some ⟨g, 0, none⟩) 1 [u] := by
  subst h
  exact reads_one w e u
theorem run_make_rowN {P : Program} (t e : TypeId) (i : TypeInfo) (z : Value) (ht : P.underlying t = some (.slice e)) (hi : P.info? e = some i) (hz : i.zero = some z)
    (kl kc : IntKind) (n c : Nat) (hnc : n ≤ c) (hbytes : i.bytes * c ≤ 281474976710656) (h63 : c ≤ 9223372036854775807) (w : World) :
    (Instr.makeSlice t (.int kl (n : Int)) (.int kc (c : Int))).run P w = .ok (.slice (some ⟨w.heap.size, 0, none⟩) n c) (w.alloc (.cells (madeCells z.cells (c * i.size)) e)) := by
  have hb : (i.bytes : Int) * (c : Int) ≤ 281474976710656 := by
    have h : ((i.bytes * c : Nat) : Int) ≤ 281474976710656 := by omega
    rwa [Int.natCast_mul] at h
  have hr := run_make (P := P) w t e i z ht hi hz kl kc n c (by omega) (by omega) hb (by omega)
  simp only [Int.toNat_natCast] at hr
  exact hr
theorem cells_set (bs : List Nat) (i d : Nat) : (cells bs).set i (.int .u8 (d : Int)) = cells (bs.set i d) := by simp [cells, List.map_set]
theorem own_form {w : World} {base e n : Nat} {v : Value} {xs : List Value} (h : w.ownsRow base e 1 v n xs) (hn : 0 < n) : ∃ g c, v = .slice (some ⟨g, 0, none⟩) n c ∧ base ≤ g ∧ n ≤ c := by
  rcases h.2 with ⟨_, rfl⟩ | ⟨g, cap, cur, rfl, hb, _, hnc, _⟩
  · omega
  · exact ⟨g, cap, rfl, hb, hnc⟩
theorem made_own (w : World) (B k : Nat) (hB : B ≤ w.heap.size) (hk : k ≤ maxLen) : (w.alloc (.cells (madeCells (Value.int .u8 0).cells (k * 1)) 5)).ownsRow B 5 1 (.slice (some ⟨w.heap.size, 0, none⟩) k k) k (cells (List.replicate k 0)) := by
  refine ⟨by simp [cells], .inr ⟨w.heap.size, k, _, rfl, hB, Blk.new w 5 _, Nat.le_refl _, hk, by simp [size_madeCells], ?_⟩⟩
  have e : (Value.int .u8 0).cells = #[.int .u8 0] := rfl
  rw [e, toList_madeCells_one]
  simp [cells]

theorem own_emptyB (w : World) (B : Nat) (hB : B ≤ w.heap.size) : (w.alloc (.cells #[] 5)).ownsRow B 5 1 (.slice (some ⟨w.heap.size, 0, none⟩) 0 0) 0 (cells []) :=
  ⟨rfl, .inr ⟨w.heap.size, 0, #[], rfl, hB, Blk.new w 5 #[], Nat.le_refl _, by unfold maxLen; omega, rfl, rfl⟩⟩

theorem made_room (w : World) (B k : Nat) (hB : B ≤ w.heap.size) (hk : k ≤ maxLen) : (w.alloc (.cells (madeCells (Value.int .u8 0).cells (k * 1)) 5)).ownsRow B 5 1 (.slice (some ⟨w.heap.size, 0, none⟩) 0 k) 0 (cells []) := by
  refine ⟨by simp [cells], .inr ⟨w.heap.size, k, _, rfl, hB, Blk.new w 5 _, Nat.zero_le _, hk, by simp [size_madeCells], ?_⟩⟩
  simp [cells]
/-- a block of four bytes, read as a row -/
theorem reads_blk {w : World} {g : Nat} {t : TypeId} {l : List Nat} (h : Blk w g t (cells l).toArray) (B : Nat) (hB : g < B) : Reads w B 1 (some ⟨g, 0, none⟩) l.length (cells l) := by
  refine ⟨by simp [cells], fun _ => ⟨_, rfl, hB, fun j u hu => ?_⟩⟩
  have e : Addr.add ⟨g, 0, none⟩ j = ⟨g, j, none⟩ := by
    unfold Addr.add
    by_cases h : j = 0 <;> simp [h]
  rw [e, h.cell j]
  simpa using hu
end Go.Proofs.Ytlgegjmnodjioaa
