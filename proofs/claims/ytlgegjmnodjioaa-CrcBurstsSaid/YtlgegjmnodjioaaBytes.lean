/- Rows of bytes in memory; the string that a row of bytes makes. -/
import Derived.Test.YtlgegjmnodjioaaPlain
import Derived.Test.YtlgegjmnodjioaaAppendAny
import Derived.Test.YtlgegjmnodjioaaRows
import Derived.Laws.BytesArg
namespace Go.Proofs.Ytlgegjmnodjioaa
open Go.RowKit
def cells (bs : List Nat) : List Value := bs.map fun x : Nat => .int .u8 (x : Int)
def str (bs : List Nat) : ByteArray := strOfNums (bs.map fun x : Nat => (x : Int))
theorem cells_append (a b : List Nat) : cells (a ++ b) = cells a ++ cells b := by simp [cells]
theorem cells_length (a : List Nat) : (cells a).length = a.length := by simp [cells]
theorem cells_get {bs : List Nat} {i : Nat} (h : i < bs.length) : (cells bs)[i]? = some (.int .u8 ((bs.getD i 0 : Nat) : Int)) := by
  simp [cells, List.getD, h]
theorem cells_one (bs : List Nat) : ∀ u ∈ cells bs, u.oneCell' = true := by
  intro u hu
  simp only [cells, List.mem_map] at hu
  obtain ⟨x, _, rfl⟩ := hu
  rfl
theorem str_eq {a b : List Nat} (ha : ∀ x ∈ a, x < 256) (hb : ∀ x ∈ b, x < 256) (h : str a = str b) : a = b := by
  have e : (str a).data.toList = (str b).data.toList := by rw [h]
  simp only [str, strOfNums_data, List.map_map] at e
  clear h
  induction a generalizing b with
  | nil => cases b with
    | nil => rfl
    | cons y b => simp at e
  | cons x a ih => cases b with
    | nil => simp at e
    | cons y b =>
      simp only [List.map_cons, List.cons.injEq, Function.comp] at e
      have hx := ha x (by simp)
      have hy := hb y (by simp)
      have exy : x = y := by
        have := congrArg UInt8.toNat e.1
        simp at this
        omega
      rw [exy, ih (fun z hz => ha z (by simp [hz])) (fun z hz => hb z (by simp [hz])) e.2]

theorem str_beq {a b : List Nat} (ha : ∀ x ∈ a, x < 256) (hb : ∀ x ∈ b, x < 256) : ((str a).toList == (str b).toList) = decide (a = b) := by
  rw [Bool.eq_iff_iff]
  simp only [beq_iff_eq, decide_eq_true_eq, ByteArray.toList_eq]
  constructor
  · intro h
    refine str_eq ha hb ?_
    have h2 : (str a).data = (str b).data := Array.toList_inj.1 h
    cases hA : str a; cases hB : str b
    rw [hA, hB] at h2
    exact congrArg ByteArray.mk h2
  · rintro rfl; rfl

/-- a slice that reads as these bytes -/
def Bytes (w : World) (a : Option Addr) (n cap : Nat) (bs : List Nat) : Prop :=
  n ≤ cap ∧ cap ≤ maxLen ∧ ((n = 0 ∧ bs = []) ∨ ∃ b off, a = some ⟨b, off, none⟩ ∧ b < w.heap.size ∧ bs.length = n ∧ ∀ i, i < n → w.cell? ⟨b, off + i, none⟩ = some (.int .u8 ((bs.getD i 0 : Nat) : Int)))
theorem Bytes.len {w : World} {a : Option Addr} {n cap : Nat} {bs : List Nat} (h : Bytes w a n cap bs) : bs.length = n := by
  rcases h.2.2 with ⟨rfl, rfl⟩ | ⟨_, _, _, _, h, _⟩
  · rfl
  · exact h
theorem Bytes.kept {w w' : World} {B : Nat} {a : Option Addr} {n cap : Nat} {bs : List Nat} (h : Bytes w a n cap bs) (hk : Below B w w') (hB : w.heap.size ≤ B) : Bytes w' a n cap bs := by
  refine ⟨h.1, h.2.1, ?_⟩
  rcases h.2.2 with h | ⟨b, off, h1, h4, h5, h6⟩
  · exact .inl h
  · refine .inr ⟨b, off, h1, Nat.lt_of_lt_of_le h4 hk.size, h5, fun i hi => ?_⟩
    rw [hk.cell (p := ⟨b, _, none⟩) (by show b < B; omega)]
    exact h6 i hi
theorem Bytes.pos {w : World} {a : Option Addr} {n cap : Nat} {bs : List Nat} (h : Bytes w a n cap bs) (hn : 0 < n) : ∃ b off, a = some ⟨b, off, none⟩ ∧ b < w.heap.size ∧ ∀ i, i < n → w.cell? ⟨b, off + i, none⟩ = some (.int .u8 ((bs.getD i 0 : Nat) : Int)) := by
  rcases h.2.2 with ⟨rfl, _⟩ | ⟨b, off, h1, h4, _, h6⟩
  · omega
  · exact ⟨b, off, h1, h4, h6⟩
theorem take_getD {bs : List Nat} {m i : Nat} (h : i < m) : (bs.take m).getD i 0 = bs.getD i 0 := by simp [List.getD, h]
theorem Bytes.cut {w : World} {a : Option Addr} {n cap : Nat} {bs : List Nat} (h : Bytes w a n cap bs) (m : Nat) (hm : m ≤ n) : Bytes w a m cap (bs.take m) := by
  obtain ⟨g1, g2, g⟩ := h
  refine ⟨by omega, g2, ?_⟩
  rcases g with ⟨rfl, rfl⟩ | ⟨b, off, h1, h4, h5, h6⟩
  · exact .inl ⟨by omega, by simp⟩
  · refine .inr ⟨b, off, h1, h4, by rw [List.length_take]; omega, fun i hi => ?_⟩
    rw [take_getD hi]
    exact h6 i (by omega)
theorem Bytes.reads {w : World} {a : Option Addr} {n cap : Nat} {bs : List Nat} (h : Bytes w a n cap bs) : Reads w w.heap.size 1 a n (cells bs) := by
  refine ⟨by rw [cells_length, h.len]; omega, fun hn => ?_⟩
  obtain ⟨b, off, rfl, h4, h6⟩ := h.pos hn
  refine ⟨_, rfl, h4, fun j u hu => ?_⟩
  have hl := h.len
  have hj : j < bs.length := by
    rcases Nat.lt_or_ge j bs.length with h | h
    · exact h
    · rw [List.getElem?_eq_none (by rw [cells_length]; exact h)] at hu; cases hu
  rw [cells_get hj] at hu
  have e : Addr.add ⟨b, off, none⟩ j = ⟨b, off + j, none⟩ := by
    unfold Addr.add
    by_cases h : j = 0 <;> simp [h]
  rw [e, h6 j (by omega), hu]
theorem Bytes.of_own {w : World} {base n : Nat} {v : Value} {bs : List Nat} {e : TypeId} (h : w.ownsRow base e 1 v n (cells bs)) : ∃ a cap, v = .slice a n cap ∧ Bytes w a n cap bs := by
  have hl := h.1
  rw [cells_length] at hl
  rcases h.2 with ⟨rfl, rfl⟩ | ⟨g, cap, cur, rfl, hb, hg, hnc, hcm, hcs, htk⟩
  · exact ⟨none, 0, rfl, Nat.le_refl _, by unfold maxLen; omega, .inl ⟨rfl, List.eq_nil_of_length_eq_zero (by omega)⟩⟩
  · refine ⟨_, _, rfl, hnc, hcm, .inr ⟨g, 0, rfl, ?_, by omega, fun i hi => ?_⟩⟩
    · rcases Nat.lt_or_ge g w.heap.size with hlt | hge
      · exact hlt
      · rw [Array.getElem?_eq_none hge] at hg; cases hg
    · have c0 := h.cellAt i (by omega)
      rw [cells_get (by omega)] at c0
      simp only [Nat.zero_add]
      exact c0
/-- the string of a row of bytes -/
theorem run_str {P : Program} {w : World} {a : Option Addr} {n cap : Nat} {bs : List Nat} {src e : TypeId} (hs : P.underlying src = some (.slice e)) (he : P.underlying e = some (.int .u8)) (h : Bytes w a n cap bs) :
    ∀ dst, P.underlying dst = some .string → (convert src dst (.slice a n cap)).run P w = .ok (.string (str bs)) w := by
  rcases h.2.2 with ⟨rfl, rfl⟩ | ⟨b, off, rfl, h4, h5, h6⟩
  · intro dst hd
    rw [run_convert_bytes_string w src dst e _ 0 cap hs he hd]
    cases a with
    | none => simp [Conv.bytesToString, str, strOfNums]; rfl
    | some a =>
      rw [run_bytesToString w a 0 cap [] (by simp [loadCells, loadCellsFrom])]
      simp [str, strOfNums]; rfl
  · refine run_convert_bytes_arg w src e hs he b off n cap _ (by simp [h5]) (fun i hi => ?_)
    rw [h6 i hi]
    simp [List.getD, h5, hi]
end Go.Proofs.Ytlgegjmnodjioaa
