/- Opening the arguments: a stamp by value, a slice of stamps; and the step from a walk to the row. -/
import Derived.Test.YtekcechjibigbaaAll
import Derived.ProofKit
import Derived.OpenShut
import Derived.ShutString
import Derived.ChangeOld
import Derived.Deep.Slices
import Derived.Deep.Fields
import Derived.ChangeSame
import Derived.Lib.SmallJoins
namespace Go.Proofs.Ytekcechjibigbaa
open Go.RowKit
section
open Go.ChangeShapes Go.WideShapes Go.Deep
section
variable {H : Type} {enc : TypeId × Value → H} {P : Program} {w : World} {base : Nat} {spare : Nat → Bool} {held : Bool}
theorem open_slice_fields {t e : TypeId} {fs : Array Field} {fuel : Nat} {cs : List Value} {x : DataW H × List MemPlace} (ht : P.underlying t = some (.slice e)) (he : P.underlying e = some (.struct fs))
    (hone : oneCellFields P fs = true) (hC : P.cellsOf e = fs.size) (h : DataW.trod enc P w base spare held fuel t cs = some x) :
    (cs = [.slice none 0 0] ∧ x = (.nil, [])) ∨
    ∃ (a : Addr) (len cap m : Nat) (D : Nat → DataW H) (Pl : Nat → List MemPlace), cs = [.slice (some a) len cap] ∧ base ≤ a.block ∧ len ≤ cap ∧ cap ≤ maxLen ∧ m = (if spare a.block then cap else len) ∧
      x = (.slice ((List.range len).map D) ((List.range (m - len)).map fun j => D (len + j)), MemPlace.row a (m * fs.size) ++ (List.range m).flatMap Pl) ∧
      ∀ i, i < m → ∃ (ys : List (DataW H × List MemPlace)) (n : Nat), D i = .agg (ys.map (·.1)) ∧ Pl i = ys.flatMap (·.2) ∧ ys.length = fs.size ∧
        ∀ (j : Nat) (f : Field), fs[j]? = some f → ∃ (v : Value) (y : DataW H × List MemPlace), w.cell? (a.add (i * fs.size + j)) = some v ∧ ys[j]? = some y ∧ DataW.trod enc P w base spare held n f.type [v] = some y := by
  rcases open_slice ht h with h0 | ⟨a, len, cap, m, n, D, Pl, hcs, hb, hl, hm, hmm, hx, hi⟩
  · exact .inl h0
  · refine .inr ⟨a, len, cap, m, D, Pl, hcs, hb, hl, hm, hmm, by rw [hC] at hx; exact hx, fun i him => ?_⟩
    obtain ⟨cs', hc, ht'⟩ := hi i him
    rw [hC] at hc
    obtain ⟨ys, n', hn', hy, hlen, hyl, hf⟩ := DataW.trod_struct he ht'
    obtain ⟨_, hcl, hat⟩ := World.cells?_some hc
    simp only [Prod.mk.injEq] at hy
    refine ⟨ys, n', hy.1, hy.2, hyl, fun j f hj => ?_⟩
    obtain ⟨ho, hk⟩ := hone_of hone j f hj
    have hjl : j < fs.size := (Array.getElem?_eq_some_iff.1 hj).1
    have hcell := hat j hjl
    have hv : cs'[j]? = some (cs'[j]'(by omega)) := List.getElem?_eq_getElem (by omega)
    have h1 := hf j f hj
    rw [ho, hk] at h1
    have hone' : (cs'.drop j).take 1 = [cs'[j]'(by omega)] := by
      rw [List.drop_eq_getElem_cons (by omega)]
      rfl
    rw [hone'] at h1
    have hys : ys[j]? = some (ys[j]'(by omega)) := List.getElem?_eq_getElem (by omega)
    refine ⟨_, _, ?_, hys, h1.trans hys⟩
    rw [← Go.Deep.add_add, hcell, hv]
end
end
open Go.ChangeShapes Go.WideShapes Go.ChangeAt Go.Joins
theorem own : ownKnob Try.prog.godebug = none := by kernel_rfl
theorem laidOut : laidOutB Try.prog = true := by kernel_rfl
theorem cells23 : Try.prog.cellsOf 23 = 2 := by kernel_rfl

/-- a stamp that came in by value -/
theorem open_stamp {H : Type} {enc : TypeId × Value → H} {w : World} {base b0 : Nat} {r : Reach} {spare : Nat → Bool} {held : Bool} {v : Value} {d : DataW H} {p : List MemPlace}
    (hv : Value.okWide Try.prog w r b0 23 v) (h : DataW.Trod enc Try.prog w base spare held 23 v d p) :
    ∃ x y : Int, v = .agg #[.int .i64 x, .int .i64 y] ∧ (Lit.int .i64 x).wf = true ∧ (Lit.int .i64 y).wf = true := by
  obtain ⟨c0, c1, y0, y1, m, rfl, rfl, rfl, hy0, hy1⟩ := open_agg2 Try.underlying23 (by kernel_rfl) cells23 hv h
  obtain ⟨a, e0, rfl, wa⟩ := DataW.trod_int Try.underlying3 hy0
  obtain ⟨b, e1, rfl, wb⟩ := DataW.trod_int Try.underlying3 hy1
  simp at e0 e1
  subst e0 e1
  exact ⟨a, b, rfl, wa, wb⟩

theorem cell_lt {w : World} {a : Addr} {v : Value} (h : w.cell? a = some v) : a.block < w.heap.size := by
  rcases Nat.lt_or_ge a.block w.heap.size with hlt | hge
  · exact hlt
  · simp [World.cell?, Array.getElem?_eq_none hge] at h
theorem add_form {b off i : Nat} : Addr.add ⟨b, off, none⟩ i = ⟨b, off + i, none⟩ := by
  unfold Addr.add
  by_cases h : i = 0 <;> simp [h]
/-- the numbers of a row whose cells are all known to be there -/
theorem collect (f : Nat → Int × Int → Prop) : ∀ n, (∀ i, i < n → ∃ x, f i x) → ∃ xs : List (Int × Int), xs.length = n ∧ ∀ i, i < n → f i (xs.getD i (0, 0))
  | 0, _ => ⟨[], rfl, fun i h => absurd h (by omega)⟩
  | n + 1, h => by
    obtain ⟨xs, hl, hx⟩ := collect f n (fun i hi => h i (by omega))
    obtain ⟨x, hn⟩ := h n (by omega)
    refine ⟨xs ++ [x], by simp [hl], fun i hi => ?_⟩
    rcases Nat.lt_or_ge i n with h1 | h1
    · have e : (xs ++ [x]).getD i (0, 0) = xs.getD i (0, 0) := by simp [List.getD, List.getElem?_append, hl, h1]
      rw [e]; exact hx i h1
    · obtain rfl : i = n := by omega
      have e : (xs ++ [x]).getD i (0, 0) = x := by simp [List.getD, ← hl]
      rw [e]; exact hn

/-- a slice of stamps that came in -/
theorem open_row {H : Type} {enc : TypeId × Value → H} {w : World} {base : Nat} {spare : Nat → Bool} {held : Bool} {v : Value} {d : DataW H} {p : List MemPlace} {rc : Reach} {b0 : Nat}
    (hv : Value.okWide Try.prog w rc b0 24 v) (h : DataW.Trod enc Try.prog w base spare held 24 v d p) :
    ∃ a n cap xs, v = .slice a n cap ∧ Row w a n cap xs := by
  obtain ⟨a0, len0, cap0, rfl⟩ := okWide_slice Try.underlying24 hv
  obtain ⟨fuel, hf⟩ := h
  rcases open_slice_fields Try.underlying24 Try.underlying23 (by kernel_rfl) (by kernel_rfl) hf with ⟨hcs, _⟩ | ⟨a, len, cap, m, D, Pl, hcs, _, hl, hm, hmm, hx, hi⟩
  · simp [Value.cells] at hcs
    obtain ⟨rfl, rfl, rfl⟩ := hcs
    exact ⟨_, _, _, [], rfl, .inl ⟨rfl, rfl⟩⟩
  · simp [Value.cells] at hcs
    obtain ⟨rfl, rfl, rfl⟩ := hcs
    have hml : len0 ≤ m := by rw [hmm]; split <;> omega
    have cell : ∀ i, i < len0 → ∃ x y : Int, w.cell? (a.add (i * 2)) = some (.int .i64 x) ∧ w.cell? (a.add (i * 2 + 1)) = some (.int .i64 y) := by
      intro i hlt
      obtain ⟨ys, k, _, _, _, hf⟩ := hi i (by omega)
      obtain ⟨v0, y0, h0, _, t0⟩ := hf 0 _ rfl
      obtain ⟨v1, y1, h1, _, t1⟩ := hf 1 _ rfl
      obtain ⟨x, e0, _, _⟩ := DataW.trod_int Try.underlying3 t0
      obtain ⟨y, e1, _, _⟩ := DataW.trod_int Try.underlying3 t1
      simp at e0 e1
      subst e0 e1
      exact ⟨x, y, h0, h1⟩
    by_cases h0 : len0 = 0
    · exact ⟨_, _, _, [], rfl, .inl ⟨h0, rfl⟩⟩
    · obtain ⟨x0, y0, g0, _⟩ := cell 0 (by omega)
      obtain ⟨b, off, spot⟩ := a
      have hspot : spot = none := by simpa [Addr.add] using World.cell?_spot g0
      subst hspot
      obtain ⟨xs, hxl, hxs⟩ := collect (fun i x => w.cell? ⟨b, off + i * 2, none⟩ = some (.int .i64 x.1) ∧ w.cell? ⟨b, off + i * 2 + 1, none⟩ = some (.int .i64 x.2)) len0 (fun i hi => by
        obtain ⟨x, y, h1, h2⟩ := cell i hi
        rw [add_form] at h1 h2
        exact ⟨(x, y), h1, h2⟩)
      exact ⟨_, _, _, xs, rfl, .inr ⟨b, off, rfl, by omega, by omega, cell_lt (hxs 0 (by omega)).1, hxl, hxs⟩⟩
end Go.Proofs.Ytekcechjibigbaa
