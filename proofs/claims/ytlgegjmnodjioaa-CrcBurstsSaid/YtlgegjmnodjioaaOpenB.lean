/- crc.Open walked. -/
import Derived.Test.YtlgegjmnodjioaaSeal
import Derived.Test.YtlgegjmnodjioaaSched
import Derived.Test.YtlgegjmnodjioaaEqq
namespace Go.Proofs.Ytlgegjmnodjioaa
open Go.RowKit
/-- what the bytes are that open, if they do -/
def Opens (bs : List Nat) : Prop := 4 ≤ bs.length ∧ bs.drop (bs.length - 4) = tailN (sumN (bs.take (bs.length - 4)))
def OpenPost (bs : List Nat) (w : World) (e : Ending) (w' : World) : Prop :=
  (Opens bs ∧ ∃ v, e = .returned (.tuple #[v, .bool true]) ∧ w'.ownsRow w.heap.size 5 1 v (bs.length - 4) (cells (bs.take (bs.length - 4))) ∧ Below w.heap.size w w') ∨
  (¬ Opens bs ∧ e = .returned (.tuple #[.slice none 0 0, .bool false]) ∧ Below w.heap.size w w')
theorem run_arrayAt {P : Program} {t e : TypeId} {k len cap : Nat} {a : Option Addr} (ht : P.underlying t = some (.array k e)) (h : k ≤ len) (w : World) :
    (Instr.arrayAt t (.slice a len cap)).run P w = .ok (.pointer a) w := by
  simp [Instr.arrayAt, run_underlying ht]
  omega
theorem drop_four {bs : List Nat} {m : Nat} (h : bs.length = m + 4) : bs.drop m = [bs.getD m 0, bs.getD (m + 1) 0, bs.getD (m + 2) 0, bs.getD (m + 3) 0] := by
  have g : ∀ i, i < bs.length → bs.drop i = bs.getD i 0 :: bs.drop (i + 1) := fun i hi => by
    rw [List.drop_eq_getElem_cons hi]
    simp only [List.getD, List.getElem?_eq_getElem hi, Option.getD_some]
  rw [g m (by omega), g (m + 1) (by omega), g (m + 2) (by omega), g (m + 3) (by omega), List.drop_eq_nil_of_le (by omega)]

set_option maxRecDepth 10000 in
set_option maxHeartbeats 1000000 in
theorem open_short (a : Option Addr) (n cap : Nat) (w : World) (h4 : n < 4) :
    Calls Try.prog 11 #[.slice a n cap] w fun e w' => e = .returned (.tuple #[.slice none 0 0, .bool false]) ∧ Below w.heap.size w w' := by
  have hneg : decide ((n : Int) - 4 < 0) = true := by simp; omega
  have hneg2 : (n : Int) - 4 < 0 := by omega
  go_enter Try.func11, Try.ntmps11
  go_wp2_with fail
  refine wp_region_noPanic (wp_region_sched (fun w' => Kept w.heap.size w w') [(0, true), (1, true), (2, true), (3, true), (4, true), (5, true), (6, true), (7, true), (8, true), (9, true), (10, true), (11, false), (12, true), (13, true)] (by kernel_rfl) (by kernel_rfl) (fun _ _ _ _ _ h => h) (Kept.drew ⟨Below.refl _ _, Nat.le_refl _⟩) (fun hHeld => ?_))
  repeat (first | (refine sched_skip rfl (by rfl) ?_; simp only [Act.put, List.setIfInBounds_toArray, List.set_cons_zero, List.set_cons_succ]) | (refine sched_pure (v := ?_) rfl (by rfl) ?_ ?_; rotate_left 1; (intro w' hS'; have hcc := hS'.cells; go_simp; with_reducible rfl); simp only [Act.put, List.setIfInBounds_toArray, List.set_cons_zero, List.set_cons_succ]) | fail)
  refine sched_end (NoPanic.normal ?_)
  go_wp2_with fail
  go_ret2
  exact ⟨rfl, (Below.refl _ _).drew⟩

set_option maxRecDepth 10000 in
set_option maxHeartbeats 2000000 in
theorem open_long (b off m n cap : Nat) (bs : List Nat) (w : World) (hn : n = m + 4) (hcap : n ≤ cap) (hbw : b < w.heap.size)
    (h : Bytes w (some ⟨b, off, none⟩) n cap bs) (hs : ∀ x ∈ bs, x < 256) (h304 : n ≤ 304) :
    Calls Try.prog 11 #[.slice (some ⟨b, off, none⟩) n cap] w (OpenPost bs w) := by
  obtain ⟨i0, hi, hz0, hz1, hz2⟩ := info_parts byte_info
  have hln := h.len
  have hcut := h.cut m (by omega)
  have hsm : ∀ x ∈ bs.take m, x < 256 := fun x hx => hs x (List.mem_of_mem_take hx)
  obtain ⟨b', o', hb', -, hce⟩ := h.pos (by omega)
  injection hb' with hb'
  injection hb' with hb1 hb2
  subst hb1 hb2
  have k0 := hce m (by omega)
  have k1 := hce (m + 1) (by omega)
  have k2 := hce (m + 2) (by omega)
  have k3 := hce (m + 3) (by omega)
  simp only [← Nat.add_assoc] at k1 k2 k3
  have hdr := drop_four (bs := bs) (m := m) (by omega)
  generalize bs.getD m 0 = e0 at k0 hdr
  generalize bs.getD (m + 1) 0 = e1 at k1 hdr
  generalize bs.getD (m + 2) 0 = e2 at k2 hdr
  generalize bs.getD (m + 3) 0 = e3 at k3 hdr
  obtain ⟨d0, d1, d2, d3, hd⟩ : ∃ d0 d1 d2 d3, tailN (sumN (bs.take m)) = [d0, d1, d2, d3] := ⟨_, _, _, _, rfl⟩
  have hop : Opens bs ↔ (e0 = d0 ∧ e1 = d1 ∧ e2 = d2 ∧ e3 = d3) := by
    unfold Opens
    rw [hln, show n - 4 = m by omega, hdr, hd]
    simp
    omega
  have hl4 : bs.length - 4 = m := by omega
  have hnm : (n : Int) - 4 = (m : Int) := by omega
  have hneg : decide ((m : Int) < 0) = false := by simp
  have hptr := fun w' => run_arrayAt (P := Try.prog) (len := 4) (cap := cap - m) (a := some ⟨b, off + m, none⟩) Try.underlying37 (Nat.le_refl _) w'
  have hn4 : n - m = 4 := by omega
  have hmn : m ≤ n := by omega
  have hmc : m ≤ cap := by omega
  have hmc2 : ¬ cap = m := by omega
  have hmc3 : ¬ n < m := by omega
  have HN := Lib.hid hn; have HS := Lib.hid hs; have HCT := Lib.hid hcut; have HSM := Lib.hid hsm; have HD := Lib.hid hd; have HOP := Lib.hid hop; have HL4 := Lib.hid hl4
  clear hn hs hcut hsm hd hop hdr hce hln h hl4
  go_enter Try.func11, Try.ntmps11
  go_wp2_with fail
  refine wp_region_noPanic (wp_region_sched (fun w' => Kept w.heap.size w w') [(0, true), (1, true), (2, true), (3, true), (4, true), (5, true), (6, true), (7, true), (8, true), (9, true), (10, true), (11, false), (12, true), (13, true)] (by kernel_rfl) (by kernel_rfl) (fun _ _ _ _ _ h => h) (Kept.drew ⟨Below.refl _ _, Nat.le_refl _⟩) (fun hHeld => ?_))
  repeat (first | (refine sched_skip rfl (by rfl) ?_; simp only [Act.put, List.setIfInBounds_toArray, List.set_cons_zero, List.set_cons_succ]) | (refine sched_pure (v := ?_) rfl (by rfl) ?_ ?_; rotate_left 1; (intro w' hS'; have hcc := hS'.cells; go_simp; with_reducible rfl); simp only [Act.put, List.setIfInBounds_toArray, List.set_cons_zero, List.set_cons_succ]) | fail)
  refine sched_eff rfl (by rfl) (fun K hK => ?_)
  go_simp
  refine (tail_any (HCT.out.kept hHeld.below (Nat.le_refl _)) HSM.out).mono ?_
  rintro e w4 ⟨rfl, hb⟩
  have hk_w4 := hHeld.step hb
  refine hK.out (fun w' => Kept w4.heap.size w4 w') _ _ (fun _ h => hk_w4.trans h hk_w4.le) ⟨Below.refl _ _, Nat.le_refl _⟩ (fun hHeld' => ?_)
  clear hHeld hK K
  have hHeld := hHeld'
  clear hHeld'
  try simp only [Act.put, List.setIfInBounds_toArray, List.set_cons_zero, List.set_cons_succ]
  rw [HD.out]
  have hcl : (cells [d0, d1, d2, d3]).toArray = #[.int .u8 (d0 : Int), .int .u8 (d1 : Int), .int .u8 (d2 : Int), .int .u8 (d3 : Int)] := rfl
  rw [hcl]
  clear hcl
  by_cases hall : e0 = d0 ∧ e1 = d1 ∧ e2 = d2 ∧ e3 = d3
  · have hyes := HOP.out.2 hall
    obtain ⟨rfl, rfl, rfl, rfl⟩ := hall
    have hgd := neq_guard
    have hne := fun w' => (neq_four e0 e1 e2 e3 e0 e1 e2 e3 w').trans (show _ = Result.ok (Value.bool false) w' by simp)
    repeat (first | (refine sched_skip rfl (by rfl) ?_; simp only [Act.put, List.setIfInBounds_toArray, List.set_cons_zero, List.set_cons_succ]) | (refine sched_pure (v := ?_) rfl (by rfl) ?_ ?_; rotate_left 1; (intro w' hS'; have hcc := hS'.cells; go_simp; with_reducible rfl); simp only [Act.put, List.setIfInBounds_toArray, List.set_cons_zero, List.set_cons_succ]) | fail)
    refine sched_end (NoPanic.normal ?_)
    have hown0 := own_emptyB w4 w.heap.size hk_w4.le
    have hrd := ((HCT.out.kept hk_w4.below (Nat.le_refl _)).reads).alloc (Nat.le_refl _) (.cells #[] 5)
    have HO0 := Lib.hid hown0; have HRD := Lib.hid hrd
    clear hown0 hrd hHeld hgd hne
    have hle4 := hk_w4.le
    go_wp2_with (at_builtin; refine wpList_append_any _ rfl (.tmp 22) (.tmp 25) _ rfl w.heap.size 5 i0 _ 1 1 Try.underlying22 hi hz0 hz1 hz2 rfl (by omega) (.slice (some ⟨w4.heap.size, 0, none⟩) 0 0) 0 (cells []) rfl HO0.out w4.heap.size (some ⟨b, off, none⟩) m cap (cells (bs.take m)) rfl HRD.out (cells_one _) (by simp only [maxLen]; omega) (by omega) (Nat.le_trans hle4 (by simp)) ?_; intro v5 w5 hown5 hg5 hat5)
    have hg5' : (w4.alloc (.cells #[] 5)).grownBy w5 (some w4.heap.size) := hg5
    have hb5 : Below w.heap.size w w5 := (hk_w4.alloc (.cells #[] 5)).below.grown hg5' (Nat.le_trans hle4 (by simp)) (fun g hg => by injection hg with hg; omega)
    go_ret2
    refine .inl ⟨hyes, _, rfl, ?_, hb5⟩
    rw [HL4.out]
    have eF : cells [] ++ cells (bs.take m) = cells (bs.take m) := rfl
    rw [eF, Nat.zero_add] at hown5
    exact hown5
  · have hno : ¬ Opens bs := fun h => hall (HOP.out.1 h)
    have hgd := neq_guard
    have hne := fun w' => (neq_four e0 e1 e2 e3 d0 d1 d2 d3 w').trans (show _ = Result.ok (Value.bool true) w' by simp [hall])
    repeat (first | (refine sched_skip rfl (by rfl) ?_; simp only [Act.put, List.setIfInBounds_toArray, List.set_cons_zero, List.set_cons_succ]) | (refine sched_pure (v := ?_) rfl (by rfl) ?_ ?_; rotate_left 1; (intro w' hS'; have hcc := hS'.cells; go_simp; with_reducible rfl); simp only [Act.put, List.setIfInBounds_toArray, List.set_cons_zero, List.set_cons_succ]) | fail)
    refine sched_end (NoPanic.normal ?_)
    go_wp2_with fail
    go_ret2
    exact .inr ⟨hno, rfl, hk_w4.below⟩
theorem open_any {a : Option Addr} {n cap : Nat} {bs : List Nat} {w : World} (h : Bytes w a n cap bs) (hs : ∀ x ∈ bs, x < 256) (h304 : n ≤ 304) :
    Calls Try.prog 11 #[.slice a n cap] w (OpenPost bs w) := by
  have hl := h.len
  rcases Nat.lt_or_ge n 4 with h4 | h4
  · refine (open_short a n cap w h4).mono ?_
    rintro e w' ⟨rfl, hb⟩
    exact .inr ⟨fun ho => by have := ho.1; omega, rfl, hb⟩
  · obtain ⟨b, off, rfl, hbw, _⟩ := h.pos (by omega)
    exact open_long b off (n - 4) n cap bs w (by omega) h.1 hbw h hs h304
end Go.Proofs.Ytlgegjmnodjioaa
