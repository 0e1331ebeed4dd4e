/- kithref02.Open walked. -/
import Derived.Test.YtlgegjmnodjioaaOpenB
namespace Go.Proofs.Ytlgegjmnodjioaa
open Go.RowKit
theorem opens_seal {bs : List Nat} {m : Nat} (h : bs.length = m + 4) : Opens bs ↔ sealN (bs.take m) = bs := by
  unfold Opens sealN
  rw [show bs.length - 4 = m by omega]
  constructor
  · rintro ⟨_, h2⟩
    rw [← h2, List.take_append_drop]
  · intro h2
    refine ⟨by omega, ?_⟩
    have h3 : bs.take m ++ tailN (sumN (bs.take m)) = bs.take m ++ bs.drop m := by rw [h2, List.take_append_drop]
    exact (List.append_cancel_left h3).symm
set_option maxRecDepth 10000 in
set_option maxHeartbeats 1000000 in
theorem ropen_short (a : Option Addr) (n cap : Nat) (w : World) (h4 : n < 4) :
    Calls Try.prog 12 #[.slice a n cap] w fun e w' => e = .returned (.tuple #[.slice none 0 0, .bool false]) ∧ Below w.heap.size w w' := by
  have hneg : decide ((n : Int) - 4 < 0) = true := by simp; omega
  have hneg2 : (n : Int) - 4 < 0 := by omega
  go_enter Try.func12, Try.ntmps12
  go_wp2_with fail
  refine wp_region_noPanic (wp_region_sched (fun w' => Kept w.heap.size w w') [(0, true), (1, true), (2, true), (3, true), (4, true), (5, true), (8, true), (9, true), (6, false), (7, true), (10, true), (11, true)] (by kernel_rfl) (by kernel_rfl) (fun _ _ _ _ _ h => h) (Kept.drew ⟨Below.refl _ _, Nat.le_refl _⟩) (fun hHeld => ?_))
  repeat (first | (refine sched_skip rfl (by rfl) ?_; simp only [Act.put, List.setIfInBounds_toArray, List.set_cons_zero, List.set_cons_succ]) | (refine sched_pure (v := ?_) rfl (by rfl) ?_ ?_; rotate_left 1; (intro w' hS'; have hcc := hS'.cells; go_simp; with_reducible rfl); simp only [Act.put, List.setIfInBounds_toArray, List.set_cons_zero, List.set_cons_succ]) | fail)
  refine sched_end (NoPanic.normal ?_)
  go_wp2_with fail
  go_ret2
  exact ⟨rfl, (Below.refl _ _).drew⟩

set_option maxRecDepth 10000 in
set_option maxHeartbeats 2000000 in
theorem ropen_long (b off m n cap : Nat) (bs : List Nat) (w : World) (hn : n = m + 4) (hcap : n ≤ cap)
    (h : Bytes w (some ⟨b, off, none⟩) n cap bs) (hs : ∀ x ∈ bs, x < 256) (h304 : n ≤ 304) :
    Calls Try.prog 12 #[.slice (some ⟨b, off, none⟩) n cap] w (OpenPost bs w) := by
  obtain ⟨i0, hi, hz0, hz1, hz2⟩ := info_parts byte_info
  have hln := h.len
  have hcut := h.cut m (by omega)
  have hsm : ∀ x ∈ bs.take m, x < 256 := fun x hx => hs x (List.mem_of_mem_take hx)
  have hop := opens_seal (bs := bs) (m := m) (by omega)
  have hl4 : bs.length - 4 = m := by omega
  have hnm : (n : Int) - 4 = (m : Int) := by omega
  have hneg : decide ((m : Int) < 0) = false := by simp
  have hcv0 := fun w' (hk : Kept w.heap.size w w') => run_str (P := Try.prog) Try.underlying22 Try.underlying5 (h.kept hk.below (Nat.le_refl _)) 9 Try.underlying9
  have hmn : m ≤ n := by omega
  have hmc : m ≤ cap := by omega
  have hmc2 : ¬ cap = m := by omega
  have hmc3 : ¬ n < m := by omega
  have HN := Lib.hid hn; have HS := Lib.hid hs; have HCT := Lib.hid hcut; have HSM := Lib.hid hsm; have HOP := Lib.hid hop; have HL4 := Lib.hid hl4
  clear hn hs hcut hsm hop hln h hl4
  go_enter Try.func12, Try.ntmps12
  go_wp2_with fail
  refine wp_region_noPanic (wp_region_sched (fun w' => Kept w.heap.size w w') [(0, true), (1, true), (2, true), (3, true), (4, true), (5, true), (8, true), (9, true), (6, false), (7, true), (10, true), (11, true)] (by kernel_rfl) (by kernel_rfl) (fun _ _ _ _ _ h => h) (Kept.drew ⟨Below.refl _ _, Nat.le_refl _⟩) (fun hHeld => ?_))
  repeat (first | (refine sched_skip rfl (by rfl) ?_; simp only [Act.put, List.setIfInBounds_toArray, List.set_cons_zero, List.set_cons_succ]) | (refine sched_pure (v := ?_) rfl (by rfl) ?_ ?_; rotate_left 1; (intro w' hS'; have hcc := hS'.cells; go_simp; with_reducible rfl); simp only [Act.put, List.setIfInBounds_toArray, List.set_cons_zero, List.set_cons_succ]) | fail)
  refine sched_eff rfl (by rfl) (fun K hK => ?_)
  go_simp
  refine (rseal_any (HCT.out.kept hHeld.below (Nat.le_refl _)) HSM.out (by omega)).mono ?_
  rintro e w4 ⟨v4, rfl, hown4, hb⟩
  have hk_w4 := hHeld.step hb
  refine hK.out (fun w' => Kept w4.heap.size w4 w') _ _ (fun _ h => hk_w4.trans h hk_w4.le) ⟨Below.refl _ _, Nat.le_refl _⟩ (fun hHeld' => ?_)
  clear hHeld hK K
  have hHeld := hHeld'
  clear hHeld'
  try simp only [Act.put, List.setIfInBounds_toArray, List.set_cons_zero, List.set_cons_succ]
  obtain ⟨a4, c4, hv4, hp4⟩ := Bytes.of_own hown4
  rw [hv4]
  clear hown4 hv4 hcv0
  have hcv4 := fun w' (h : Kept w4.heap.size w4 w') => run_str (P := Try.prog) Try.underlying22 Try.underlying5 (hp4.kept h.below (Nat.le_refl _)) 9 Try.underlying9
  have hsb := str_beq (seal_small HSM.out) HS.out
  have HP4 := Lib.hid hp4
  clear hp4
  by_cases hall : sealN (bs.take m) = bs
  · have hyes := HOP.out.2 hall
    rw [decide_eq_true hall] at hsb
    clear hall
    repeat (first | (refine sched_skip rfl (by rfl) ?_; simp only [Act.put, List.setIfInBounds_toArray, List.set_cons_zero, List.set_cons_succ]) | (refine sched_pure (v := ?_) rfl (by rfl) ?_ ?_; rotate_left 1; (intro w' hS'; have hcc := hS'.cells; go_simp; with_reducible rfl); simp only [Act.put, List.setIfInBounds_toArray, List.set_cons_zero, List.set_cons_succ]) | fail)
    refine sched_end (NoPanic.normal ?_)
    have hown0 := own_emptyB w4 w.heap.size hk_w4.le
    have hrd := ((HCT.out.kept hk_w4.below (Nat.le_refl _)).reads).alloc (Nat.le_refl _) (.cells #[] 5)
    have HO0 := Lib.hid hown0; have HRD := Lib.hid hrd
    clear hown0 hrd hHeld hcv4 hsb
    have hle4 := hk_w4.le
    go_wp2_with (at_builtin; refine wpList_append_any _ rfl (.tmp 20) (.tmp 23) _ rfl w.heap.size 5 i0 _ 1 1 Try.underlying22 hi hz0 hz1 hz2 rfl (by omega) (.slice (some ⟨w4.heap.size, 0, none⟩) 0 0) 0 (cells []) rfl HO0.out w4.heap.size (some ⟨b, off, none⟩) m cap (cells (bs.take m)) rfl HRD.out (cells_one _) (by simp only [maxLen]; omega) (by omega) (Nat.le_trans hle4 (by simp)) ?_; intro v5 w5 hown5 hg5 hat5)
    have hg5' : (w4.alloc (.cells #[] 5)).grownBy w5 (some w4.heap.size) := hg5
    have hb5 : Below w.heap.size w w5 := (hk_w4.alloc (.cells #[] 5)).below.grown hg5' (Nat.le_trans hle4 (by simp)) (fun g hg => by injection hg with hg; omega)
    go_ret2
    refine .inl ⟨hyes, _, rfl, ?_, hb5⟩
    rw [HL4.out]
    have eF : cells [] ++ cells (bs.take m) = cells (bs.take m) := rfl
    rw [eF, Nat.zero_add] at hown5
    exact hown5
  · have hno : ¬ Opens bs := fun h => hall (HOP.out.1 h)
    rw [decide_eq_false hall] at hsb
    repeat (first | (refine sched_skip rfl (by rfl) ?_; simp only [Act.put, List.setIfInBounds_toArray, List.set_cons_zero, List.set_cons_succ]) | (refine sched_pure (v := ?_) rfl (by rfl) ?_ ?_; rotate_left 1; (intro w' hS'; have hcc := hS'.cells; go_simp; with_reducible rfl); simp only [Act.put, List.setIfInBounds_toArray, List.set_cons_zero, List.set_cons_succ]) | fail)
    refine sched_end (NoPanic.normal ?_)
    go_wp2_with fail
    go_ret2
    exact .inr ⟨hno, rfl, hk_w4.below⟩
theorem ropen_any {a : Option Addr} {n cap : Nat} {bs : List Nat} {w : World} (h : Bytes w a n cap bs) (hs : ∀ x ∈ bs, x < 256) (h304 : n ≤ 304) :
    Calls Try.prog 12 #[.slice a n cap] w (OpenPost bs w) := by
  have hl := h.len
  rcases Nat.lt_or_ge n 4 with h4 | h4
  · refine (ropen_short a n cap w h4).mono ?_
    rintro e w' ⟨rfl, hb⟩
    exact .inr ⟨fun ho => by have := ho.1; omega, rfl, hb⟩
  · obtain ⟨b, off, rfl, _, _⟩ := h.pos (by omega)
    exact ropen_long b off (n - 4) n cap bs w (by omega) h.1 h hs h304
end Go.Proofs.Ytlgegjmnodjioaa
