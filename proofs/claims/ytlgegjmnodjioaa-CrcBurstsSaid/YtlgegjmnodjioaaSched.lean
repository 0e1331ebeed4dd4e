/- A region that draws its order, walked in one order that the kernel checks: what only yields is taken first, also where its guard says no; what acts comes up alone. -/
import Derived.Deep.RegionHeld3
import Derived.WalkKit
namespace Go.Proofs.Ytlgegjmnodjioaa
open Go.RowKit
section
variable {P : Program} {ops : Array Oper} {Q : Exit → Act → World → Prop} {S : World → Prop}
/-- the i-th of a list, by looking alone -/
def nth : List Oper → Nat → Option Oper
  | [], _ => none
  | o :: _, 0 => some o
  | _ :: l, i + 1 => nth l i
theorem nth_eq : ∀ (l : List Oper) (i : Nat), nth l i = l.toArray[i]?
  | [], i => by simp [nth]
  | o :: l, 0 => by simp [nth]
  | o :: l, i + 1 => by rw [nth, nth_eq l i]; simp
/-- the goal along one order: (number, whether it only yields); what is kept may be said anew, and more of it, behind each act -/
def wpSched (P : Program) (ops : Array Oper) (Q : Exit → Act → World → Prop) : List (Nat × Bool) → (World → Prop) → Act → World → Prop
  | [], _, a, w => Q .normal a w
  | (i, b) :: r, S, a, w => ∃ o, ops[i]? = some o ∧
    if Region.wanted o (yielded ops a.tmps) = true then
      (if b = true then ∃ v, (∀ w', S w' → (execOp a.eval o).run P w' = .ok (.value v) w') ∧ wpSched P ops Q r S (a.put o.dst v) w
       else Oper.wp P o a w (fun a' w' => ∃ S' : World → Prop, (∀ x, S' x → S x) ∧ S' w' ∧ wpSched P ops Q r S' a' w') Q)
    else wpSched P ops Q r S (a.put o.dst undef) w
theorem wpAnyH_weak {S S' : World → Prop} (h : ∀ x, S' x → S x) : ∀ (fuel : Nat) (listed : Array Bool) (a : Act) (w : World), wpAnyH P .any ops Q S' fuel listed a w → wpAnyH P .any ops Q S fuel listed a w
  | 0, _, _, _, g => g
  | fuel + 1, _, _, _, g => ⟨g.1, fun i hi => wpOp_mono (fun _ _ g' => ⟨h _ g'.1, wpAnyH_weak h fuel _ _ _ g'.2⟩) (g.2 i hi)⟩
/-- that order is one that serves for all -/
def schedOk (ops : Array Oper) : List (Nat × Bool) → Array Bool → Bool
  | [], listed => (Region.ready .any ops listed).isEmpty
  | (i, b) :: r, listed => (if b then (Region.ready .any ops listed).contains i && Region.free .any ops listed i else Region.ready .any ops listed == [i]) && schedOk ops r (listed.setIfInBounds i true)

theorem wpSched_sound (hs : Region.noSelect ops = true) (hQ : ∀ c a (d : Option Tmp) v w, Q (.panic c) (a.put d v) w → Q (.panic c) a w) :
    ∀ (σ : List (Nat × Bool)) (S : World → Prop) (listed : Array Bool) (a : Act) (w : World), schedOk ops σ listed = true → S w → wpSched P ops Q σ S a w → wpAnyH P .any ops Q S σ.length listed a w
  | [], _, listed, a, w, hc, _, h => ⟨by simpa [schedOk] using hc, h⟩
  | (i, b) :: r, S, listed, a, w, hc, hS, h => by
    obtain ⟨o, ho, h⟩ := h
    simp only [schedOk, Bool.and_eq_true] at hc
    obtain ⟨hc1, hc2⟩ := hc
    have ih := fun S a w => wpSched_sound hs hQ r S (listed.setIfInBounds i true) a w hc2
    show wpAnyH P .any ops Q S (r.length + 1) listed a w
    cases b with
    | true =>
      simp only [if_true, Bool.and_eq_true] at hc1
      by_cases hw : Region.wanted o (yielded ops a.tmps) = true
      · rw [if_pos hw] at h
        simp only [if_true] at h
        obtain ⟨v, hv, h⟩ := h
        exact wpAnyH_take ho hs hc1.2 hc1.1 (fun c a w => hQ c a _ _ w) (Or.inl ⟨hw, hv⟩) hS (ih _ _ _ hS h)
      · rw [if_neg hw] at h
        exact wpAnyH_take ho hs hc1.2 hc1.1 (fun c a w => hQ c a _ _ w) (Or.inr ⟨by simpa using hw, rfl⟩) hS (ih _ _ _ hS h)
    | false =>
      simp only [Bool.false_eq_true, if_false, beq_iff_eq] at hc1
      refine wpAnyH_all hc1 (by simp) (fun j hj => ?_)
      obtain rfl : j = i := by simpa using hj
      unfold wpOp
      simp only [ho]
      by_cases hw : Region.wanted o (yielded ops a.tmps) = true
      · rw [if_pos hw] at h ⊢
        simp only [Bool.false_eq_true, if_false] at h
        exact .inl (Oper.wp_mono (fun a' w' ⟨S', h1, h2, h3⟩ => ⟨h1 _ h2, wpAnyH_weak h1 _ _ _ _ (ih S' _ _ h2 h3)⟩) h)
      · rw [if_neg hw] at h ⊢
        exact ⟨hS, ih _ _ _ hS h⟩

theorem wp_region_sched {id : Nat} {a : Act} {w : World} (S : World → Prop) (σ : List (Nat × Bool)) (hm : P.follows .mixedOrders = true)
    (hc : (Region.noSelect ops && (σ.length == ops.size && schedOk ops σ (Array.replicate ops.size false))) = true)
    (hQ : ∀ c a (d : Option Tmp) v w, Q (.panic c) (a.put d v) w → Q (.panic c) a w) (hS : S w.drew)
    (h : S w.drew → wpSched P ops Q σ S a w.drew) : (Code.region id ops true).wp P Q a w := by
  simp only [Bool.and_eq_true, beq_iff_eq] at hc
  obtain ⟨h1, h2, h3⟩ := hc
  have hw := wpSched_sound h1 hQ σ S _ a _ h3 hS (h hS)
  rw [h2] at hw
  exact wp_region_held hm hw

theorem sched_skip {l : List Oper} {i : Nat} {b : Bool} {r : List (Nat × Bool)} {o : Oper} {a : Act} {w : World} (hi : nth l i = some o) (hw : Region.wanted o (yielded l.toArray a.tmps) = false)
    (h : wpSched P l.toArray Q r S (a.put o.dst undef) w) : wpSched P l.toArray Q ((i, b) :: r) S a w := ⟨o, (nth_eq l i).symm.trans hi, by rw [if_neg (by rw [hw]; simp)]; exact h⟩
theorem sched_pure {l : List Oper} {i : Nat} {r : List (Nat × Bool)} {o : Oper} {a : Act} {w : World} {v : Value} (hi : nth l i = some o) (hw : Region.wanted o (yielded l.toArray a.tmps) = true)
    (hv : ∀ w', S w' → (execOp a.eval o).run P w' = .ok (.value v) w') (h : wpSched P l.toArray Q r S (a.put o.dst v) w) : wpSched P l.toArray Q ((i, true) :: r) S a w :=
  ⟨o, (nth_eq l i).symm.trans hi, by rw [if_pos hw]; exact ⟨v, hv, h⟩⟩
theorem sched_eff {l : List Oper} {i : Nat} {r : List (Nat × Bool)} {o : Oper} {a : Act} {w : World} (hi : nth l i = some o) (hw : Region.wanted o (yielded l.toArray a.tmps) = true)
    (h : ∀ K : Act → World → Prop, Shut (∀ (S' : World → Prop) a' w', (∀ x, S' x → S x) → S' w' → (S' w' → wpSched P l.toArray Q r S' a' w') → K a' w') → Oper.wp P o a w K Q) : wpSched P l.toArray Q ((i, false) :: r) S a w :=
  ⟨o, (nth_eq l i).symm.trans hi, by rw [if_pos hw]; exact h _ (fun S' a' w' h1 h2 hW => ⟨S', h1, h2, hW h2⟩)⟩
theorem sched_end {a : Act} {w : World} (h : Q .normal a w) : wpSched P ops Q [] S a w := h
end
end Go.Proofs.Ytlgegjmnodjioaa
