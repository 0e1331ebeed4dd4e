/- The sum of layer 2 in plain Lean: the register, a row of bytes as one number, seals, bursts. -/
namespace Go.Proofs.Ytlgegjmnodjioaa
abbrev poly : Nat := 3988292384
def bit (x : Nat) : Nat := if x % 2 = 1 then x / 2 ^^^ poly else x / 2
def run : Nat → Nat → Nat
  | 0, x => x
  | m + 1, x => run m (bit x)
def stepN (r c : Nat) : Nat := run 8 (r ^^^ c)
def regN (r : Nat) (l : List Nat) : Nat := l.foldl stepN r
abbrev ones : Nat := 4294967295
def sumN (l : List Nat) : Nat := ones - regN ones l
def tailN (s : Nat) : List Nat := [s % 256, s / 256 % 256, s / 65536 % 256, s / 16777216 % 256]
def sealN (l : List Nat) : List Nat := l ++ tailN (sumN l)
/-- the bytes as one number, the first one the lowest -/
def big : List Nat → Nat
  | [] => 0
  | c :: l => c + 256 * big l

theorem xor_div2 (a b : Nat) : (a ^^^ b) / 2 = a / 2 ^^^ b / 2 := by
  have h := Nat.xor_div_two_pow (a := a) (b := b) (n := 1)
  simpa using h
theorem xor_mod2 (a b : Nat) : (a ^^^ b) % 2 = (a % 2 + b % 2) % 2 := by
  have h := Nat.xor_mod_two_pow (a := a) (b := b) (n := 1)
  simp at h
  rw [h]
  rcases Nat.mod_two_eq_zero_or_one a with ha | ha <;> rcases Nat.mod_two_eq_zero_or_one b with hb | hb <;> simp [ha, hb]
theorem xor_swap (a b c d : Nat) : (a ^^^ b) ^^^ (c ^^^ d) = (a ^^^ c) ^^^ (b ^^^ d) := by
  rw [Nat.xor_assoc, ← Nat.xor_assoc b c d, Nat.xor_comm b c, Nat.xor_assoc c b d, ← Nat.xor_assoc]
theorem bit_xor (a b : Nat) : bit (a ^^^ b) = bit a ^^^ bit b := by
  unfold bit
  rw [xor_mod2, xor_div2]
  rcases Nat.mod_two_eq_zero_or_one a with ha | ha <;> rcases Nat.mod_two_eq_zero_or_one b with hb | hb <;> simp only [ha, hb]
  · simp
  · simp [Nat.xor_assoc]
  · simp only [if_true, Nat.zero_ne_one, if_false]
    rw [Nat.xor_assoc, Nat.xor_comm (b / 2), ← Nat.xor_assoc]
  · simp only [Nat.reduceAdd, Nat.reduceMod, if_true, Nat.zero_ne_one, if_false]
    rw [xor_swap, Nat.xor_self, Nat.xor_zero]
theorem bit_double (y : Nat) : bit (2 * y) = y := by
  unfold bit
  rw [if_neg (by omega)]
  omega
theorem run_xor : ∀ (m a b : Nat), run m (a ^^^ b) = run m a ^^^ run m b
  | 0, _, _ => rfl
  | m + 1, a, b => by simp only [run, bit_xor, run_xor m]
theorem run_shift : ∀ (m y : Nat), run m (2 ^ m * y) = y
  | 0, y => by simp [run]
  | m + 1, y => by
    have e : 2 ^ (m + 1) * y = 2 * (2 ^ m * y) := by rw [Nat.pow_succ, Nat.mul_comm (2 ^ m) 2, Nat.mul_assoc]
    rw [e]
    simp only [run, bit_double, run_shift m]
theorem run_add : ∀ (m n x : Nat), run (m + n) x = run n (run m x)
  | 0, n, x => by simp [run]
  | m + 1, n, x => by
    rw [show m + 1 + n = (m + n) + 1 by omega]
    simp only [run, run_add m]
theorem bit_lt {x : Nat} (h : x < 4294967296) : bit x < 4294967296 := by
  unfold bit
  split
  · exact Nat.xor_lt_two_pow (n := 32) (by omega) (by decide)
  · omega
theorem run_lt : ∀ (m : Nat) {x : Nat}, x < 4294967296 → run m x < 4294967296
  | 0, _, h => h
  | m + 1, _, h => run_lt m (bit_lt h)
theorem xor_zero_eq {a b : Nat} (h : a ^^^ b = 0) : a = b := by
  have : a ^^^ b ^^^ b = 0 ^^^ b := by rw [h]
  simpa [Nat.xor_assoc] using this
theorem bit_zero {x : Nat} (h : x < 4294967296) (h0 : bit x = 0) : x = 0 := by
  unfold bit at h0
  split at h0
  · have h1 : x / 2 = 3988292384 := xor_zero_eq h0
    omega
  · omega
theorem run_zero : ∀ (m : Nat) {x : Nat}, x < 4294967296 → run m x = 0 → x = 0
  | 0, _, _, h => h
  | m + 1, _, hx, h => bit_zero hx (run_zero m (bit_lt hx) h)
theorem run_inj (m : Nat) {a b : Nat} (ha : a < 4294967296) (hb : b < 4294967296) (h : run m a = run m b) : a = b := by
  refine xor_zero_eq (run_zero m (Nat.xor_lt_two_pow (n := 32) ha hb) ?_)
  rw [run_xor, h, Nat.xor_self]
theorem run_of_zero : ∀ m, run m 0 = 0
  | 0 => rfl
  | m + 1 => by
    show run m (bit 0) = 0
    rw [show bit 0 = 0 by decide, run_of_zero m]
theorem xor_lt {a b : Nat} (ha : a < 4294967296) (hb : b < 4294967296) : a ^^^ b < 4294967296 := Nat.xor_lt_two_pow (n := 32) ha hb
theorem step_lt {r c : Nat} (hr : r < 4294967296) (hc : c < 256) : stepN r c < 4294967296 := run_lt 8 (xor_lt hr (by omega))
theorem reg_lt {l : List Nat} (hl : ∀ x ∈ l, x < 256) : ∀ {r : Nat}, r < 4294967296 → regN r l < 4294967296 := by
  induction l with
  | nil => intro r h; exact h
  | cons c l ih => intro r h; exact ih (fun x hx => hl x (by simp [hx])) (step_lt h (hl c (by simp)))
theorem sum_lt (l : List Nat) : sumN l < 4294967296 := by unfold sumN ones; omega
theorem reg_append (r : Nat) (a b : List Nat) : regN r (a ++ b) = regN (regN r a) b := by simp [regN, List.foldl_append]
theorem xor_low {c y : Nat} (h : c < 256) : c + 256 * y = c ^^^ 256 * y := by
  have h1 := Nat.two_pow_add_eq_or_of_lt (b := c) (i := 8) (by omega) y
  have h2 : (2 ^ 8 * y) ^^^ c = 2 ^ 8 * y ||| c := by
    apply Nat.eq_of_testBit_eq
    intro i
    rw [Nat.testBit_xor, Nat.testBit_or, Nat.testBit_two_pow_mul]
    rcases Nat.lt_or_ge i 8 with hi | hi
    · simp [show ¬ i ≥ 8 by omega]
    · have : c.testBit i = false := Nat.testBit_lt_two_pow (Nat.lt_of_lt_of_le h (by exact Nat.pow_le_pow_right (n := 2) (by omega) hi))
      simp [this]
  rw [Nat.xor_comm, h2, ← h1, Nat.add_comm]
/-- the register behind a row of bytes -/
theorem reg_run : ∀ (l : List Nat) (r : Nat), (∀ x ∈ l, x < 256) → regN r l = run (8 * l.length) (r ^^^ big l)
  | [], r, _ => by simp [regN, big, run]
  | c :: l, r, h => by
    have hc : c < 256 := h c (by simp)
    have e : regN r (c :: l) = regN (stepN r c) l := rfl
    rw [e, reg_run l _ (fun x hx => h x (by simp [hx]))]
    have e2 : 8 * (c :: l).length = 8 + 8 * l.length := by simp; omega
    rw [e2, run_add]
    have e3 : r ^^^ big (c :: l) = (r ^^^ c) ^^^ 2 ^ 8 * big l := by
      show r ^^^ (c + 256 * big l) = _
      rw [xor_low hc, Nat.xor_assoc]
    rw [e3, run_xor 8 (r ^^^ c) (2 ^ 8 * big l), run_shift]
    rfl
theorem big_lt : ∀ (l : List Nat), (∀ x ∈ l, x < 256) → big l < 2 ^ (8 * l.length)
  | [], _ => by simp [big]
  | c :: l, h => by
    have hc : c < 256 := h c (by simp)
    have := big_lt l (fun x hx => h x (by simp [hx]))
    have e : 2 ^ (8 * (c :: l).length) = 256 * 2 ^ (8 * l.length) := by
      rw [show 8 * (c :: l).length = 8 + 8 * l.length by simp; omega, Nat.pow_add]
    rw [e]
    show c + 256 * big l < _
    omega
theorem big_inj : ∀ {a b : List Nat}, (∀ x ∈ a, x < 256) → (∀ x ∈ b, x < 256) → a.length = b.length → big a = big b → a = b
  | [], [], _, _, _, _ => rfl
  | x :: a, y :: b, ha, hb, hl, h => by
    have hx := ha x (by simp)
    have hy := hb y (by simp)
    have h' : x + 256 * big a = y + 256 * big b := h
    have e : x = y := by omega
    have e2 : big a = big b := by omega
    rw [e, big_inj (fun z hz => ha z (by simp [hz])) (fun z hz => hb z (by simp [hz])) (by simpa using hl) e2]
theorem big_xor : ∀ {a b c : List Nat}, (∀ x ∈ a, x < 256) → (∀ x ∈ b, x < 256) → a.length = c.length → b.length = c.length → (∀ i, i < c.length → c.getD i 0 = a.getD i 0 ^^^ b.getD i 0) → big c = big a ^^^ big b
  | [], [], [], _, _, _, _, _ => rfl
  | [], _ :: _, [], _, _, _, h2, _ => by simp at h2
  | [], _ :: _, _ :: _, _, _, h1, _, _ => by simp at h1
  | _ :: _, [], [], _, _, h1, _, _ => by simp at h1
  | _ :: _, [], _ :: _, _, _, _, h2, _ => by simp at h2
  | x :: a, y :: b, z :: c, ha, hb, h1, h2, h => by
    have hx := ha x (by simp)
    have hy := hb y (by simp)
    have hz : z = x ^^^ y := by simpa using h 0 (by simp)
    have ih := big_xor (a := a) (b := b) (c := c) (fun z hz => ha z (by simp [hz])) (fun z hz => hb z (by simp [hz])) (by simpa using h1) (by simpa using h2) (fun i hi => by simpa using h (i + 1) (by simp; omega))
    have hzl : z < 256 := by rw [hz]; exact Nat.xor_lt_two_pow (n := 8) hx hy
    show z + 256 * big c = (x + 256 * big a) ^^^ (y + 256 * big b)
    rw [xor_low hzl, xor_low hx, xor_low hy, hz, ih, xor_swap]
    congr 1
    have e := Nat.shiftLeft_xor_distrib (a := big a) (b := big b) (i := 8)
    simp only [Nat.shiftLeft_eq] at e
    rw [Nat.mul_comm 256, Nat.mul_comm 256, Nat.mul_comm 256]
    exact e
theorem tail_len (s : Nat) : (tailN s).length = 4 := rfl
theorem tail_small (s : Nat) : ∀ x ∈ tailN s, x < 256 := by
  intro x hx
  simp only [tailN, List.mem_cons, List.not_mem_nil, or_false] at hx
  omega
theorem big_tail {s : Nat} (h : s < 4294967296) : big (tailN s) = s := by simp only [tailN, big]; omega
theorem ones_xor {r : Nat} (h : r < 4294967296) : ones - r = ones ^^^ r := by
  have hr : r < 2 ^ 32 := h
  have e : (2 ^ 32 - 1) ^^^ r = 2 ^ 32 - 1 - r := by
    apply Nat.eq_of_testBit_eq
    intro i
    rw [Nat.testBit_xor, Nat.testBit_two_pow_sub_one, show 2 ^ 32 - 1 - r = 2 ^ 32 - (r + 1) by omega, Nat.testBit_two_pow_sub_succ hr]
    by_cases hi : i < 32
    · simp [hi]
    · have : r.testBit i = false := Nat.testBit_lt_two_pow (Nat.lt_of_lt_of_le hr (Nat.pow_le_pow_right (by decide) (by omega)))
      simp [hi, this]
  exact e.symm
/-- four bytes behind a register -/
theorem reg_four {r : Nat} {d : List Nat} (hd : ∀ x ∈ d, x < 256) (h4 : d.length = 4) : regN r d = run 32 (r ^^^ big d) := by
  rw [reg_run d r hd, h4]
theorem big_four {d : List Nat} (hd : ∀ x ∈ d, x < 256) (h4 : d.length = 4) : big d < 4294967296 := by
  have := big_lt d hd
  rw [h4] at this
  omega
abbrev residue : Nat := run 32 ones
/-- the four bytes are the sum's, and only these, where the register comes to the one end -/
theorem opens_iff {l d : List Nat} (hl : ∀ x ∈ l, x < 256) (hd : ∀ x ∈ d, x < 256) (h4 : d.length = 4) : d = tailN (sumN l) ↔ regN ones (l ++ d) = residue := by
  have hr : regN ones l < 4294967296 := reg_lt hl (by decide)
  have hs : sumN l = ones ^^^ regN ones l := ones_xor hr
  rw [reg_append, reg_four hd h4]
  constructor
  · rintro rfl
    rw [big_tail (sum_lt l), hs, ← Nat.xor_assoc, Nat.xor_comm (regN ones l), Nat.xor_assoc, Nat.xor_self, Nat.xor_zero]
  · intro h
    have h1 := run_inj 32 (xor_lt hr (big_four hd h4)) (by decide) h
    refine big_inj hd (tail_small _) (by rw [h4]; rfl) ?_
    rw [big_tail (sum_lt l), hs]
    generalize regN ones l = R at h1 ⊢
    rw [← h1, Nat.xor_comm R, Nat.xor_assoc, Nat.xor_self, Nat.xor_zero]
theorem seal_reg {l : List Nat} (hl : ∀ x ∈ l, x < 256) : regN ones (sealN l) = residue := (opens_iff hl (tail_small _) rfl).1 rfl
theorem seal_small {l : List Nat} (hl : ∀ x ∈ l, x < 256) : ∀ x ∈ sealN l, x < 256 := by
  intro x hx
  rcases List.mem_append.1 hx with h | h
  · exact hl x h
  · exact tail_small _ x h
theorem seal_len (l : List Nat) : (sealN l).length = l.length + 4 := by simp [sealN, tail_len]
theorem seal_sum {l : List Nat} (hl : ∀ x ∈ l, x < 256) : sumN (sealN l) = 0x2144DF1C := by
  unfold sumN
  rw [seal_reg hl]
  decide
/-- a burst is found -/
theorem burst {s t : List Nat} {k w : Nat} (hs : ∀ x ∈ s, x < 256) (ht : ∀ x ∈ t, x < 256) (hl : t.length = s.length) (hk : k ≤ 8 * s.length) (hw : w < 4294967296)
    (h : big t = big s ^^^ 2 ^ k * w) (hr : regN ones t = regN ones s) : t = s := by
  refine big_inj ht hs hl ?_
  rw [reg_run t _ ht, reg_run s _ hs, hl, h, ← Nat.xor_assoc, run_xor] at hr
  have h0 : run (8 * s.length) (2 ^ k * w) = 0 := by
    have e : run (8 * s.length) (ones ^^^ big s) ^^^ (run (8 * s.length) (ones ^^^ big s) ^^^ run (8 * s.length) (2 ^ k * w)) = 0 := by rw [hr, Nat.xor_self]
    rw [← Nat.xor_assoc, Nat.xor_self, Nat.zero_xor] at e
    exact e
  rw [show 8 * s.length = k + (8 * s.length - k) by omega, run_add, run_shift] at h0
  rw [h, run_zero _ hw h0, Nat.mul_zero, Nat.xor_zero]
theorem ones_twice {r : Nat} (h : r < 4294967296) : ones - (ones - r) = r := by unfold ones; omega
/-- one bit turned in one byte -/
theorem big_turn : ∀ {l : List Nat} {j b : Nat}, (∀ x ∈ l, x < 256) → j < l.length → b < 8 → big (l.set j (l.getD j 0 ^^^ 2 ^ b)) = big l ^^^ 2 ^ (8 * j + b)
  | [], j, _, _, h, _ => by simp at h
  | c :: l, 0, b, h, _, hb => by
    have hc : c < 256 := h c (by simp)
    have h2 : (2 : Nat) ^ b < 256 := Nat.pow_lt_pow_right (n := 8) (by omega) hb
    have hx : c ^^^ 2 ^ b < 256 := Nat.xor_lt_two_pow (n := 8) hc h2
    simp only [List.set_cons_zero, List.getD_cons_zero, big, Nat.mul_zero, Nat.zero_add]
    rw [xor_low hx, xor_low hc, Nat.xor_assoc, Nat.xor_assoc, Nat.xor_comm (2 ^ b)]
  | c :: l, j + 1, b, h, hj, hb => by
    have hc : c < 256 := h c (by simp)
    have ih := big_turn (l := l) (j := j) (b := b) (fun x hx => h x (by simp [hx])) (by simpa using hj) hb
    simp only [List.set_cons_succ, List.getD_cons_succ, big]
    rw [ih, xor_low hc, xor_low hc, Nat.xor_assoc]
    congr 1
    have e := Nat.shiftLeft_xor_distrib (a := big l) (b := 2 ^ (8 * j + b)) (i := 8)
    simp only [Nat.shiftLeft_eq] at e
    rw [Nat.mul_comm 256, Nat.mul_comm 256]
    rw [show 2 ^ (8 * (j + 1) + b) = 2 ^ (8 * j + b) * 2 ^ 8 by rw [← Nat.pow_add]; congr 1; omega]
    exact e
theorem three_xor (o a b c : Nat) : (o ^^^ a) ^^^ (o ^^^ b) ^^^ (o ^^^ c) = o ^^^ (a ^^^ b ^^^ c) := by
  rw [xor_swap o a o b, Nat.xor_self, Nat.zero_xor, ← Nat.xor_assoc, Nat.xor_comm (a ^^^ b) o, Nat.xor_assoc]
/-- three rows together -/
theorem three {a b c t : List Nat} (ha : ∀ x ∈ a, x < 256) (hb : ∀ x ∈ b, x < 256) (hc : ∀ x ∈ c, x < 256) (ht : ∀ x ∈ t, x < 256)
    (h1 : b.length = a.length) (h2 : c.length = a.length) (h3 : t.length = a.length) (h : big t = big a ^^^ big b ^^^ big c) :
    sumN a ^^^ sumN b ^^^ sumN c = sumN t := by
  have r1 := reg_lt ha (r := ones) (by decide)
  have r2 := reg_lt hb (r := ones) (by decide)
  have r3 := reg_lt hc (r := ones) (by decide)
  have r4 := reg_lt ht (r := ones) (by decide)
  have e : regN ones t = regN ones a ^^^ regN ones b ^^^ regN ones c := by
    rw [reg_run t _ ht, reg_run a _ ha, reg_run b _ hb, reg_run c _ hc, h1, h2, h3, ← run_xor, ← run_xor, h]
    rw [three_xor]
  unfold sumN
  rw [ones_xor r1, ones_xor r2, ones_xor r3, ones_xor r4, e]
  rw [three_xor]
theorem shown_sum : sumN [49, 50, 51, 52, 53, 54, 55, 56, 57] = 0xCBF43926 := by decide +kernel
end Go.Proofs.Ytlgegjmnodjioaa
