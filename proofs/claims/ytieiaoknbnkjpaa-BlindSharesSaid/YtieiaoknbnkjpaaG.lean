/- The field with 256 elements: powers of 3, logarithms, products: that it is a field. -/
namespace Gf
/-- times 3 -/
def st (x : Nat) : Nat := if 256 ≤ x ^^^ (2 * x) then (x ^^^ (2 * x)) ^^^ 283 else x ^^^ (2 * x)
def E : Nat → Nat
  | 0 => 1
  | n + 1 => st (E n)
def lg : Nat → Nat → Nat
  | 0, _ => 0
  | n + 1, a => if E n = a then n else lg n a
def lo (a : Nat) : Nat := lg 255 a
def mulN (a b : Nat) : Nat := if a = 0 ∨ b = 0 then 0 else E (lo a + lo b)
def iter : Nat → Nat → Nat
  | 0, x => x
  | k + 1, x => st (iter k x)

theorem E_succ (n : Nat) : E (n + 1) = st (E n) := rfl
theorem st_lin0 : ((List.range 256).all fun x => (List.range 256).all fun y => Nat.beq (st (x ^^^ y)) (st x ^^^ st y)) = true := by decide +kernel
theorem st_lin {x y : Nat} (hx : x < 256) (hy : y < 256) : st (x ^^^ y) = st x ^^^ st y := by
  have h := List.all_eq_true.1 (List.all_eq_true.1 st_lin0 x (List.mem_range.2 hx)) y (List.mem_range.2 hy)
  exact Nat.eq_of_beq_eq_true h
theorem st_lt0 : ((List.range 256).all fun x => Nat.blt (st x) 256 && (Nat.beq x 0 == Nat.beq (st x) 0)) = true := by decide +kernel
theorem st_lt {x : Nat} (hx : x < 256) : st x < 256 ∧ (x = 0 ↔ st x = 0) := by
  have h := List.all_eq_true.1 st_lt0 x (List.mem_range.2 hx)
  rw [Bool.and_eq_true, beq_iff_eq] at h
  refine ⟨Nat.blt_eq ▸ h.1, ?_⟩
  have h2 := h.2
  constructor
  · intro e
    rw [e] at h2
    rw [e]; rfl
  · intro e
    rw [e] at h2
    simp at h2
    exact h2
theorem E_lt : ∀ n, E n < 256 ∧ E n ≠ 0
  | 0 => by decide
  | n + 1 => by
    have h := E_lt n
    have h2 := st_lt h.1
    exact ⟨h2.1, fun e => h.2 (h2.2.2 e)⟩
theorem E_add (m n : Nat) : E (m + n) = iter m (E n) := by
  induction m with
  | zero => simp [iter]
  | succ m ih => rw [show m + 1 + n = (m + n) + 1 by omega, E_succ, ih]; rfl
theorem E_255 : E 255 = 1 := by decide +kernel
theorem E_per (n : Nat) : E (n + 255) = E n := by
  induction n with
  | zero => exact E_255
  | succ n ih => rw [show n + 1 + 255 = (n + 255) + 1 by omega]; exact congrArg st ih
theorem E_mod (n : Nat) : E n = E (n % 255) := by
  induction n using Nat.strongRecOn with
  | _ n ih =>
    rcases Nat.lt_or_ge n 255 with h | h
    · rw [Nat.mod_eq_of_lt h]
    · obtain ⟨m, rfl⟩ : ∃ m, n = m + 255 := ⟨n - 255, by omega⟩
      rw [E_per, Nat.add_mod_right]
      exact ih m (by omega)
theorem lg_E0 : ((List.range 255).all fun n => Nat.beq (lo (E n)) n) = true := by decide +kernel
theorem lg_E {n : Nat} (h : n < 255) : lo (E n) = n := Nat.eq_of_beq_eq_true (List.all_eq_true.1 lg_E0 n (List.mem_range.2 h))
theorem E_lg0 : ((List.range 256).all fun a => Nat.beq a 0 || (Nat.beq (E (lo a)) a && Nat.blt (lo a) 255)) = true := by decide +kernel
theorem E_lg {a : Nat} (h : a < 256) (h0 : a ≠ 0) : E (lo a) = a ∧ lo a < 255 := by
  have := List.all_eq_true.1 E_lg0 a (List.mem_range.2 h)
  simp only [Bool.or_eq_true, Bool.and_eq_true] at this
  rcases this with h1 | h1
  · exact absurd (Nat.eq_of_beq_eq_true h1) h0
  · exact ⟨Nat.eq_of_beq_eq_true h1.1, Nat.blt_eq ▸ h1.2⟩
theorem lg_mod (n : Nat) : lo (E n) = n % 255 := by rw [E_mod, lg_E (Nat.mod_lt _ (by decide))]

theorem mulN_lt (a b : Nat) : mulN a b < 256 := by
  unfold mulN
  split
  · decide
  · exact (E_lt _).1
theorem mulN_comm (a b : Nat) : mulN a b = mulN b a := by
  unfold mulN
  by_cases h : a = 0 ∨ b = 0
  · rw [if_pos h, if_pos h.symm]
  · rw [if_neg h, if_neg (fun e => h e.symm), Nat.add_comm]
theorem mulN_zero (a : Nat) : mulN a 0 = 0 := by unfold mulN; rw [if_pos (.inr rfl)]
theorem mulN_pos {a b : Nat} (ha : a ≠ 0) (hb : b ≠ 0) : mulN a b = E (lo a + lo b) := by
  unfold mulN
  rw [if_neg (by omega)]
theorem mulN_one {a : Nat} (h : a < 256) : mulN a 1 = a := by
  by_cases h0 : a = 0
  · rw [h0]; rfl
  · rw [mulN_pos h0 (by decide), show lo 1 = 0 by decide +kernel, Nat.add_zero]
    exact (E_lg h h0).1
theorem mulN_assoc {a b c : Nat} : mulN (mulN a b) c = mulN a (mulN b c) := by
  by_cases ha : a = 0
  · subst ha; simp [mulN_comm 0, mulN_zero]
  by_cases hb : b = 0
  · subst hb; simp [mulN_comm 0, mulN_zero]
  by_cases hc : c = 0
  · subst hc; simp [mulN_zero]
  rw [mulN_pos ha hb, mulN_pos hb hc, mulN_pos (E_lt _).2 hc, mulN_pos ha (E_lt _).2, lg_mod, lg_mod]
  rw [E_mod, E_mod (lo a + _)]
  have h3 : ∀ x y z : Nat, ((x + y) % 255 + z) % 255 = (x + (y + z) % 255) % 255 := fun x y z => by omega
  exact congrArg E (h3 _ _ _)
/-- what the tables tell of a quotient -/
def divN (a b : Nat) : Nat := if a = 0 then 0 else E (lo a + 255 - lo b)
theorem divN_mul {a b : Nat} (ha : a < 256) (hb : b < 256) (h0 : b ≠ 0) : mulN (divN a b) b = a := by
  unfold divN
  by_cases h : a = 0
  · subst h; rw [if_pos rfl, mulN_comm, mulN_zero]
  · have h1 := E_lg ha h
    have h2 := E_lg hb h0
    rw [if_neg h, mulN_pos (E_lt _).2 h0, lg_mod, E_mod]
    have h3 : ∀ x y : Nat, x < 255 → y < 255 → ((x + 255 - y) % 255 + y) % 255 = x := fun x y _ _ => by omega
    exact (congrArg E (h3 _ _ h1.2 h2.2)).trans h1.1
theorem divN_lt (a b : Nat) : divN a b < 256 := by
  unfold divN
  split
  · decide
  · exact (E_lt _).1
theorem mulN_ne {a b : Nat} (ha : a ≠ 0) (hb : b ≠ 0) : mulN a b ≠ 0 := by
  rw [mulN_pos ha hb]; exact (E_lt _).2
theorem iter_lt (k : Nat) {x : Nat} (h : x < 256) : iter k x < 256 := by
  induction k with
  | zero => exact h
  | succ k ih => exact (st_lt ih).1
theorem xor_lt {x y : Nat} (hx : x < 256) (hy : y < 256) : x ^^^ y < 256 := Nat.xor_lt_two_pow (n := 8) hx hy
theorem iter_lin (k : Nat) {x y : Nat} (hx : x < 256) (hy : y < 256) : iter k (x ^^^ y) = iter k x ^^^ iter k y := by
  induction k with
  | zero => rfl
  | succ k ih => simp only [iter]; rw [ih, st_lin (iter_lt k hx) (iter_lt k hy)]
theorem iter_zero (k : Nat) : iter k 0 = 0 := by
  induction k with
  | zero => rfl
  | succ k ih => simp only [iter]; rw [ih]; decide
theorem mulN_iter {a b : Nat} (ha : a ≠ 0) (hb : b < 256) : mulN a b = iter (lo a) b := by
  by_cases h : b = 0
  · subst h; rw [mulN_zero, iter_zero]
  · rw [mulN_pos ha h, E_add, (E_lg hb h).1]
theorem mulN_add {a b c : Nat} (hb : b < 256) (hc : c < 256) : mulN a (b ^^^ c) = mulN a b ^^^ mulN a c := by
  by_cases ha : a = 0
  · subst ha; simp [mulN_comm 0, mulN_zero]
  · rw [mulN_iter ha (xor_lt hb hc), mulN_iter ha hb, mulN_iter ha hc, iter_lin _ hb hc]

/-! on bytes -/
def mul (a b : UInt8) : UInt8 := UInt8.ofNat (mulN a.toNat b.toNat)
def div (a b : UInt8) : UInt8 := UInt8.ofNat (divN a.toNat b.toNat)
theorem mul_toNat (a b : UInt8) : (mul a b).toNat = mulN a.toNat b.toNat := by unfold mul; rw [UInt8.toNat_ofNat', Nat.mod_eq_of_lt (mulN_lt _ _)]
theorem div_toNat (a b : UInt8) : (div a b).toNat = divN a.toNat b.toNat := by unfold div; rw [UInt8.toNat_ofNat', Nat.mod_eq_of_lt (divN_lt _ _)]
theorem eq_of {a b : UInt8} (h : a.toNat = b.toNat) : a = b := UInt8.toNat_inj.1 h
theorem ne0 {a : UInt8} (h : a ≠ 0) : a.toNat ≠ 0 := fun e => h (eq_of e)
theorem mul_comm (a b : UInt8) : mul a b = mul b a := by unfold mul; rw [mulN_comm]
theorem mul_assoc (a b c : UInt8) : mul (mul a b) c = mul a (mul b c) := eq_of (by simp only [mul_toNat]; exact mulN_assoc)
theorem mul_zero (a : UInt8) : mul a 0 = 0 := eq_of (by rw [mul_toNat]; exact mulN_zero _)
theorem zero_mul (a : UInt8) : mul 0 a = 0 := by rw [mul_comm, mul_zero]
theorem mul_one (a : UInt8) : mul a 1 = a := eq_of (by rw [mul_toNat]; exact mulN_one a.toNat_lt)
theorem one_mul (a : UInt8) : mul 1 a = a := by rw [mul_comm, mul_one]
theorem mul_add (a b c : UInt8) : mul a (b ^^^ c) = mul a b ^^^ mul a c := eq_of (by
  simp only [mul_toNat, UInt8.toNat_xor]; exact mulN_add b.toNat_lt c.toNat_lt)
theorem add_mul (a b c : UInt8) : mul (a ^^^ b) c = mul a c ^^^ mul b c := by rw [mul_comm, mul_add, mul_comm c a, mul_comm c b]
theorem mul_ne {a b : UInt8} (ha : a ≠ 0) (hb : b ≠ 0) : mul a b ≠ 0 := fun e => by
  have h := congrArg UInt8.toNat e
  rw [mul_toNat] at h
  exact mulN_ne (ne0 ha) (ne0 hb) h
theorem div_mul (a : UInt8) {b : UInt8} (hb : b ≠ 0) : mul (div a b) b = a := eq_of (by
  rw [mul_toNat, div_toNat]; exact divN_mul a.toNat_lt b.toNat_lt (ne0 hb))
theorem mul_eq_zero {a b : UInt8} (h : mul a b = 0) : a = 0 ∨ b = 0 := by
  by_cases ha : a = 0
  · exact .inl ha
  · by_cases hb : b = 0
    · exact .inr hb
    · exact absurd h (mul_ne ha hb)
theorem xor_self (a : UInt8) : a ^^^ a = 0 := UInt8.xor_self
theorem xor_eq_zero {a b : UInt8} (h : a ^^^ b = 0) : a = b := by
  have : (a ^^^ b) ^^^ b = b := by rw [h, UInt8.zero_xor]
  rwa [UInt8.xor_assoc, UInt8.xor_self, UInt8.xor_zero] at this
theorem xor_cancel (a b : UInt8) : (a ^^^ b) ^^^ b = a := by rw [UInt8.xor_assoc, UInt8.xor_self, UInt8.xor_zero]
theorem cancel {a b c : UInt8} (hc : c ≠ 0) (h : mul a c = mul b c) : a = b := by
  have : mul (a ^^^ b) c = 0 := by rw [add_mul, h, xor_self]
  rcases mul_eq_zero this with h | h
  · exact xor_eq_zero h
  · exact absurd h hc
end Gf
