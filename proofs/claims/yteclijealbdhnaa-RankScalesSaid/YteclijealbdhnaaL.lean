/- The plain laws of comparing fees: no Go in sight. -/
import Derived.Test.YteclijealbdhnaaA
namespace Go.Proofs.Yteclijealbdhnaa
open Go.RowKit

theorem held_pos (i : Int) : 1 ≤ (heldF i).toNat := by have := heldF_bd i; omega
theorem cmpF_neg (x y : Nat) : cmpF y x = - cmpF x y := by unfold cmpF; split <;> split <;> first | omega | rfl
theorem rankF_neg (a b : Nat) (i j : Int) : rankF b j a i = - rankF a i b j := cmpF_neg _ _
theorem rankF_self (a : Nat) (i : Int) : rankF a i a i = 0 := by unfold rankF cmpF; rw [if_neg (Nat.lt_irrefl _), if_neg (Nat.lt_irrefl _)]
theorem cmpF_bd (x y : Nat) : -1 ≤ cmpF x y ∧ cmpF x y ≤ 1 := by unfold cmpF; split <;> (try split) <;> omega
theorem rankF_bd (a b : Nat) (i j : Int) : -1 ≤ rankF a i b j ∧ rankF a i b j ≤ 1 := cmpF_bd _ _
theorem cmpF_ge (x y : Nat) : 0 ≤ cmpF x y ↔ y ≤ x := by unfold cmpF; split <;> (try split) <;> omega
theorem cmpF_gt (x y : Nat) : cmpF x y = 1 ↔ y < x := by unfold cmpF; split <;> (try split) <;> omega

theorem cross_le {a b c p q r : Nat} (hq : 1 ≤ q) (h1 : b * p ≤ a * q) (h2 : c * q ≤ b * r) : c * p ≤ a * r := by
  have e1 : b * p * r ≤ a * q * r := Nat.mul_le_mul_right r h1
  have e2 : c * q * p ≤ b * r * p := Nat.mul_le_mul_right p h2
  have e3 : (c * p) * q ≤ (a * r) * q := by
    calc (c * p) * q = c * q * p := by ac_rfl
      _ ≤ b * r * p := e2
      _ = b * p * r := by ac_rfl
      _ ≤ a * q * r := e1
      _ = (a * r) * q := by ac_rfl
  exact Nat.le_of_mul_le_mul_right e3 hq
theorem cross_lt1 {a b c p q r : Nat} (hr : 1 ≤ r) (h1 : b * p < a * q) (h2 : c * q ≤ b * r) : c * p < a * r := by
  have e1 : b * p * r < a * q * r := Nat.mul_lt_mul_of_pos_right h1 hr
  have e2 : c * q * p ≤ b * r * p := Nat.mul_le_mul_right p h2
  have e3 : (c * p) * q < (a * r) * q := by
    calc (c * p) * q = c * q * p := by ac_rfl
      _ ≤ b * r * p := e2
      _ = b * p * r := by ac_rfl
      _ < a * q * r := e1
      _ = (a * r) * q := by ac_rfl
  exact Nat.lt_of_mul_lt_mul_right e3
theorem cross_lt2 {a b c p q r : Nat} (hp : 1 ≤ p) (h1 : b * p ≤ a * q) (h2 : c * q < b * r) : c * p < a * r := by
  have e1 : b * p * r ≤ a * q * r := Nat.mul_le_mul_right r h1
  have e2 : c * q * p < b * r * p := Nat.mul_lt_mul_of_pos_right h2 hp
  have e3 : (c * p) * q < (a * r) * q := by
    calc (c * p) * q = c * q * p := by ac_rfl
      _ < b * r * p := e2
      _ = b * p * r := by ac_rfl
      _ ≤ a * q * r := e1
      _ = (a * r) * q := by ac_rfl
  exact Nat.lt_of_mul_lt_mul_right e3

theorem rankF_trans (a b c : Nat) (i j k : Int) (h1 : 0 ≤ rankF a i b j) (h2 : 0 ≤ rankF b j c k) : rankF a i b j ≤ rankF a i c k ∧ rankF b j c k ≤ rankF a i c k := by
  unfold rankF at *
  have hi := held_pos i
  have hj := held_pos j
  have hk := held_pos k
  generalize (heldF i).toNat = p at *
  generalize (heldF j).toNat = q at *
  generalize (heldF k).toNat = r at *
  have l1 := (cmpF_ge _ _).1 h1
  have l2 := (cmpF_ge _ _).1 h2
  have l3 := (cmpF_ge _ _).2 (cross_le hj l1 l2)
  have b1 := cmpF_bd (a * q) (b * p)
  have b2 := cmpF_bd (b * r) (c * q)
  constructor
  · by_cases e : cmpF (a * q) (b * p) = 1
    · have := (cmpF_gt _ _).2 (cross_lt1 hk ((cmpF_gt _ _).1 e) l2)
      omega
    · omega
  · by_cases e : cmpF (b * r) (c * q) = 1
    · have := (cmpF_gt _ _).2 (cross_lt2 hi l1 ((cmpF_gt _ _).1 e))
      omega
    · omega

theorem raises_back (a b : Nat) (i j : Int) (h : raisesF a i b j = true) : raisesF b j a i = false := by
  unfold raisesF at *
  simp only [Bool.and_eq_true, decide_eq_true_eq] at h
  simp only [Bool.and_eq_false_iff, decide_eq_false_iff_not]
  omega
theorem raises_more (a b : Nat) (i j : Int) (h : raisesF a i b j = true) : rankF a i b j = 1 ∨ (b = 0 ∧ 0 < a) := by
  unfold raisesF at h
  simp only [Bool.and_eq_true, decide_eq_true_eq] at h
  by_cases hb : b = 0
  · exact .inr ⟨hb, by omega⟩
  · left
    unfold rankF
    rw [cmpF_gt]
    have hi := held_pos i
    generalize (heldF i).toNat = p at *
    generalize (heldF j).toNat = q at *
    have e1 : b * (9 * p) = 9 * (b * p) := by ac_rfl
    have e2 : a * (8 * q) = 8 * (a * q) := by ac_rfl
    rw [e1, e2] at h
    have : 1 ≤ b * p := Nat.mul_pos (by omega) hi
    omega
end Go.Proofs.Yteclijealbdhnaa
