/- The contracts of the comparisons of package rank: held, times, compare, Compare, Raises. -/
import Derived.Test.YteclijealbdhnaaRows
import Derived.Test.YteclijealbdhnaaShelf
import Derived.WalkKit
import Derived.WalkSpells
import Derived.WalkLawsBesides
import Derived.Lib.Hide
import Derived.Outline
namespace Go.Proofs.Yteclijealbdhnaa
open Go.RowKit

def heldF (n : Int) : Int := if n < 1 then 1 else if 4096 < n then 4096 else n
theorem heldF_bd (n : Int) : 1 ≤ heldF n ∧ heldF n ≤ 4096 := by unfold heldF; omega

set_option maxHeartbeats 400000 in
theorem held_any (n : Int) (w : World) :
    Calls Try.prog 34 #[.int .i64 n] w fun e w' => e = .returned (.int .u64 (heldF n)) ∧ w = w' := by
  by_cases h1 : n < 1
  · have fin : Hid (heldF n = 1) := by unfold Hid heldF; rw [if_pos h1]
    have h2 : n ≤ 4096 := by omega
    have h3 : n ≤ 1 := by omega
    go_enter Try.func34, Try.ntmps34
    go_wp2
    all_goals (go_ret; exact ⟨by rw [fin.out]; rfl, rfl⟩)
  · by_cases h2 : 4096 < n
    · have fin : Hid (heldF n = 4096) := by unfold Hid heldF; rw [if_neg h1, if_pos h2]
      go_enter Try.func34, Try.ntmps34
      go_wp2
      all_goals (go_ret; exact ⟨by rw [fin.out]; rfl, rfl⟩)
    · have fin : Hid (heldF n = n) := by unfold Hid heldF; rw [if_neg h1, if_neg h2]
      have h3 : n ≤ 4096 := by omega
      have h4 : 1 ≤ n := by omega
      go_enter Try.func34, Try.ntmps34
      go_wp2
      all_goals (go_ret; exact ⟨by rw [fin.out]; first | rfl | (simp; omega), rfl⟩)

/-- The two words of a number below 2^128. -/
abbrev words (n : Nat) : Value := .agg #[.int .u64 ((n / 18446744073709551616 : Nat) : Int), .int .u64 ((n % 18446744073709551616 : Nat) : Int)]

set_option maxHeartbeats 400000 in
theorem times_any (x y : Nat) (hx : x < 18446744073709551616) (hy : y < 18446744073709551616) (w : World) :
    Calls Try.prog 33 #[.int .u64 x, .int .u64 y] w fun e w' => e = .returned (words (x * y)) ∧ Below w.heap.size w w' := by
  have hm := fun w => Try.bits_Mul64 x y hx hy w
  show Calls Try.prog 33 #[.int .u64 x, .int .u64 y] w fun e w' => e = .returned (.agg #[.int .u64 ((x * y / 18446744073709551616 : Nat) : Int), .int .u64 ((x * y % 18446744073709551616 : Nat) : Int)]) ∧ Below w.heap.size w w'
  generalize x * y / 18446744073709551616 = hi at hm ⊢
  generalize x * y % 18446744073709551616 = lo at hm ⊢
  have HM := Lib.hid hm
  clear hm hx hy
  go_enter Try.func33, Try.ntmps33
  go_wp2_with fail
  refine (HM.out _).mono ?_
  rintro e w' ⟨rfl, rfl⟩
  go_wp2
  refine bodyPost_ret (v := .agg #[.int .u64 hi, .int .u64 lo]) (by simp [results, Try.results33, go_sem]) rfl ⟨rfl, ?_⟩
  repeat (first | exact Below.refl _ _ | refine Below.alloc ?_ (by simp) _ | refine Below.setCell ?_ (by simp) _)

def cmpF (x y : Nat) : Int := if x < y then -1 else if y < x then 1 else 0

set_option maxHeartbeats 400000 in
theorem cmp_any (x y : Nat) (w : World) :
    Calls Try.prog 49 #[.int .u64 x, .int .u64 y] w fun e w' => e = .returned (.int .i64 (cmpF x y)) ∧ w = w' := by
  by_cases h1 : x < y
  · have fin : Hid (cmpF x y = -1) := by unfold Hid cmpF; rw [if_pos h1]
    go_enter Try.func49, Try.ntmps49
    go_wp2
    go_ret
    exact ⟨by rw [fin.out]; rfl, rfl⟩
  · by_cases h2 : y < x
    · have fin : Hid (cmpF x y = 1) := by unfold Hid cmpF; rw [if_neg h1, if_pos h2]
      go_enter Try.func49, Try.ntmps49
      go_wp2
      go_ret
      exact ⟨by rw [fin.out]; rfl, rfl⟩
    · have fin : Hid (cmpF x y = 0) := by unfold Hid cmpF; rw [if_neg h1, if_neg h2]
      go_enter Try.func49, Try.ntmps49
      go_wp2
      go_ret
      exact ⟨by rw [fin.out]; rfl, rfl⟩

def cmp2 (a b c d : Nat) : Int := if cmpF a c = 0 then cmpF b d else cmpF a c
theorem cmpF_words (x y : Nat) : cmpF x y = cmp2 (x / 18446744073709551616) (x % 18446744073709551616) (y / 18446744073709551616) (y % 18446744073709551616) := by
  unfold cmp2 cmpF
  split <;> split <;> (try split) <;> (try split) <;> (try split) <;> omega

set_option maxHeartbeats 400000 in
theorem compare_words (a b c d : Nat) (w : World) :
    Calls Try.prog 35 #[.agg #[.int .u64 a, .int .u64 b], .agg #[.int .u64 c, .int .u64 d]] w fun e w' => e = .returned (.int .i64 (cmp2 a b c d)) ∧ Below w.heap.size w w' := by
  have fin : ∀ x, Hid (x = cmpF a c) → x = 0 → Hid (cmp2 a b c d = cmpF b d) := fun x h h0 => by unfold Hid cmp2 at *; rw [← h, if_pos h0]
  have fin2 : ∀ x, Hid (x = cmpF a c) → x ≠ 0 → Hid (cmp2 a b c d = x) := fun x h h0 => by unfold Hid cmp2 at *; rw [← h, if_neg h0]
  have HC1 := Lib.hid (fun w => cmp_any a c w)
  have HC2 := Lib.hid (fun w => cmp_any b d w)
  obtain ⟨r, hr⟩ : ∃ r, Hid (r = cmpF a c) := ⟨_, rfl⟩
  rw [← hr.out] at HC1
  by_cases h0 : r = 0
  · have F := fin r hr h0
    clear fin fin2
    subst h0
    go_enter Try.func35, Try.ntmps35
    go_wp2_with fail
    refine (HC1.out _).mono ?_
    rintro e w' ⟨rfl, rfl⟩
    go_wp2_with fail
    refine (HC2.out _).mono ?_
    rintro e w' ⟨rfl, rfl⟩
    go_wp2
    go_ret
    exact ⟨by rw [F.out]; rfl, ((Below.refl _ _).alloc (Nat.le_refl _) _).alloc (by simp) _⟩
  · have F := fin2 r hr h0
    have hb : (r == 0) = false := by simpa using h0
    clear fin fin2
    go_enter Try.func35, Try.ntmps35
    go_wp2_with fail
    refine (HC1.out _).mono ?_
    rintro e w' ⟨rfl, rfl⟩
    go_wp2_with fail
    go_ret
    exact ⟨by rw [F.out]; rfl, ((Below.refl _ _).alloc (Nat.le_refl _) _).alloc (by simp) _⟩

theorem compare_any (x y : Nat) (w : World) :
    Calls Try.prog 35 #[words x, words y] w fun e w' => e = .returned (.int .i64 (cmpF x y)) ∧ Below w.heap.size w w' := by
  rw [cmpF_words]
  exact compare_words _ _ _ _ w

/-- How a fee for some bytes is to another one. -/
def rankF (a : Nat) (i : Int) (b : Nat) (j : Int) : Int := cmpF (a * (heldF j).toNat) (b * (heldF i).toNat)

theorem compareV (x y : Nat) (vx vy : Value) (hx : vx = words x) (hy : vy = words y) (w : World) :
    Calls Try.prog 35 #[vx, vy] w fun e w' => e = .returned (.int .i64 (cmpF x y)) ∧ Below w.heap.size w w' := by
  subst hx; subst hy; exact compare_any x y w

theorem heldN (n : Int) : ∃ h : Nat, 1 ≤ h ∧ h ≤ 4096 ∧ (h : Int) = heldF n ∧ h = (heldF n).toNat := ⟨(heldF n).toNat, by have := heldF_bd n; omega, by have := heldF_bd n; omega, by have := heldF_bd n; omega, rfl⟩

set_option maxHeartbeats 1000000 in
theorem rank_any (a b : Nat) (i j : Int) (ha : a < 18446744073709551616) (hb : b < 18446744073709551616) (w : World) :
    Calls Try.prog 10 #[.int .u64 a, .int .i64 i, .int .u64 b, .int .i64 j] w fun e w' => e = .returned (.int .i64 (rankF a i b j)) ∧ Below w.heap.size w w' := by
  obtain ⟨hi, hi1, hi2, hi3, hi4⟩ := heldN i
  obtain ⟨hj, hj1, hj2, hj3, hj4⟩ := heldN j
  have Hi := Lib.hid (fun w => held_any i w)
  have Hj := Lib.hid (fun w => held_any j w)
  rw [← hi3] at Hi
  rw [← hj3] at Hj
  have T1 := Lib.hid (fun w => times_any a hj ha (by omega) w)
  have T2 := Lib.hid (fun w => times_any b hi hb (by omega) w)
  have C1 := Lib.hid (fun w => compare_any (a * hj) (b * hi) w)
  have fin : Hid (rankF a i b j = cmpF (a * hj) (b * hi)) := by unfold Hid rankF; rw [← hi4, ← hj4]
  generalize words (a * hj) = v1 at T1 C1
  generalize words (b * hi) = v2 at T2 C1
  clear hi1 hi2 hi3 hi4 hj1 hj2 hj3 hj4 ha hb
  go_enter Try.func10, Try.ntmps10
  go_wp2_with fail
  refine (Hj.out _).mono ?_
  rintro e w' ⟨rfl, rfl⟩
  go_wp2_with fail
  refine (T1.out _).mono ?_
  rintro e w1 ⟨rfl, b1⟩
  have B1 := Lib.hid b1
  clear b1
  go_wp2_with fail
  refine (Hi.out _).mono ?_
  rintro e w' ⟨rfl, rfl⟩
  go_wp2_with fail
  refine (T2.out _).mono ?_
  rintro e w2 ⟨rfl, b2⟩
  have B2 := Lib.hid (B1.out.trans (b2.mono B1.out.size))
  clear b2 B1
  go_wp2_with fail
  refine (C1.out _).mono ?_
  rintro e w3 ⟨rfl, b3⟩
  have B3 := Lib.hid (B2.out.trans (b3.mono B2.out.size))
  clear b3 B2
  go_wp2_with fail
  go_ret
  exact ⟨by rw [fin.out]; rfl, B3.out⟩

/-- Does a fee raise another one? -/
def raisesF (a : Nat) (i : Int) (b : Nat) (j : Int) : Bool := decide (b < a) && decide (b * (9 * (heldF i).toNat) ≤ a * (8 * (heldF j).toNat))

set_option maxHeartbeats 1000000 in
theorem raises_any (a b : Nat) (i j : Int) (ha : a < 18446744073709551616) (hb : b < 18446744073709551616) (w : World) :
    Calls Try.prog 11 #[.int .u64 a, .int .i64 i, .int .u64 b, .int .i64 j] w fun e w' => e = .returned (.bool (raisesF a i b j)) ∧ Below w.heap.size w w' := by
  by_cases hab : b < a
  · obtain ⟨hi, hi1, hi2, hi3, hi4⟩ := heldN i
    obtain ⟨hj, hj1, hj2, hj3, hj4⟩ := heldN j
    have Hi := Lib.hid (fun w => held_any i w)
    have Hj := Lib.hid (fun w => held_any j w)
    rw [← hi3] at Hi
    rw [← hj3] at Hj
    have T1 := Lib.hid (fun w => times_any a (8 * hj) ha (by omega) w)
    have T2 := Lib.hid (fun w => times_any b (9 * hi) hb (by omega) w)
    have C1 := Lib.hid (fun w => compare_any (a * (8 * hj)) (b * (9 * hi)) w)
    have fin : Hid (raisesF a i b j = decide (0 ≤ cmpF (a * (8 * hj)) (b * (9 * hi)))) := by
      unfold Hid raisesF
      rw [← hi4, ← hj4, decide_eq_true hab, Bool.true_and]
      congr 1
      unfold cmpF
      apply propext
      constructor
      · intro h; rw [if_neg (by omega)]; split <;> omega
      · intro h
        apply Classical.byContradiction
        intro h2
        rw [if_pos (by omega)] at h
        omega
    generalize hv1 : words (a * (8 * hj)) = v1 at T1 C1
    generalize hv2 : words (b * (9 * hi)) = v2 at T2 C1
    generalize cmpF (a * (8 * hj)) (b * (9 * hi)) = r at C1 fin
    have P1 : (8 * (hj : Int)) = ((8 * hj : Nat) : Int) := by omega
    have P2 : (9 * (hi : Int)) = ((9 * hi : Nat) : Int) := by omega
    have Q1 := Lib.hid P1
    have Q2 := Lib.hid P2
    clear P1 P2 hv1 hv2
    clear hi3 hi4 hj3 hj4 ha hb
    go_enter Try.func11, Try.ntmps11
    go_wp2_with fail
    refine (Hj.out _).mono ?_
    rintro e w' ⟨rfl, rfl⟩
    go_wp2_with fail
    rw [Q1.out]
    refine (T1.out _).mono ?_
    rintro e w1 ⟨rfl, b1⟩
    have B1 := Lib.hid b1
    clear b1
    go_wp2_with fail
    refine (Hi.out _).mono ?_
    rintro e w' ⟨rfl, rfl⟩
    go_wp2_with fail
    rw [Q2.out]
    refine (T2.out _).mono ?_
    rintro e w2 ⟨rfl, b2⟩
    have B2 := Lib.hid (B1.out.trans (b2.mono B1.out.size))
    clear b2 B1
    go_wp2_with fail
    refine (C1.out _).mono ?_
    rintro e w3 ⟨rfl, b3⟩
    have B3 := Lib.hid (B2.out.trans (b3.mono B2.out.size))
    clear b3 B2
    go_wp2_with fail
    go_ret
    exact ⟨by rw [fin.out]; rfl, B3.out⟩
  · have fin : Hid (raisesF a i b j = false) := by unfold Hid raisesF; rw [decide_eq_false hab]; rfl
    have hd : decide ((b : Int) < (a : Int)) = false := by simp; omega
    go_enter Try.func11, Try.ntmps11
    go_wp2_with fail
    go_ret
    exact ⟨by rw [fin.out]; rfl, Below.refl _ _⟩
end Go.Proofs.Yteclijealbdhnaa
