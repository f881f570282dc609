/- RankRaises: the walk. -/
import Derived.Test.YteclijealbdhnaaW
import Derived.Test.YteclijealbdhnaaL
namespace Go.Proofs.Yteclijealbdhnaa
open Go.RowKit

theorem raises_iff (a b : Nat) (i j : Int) (p q : Nat) (hp : (heldF i).toNat = p) (hq : (heldF j).toNat = q) : raisesF a i b j = (decide (b < a) && decide (9 * (b * p) ≤ 8 * (a * q))) := by
  unfold raisesF
  rw [hp, hq, show b * (9 * p) = 9 * (b * p) by ac_rfl, show a * (8 * q) = 8 * (a * q) by ac_rfl]

theorem up_yes (o c : Nat) (N : Int) (h1 : 1 ≤ c) (h2 : o ≤ 8 * c) : raisesF (o + c) N o N = true := by
  rw [raises_iff _ _ _ _ _ _ rfl rfl, Bool.and_eq_true, decide_eq_true_eq, decide_eq_true_eq]
  refine ⟨by omega, ?_⟩
  generalize (heldF N).toNat = p
  have e : 8 * ((o + c) * p) = (8 * (o + c)) * p := by ac_rfl
  have f : 9 * (o * p) = (9 * o) * p := by ac_rfl
  rw [e, f]
  exact Nat.mul_le_mul_right p (by omega)
theorem up_no (o u : Nat) (N : Int) (h : o < u → 8 * u < 9 * o) : raisesF u N o N = false := by
  rw [raises_iff _ _ _ _ _ _ rfl rfl, Bool.and_eq_false_iff, decide_eq_false_iff_not, decide_eq_false_iff_not]
  by_cases h1 : o < u
  · right
    have hp := held_pos N
    generalize (heldF N).toNat = p at *
    have e : 8 * (u * p) = (8 * u) * p := by ac_rfl
    have f : 9 * (o * p) = (9 * o) * p := by ac_rfl
    rw [e, f]
    have := Nat.mul_lt_mul_of_pos_right (h h1) hp
    omega
  · left; exact h1
theorem up_wide (o c : Nat) (N M : Int) (h1 : 1 ≤ c) (h2 : o ≤ 8 * c) (hN : 1 ≤ N) (hM : M = min (2 * N) 4096) : raisesF (2 * (o + c)) M o N = true := by
  have hm : (heldF M).toNat ≤ 2 * (heldF N).toNat := by unfold heldF; omega
  rw [raises_iff _ _ _ _ _ _ rfl rfl, Bool.and_eq_true, decide_eq_true_eq, decide_eq_true_eq]
  refine ⟨by omega, ?_⟩
  generalize (heldF N).toNat = p at *
  generalize (heldF M).toNat = q at *
  have e : 8 * (2 * (o + c) * p) = (8 * (o + c)) * (2 * p) := by ac_rfl
  have f : 9 * (o * q) = (9 * o) * q := by ac_rfl
  rw [e, f]
  exact Nat.mul_le_mul (by omega) hm

theorem raisesV (A B I J : Int) (a b : Nat) (r : Bool) (hA : A = a) (hB : B = b) (ha : a < 18446744073709551616) (hb : b < 18446744073709551616) (hr : raisesF a I b J = r) (w : World) :
    Calls Try.prog 11 #[.int .u64 A, .int .i64 I, .int .u64 B, .int .i64 J] w fun e w' => e = .returned (.bool r) ∧ Below w.heap.size w w' := by
  subst hA; subst hB; subst hr; exact raises_any a b I J ha hb w

set_option maxHeartbeats 8000000 in
theorem raises_walk (o n : Nat) (ho : o < 4294967296) (hn : n < 65536) (w : World) :
    Calls Try.prog 4 #[.int .u32 o, .int .u16 n] w fun e w' => e = .returned (.bool true) ∧ Below w.heap.size w w' := by
  obtain ⟨c, hc⟩ : ∃ c : Nat, c = max 1 ((o + 7) / 8) := ⟨_, rfl⟩
  have F1 := up_yes o c ((n : Int) + 1) (by omega) (by omega)
  have F2 := up_no o (o + c - 1) ((n : Int) + 1) (by omega)
  have F3 := up_no o o ((n : Int) + 1) (by omega)
  have F4 := fun M hM => up_wide o c ((n : Int) + 1) M (by omega) (by omega) (by omega) hM
  have C1 := fun A B hA hB w => raisesV A B ((n : Int) + 1) ((n : Int) + 1) _ _ _ hA hB (by omega) (by omega) F1 w
  have C2 := fun A B hA hB w => raisesV A B ((n : Int) + 1) ((n : Int) + 1) _ _ _ hA hB (by omega) (by omega) F2 w
  have C3 := fun A B hA hB w => raisesV A B ((n : Int) + 1) ((n : Int) + 1) _ _ _ hA hB (by omega) (by omega) F3 w
  have C4 := fun A B M hA hB hM w => raisesV A B M ((n : Int) + 1) _ _ _ hA hB (by omega) (by omega) (F4 M hM) w
  have K1 := Lib.hid C1
  have K2 := Lib.hid C2
  have K3 := Lib.hid C3
  have K4 := Lib.hid C4
  have HC := Lib.hid hc
  clear F1 F2 F3 F4 C1 C2 C3 C4 hc
  obtain ⟨B, HB⟩ : ∃ B, Hid (B = w.heap.size) := ⟨_, rfl⟩
  rw [← HB.out]
  have q0 : (0 : Int) ≤ ((o : Int) + 7) / 8 := by omega
  have q1 : ((o : Int) + 7) / 8 ≤ 536870912 := by omega
  have hm : ((o : Int) + 7) / 8 < 1 ∨ ((o : Int) + 7) / 8 = 1 ∨ 1 < ((o : Int) + 7) / 8 := by omega
  have hw : 2 * ((n : Int) + 1) < 4096 ∨ 4096 < 2 * ((n : Int) + 1) ∨ n = 2047 := by omega
  rcases hm with hm | hm | hm <;> rcases hw with hw | hw | rfl
  all_goals
    go_enter Try.func4, Try.ntmps4
    go_wp2_with fail
    refine (awake_any _).mono ?_
    rintro e w1 ⟨rfl, d1⟩
    rw [← HB.out] at d1
    have z1 : B ≤ w1.heap.size := by have := d1.size; rw [HB.out]; exact this
    have D1 := Lib.hid d1
    clear d1
    go_wp2_with fail
    refine (K1.out _ _ (by have := HC.out; omega) (by omega) _).mono ?_
    rintro e w2 ⟨rfl, d2⟩
    have z2 : B ≤ w2.heap.size := by have := d2.size; omega
    have D2 := Lib.hid (D1.out.trans (d2.mono z1))
    clear d2 D1 K1
    go_wp2_with fail
    refine (K2.out _ _ (by have := HC.out; omega) (by omega) _).mono ?_
    rintro e w3 ⟨rfl, d3⟩
    have z3 : B ≤ w3.heap.size := by have := d3.size; omega
    have D3 := Lib.hid (D2.out.trans (d3.mono z2))
    clear d3 D2 K2
    go_wp2_with fail
    refine (K3.out _ _ (by omega) (by omega) _).mono ?_
    rintro e w4 ⟨rfl, d4⟩
    have z4 : B ≤ w4.heap.size := by have := d4.size; omega
    have D4 := Lib.hid (D3.out.trans (d4.mono z3))
    clear d4 D3 K3
    go_wp2_with fail
    refine (K4.out _ _ _ (by have := HC.out; omega) (by omega) (by omega) _).mono ?_
    rintro e w5 ⟨rfl, d5⟩
    have D5 := Lib.hid (D4.out.trans (d5.mono z4))
    clear d5 D4 K4
    go_wp2_with fail
    go_ret
    exact ⟨rfl, D5.out⟩
end Go.Proofs.Yteclijealbdhnaa
