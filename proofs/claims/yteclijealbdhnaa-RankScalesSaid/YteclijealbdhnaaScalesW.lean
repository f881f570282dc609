/- RankScales: the walk. -/
import Derived.Test.YteclijealbdhnaaW
import Derived.Test.YteclijealbdhnaaL
namespace Go.Proofs.Yteclijealbdhnaa
open Go.RowKit

theorem cmpF_mul (x y k : Nat) (hk : 1 ≤ k) : cmpF (x * k) (y * k) = cmpF x y := by
  unfold cmpF
  have h1 : x * k < y * k ↔ x < y := ⟨fun h => Nat.lt_of_mul_lt_mul_right h, fun h => Nat.mul_lt_mul_of_pos_right h hk⟩
  have h2 : y * k < x * k ↔ y < x := ⟨fun h => Nat.lt_of_mul_lt_mul_right h, fun h => Nat.mul_lt_mul_of_pos_right h hk⟩
  simp only [h1, h2]
theorem held_same (n : Nat) (h1 : 1 ≤ n) (h2 : n ≤ 4096) : (heldF (n : Int)).toNat = n := by unfold heldF; omega
theorem scale1 (a b k : Nat) (i j : Int) (hk : 1 ≤ k) : rankF (a * k) i (b * k) j = rankF a i b j := by
  unfold rankF
  rw [show a * k * (heldF j).toNat = a * (heldF j).toNat * k by ac_rfl, show b * k * (heldF i).toNat = b * (heldF i).toNat * k by ac_rfl, cmpF_mul _ _ _ hk]
theorem scale2 (a b i j k : Nat) (hk : 1 ≤ k) (hi : 1 ≤ i) (hj : 1 ≤ j) (hik : i * k ≤ 4096) (hjk : j * k ≤ 4096) : rankF a ((i * k : Nat) : Int) b ((j * k : Nat) : Int) = rankF a i b j := by
  unfold rankF
  have h1 : i ≤ i * k := Nat.le_mul_of_pos_right i hk
  have h2 : j ≤ j * k := Nat.le_mul_of_pos_right j hk
  rw [held_same (i * k) (by omega) hik, held_same (j * k) (by omega) hjk, held_same i hi (by omega), held_same j hj (by omega), ← Nat.mul_assoc, ← Nat.mul_assoc, cmpF_mul _ _ _ hk]
theorem scale3 (a b i j k : Nat) (hk : 1 ≤ k) (hi : 1 ≤ i) (hj : 1 ≤ j) (hik : i * k ≤ 4096) (hjl : j ≤ 4096) : rankF (a * k) ((i * k : Nat) : Int) b j = rankF a i b j := by
  unfold rankF
  have h1 : i ≤ i * k := Nat.le_mul_of_pos_right i hk
  rw [held_same (i * k) (by omega) hik, held_same j hj hjl, held_same i hi (by omega), show a * k * j = a * j * k by ac_rfl, ← Nat.mul_assoc, cmpF_mul _ _ _ hk]
theorem scale4 (b : Nat) (i j : Int) : rankF 0 i b j ≤ 0 := by
  unfold rankF cmpF
  rw [Nat.zero_mul]
  split
  · omega
  · rw [if_neg (by omega)]; exact Int.le_refl _

theorem rankV (A B I J : Int) (a b : Nat) (i j r : Int) (hA : A = a) (hB : B = b) (hI : I = i) (hJ : J = j) (ha : a < 18446744073709551616) (hb : b < 18446744073709551616) (hr : rankF a i b j = r) (w : World) :
    Calls Try.prog 10 #[.int .u64 A, .int .i64 I, .int .u64 B, .int .i64 J] w fun e w' => e = .returned (.int .i64 r) ∧ Below w.heap.size w w' := by
  subst hA; subst hB; subst hr; subst hI; subst hJ; exact rank_any a b I J ha hb w

theorem mul_int {a k : Nat} {K : Int} (h : K = k) : (a : Int) * K = ((a * k : Nat) : Int) := by subst h; rw [Int.natCast_mul]
theorem mul_int' {I K : Int} {a k : Nat} (hi : I = a) (h : K = k) : I * K = ((a * k : Nat) : Int) := by subst h; subst hi; rw [Int.natCast_mul]

set_option maxHeartbeats 8000000 in
theorem scales_walk (a b x y t : Nat) (ha : a < 4294967296) (hb : b < 4294967296) (hx : x < 256) (hy : y < 256) (ht : t < 256) (w : World) :
    Calls Try.prog 5 #[.int .u32 a, .int .u32 b, .int .u8 x, .int .u8 y, .int .u8 t] w fun e w' => e = .returned (.bool true) ∧ Below w.heap.size w w' := by
  obtain ⟨k, hk⟩ : ∃ k : Nat, k = t % 15 + 1 := ⟨_, rfl⟩
  have k1 : 1 ≤ k := by omega
  have k2 : k ≤ 15 := by omega
  have m1 : (x + 1) * k ≤ 256 * 15 := Nat.mul_le_mul (by omega) k2
  have m2 : (y + 1) * k ≤ 256 * 15 := Nat.mul_le_mul (by omega) k2
  have m3 : a * k ≤ 4294967296 * 15 := Nat.mul_le_mul (by omega) k2
  have m4 : b * k ≤ 4294967296 * 15 := Nat.mul_le_mul (by omega) k2
  have hk' : (t : Int) % 15 + 1 = (k : Int) := by omega
  obtain ⟨c, hc⟩ : ∃ c, c = rankF a ((x + 1 : Nat) : Int) b ((y + 1 : Nat) : Int) := ⟨_, rfl⟩
  have F1 := (scale1 a b k ((x + 1 : Nat) : Int) ((y + 1 : Nat) : Int) k1).trans hc.symm
  have F2 := (scale2 a b (x + 1) (y + 1) k k1 (by omega) (by omega) (by omega) (by omega)).trans hc.symm
  have F3 := (scale3 a b (x + 1) (y + 1) k k1 (by omega) (by omega) (by omega) (by omega)).trans hc.symm
  obtain ⟨c4, hc4⟩ : ∃ c, c = rankF 0 ((x + 1 : Nat) : Int) b ((y + 1 : Nat) : Int) := ⟨_, rfl⟩
  have F4 : c4 ≤ 0 := by rw [hc4]; exact scale4 _ _ _
  have bc : -1 ≤ c4 := by rw [hc4]; exact (rankF_bd _ _ _ _).1
  have C0 := Lib.hid (fun A B I J hA hB hI hJ w => rankV A B I J _ _ _ _ c hA hB hI hJ (by omega) (by omega) hc.symm w)
  have C1 := Lib.hid (fun A B I J hA hB hI hJ w => rankV A B I J _ _ _ _ c hA hB hI hJ (by omega) (by omega) F1 w)
  have C2 := Lib.hid (fun A B I J hA hB hI hJ w => rankV A B I J _ _ _ _ c hA hB hI hJ (by omega) (by omega) F2 w)
  have C3 := Lib.hid (fun A B I J hA hB hI hJ w => rankV A B I J _ _ _ _ c hA hB hI hJ (by omega) (by omega) F3 w)
  have C4 := Lib.hid (fun A B I J hA hB hI hJ w => rankV A B I J _ _ _ _ c4 hA hB hI hJ (by omega) (by omega) hc4.symm w)
  have M1 : ((x : Int) + 1) * (k : Int) = (((x + 1) * k : Nat) : Int) := mul_int' (by omega) rfl
  have M2 : ((y : Int) + 1) * (k : Int) = (((y + 1) * k : Nat) : Int) := mul_int' (by omega) rfl
  have M3 : (a : Int) * (k : Int) = ((a * k : Nat) : Int) := mul_int rfl
  have M4 : (b : Int) * (k : Int) = ((b * k : Nat) : Int) := mul_int rfl
  have d4 : decide (c4 ≤ 0) = true := by simpa using F4
  have HK := Lib.hid hk
  generalize (x + 1) * k = xk at *
  generalize (y + 1) * k = yk at *
  generalize a * k = ak at *
  generalize b * k = bk at *
  have N1 := Lib.hid M1
  have N2 := Lib.hid M2
  have N3 := Lib.hid M3
  have N4 := Lib.hid M4
  clear F1 F2 F3 hc hc4 hk
  obtain ⟨B, HB⟩ : ∃ B, Hid (B = w.heap.size) := ⟨_, rfl⟩
  rw [← HB.out]
  go_enter Try.func5, Try.ntmps5
  go_wp2_with fail
  refine (awake_any _).mono ?_
  rintro e w1 ⟨rfl, d1⟩
  rw [← HB.out] at d1
  have z1 : B ≤ w1.heap.size := by have := d1.size; rw [HB.out]; exact this
  have D1 := Lib.hid d1
  clear d1
  go_wp2_with fail
  refine (C0.out _ _ _ _ rfl rfl (by omega) (by omega) _).mono ?_
  rintro e w2 ⟨rfl, d2⟩
  have z2 : B ≤ w2.heap.size := by have := d2.size; omega
  have D2 := Lib.hid (D1.out.trans (d2.mono z1))
  clear d2 D1 C0
  go_wp2_with fail
  refine (C1.out _ _ _ _ (by omega) (by omega) (by omega) (by omega) _).mono ?_
  rintro e w3 ⟨rfl, d3⟩
  have z3 : B ≤ w3.heap.size := by have := d3.size; omega
  have D3 := Lib.hid (D2.out.trans (d3.mono z2))
  clear d3 D2 C1
  go_wp2_with fail
  refine (C2.out _ _ _ _ (by omega) (by omega) (by omega) (by omega) _).mono ?_
  rintro e w4 ⟨rfl, d4⟩
  have z4 : B ≤ w4.heap.size := by have := d4.size; omega
  have D4 := Lib.hid (D3.out.trans (d4.mono z3))
  clear d4 D3 C2
  go_wp2_with fail
  refine (C3.out _ _ _ _ (by omega) (by omega) (by omega) (by omega) _).mono ?_
  rintro e w5 ⟨rfl, d5⟩
  have z5 : B ≤ w5.heap.size := by have := d5.size; omega
  have D5 := Lib.hid (D4.out.trans (d5.mono z4))
  clear d5 D4 C3
  go_wp2_with fail
  refine (C4.out _ _ _ _ (by omega) (by omega) (by omega) (by omega) _).mono ?_
  rintro e w6 ⟨rfl, d6⟩
  have z6 : B ≤ w6.heap.size := by have := d6.size; omega
  have D6 := Lib.hid (D5.out.trans (d6.mono z5))
  clear d6 D5 C4
  go_wp2_with fail
  go_ret
  exact ⟨rfl, D6.out⟩
end Go.Proofs.Yteclijealbdhnaa
