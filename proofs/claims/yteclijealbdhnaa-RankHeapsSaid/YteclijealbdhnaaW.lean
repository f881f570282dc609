/- awake: what a program that does nothing answers wrongly: it answers true. -/
import Derived.Test.YteclijealbdhnaaPush
import Derived.Test.YteclijealbdhnaaA
namespace Go.Proofs.Yteclijealbdhnaa
open Go.RowKit

theorem push_1 : pushF [] (2, 0, 0) = [(2, 0, 0)] := by decide
theorem push_2 : pushF [(2, 0, 0)] (1, 7, 1) = [(1, 7, 1), (2, 0, 0)] := by decide
theorem pop_1 : popF [(1, 7, 1), (2, 0, 0)] = [(2, 0, 0)] := by decide

set_option maxHeartbeats 2000000 in
theorem awake_any (w : World) : Calls Try.prog 9 #[] w fun e w' => e = .returned (.bool true) ∧ Below w.heap.size w w' := by
  obtain ⟨B, HB⟩ : ∃ B, Hid (B = w.heap.size) := ⟨_, rfl⟩
  have hR : rankF 3 2 1 1 = 1 := by decide
  have hS : raisesF 9 1 8 1 = true := by decide
  have HR := Lib.hid (fun w => rank_any 3 1 2 1 (by omega) (by omega) w)
  have HS := Lib.hid (fun w => raises_any 9 8 1 1 (by omega) (by omega) w)
  rw [hR] at HR
  rw [hS] at HS
  clear hR hS
  rw [← HB.out]
  go_enter Try.func9, Try.ntmps9
  go_wp2_with fail
  refine (new_any B w (by rw [HB.out]; exact Nat.le_refl _)).mono ?_
  rintro e w1 ⟨rfl, h1, b1⟩
  have H1 := Lib.hid h1
  have B1 := Lib.hid b1
  have z1 : B ≤ w1.heap.size := by have := b1.size; rw [HB.out]; exact this
  generalize w.heap.size = p at *
  clear h1 b1
  go_wp2_with fail
  refine (push_any (l := []) (n := 0) 2 0 _ H1.out z1 (by omega) (by simp)).mono ?_
  rintro e w2 ⟨rfl, h2, b2⟩
  have H2 := Lib.hid (push_1 ▸ h2)
  have B2 := Lib.hid (B1.out.trans b2)
  have z2 : B ≤ w2.heap.size := by have := b2.size; omega
  clear h2 b2 z1 B1 H1
  go_wp2_with fail
  refine (push_any (l := [(2, 0, 0)]) (n := 1) 1 7 _ H2.out z2 (by omega) (by simp)).mono ?_
  rintro e w3 ⟨rfl, h3, b3⟩
  have H3 := Lib.hid (push_2 ▸ h3)
  have B3 := Lib.hid (B2.out.trans b3)
  have z3 : B ≤ w3.heap.size := by have := b3.size; omega
  clear h3 b3 z2 B2 H2
  go_wp2_with fail
  refine (pop_some (x := (1, 7, 1)) (r := [(2, 0, 0)]) _ H3.out z3).mono ?_
  rintro e w4 ⟨rfl, h4, b4⟩
  have H4 := Lib.hid (pop_1 ▸ h4)
  have B4 := Lib.hid (B3.out.trans b4)
  have z4 : B ≤ w4.heap.size := by have := b4.size; omega
  clear h4 b4 z3 B3 H3
  have H5 := Lib.hid (H4.out.below ((Below.refl _ _).alloc (Nat.le_refl _) (.cells #[.int .i64 1, .int .i64 7] 45)))
  go_wp2_with fail
  refine (len_any _ H5.out).mono ?_
  rintro e w5 ⟨rfl, rfl⟩
  go_wp2_with fail
  refine (HR.out _).mono ?_
  rintro e w6 ⟨rfl, b6⟩
  have B6 := Lib.hid ((B4.out.alloc z4 (.cells #[.int .i64 1, .int .i64 7] 45)).trans (b6.mono (by simp; omega)))
  have z6 : B ≤ w6.heap.size := by have := b6.size; simp at this; omega
  clear b6
  go_wp2_with fail
  refine (HS.out _).mono ?_
  rintro e w7 ⟨rfl, b7⟩
  have B7 := Lib.hid (B6.out.trans (b7.mono z6))
  clear b7
  go_wp2_with fail
  go_ret
  exact ⟨rfl, B7.out⟩
end Go.Proofs.Yteclijealbdhnaa
