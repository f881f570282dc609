/- The document's Same, of things that are. -/
import Derived.Test.YteclijealbdhnaaTRef2
namespace Go.Proofs.Yteclijealbdhnaa
open Go.RowKit

theorem neq45 (x y : Int) (w : World) : (binOp .neq 45 (thing x y) (thing x y)).run Try.prog w = .ok (.bool false) w := by go_simp

set_option maxHeartbeats 4000000 in
theorem same_any (a0 a1 : Option Addr) (len c0 c1 : Nat) (l : List Th) (w : World) (h : RowK w a0 len c0 l) (h' : RowK w a1 len c1 l) (hl : len ≤ 100000) :
    Calls Try.prog 28 #[.slice a0 len c0, .slice a1 len c1] w fun e w' => e = .returned (.bool true) ∧ Below w.heap.size w w' := by
  have HA := Lib.hid h
  have HC := Lib.hid h'
  clear h h'
  go_enter Try.func28, Try.ntmps28
  go_wp2_with fail
  go_loopw [5, 13] (fun _ iv wr => ∃ n : Nat, iv = .int .i64 n ∧ n ≤ len ∧ Hid (wr.heap = w.heap) ∧ Hid (Below w.heap.size w wr)) (fun _ iv _ => len - (intOf iv).toNat)
  case atStart => exact ⟨0, rfl, Nat.zero_le _, rfl, Below.refl _ _⟩
  case round =>
    obtain ⟨n, rfl, hn, hW, hB⟩ := hrel
    by_cases hlt : n < len
    · have hA : RowK wr a0 len c0 l := HA.out.of (by rw [hW.out]; exact Nat.le_refl _) (fun _ _ _ _ => by rw [hW.out])
      have hC : RowK wr a1 len c1 l := HC.out.of (by rw [hW.out]; exact Nat.le_refl _) (fun _ _ _ _ => by rw [hW.out])
      obtain ⟨g, off, rfl, y0, y1⟩ := hA.at n hlt
      obtain ⟨g', off', rfl, z0, z1⟩ := hC.at n hlt
      obtain ⟨x, hx⟩ : ∃ x, Hid (l.getD n (0, 0) = x) := ⟨_, rfl⟩
      rw [hx.out] at y0 y1 z0 z1
      obtain ⟨x1, x2⟩ := x
      clear hA hC
      go_wp2_with fail
      refine Seq.start (fun _ => True) (Seq.but []) (Seq.these []) (by kernel_rfl) ?_
      refine Seq.calm (i := 0) (d := some 16) (v := ?_) rfl rfl (by kernel_rfl) (by rfl) (fun w9 => ?_) ?_
      rotate_left
      · go_simp; try with_reducible rfl
      (try simp only [Act.put, List.setIfInBounds_toArray, List.set_cons_zero, List.set_cons_succ])
      refine Seq.calm (i := 1) (d := some 17) (v := ?_) rfl rfl (by kernel_rfl) (by rfl) (fun w9 => ?_) ?_
      rotate_left
      · go_simp; try with_reducible rfl
      (try simp only [Act.put, List.setIfInBounds_toArray, List.set_cons_zero, List.set_cons_succ])
      refine Seq.calm (i := 2) (d := some 18) (v := ?_) rfl rfl (by kernel_rfl) (by rfl) (fun w9 => ?_) ?_
      rotate_left
      · go_simp; try with_reducible rfl
      (try simp only [Act.put, List.setIfInBounds_toArray, List.set_cons_zero, List.set_cons_succ])
      refine Seq.held (i := 3) (d := some 19) (v := ?_) rfl rfl (by kernel_rfl) (by kernel_rfl) (by rfl) ?_ ?_
      rotate_left
      · go_simp; try with_reducible rfl
      (try simp only [Act.put, List.setIfInBounds_toArray, List.set_cons_zero, List.set_cons_succ])
      refine Seq.calm (i := 4) (d := some 20) (v := ?_) rfl rfl (by kernel_rfl) (by rfl) (fun w9 => ?_) ?_
      rotate_left
      · go_simp; try with_reducible rfl
      (try simp only [Act.put, List.setIfInBounds_toArray, List.set_cons_zero, List.set_cons_succ])
      refine Seq.calm (i := 5) (d := some 21) (v := ?_) rfl rfl (by kernel_rfl) (by rfl) (fun w9 => ?_) ?_
      rotate_left
      · go_simp; try with_reducible rfl
      (try simp only [Act.put, List.setIfInBounds_toArray, List.set_cons_zero, List.set_cons_succ])
      refine Seq.calm (i := 6) (d := some 22) (v := ?_) rfl rfl (by kernel_rfl) (by rfl) (fun w9 => ?_) ?_
      rotate_left
      · go_simp; try with_reducible rfl
      (try simp only [Act.put, List.setIfInBounds_toArray, List.set_cons_zero, List.set_cons_succ])
      refine Seq.held (i := 7) (d := some 23) (v := ?_) rfl rfl (by kernel_rfl) (by kernel_rfl) (by rfl) ?_ ?_
      rotate_left
      · go_simp; try with_reducible rfl
      (try simp only [Act.put, List.setIfInBounds_toArray, List.set_cons_zero, List.set_cons_succ])
      refine Seq.calm (i := 8) (d := some 24) (v := ?_) rfl rfl (by kernel_rfl) (by rfl) (fun w9 => ?_) ?_
      rotate_left
      · go_simp; try with_reducible rfl
      (try simp only [Act.put, List.setIfInBounds_toArray, List.set_cons_zero, List.set_cons_succ])
      refine Seq.done (by kernel_rfl) ?_
      go_wp2_with fail
      go_roundw
      case rel => exact ⟨n + 1, by go_num, by omega, hW, Lib.hid hB.out.drew⟩
      case measure => simp [intOf]; omega
    · obtain rfl : n = len := by omega
      go_wp2_with fail
      go_ret
      exact ⟨rfl, hB.out⟩
end Go.Proofs.Yteclijealbdhnaa
