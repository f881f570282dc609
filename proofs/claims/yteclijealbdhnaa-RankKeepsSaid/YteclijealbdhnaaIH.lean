/- The heap of ints: what comes first. -/
import Derived.Test.YteclijealbdhnaaDown
namespace Go.Proofs.Yteclijealbdhnaa
open Go.RowKit

/-- What the order that is handed over says: 13: by the numbers; 36: nothing. -/
def lessI (g : Nat) (a b : Int) : Bool := if g = 13 then decide (a < b) else false
abbrev entI (x a : Int) : Value := .agg #[.int .i64 x, .int .i64 a]
def ltI (g : Nat) (x y : Ent) : Bool := lessI g x.2.1 y.2.1 || (!lessI g y.2.1 x.2.1 && decide (x.2.2 < y.2.2))

set_option maxHeartbeats 400000 in
theorem less_any (g : Nat) (hg : g = 13 ∨ g = 36) {a b : Int} {r : Bool} (hr : lessI g a b = r) (w : World) :
    Calls Try.prog g #[.int .i64 a, .int .i64 b] w fun e w' => e = .returned (.bool r) ∧ w = w' := by
  subst hr
  rcases hg with rfl | rfl
  · have fin : Hid (lessI 13 a b = decide (a < b)) := rfl
    go_enter Try.func13, Try.ntmps13
    go_wp2
    go_ret
    exact ⟨by rw [fin.out]; rfl, rfl⟩
  · have fin : Hid (lessI 36 a b = false) := rfl
    go_enter Try.func36, Try.ntmps36
    go_wp2
    go_ret
    exact ⟨by rw [fin.out]; rfl, rfl⟩

set_option maxHeartbeats 2000000 in
theorem firstI_13 (p : Nat) (x a x' a' : Int) (w : World) (hc : w.cell? ⟨p, 0, none⟩ = some (.func (.func 13) #[] #[])) (hp : p < w.heap.size) :
    Calls Try.prog 50 #[.pointer (some ⟨p, 0, none⟩), entI x a, entI x' a'] w fun e w' => e = .returned (.bool (ltI 13 (0, x, a) (0, x', a'))) ∧ Below w.heap.size w w' := by
  by_cases c1 : lessI 13 x x' = true
  · have fin : Hid (ltI 13 (0, x, a) (0, x', a') = true) := by unfold Hid ltI; rw [c1]; rfl
    go_enter Try.func50, Try.ntmps50
    go_wp2_with fail
    refine Seq.start (fun _ => True) (Seq.but [8]) (Seq.these []) (by kernel_rfl) ?_
    refine Seq.calm (i := 0) (d := some 7) (v := ?_) rfl rfl (by kernel_rfl) (by rfl) (fun w9 => ?_) ?_
    rotate_left
    · go_simp; try with_reducible rfl
    (try simp only [Act.put, List.setIfInBounds_toArray, List.set_cons_zero, List.set_cons_succ])
    refine Seq.calm (i := 1) (d := some 8) (v := ?_) rfl rfl (by kernel_rfl) (by rfl) (fun w9 => ?_) ?_
    rotate_left
    · go_simp; try with_reducible rfl
    (try simp only [Act.put, List.setIfInBounds_toArray, List.set_cons_zero, List.set_cons_succ])
    refine Seq.calm (i := 2) (d := some 9) (v := ?_) rfl rfl (by kernel_rfl) (by rfl) (fun w9 => ?_) ?_
    rotate_left
    · go_simp; try with_reducible rfl
    (try simp only [Act.put, List.setIfInBounds_toArray, List.set_cons_zero, List.set_cons_succ])
    refine Seq.held (i := 3) (d := some 10) (v := ?_) rfl rfl (by kernel_rfl) (by kernel_rfl) (by rfl) ?_ ?_
    rotate_left
    · go_simp; try with_reducible rfl
    (try simp only [Act.put, List.setIfInBounds_toArray, List.set_cons_zero, List.set_cons_succ])
    refine Seq.calm (i := 4) (d := some 11) (v := ?_) rfl rfl (by kernel_rfl) (by rfl) (fun w9 => ?_) ?_
    rotate_left
    · go_simp; try with_reducible rfl
    (try simp only [Act.put, List.setIfInBounds_toArray, List.set_cons_zero, List.set_cons_succ])
    refine Seq.held (i := 5) (d := some 12) (v := ?_) rfl rfl (by kernel_rfl) (by kernel_rfl) (by rfl) ?_ ?_
    rotate_left
    · go_simp; try with_reducible rfl
    (try simp only [Act.put, List.setIfInBounds_toArray, List.set_cons_zero, List.set_cons_succ])
    refine Seq.calm (i := 6) (d := some 13) (v := ?_) rfl rfl (by kernel_rfl) (by rfl) (fun w9 => ?_) ?_
    rotate_left
    · go_simp; try with_reducible rfl
    (try simp only [Act.put, List.setIfInBounds_toArray, List.set_cons_zero, List.set_cons_succ])
    refine Seq.held (i := 7) (d := some 14) (v := ?_) rfl rfl (by kernel_rfl) (by kernel_rfl) (by rfl) ?_ ?_
    rotate_left
    · go_simp; try with_reducible rfl
    (try simp only [Act.put, List.setIfInBounds_toArray, List.set_cons_zero, List.set_cons_succ])
    refine Seq.drop (i := 8) rfl (by kernel_rfl) (by kernel_rfl) (by rfl) (fun K9 hK9 => ?_)
    go_simp
    (with_reducible refine (less_any 13 (by decide) c1 _).mono ?_)
    rintro e w2 ⟨rfl, rfl⟩
    refine hK9.out _ _ ?_
    clear hK9 K9
    (try simp only [Act.put, List.setIfInBounds_toArray, List.set_cons_zero, List.set_cons_succ])
    refine Seq.done (by kernel_rfl) ?_
    go_wp2_with fail
    go_ret
    exact ⟨by rw [fin.out]; rfl, (((Below.refl _ _).alloc (Nat.le_refl _) _).alloc (by simp) _).drew⟩
  · have c1' : lessI 13 x x' = false := by simpa using c1
    clear c1
    by_cases c2 : lessI 13 x' x = true
    · have fin : Hid (ltI 13 (0, x, a) (0, x', a') = false) := by unfold Hid ltI; rw [c1', c2]; rfl
      go_enter Try.func50, Try.ntmps50
      go_wp2_with fail
      refine Seq.start (fun _ => True) (Seq.but [8]) (Seq.these []) (by kernel_rfl) ?_
      refine Seq.calm (i := 0) (d := some 7) (v := ?_) rfl rfl (by kernel_rfl) (by rfl) (fun w9 => ?_) ?_
      rotate_left
      · go_simp; try with_reducible rfl
      (try simp only [Act.put, List.setIfInBounds_toArray, List.set_cons_zero, List.set_cons_succ])
      refine Seq.calm (i := 1) (d := some 8) (v := ?_) rfl rfl (by kernel_rfl) (by rfl) (fun w9 => ?_) ?_
      rotate_left
      · go_simp; try with_reducible rfl
      (try simp only [Act.put, List.setIfInBounds_toArray, List.set_cons_zero, List.set_cons_succ])
      refine Seq.calm (i := 2) (d := some 9) (v := ?_) rfl rfl (by kernel_rfl) (by rfl) (fun w9 => ?_) ?_
      rotate_left
      · go_simp; try with_reducible rfl
      (try simp only [Act.put, List.setIfInBounds_toArray, List.set_cons_zero, List.set_cons_succ])
      refine Seq.held (i := 3) (d := some 10) (v := ?_) rfl rfl (by kernel_rfl) (by kernel_rfl) (by rfl) ?_ ?_
      rotate_left
      · go_simp; try with_reducible rfl
      (try simp only [Act.put, List.setIfInBounds_toArray, List.set_cons_zero, List.set_cons_succ])
      refine Seq.calm (i := 4) (d := some 11) (v := ?_) rfl rfl (by kernel_rfl) (by rfl) (fun w9 => ?_) ?_
      rotate_left
      · go_simp; try with_reducible rfl
      (try simp only [Act.put, List.setIfInBounds_toArray, List.set_cons_zero, List.set_cons_succ])
      refine Seq.held (i := 5) (d := some 12) (v := ?_) rfl rfl (by kernel_rfl) (by kernel_rfl) (by rfl) ?_ ?_
      rotate_left
      · go_simp; try with_reducible rfl
      (try simp only [Act.put, List.setIfInBounds_toArray, List.set_cons_zero, List.set_cons_succ])
      refine Seq.calm (i := 6) (d := some 13) (v := ?_) rfl rfl (by kernel_rfl) (by rfl) (fun w9 => ?_) ?_
      rotate_left
      · go_simp; try with_reducible rfl
      (try simp only [Act.put, List.setIfInBounds_toArray, List.set_cons_zero, List.set_cons_succ])
      refine Seq.held (i := 7) (d := some 14) (v := ?_) rfl rfl (by kernel_rfl) (by kernel_rfl) (by rfl) ?_ ?_
      rotate_left
      · go_simp; try with_reducible rfl
      (try simp only [Act.put, List.setIfInBounds_toArray, List.set_cons_zero, List.set_cons_succ])
      refine Seq.drop (i := 8) rfl (by kernel_rfl) (by kernel_rfl) (by rfl) (fun K9 hK9 => ?_)
      go_simp
      (with_reducible refine (less_any 13 (by decide) c1' _).mono ?_)
      rintro e w2 ⟨rfl, rfl⟩
      refine hK9.out _ _ ?_
      clear hK9 K9
      (try simp only [Act.put, List.setIfInBounds_toArray, List.set_cons_zero, List.set_cons_succ])
      refine Seq.done (by kernel_rfl) ?_
      go_wp2_with fail
      refine Seq.start (fun _ => True) (Seq.but [8]) (Seq.these []) (by kernel_rfl) ?_
      refine Seq.calm (i := 0) (d := some 16) (v := ?_) rfl rfl (by kernel_rfl) (by rfl) (fun w9 => ?_) ?_
      rotate_left
      · go_simp; try with_reducible rfl
      (try simp only [Act.put, List.setIfInBounds_toArray, List.set_cons_zero, List.set_cons_succ])
      refine Seq.calm (i := 1) (d := some 17) (v := ?_) rfl rfl (by kernel_rfl) (by rfl) (fun w9 => ?_) ?_
      rotate_left
      · go_simp; try with_reducible rfl
      (try simp only [Act.put, List.setIfInBounds_toArray, List.set_cons_zero, List.set_cons_succ])
      refine Seq.calm (i := 2) (d := some 18) (v := ?_) rfl rfl (by kernel_rfl) (by rfl) (fun w9 => ?_) ?_
      rotate_left
      · go_simp; try with_reducible rfl
      (try simp only [Act.put, List.setIfInBounds_toArray, List.set_cons_zero, List.set_cons_succ])
      refine Seq.held (i := 3) (d := some 19) (v := ?_) rfl rfl (by kernel_rfl) (by kernel_rfl) (by rfl) ?_ ?_
      rotate_left
      · go_simp; try with_reducible rfl
      (try simp only [Act.put, List.setIfInBounds_toArray, List.set_cons_zero, List.set_cons_succ])
      refine Seq.calm (i := 4) (d := some 20) (v := ?_) rfl rfl (by kernel_rfl) (by rfl) (fun w9 => ?_) ?_
      rotate_left
      · go_simp; try with_reducible rfl
      (try simp only [Act.put, List.setIfInBounds_toArray, List.set_cons_zero, List.set_cons_succ])
      refine Seq.held (i := 5) (d := some 21) (v := ?_) rfl rfl (by kernel_rfl) (by kernel_rfl) (by rfl) ?_ ?_
      rotate_left
      · go_simp; try with_reducible rfl
      (try simp only [Act.put, List.setIfInBounds_toArray, List.set_cons_zero, List.set_cons_succ])
      refine Seq.calm (i := 6) (d := some 22) (v := ?_) rfl rfl (by kernel_rfl) (by rfl) (fun w9 => ?_) ?_
      rotate_left
      · go_simp; try with_reducible rfl
      (try simp only [Act.put, List.setIfInBounds_toArray, List.set_cons_zero, List.set_cons_succ])
      refine Seq.held (i := 7) (d := some 23) (v := ?_) rfl rfl (by kernel_rfl) (by kernel_rfl) (by rfl) ?_ ?_
      rotate_left
      · go_simp; try with_reducible rfl
      (try simp only [Act.put, List.setIfInBounds_toArray, List.set_cons_zero, List.set_cons_succ])
      refine Seq.drop (i := 8) rfl (by kernel_rfl) (by kernel_rfl) (by rfl) (fun K9 hK9 => ?_)
      go_simp
      (with_reducible refine (less_any 13 (by decide) c2 _).mono ?_)
      rintro e w3 ⟨rfl, rfl⟩
      refine hK9.out _ _ ?_
      clear hK9 K9
      (try simp only [Act.put, List.setIfInBounds_toArray, List.set_cons_zero, List.set_cons_succ])
      refine Seq.calm (i := 9) (d := some 25) (v := ?_) rfl rfl (by kernel_rfl) (by rfl) (fun w9 => ?_) ?_
      rotate_left
      · go_simp; try with_reducible rfl
      (try simp only [Act.put, List.setIfInBounds_toArray, List.set_cons_zero, List.set_cons_succ])
      refine Seq.calm (i := 10) (d := some 26) (v := ?_) rfl rfl (by kernel_rfl) (by rfl) (fun w9 => ?_) ?_
      rotate_left
      · go_simp; try with_reducible rfl
      (try simp only [Act.put, List.setIfInBounds_toArray, List.set_cons_zero, List.set_cons_succ])
      refine Seq.no (i := 11) (d := some 27) rfl rfl (by kernel_rfl) (by rfl) ?_
      (try simp only [Act.put, List.setIfInBounds_toArray, List.set_cons_zero, List.set_cons_succ])
      refine Seq.no (i := 12) (d := some 28) rfl rfl (by kernel_rfl) (by rfl) ?_
      (try simp only [Act.put, List.setIfInBounds_toArray, List.set_cons_zero, List.set_cons_succ])
      refine Seq.no (i := 13) (d := some 29) rfl rfl (by kernel_rfl) (by rfl) ?_
      (try simp only [Act.put, List.setIfInBounds_toArray, List.set_cons_zero, List.set_cons_succ])
      refine Seq.no (i := 14) (d := some 30) rfl rfl (by kernel_rfl) (by rfl) ?_
      (try simp only [Act.put, List.setIfInBounds_toArray, List.set_cons_zero, List.set_cons_succ])
      refine Seq.no (i := 15) (d := some 31) rfl rfl (by kernel_rfl) (by rfl) ?_
      (try simp only [Act.put, List.setIfInBounds_toArray, List.set_cons_zero, List.set_cons_succ])
      refine Seq.calm (i := 16) (d := some 32) (v := ?_) rfl rfl (by kernel_rfl) (by rfl) (fun w9 => ?_) ?_
      rotate_left
      · go_simp; try with_reducible rfl
      (try simp only [Act.put, List.setIfInBounds_toArray, List.set_cons_zero, List.set_cons_succ])
      refine Seq.calm (i := 17) (d := some 6) (v := ?_) rfl rfl (by kernel_rfl) (by rfl) (fun w9 => ?_) ?_
      rotate_left
      · go_simp; try with_reducible rfl
      (try simp only [Act.put, List.setIfInBounds_toArray, List.set_cons_zero, List.set_cons_succ])
      refine Seq.done (by kernel_rfl) ?_
      go_wp2_with fail
      go_ret
      exact ⟨by rw [fin.out]; rfl, (((Below.refl _ _).alloc (Nat.le_refl _) _).alloc (by simp) _).drew.drew⟩
    · have c2' : lessI 13 x' x = false := by simpa using c2
      clear c2
      have fin : Hid (ltI 13 (0, x, a) (0, x', a') = decide (a < a')) := by unfold Hid ltI; rw [c1', c2']; rfl
      go_enter Try.func50, Try.ntmps50
      go_wp2_with fail
      refine Seq.start (fun _ => True) (Seq.but [8]) (Seq.these []) (by kernel_rfl) ?_
      refine Seq.calm (i := 0) (d := some 7) (v := ?_) rfl rfl (by kernel_rfl) (by rfl) (fun w9 => ?_) ?_
      rotate_left
      · go_simp; try with_reducible rfl
      (try simp only [Act.put, List.setIfInBounds_toArray, List.set_cons_zero, List.set_cons_succ])
      refine Seq.calm (i := 1) (d := some 8) (v := ?_) rfl rfl (by kernel_rfl) (by rfl) (fun w9 => ?_) ?_
      rotate_left
      · go_simp; try with_reducible rfl
      (try simp only [Act.put, List.setIfInBounds_toArray, List.set_cons_zero, List.set_cons_succ])
      refine Seq.calm (i := 2) (d := some 9) (v := ?_) rfl rfl (by kernel_rfl) (by rfl) (fun w9 => ?_) ?_
      rotate_left
      · go_simp; try with_reducible rfl
      (try simp only [Act.put, List.setIfInBounds_toArray, List.set_cons_zero, List.set_cons_succ])
      refine Seq.held (i := 3) (d := some 10) (v := ?_) rfl rfl (by kernel_rfl) (by kernel_rfl) (by rfl) ?_ ?_
      rotate_left
      · go_simp; try with_reducible rfl
      (try simp only [Act.put, List.setIfInBounds_toArray, List.set_cons_zero, List.set_cons_succ])
      refine Seq.calm (i := 4) (d := some 11) (v := ?_) rfl rfl (by kernel_rfl) (by rfl) (fun w9 => ?_) ?_
      rotate_left
      · go_simp; try with_reducible rfl
      (try simp only [Act.put, List.setIfInBounds_toArray, List.set_cons_zero, List.set_cons_succ])
      refine Seq.held (i := 5) (d := some 12) (v := ?_) rfl rfl (by kernel_rfl) (by kernel_rfl) (by rfl) ?_ ?_
      rotate_left
      · go_simp; try with_reducible rfl
      (try simp only [Act.put, List.setIfInBounds_toArray, List.set_cons_zero, List.set_cons_succ])
      refine Seq.calm (i := 6) (d := some 13) (v := ?_) rfl rfl (by kernel_rfl) (by rfl) (fun w9 => ?_) ?_
      rotate_left
      · go_simp; try with_reducible rfl
      (try simp only [Act.put, List.setIfInBounds_toArray, List.set_cons_zero, List.set_cons_succ])
      refine Seq.held (i := 7) (d := some 14) (v := ?_) rfl rfl (by kernel_rfl) (by kernel_rfl) (by rfl) ?_ ?_
      rotate_left
      · go_simp; try with_reducible rfl
      (try simp only [Act.put, List.setIfInBounds_toArray, List.set_cons_zero, List.set_cons_succ])
      refine Seq.drop (i := 8) rfl (by kernel_rfl) (by kernel_rfl) (by rfl) (fun K9 hK9 => ?_)
      go_simp
      (with_reducible refine (less_any 13 (by decide) c1' _).mono ?_)
      rintro e w2 ⟨rfl, rfl⟩
      refine hK9.out _ _ ?_
      clear hK9 K9
      (try simp only [Act.put, List.setIfInBounds_toArray, List.set_cons_zero, List.set_cons_succ])
      refine Seq.done (by kernel_rfl) ?_
      go_wp2_with fail
      refine Seq.start (fun _ => True) (Seq.but [8]) (Seq.these []) (by kernel_rfl) ?_
      refine Seq.calm (i := 0) (d := some 16) (v := ?_) rfl rfl (by kernel_rfl) (by rfl) (fun w9 => ?_) ?_
      rotate_left
      · go_simp; try with_reducible rfl
      (try simp only [Act.put, List.setIfInBounds_toArray, List.set_cons_zero, List.set_cons_succ])
      refine Seq.calm (i := 1) (d := some 17) (v := ?_) rfl rfl (by kernel_rfl) (by rfl) (fun w9 => ?_) ?_
      rotate_left
      · go_simp; try with_reducible rfl
      (try simp only [Act.put, List.setIfInBounds_toArray, List.set_cons_zero, List.set_cons_succ])
      refine Seq.calm (i := 2) (d := some 18) (v := ?_) rfl rfl (by kernel_rfl) (by rfl) (fun w9 => ?_) ?_
      rotate_left
      · go_simp; try with_reducible rfl
      (try simp only [Act.put, List.setIfInBounds_toArray, List.set_cons_zero, List.set_cons_succ])
      refine Seq.held (i := 3) (d := some 19) (v := ?_) rfl rfl (by kernel_rfl) (by kernel_rfl) (by rfl) ?_ ?_
      rotate_left
      · go_simp; try with_reducible rfl
      (try simp only [Act.put, List.setIfInBounds_toArray, List.set_cons_zero, List.set_cons_succ])
      refine Seq.calm (i := 4) (d := some 20) (v := ?_) rfl rfl (by kernel_rfl) (by rfl) (fun w9 => ?_) ?_
      rotate_left
      · go_simp; try with_reducible rfl
      (try simp only [Act.put, List.setIfInBounds_toArray, List.set_cons_zero, List.set_cons_succ])
      refine Seq.held (i := 5) (d := some 21) (v := ?_) rfl rfl (by kernel_rfl) (by kernel_rfl) (by rfl) ?_ ?_
      rotate_left
      · go_simp; try with_reducible rfl
      (try simp only [Act.put, List.setIfInBounds_toArray, List.set_cons_zero, List.set_cons_succ])
      refine Seq.calm (i := 6) (d := some 22) (v := ?_) rfl rfl (by kernel_rfl) (by rfl) (fun w9 => ?_) ?_
      rotate_left
      · go_simp; try with_reducible rfl
      (try simp only [Act.put, List.setIfInBounds_toArray, List.set_cons_zero, List.set_cons_succ])
      refine Seq.held (i := 7) (d := some 23) (v := ?_) rfl rfl (by kernel_rfl) (by kernel_rfl) (by rfl) ?_ ?_
      rotate_left
      · go_simp; try with_reducible rfl
      (try simp only [Act.put, List.setIfInBounds_toArray, List.set_cons_zero, List.set_cons_succ])
      refine Seq.drop (i := 8) rfl (by kernel_rfl) (by kernel_rfl) (by rfl) (fun K9 hK9 => ?_)
      go_simp
      (with_reducible refine (less_any 13 (by decide) c2' _).mono ?_)
      rintro e w3 ⟨rfl, rfl⟩
      refine hK9.out _ _ ?_
      clear hK9 K9
      (try simp only [Act.put, List.setIfInBounds_toArray, List.set_cons_zero, List.set_cons_succ])
      refine Seq.calm (i := 9) (d := some 25) (v := ?_) rfl rfl (by kernel_rfl) (by rfl) (fun w9 => ?_) ?_
      rotate_left
      · go_simp; try with_reducible rfl
      (try simp only [Act.put, List.setIfInBounds_toArray, List.set_cons_zero, List.set_cons_succ])
      refine Seq.calm (i := 10) (d := some 26) (v := ?_) rfl rfl (by kernel_rfl) (by rfl) (fun w9 => ?_) ?_
      rotate_left
      · go_simp; try with_reducible rfl
      (try simp only [Act.put, List.setIfInBounds_toArray, List.set_cons_zero, List.set_cons_succ])
      refine Seq.calm (i := 11) (d := some 27) (v := ?_) rfl rfl (by kernel_rfl) (by rfl) (fun w9 => ?_) ?_
      rotate_left
      · go_simp; try with_reducible rfl
      (try simp only [Act.put, List.setIfInBounds_toArray, List.set_cons_zero, List.set_cons_succ])
      refine Seq.held (i := 12) (d := some 28) (v := ?_) rfl rfl (by kernel_rfl) (by kernel_rfl) (by rfl) ?_ ?_
      rotate_left
      · go_simp; try with_reducible rfl
      (try simp only [Act.put, List.setIfInBounds_toArray, List.set_cons_zero, List.set_cons_succ])
      refine Seq.calm (i := 13) (d := some 29) (v := ?_) rfl rfl (by kernel_rfl) (by rfl) (fun w9 => ?_) ?_
      rotate_left
      · go_simp; try with_reducible rfl
      (try simp only [Act.put, List.setIfInBounds_toArray, List.set_cons_zero, List.set_cons_succ])
      refine Seq.held (i := 14) (d := some 30) (v := ?_) rfl rfl (by kernel_rfl) (by kernel_rfl) (by rfl) ?_ ?_
      rotate_left
      · go_simp; try with_reducible rfl
      (try simp only [Act.put, List.setIfInBounds_toArray, List.set_cons_zero, List.set_cons_succ])
      refine Seq.calm (i := 15) (d := some 31) (v := ?_) rfl rfl (by kernel_rfl) (by rfl) (fun w9 => ?_) ?_
      rotate_left
      · go_simp; try with_reducible rfl
      (try simp only [Act.put, List.setIfInBounds_toArray, List.set_cons_zero, List.set_cons_succ])
      refine Seq.calm (i := 16) (d := some 32) (v := ?_) rfl rfl (by kernel_rfl) (by rfl) (fun w9 => ?_) ?_
      rotate_left
      · go_simp; try with_reducible rfl
      (try simp only [Act.put, List.setIfInBounds_toArray, List.set_cons_zero, List.set_cons_succ])
      refine Seq.calm (i := 17) (d := some 6) (v := ?_) rfl rfl (by kernel_rfl) (by rfl) (fun w9 => ?_) ?_
      rotate_left
      · go_simp; try with_reducible rfl
      (try simp only [Act.put, List.setIfInBounds_toArray, List.set_cons_zero, List.set_cons_succ])
      refine Seq.done (by kernel_rfl) ?_
      go_wp2_with fail
      go_ret
      exact ⟨by rw [fin.out]; simp, (((Below.refl _ _).alloc (Nat.le_refl _) _).alloc (by simp) _).drew.drew⟩

set_option maxHeartbeats 2000000 in
theorem firstI_36 (p : Nat) (x a x' a' : Int) (w : World) (hc : w.cell? ⟨p, 0, none⟩ = some (.func (.func 36) #[] #[])) (hp : p < w.heap.size) :
    Calls Try.prog 50 #[.pointer (some ⟨p, 0, none⟩), entI x a, entI x' a'] w fun e w' => e = .returned (.bool (ltI 36 (0, x, a) (0, x', a'))) ∧ Below w.heap.size w w' := by
  by_cases c1 : lessI 36 x x' = true
  · have fin : Hid (ltI 36 (0, x, a) (0, x', a') = true) := by unfold Hid ltI; rw [c1]; rfl
    go_enter Try.func50, Try.ntmps50
    go_wp2_with fail
    refine Seq.start (fun _ => True) (Seq.but [8]) (Seq.these []) (by kernel_rfl) ?_
    refine Seq.calm (i := 0) (d := some 7) (v := ?_) rfl rfl (by kernel_rfl) (by rfl) (fun w9 => ?_) ?_
    rotate_left
    · go_simp; try with_reducible rfl
    (try simp only [Act.put, List.setIfInBounds_toArray, List.set_cons_zero, List.set_cons_succ])
    refine Seq.calm (i := 1) (d := some 8) (v := ?_) rfl rfl (by kernel_rfl) (by rfl) (fun w9 => ?_) ?_
    rotate_left
    · go_simp; try with_reducible rfl
    (try simp only [Act.put, List.setIfInBounds_toArray, List.set_cons_zero, List.set_cons_succ])
    refine Seq.calm (i := 2) (d := some 9) (v := ?_) rfl rfl (by kernel_rfl) (by rfl) (fun w9 => ?_) ?_
    rotate_left
    · go_simp; try with_reducible rfl
    (try simp only [Act.put, List.setIfInBounds_toArray, List.set_cons_zero, List.set_cons_succ])
    refine Seq.held (i := 3) (d := some 10) (v := ?_) rfl rfl (by kernel_rfl) (by kernel_rfl) (by rfl) ?_ ?_
    rotate_left
    · go_simp; try with_reducible rfl
    (try simp only [Act.put, List.setIfInBounds_toArray, List.set_cons_zero, List.set_cons_succ])
    refine Seq.calm (i := 4) (d := some 11) (v := ?_) rfl rfl (by kernel_rfl) (by rfl) (fun w9 => ?_) ?_
    rotate_left
    · go_simp; try with_reducible rfl
    (try simp only [Act.put, List.setIfInBounds_toArray, List.set_cons_zero, List.set_cons_succ])
    refine Seq.held (i := 5) (d := some 12) (v := ?_) rfl rfl (by kernel_rfl) (by kernel_rfl) (by rfl) ?_ ?_
    rotate_left
    · go_simp; try with_reducible rfl
    (try simp only [Act.put, List.setIfInBounds_toArray, List.set_cons_zero, List.set_cons_succ])
    refine Seq.calm (i := 6) (d := some 13) (v := ?_) rfl rfl (by kernel_rfl) (by rfl) (fun w9 => ?_) ?_
    rotate_left
    · go_simp; try with_reducible rfl
    (try simp only [Act.put, List.setIfInBounds_toArray, List.set_cons_zero, List.set_cons_succ])
    refine Seq.held (i := 7) (d := some 14) (v := ?_) rfl rfl (by kernel_rfl) (by kernel_rfl) (by rfl) ?_ ?_
    rotate_left
    · go_simp; try with_reducible rfl
    (try simp only [Act.put, List.setIfInBounds_toArray, List.set_cons_zero, List.set_cons_succ])
    refine Seq.drop (i := 8) rfl (by kernel_rfl) (by kernel_rfl) (by rfl) (fun K9 hK9 => ?_)
    go_simp
    (with_reducible refine (less_any 36 (by decide) c1 _).mono ?_)
    rintro e w2 ⟨rfl, rfl⟩
    refine hK9.out _ _ ?_
    clear hK9 K9
    (try simp only [Act.put, List.setIfInBounds_toArray, List.set_cons_zero, List.set_cons_succ])
    refine Seq.done (by kernel_rfl) ?_
    go_wp2_with fail
    go_ret
    exact ⟨by rw [fin.out]; rfl, (((Below.refl _ _).alloc (Nat.le_refl _) _).alloc (by simp) _).drew⟩
  · have c1' : lessI 36 x x' = false := by simpa using c1
    clear c1
    by_cases c2 : lessI 36 x' x = true
    · have fin : Hid (ltI 36 (0, x, a) (0, x', a') = false) := by unfold Hid ltI; rw [c1', c2]; rfl
      go_enter Try.func50, Try.ntmps50
      go_wp2_with fail
      refine Seq.start (fun _ => True) (Seq.but [8]) (Seq.these []) (by kernel_rfl) ?_
      refine Seq.calm (i := 0) (d := some 7) (v := ?_) rfl rfl (by kernel_rfl) (by rfl) (fun w9 => ?_) ?_
      rotate_left
      · go_simp; try with_reducible rfl
      (try simp only [Act.put, List.setIfInBounds_toArray, List.set_cons_zero, List.set_cons_succ])
      refine Seq.calm (i := 1) (d := some 8) (v := ?_) rfl rfl (by kernel_rfl) (by rfl) (fun w9 => ?_) ?_
      rotate_left
      · go_simp; try with_reducible rfl
      (try simp only [Act.put, List.setIfInBounds_toArray, List.set_cons_zero, List.set_cons_succ])
      refine Seq.calm (i := 2) (d := some 9) (v := ?_) rfl rfl (by kernel_rfl) (by rfl) (fun w9 => ?_) ?_
      rotate_left
      · go_simp; try with_reducible rfl
      (try simp only [Act.put, List.setIfInBounds_toArray, List.set_cons_zero, List.set_cons_succ])
      refine Seq.held (i := 3) (d := some 10) (v := ?_) rfl rfl (by kernel_rfl) (by kernel_rfl) (by rfl) ?_ ?_
      rotate_left
      · go_simp; try with_reducible rfl
      (try simp only [Act.put, List.setIfInBounds_toArray, List.set_cons_zero, List.set_cons_succ])
      refine Seq.calm (i := 4) (d := some 11) (v := ?_) rfl rfl (by kernel_rfl) (by rfl) (fun w9 => ?_) ?_
      rotate_left
      · go_simp; try with_reducible rfl
      (try simp only [Act.put, List.setIfInBounds_toArray, List.set_cons_zero, List.set_cons_succ])
      refine Seq.held (i := 5) (d := some 12) (v := ?_) rfl rfl (by kernel_rfl) (by kernel_rfl) (by rfl) ?_ ?_
      rotate_left
      · go_simp; try with_reducible rfl
      (try simp only [Act.put, List.setIfInBounds_toArray, List.set_cons_zero, List.set_cons_succ])
      refine Seq.calm (i := 6) (d := some 13) (v := ?_) rfl rfl (by kernel_rfl) (by rfl) (fun w9 => ?_) ?_
      rotate_left
      · go_simp; try with_reducible rfl
      (try simp only [Act.put, List.setIfInBounds_toArray, List.set_cons_zero, List.set_cons_succ])
      refine Seq.held (i := 7) (d := some 14) (v := ?_) rfl rfl (by kernel_rfl) (by kernel_rfl) (by rfl) ?_ ?_
      rotate_left
      · go_simp; try with_reducible rfl
      (try simp only [Act.put, List.setIfInBounds_toArray, List.set_cons_zero, List.set_cons_succ])
      refine Seq.drop (i := 8) rfl (by kernel_rfl) (by kernel_rfl) (by rfl) (fun K9 hK9 => ?_)
      go_simp
      (with_reducible refine (less_any 36 (by decide) c1' _).mono ?_)
      rintro e w2 ⟨rfl, rfl⟩
      refine hK9.out _ _ ?_
      clear hK9 K9
      (try simp only [Act.put, List.setIfInBounds_toArray, List.set_cons_zero, List.set_cons_succ])
      refine Seq.done (by kernel_rfl) ?_
      go_wp2_with fail
      refine Seq.start (fun _ => True) (Seq.but [8]) (Seq.these []) (by kernel_rfl) ?_
      refine Seq.calm (i := 0) (d := some 16) (v := ?_) rfl rfl (by kernel_rfl) (by rfl) (fun w9 => ?_) ?_
      rotate_left
      · go_simp; try with_reducible rfl
      (try simp only [Act.put, List.setIfInBounds_toArray, List.set_cons_zero, List.set_cons_succ])
      refine Seq.calm (i := 1) (d := some 17) (v := ?_) rfl rfl (by kernel_rfl) (by rfl) (fun w9 => ?_) ?_
      rotate_left
      · go_simp; try with_reducible rfl
      (try simp only [Act.put, List.setIfInBounds_toArray, List.set_cons_zero, List.set_cons_succ])
      refine Seq.calm (i := 2) (d := some 18) (v := ?_) rfl rfl (by kernel_rfl) (by rfl) (fun w9 => ?_) ?_
      rotate_left
      · go_simp; try with_reducible rfl
      (try simp only [Act.put, List.setIfInBounds_toArray, List.set_cons_zero, List.set_cons_succ])
      refine Seq.held (i := 3) (d := some 19) (v := ?_) rfl rfl (by kernel_rfl) (by kernel_rfl) (by rfl) ?_ ?_
      rotate_left
      · go_simp; try with_reducible rfl
      (try simp only [Act.put, List.setIfInBounds_toArray, List.set_cons_zero, List.set_cons_succ])
      refine Seq.calm (i := 4) (d := some 20) (v := ?_) rfl rfl (by kernel_rfl) (by rfl) (fun w9 => ?_) ?_
      rotate_left
      · go_simp; try with_reducible rfl
      (try simp only [Act.put, List.setIfInBounds_toArray, List.set_cons_zero, List.set_cons_succ])
      refine Seq.held (i := 5) (d := some 21) (v := ?_) rfl rfl (by kernel_rfl) (by kernel_rfl) (by rfl) ?_ ?_
      rotate_left
      · go_simp; try with_reducible rfl
      (try simp only [Act.put, List.setIfInBounds_toArray, List.set_cons_zero, List.set_cons_succ])
      refine Seq.calm (i := 6) (d := some 22) (v := ?_) rfl rfl (by kernel_rfl) (by rfl) (fun w9 => ?_) ?_
      rotate_left
      · go_simp; try with_reducible rfl
      (try simp only [Act.put, List.setIfInBounds_toArray, List.set_cons_zero, List.set_cons_succ])
      refine Seq.held (i := 7) (d := some 23) (v := ?_) rfl rfl (by kernel_rfl) (by kernel_rfl) (by rfl) ?_ ?_
      rotate_left
      · go_simp; try with_reducible rfl
      (try simp only [Act.put, List.setIfInBounds_toArray, List.set_cons_zero, List.set_cons_succ])
      refine Seq.drop (i := 8) rfl (by kernel_rfl) (by kernel_rfl) (by rfl) (fun K9 hK9 => ?_)
      go_simp
      (with_reducible refine (less_any 36 (by decide) c2 _).mono ?_)
      rintro e w3 ⟨rfl, rfl⟩
      refine hK9.out _ _ ?_
      clear hK9 K9
      (try simp only [Act.put, List.setIfInBounds_toArray, List.set_cons_zero, List.set_cons_succ])
      refine Seq.calm (i := 9) (d := some 25) (v := ?_) rfl rfl (by kernel_rfl) (by rfl) (fun w9 => ?_) ?_
      rotate_left
      · go_simp; try with_reducible rfl
      (try simp only [Act.put, List.setIfInBounds_toArray, List.set_cons_zero, List.set_cons_succ])
      refine Seq.calm (i := 10) (d := some 26) (v := ?_) rfl rfl (by kernel_rfl) (by rfl) (fun w9 => ?_) ?_
      rotate_left
      · go_simp; try with_reducible rfl
      (try simp only [Act.put, List.setIfInBounds_toArray, List.set_cons_zero, List.set_cons_succ])
      refine Seq.no (i := 11) (d := some 27) rfl rfl (by kernel_rfl) (by rfl) ?_
      (try simp only [Act.put, List.setIfInBounds_toArray, List.set_cons_zero, List.set_cons_succ])
      refine Seq.no (i := 12) (d := some 28) rfl rfl (by kernel_rfl) (by rfl) ?_
      (try simp only [Act.put, List.setIfInBounds_toArray, List.set_cons_zero, List.set_cons_succ])
      refine Seq.no (i := 13) (d := some 29) rfl rfl (by kernel_rfl) (by rfl) ?_
      (try simp only [Act.put, List.setIfInBounds_toArray, List.set_cons_zero, List.set_cons_succ])
      refine Seq.no (i := 14) (d := some 30) rfl rfl (by kernel_rfl) (by rfl) ?_
      (try simp only [Act.put, List.setIfInBounds_toArray, List.set_cons_zero, List.set_cons_succ])
      refine Seq.no (i := 15) (d := some 31) rfl rfl (by kernel_rfl) (by rfl) ?_
      (try simp only [Act.put, List.setIfInBounds_toArray, List.set_cons_zero, List.set_cons_succ])
      refine Seq.calm (i := 16) (d := some 32) (v := ?_) rfl rfl (by kernel_rfl) (by rfl) (fun w9 => ?_) ?_
      rotate_left
      · go_simp; try with_reducible rfl
      (try simp only [Act.put, List.setIfInBounds_toArray, List.set_cons_zero, List.set_cons_succ])
      refine Seq.calm (i := 17) (d := some 6) (v := ?_) rfl rfl (by kernel_rfl) (by rfl) (fun w9 => ?_) ?_
      rotate_left
      · go_simp; try with_reducible rfl
      (try simp only [Act.put, List.setIfInBounds_toArray, List.set_cons_zero, List.set_cons_succ])
      refine Seq.done (by kernel_rfl) ?_
      go_wp2_with fail
      go_ret
      exact ⟨by rw [fin.out]; rfl, (((Below.refl _ _).alloc (Nat.le_refl _) _).alloc (by simp) _).drew.drew⟩
    · have c2' : lessI 36 x' x = false := by simpa using c2
      clear c2
      have fin : Hid (ltI 36 (0, x, a) (0, x', a') = decide (a < a')) := by unfold Hid ltI; rw [c1', c2']; rfl
      go_enter Try.func50, Try.ntmps50
      go_wp2_with fail
      refine Seq.start (fun _ => True) (Seq.but [8]) (Seq.these []) (by kernel_rfl) ?_
      refine Seq.calm (i := 0) (d := some 7) (v := ?_) rfl rfl (by kernel_rfl) (by rfl) (fun w9 => ?_) ?_
      rotate_left
      · go_simp; try with_reducible rfl
      (try simp only [Act.put, List.setIfInBounds_toArray, List.set_cons_zero, List.set_cons_succ])
      refine Seq.calm (i := 1) (d := some 8) (v := ?_) rfl rfl (by kernel_rfl) (by rfl) (fun w9 => ?_) ?_
      rotate_left
      · go_simp; try with_reducible rfl
      (try simp only [Act.put, List.setIfInBounds_toArray, List.set_cons_zero, List.set_cons_succ])
      refine Seq.calm (i := 2) (d := some 9) (v := ?_) rfl rfl (by kernel_rfl) (by rfl) (fun w9 => ?_) ?_
      rotate_left
      · go_simp; try with_reducible rfl
      (try simp only [Act.put, List.setIfInBounds_toArray, List.set_cons_zero, List.set_cons_succ])
      refine Seq.held (i := 3) (d := some 10) (v := ?_) rfl rfl (by kernel_rfl) (by kernel_rfl) (by rfl) ?_ ?_
      rotate_left
      · go_simp; try with_reducible rfl
      (try simp only [Act.put, List.setIfInBounds_toArray, List.set_cons_zero, List.set_cons_succ])
      refine Seq.calm (i := 4) (d := some 11) (v := ?_) rfl rfl (by kernel_rfl) (by rfl) (fun w9 => ?_) ?_
      rotate_left
      · go_simp; try with_reducible rfl
      (try simp only [Act.put, List.setIfInBounds_toArray, List.set_cons_zero, List.set_cons_succ])
      refine Seq.held (i := 5) (d := some 12) (v := ?_) rfl rfl (by kernel_rfl) (by kernel_rfl) (by rfl) ?_ ?_
      rotate_left
      · go_simp; try with_reducible rfl
      (try simp only [Act.put, List.setIfInBounds_toArray, List.set_cons_zero, List.set_cons_succ])
      refine Seq.calm (i := 6) (d := some 13) (v := ?_) rfl rfl (by kernel_rfl) (by rfl) (fun w9 => ?_) ?_
      rotate_left
      · go_simp; try with_reducible rfl
      (try simp only [Act.put, List.setIfInBounds_toArray, List.set_cons_zero, List.set_cons_succ])
      refine Seq.held (i := 7) (d := some 14) (v := ?_) rfl rfl (by kernel_rfl) (by kernel_rfl) (by rfl) ?_ ?_
      rotate_left
      · go_simp; try with_reducible rfl
      (try simp only [Act.put, List.setIfInBounds_toArray, List.set_cons_zero, List.set_cons_succ])
      refine Seq.drop (i := 8) rfl (by kernel_rfl) (by kernel_rfl) (by rfl) (fun K9 hK9 => ?_)
      go_simp
      (with_reducible refine (less_any 36 (by decide) c1' _).mono ?_)
      rintro e w2 ⟨rfl, rfl⟩
      refine hK9.out _ _ ?_
      clear hK9 K9
      (try simp only [Act.put, List.setIfInBounds_toArray, List.set_cons_zero, List.set_cons_succ])
      refine Seq.done (by kernel_rfl) ?_
      go_wp2_with fail
      refine Seq.start (fun _ => True) (Seq.but [8]) (Seq.these []) (by kernel_rfl) ?_
      refine Seq.calm (i := 0) (d := some 16) (v := ?_) rfl rfl (by kernel_rfl) (by rfl) (fun w9 => ?_) ?_
      rotate_left
      · go_simp; try with_reducible rfl
      (try simp only [Act.put, List.setIfInBounds_toArray, List.set_cons_zero, List.set_cons_succ])
      refine Seq.calm (i := 1) (d := some 17) (v := ?_) rfl rfl (by kernel_rfl) (by rfl) (fun w9 => ?_) ?_
      rotate_left
      · go_simp; try with_reducible rfl
      (try simp only [Act.put, List.setIfInBounds_toArray, List.set_cons_zero, List.set_cons_succ])
      refine Seq.calm (i := 2) (d := some 18) (v := ?_) rfl rfl (by kernel_rfl) (by rfl) (fun w9 => ?_) ?_
      rotate_left
      · go_simp; try with_reducible rfl
      (try simp only [Act.put, List.setIfInBounds_toArray, List.set_cons_zero, List.set_cons_succ])
      refine Seq.held (i := 3) (d := some 19) (v := ?_) rfl rfl (by kernel_rfl) (by kernel_rfl) (by rfl) ?_ ?_
      rotate_left
      · go_simp; try with_reducible rfl
      (try simp only [Act.put, List.setIfInBounds_toArray, List.set_cons_zero, List.set_cons_succ])
      refine Seq.calm (i := 4) (d := some 20) (v := ?_) rfl rfl (by kernel_rfl) (by rfl) (fun w9 => ?_) ?_
      rotate_left
      · go_simp; try with_reducible rfl
      (try simp only [Act.put, List.setIfInBounds_toArray, List.set_cons_zero, List.set_cons_succ])
      refine Seq.held (i := 5) (d := some 21) (v := ?_) rfl rfl (by kernel_rfl) (by kernel_rfl) (by rfl) ?_ ?_
      rotate_left
      · go_simp; try with_reducible rfl
      (try simp only [Act.put, List.setIfInBounds_toArray, List.set_cons_zero, List.set_cons_succ])
      refine Seq.calm (i := 6) (d := some 22) (v := ?_) rfl rfl (by kernel_rfl) (by rfl) (fun w9 => ?_) ?_
      rotate_left
      · go_simp; try with_reducible rfl
      (try simp only [Act.put, List.setIfInBounds_toArray, List.set_cons_zero, List.set_cons_succ])
      refine Seq.held (i := 7) (d := some 23) (v := ?_) rfl rfl (by kernel_rfl) (by kernel_rfl) (by rfl) ?_ ?_
      rotate_left
      · go_simp; try with_reducible rfl
      (try simp only [Act.put, List.setIfInBounds_toArray, List.set_cons_zero, List.set_cons_succ])
      refine Seq.drop (i := 8) rfl (by kernel_rfl) (by kernel_rfl) (by rfl) (fun K9 hK9 => ?_)
      go_simp
      (with_reducible refine (less_any 36 (by decide) c2' _).mono ?_)
      rintro e w3 ⟨rfl, rfl⟩
      refine hK9.out _ _ ?_
      clear hK9 K9
      (try simp only [Act.put, List.setIfInBounds_toArray, List.set_cons_zero, List.set_cons_succ])
      refine Seq.calm (i := 9) (d := some 25) (v := ?_) rfl rfl (by kernel_rfl) (by rfl) (fun w9 => ?_) ?_
      rotate_left
      · go_simp; try with_reducible rfl
      (try simp only [Act.put, List.setIfInBounds_toArray, List.set_cons_zero, List.set_cons_succ])
      refine Seq.calm (i := 10) (d := some 26) (v := ?_) rfl rfl (by kernel_rfl) (by rfl) (fun w9 => ?_) ?_
      rotate_left
      · go_simp; try with_reducible rfl
      (try simp only [Act.put, List.setIfInBounds_toArray, List.set_cons_zero, List.set_cons_succ])
      refine Seq.calm (i := 11) (d := some 27) (v := ?_) rfl rfl (by kernel_rfl) (by rfl) (fun w9 => ?_) ?_
      rotate_left
      · go_simp; try with_reducible rfl
      (try simp only [Act.put, List.setIfInBounds_toArray, List.set_cons_zero, List.set_cons_succ])
      refine Seq.held (i := 12) (d := some 28) (v := ?_) rfl rfl (by kernel_rfl) (by kernel_rfl) (by rfl) ?_ ?_
      rotate_left
      · go_simp; try with_reducible rfl
      (try simp only [Act.put, List.setIfInBounds_toArray, List.set_cons_zero, List.set_cons_succ])
      refine Seq.calm (i := 13) (d := some 29) (v := ?_) rfl rfl (by kernel_rfl) (by rfl) (fun w9 => ?_) ?_
      rotate_left
      · go_simp; try with_reducible rfl
      (try simp only [Act.put, List.setIfInBounds_toArray, List.set_cons_zero, List.set_cons_succ])
      refine Seq.held (i := 14) (d := some 30) (v := ?_) rfl rfl (by kernel_rfl) (by kernel_rfl) (by rfl) ?_ ?_
      rotate_left
      · go_simp; try with_reducible rfl
      (try simp only [Act.put, List.setIfInBounds_toArray, List.set_cons_zero, List.set_cons_succ])
      refine Seq.calm (i := 15) (d := some 31) (v := ?_) rfl rfl (by kernel_rfl) (by rfl) (fun w9 => ?_) ?_
      rotate_left
      · go_simp; try with_reducible rfl
      (try simp only [Act.put, List.setIfInBounds_toArray, List.set_cons_zero, List.set_cons_succ])
      refine Seq.calm (i := 16) (d := some 32) (v := ?_) rfl rfl (by kernel_rfl) (by rfl) (fun w9 => ?_) ?_
      rotate_left
      · go_simp; try with_reducible rfl
      (try simp only [Act.put, List.setIfInBounds_toArray, List.set_cons_zero, List.set_cons_succ])
      refine Seq.calm (i := 17) (d := some 6) (v := ?_) rfl rfl (by kernel_rfl) (by rfl) (fun w9 => ?_) ?_
      rotate_left
      · go_simp; try with_reducible rfl
      (try simp only [Act.put, List.setIfInBounds_toArray, List.set_cons_zero, List.set_cons_succ])
      refine Seq.done (by kernel_rfl) ?_
      go_wp2_with fail
      go_ret
      exact ⟨by rw [fin.out]; simp, (((Below.refl _ _).alloc (Nat.le_refl _) _).alloc (by simp) _).drew.drew⟩

theorem firstI (g p : Nat) (hg : g = 13 ∨ g = 36) (x a x' a' : Int) (w : World) (hc : w.cell? ⟨p, 0, none⟩ = some (.func (.func g) #[] #[])) (hp : p < w.heap.size) :
    Calls Try.prog 50 #[.pointer (some ⟨p, 0, none⟩), entI x a, entI x' a'] w fun e w' => e = .returned (.bool (ltI g (0, x, a) (0, x', a'))) ∧ Below w.heap.size w w' := by
  rcases hg with rfl | rfl
  · exact firstI_13 p x a x' a' w hc hp
  · exact firstI_36 p x a x' a' w hc hp
theorem firstE (g p : Nat) (hg : g = 13 ∨ g = 36) (k k' : Int) (x a x' a' : Int) (w : World) (hc : w.cell? ⟨p, 0, none⟩ = some (.func (.func g) #[] #[])) (hp : p < w.heap.size) :
    Calls Try.prog 50 #[.pointer (some ⟨p, 0, none⟩), entI x a, entI x' a'] w fun e w' => e = .returned (.bool (ltI g (k, x, a) (k', x', a'))) ∧ Below w.heap.size w w' := firstI g p hg x a x' a' w hc hp
end Go.Proofs.Yteclijealbdhnaa
