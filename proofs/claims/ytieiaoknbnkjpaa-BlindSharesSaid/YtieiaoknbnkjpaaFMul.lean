/- Products and quotients by the tables. -/
import Derived.Test.YtieiaoknbnkjpaaFNew
namespace Go.Proofs.Ytieiaoknbnkjpaa.Rf
open Go.RowKit Go.Proofs.YtieiaoknbnkjpaaW.PrintWords

def gf_Mul.f (_p : Nat) (a b : Int) : Option Int := if 0 ≤ a ∧ a < 256 ∧ 0 ≤ b ∧ b < 256 then some (Gf.mulN a.toNat b.toNat : Nat) else none
theorem mul_nat {w : World} (p a b : Nat) (hF : Fld w p) (ha : a < 256) (hb : b < 256) :
    Calls Try.prog 22 #[.pointer (some ⟨p, 0, none⟩), .int .u8 a, .int .u8 b] w fun e w' => e = .returned (.int .u8 (Gf.mulN a b : Nat)) ∧ Drawn0 w w' := by
  by_cases h1 : a = 0
  · subst h1
    have fin : Hid (Gf.mulN 0 b = 0) := Lib.hid (by rw [Gf.mulN_comm, Gf.mulN_zero])
    go_enter Try.func22, Try.ntmps22
    go_wp2_with fail
    go_ret
    exact ⟨by rw [fin.out]; rfl, Drawn0.refl _⟩
  · by_cases h2 : b = 0
    · subst h2
      have fin : Hid (Gf.mulN a 0 = 0) := Lib.hid (Gf.mulN_zero _)
      have e1 : ((a : Int) == 0) = false := beq_eq_false_iff_ne.2 (by omega)
      go_enter Try.func22, Try.ntmps22
      go_wp2_with fail
      go_ret
      exact ⟨by rw [fin.out]; rfl, Drawn0.refl _⟩
    · have e1 : ((a : Int) == 0) = false := beq_eq_false_iff_ne.2 (by omega)
      have e2 : ((b : Int) == 0) = false := beq_eq_false_iff_ne.2 (by omega)
      have fin := Lib.hid (Gf.mulN_pos h1 h2)
      have la := (Gf.E_lg ha h1).2
      have lb := (Gf.E_lg hb h2).2
      have c1 := hF.log ha
      have c2 := hF.log hb
      have c3 := hF.exp (i := Gf.lo a + Gf.lo b) (by omega)
      generalize Gf.lo a = x at *
      generalize Gf.lo b = y at *
      have i1 : (a : Int) < 256 := by omega
      have i2 : (b : Int) < 256 := by omega
      have i3 : IntKind.i64.wrap ((x : Int) + (y : Int)) = (x : Int) + (y : Int) := IntWalk.i64_in _ (by omega)
      have i4 : (0 : Int) ≤ (x : Int) + (y : Int) := by omega
      have i5 : (x : Int) + (y : Int) < 510 := by omega
      have i6 : ((x : Int) + (y : Int)).toNat = x + y := by omega
      clear h1 h2 hF
      go_enter Try.func22, Try.ntmps22
      go_wp2_with fail
      refine Seq.start (fun _ => True) (Seq.but []) (Seq.these []) (by kernel_rfl) ?_
      refine Seq.calm (i := 0) (d := some 17) (v := ?_) rfl rfl (by kernel_rfl) (by rfl) (fun w9 => ?_) ?_
      rotate_left
      · go_simp; try with_reducible rfl
      (try simp only [Act.put, List.setIfInBounds_toArray, List.set_cons_zero, List.set_cons_succ])
      refine Seq.calm (i := 1) (d := some 18) (v := ?_) rfl rfl (by kernel_rfl) (by rfl) (fun w9 => ?_) ?_
      rotate_left
      · go_simp; try with_reducible rfl
      (try simp only [Act.put, List.setIfInBounds_toArray, List.set_cons_zero, List.set_cons_succ])
      refine Seq.calm (i := 2) (d := some 19) (v := ?_) rfl rfl (by kernel_rfl) (by rfl) (fun w9 => ?_) ?_
      rotate_left
      · go_simp; try with_reducible rfl
      (try simp only [Act.put, List.setIfInBounds_toArray, List.set_cons_zero, List.set_cons_succ])
      refine Seq.calm (i := 3) (d := some 20) (v := ?_) rfl rfl (by kernel_rfl) (by rfl) (fun w9 => ?_) ?_
      rotate_left
      · go_simp; try with_reducible rfl
      (try simp only [Act.put, List.setIfInBounds_toArray, List.set_cons_zero, List.set_cons_succ])
      refine Seq.calm (i := 4) (d := some 21) (v := ?_) rfl rfl (by kernel_rfl) (by rfl) (fun w9 => ?_) ?_
      rotate_left
      · go_simp; try with_reducible rfl
      (try simp only [Act.put, List.setIfInBounds_toArray, List.set_cons_zero, List.set_cons_succ])
      refine Seq.calm (i := 5) (d := some 22) (v := ?_) rfl rfl (by kernel_rfl) (by rfl) (fun w9 => ?_) ?_
      rotate_left
      · go_simp; try with_reducible rfl
      (try simp only [Act.put, List.setIfInBounds_toArray, List.set_cons_zero, List.set_cons_succ])
      refine Seq.held (i := 6) (d := some 23) (v := ?_) rfl rfl (by kernel_rfl) (by kernel_rfl) (by rfl) ?_ ?_
      rotate_left
      · go_simp; try with_reducible rfl
      (try simp only [Act.put, List.setIfInBounds_toArray, List.set_cons_zero, List.set_cons_succ])
      refine Seq.calm (i := 7) (d := some 24) (v := ?_) rfl rfl (by kernel_rfl) (by rfl) (fun w9 => ?_) ?_
      rotate_left
      · go_simp; try with_reducible rfl
      (try simp only [Act.put, List.setIfInBounds_toArray, List.set_cons_zero, List.set_cons_succ])
      refine Seq.calm (i := 8) (d := some 25) (v := ?_) rfl rfl (by kernel_rfl) (by rfl) (fun w9 => ?_) ?_
      rotate_left
      · go_simp; try with_reducible rfl
      (try simp only [Act.put, List.setIfInBounds_toArray, List.set_cons_zero, List.set_cons_succ])
      refine Seq.calm (i := 9) (d := some 26) (v := ?_) rfl rfl (by kernel_rfl) (by rfl) (fun w9 => ?_) ?_
      rotate_left
      · go_simp; try with_reducible rfl
      (try simp only [Act.put, List.setIfInBounds_toArray, List.set_cons_zero, List.set_cons_succ])
      refine Seq.calm (i := 10) (d := some 27) (v := ?_) rfl rfl (by kernel_rfl) (by rfl) (fun w9 => ?_) ?_
      rotate_left
      · go_simp; try with_reducible rfl
      (try simp only [Act.put, List.setIfInBounds_toArray, List.set_cons_zero, List.set_cons_succ])
      refine Seq.calm (i := 11) (d := some 28) (v := ?_) rfl rfl (by kernel_rfl) (by rfl) (fun w9 => ?_) ?_
      rotate_left
      · go_simp; try with_reducible rfl
      (try simp only [Act.put, List.setIfInBounds_toArray, List.set_cons_zero, List.set_cons_succ])
      refine Seq.held (i := 12) (d := some 29) (v := ?_) rfl rfl (by kernel_rfl) (by kernel_rfl) (by rfl) ?_ ?_
      rotate_left
      · go_simp; try with_reducible rfl
      (try simp only [Act.put, List.setIfInBounds_toArray, List.set_cons_zero, List.set_cons_succ])
      refine Seq.calm (i := 13) (d := some 30) (v := ?_) rfl rfl (by kernel_rfl) (by rfl) (fun w9 => ?_) ?_
      rotate_left
      · go_simp; try with_reducible rfl
      (try simp only [Act.put, List.setIfInBounds_toArray, List.set_cons_zero, List.set_cons_succ])
      refine Seq.calm (i := 14) (d := some 31) (v := ?_) rfl rfl (by kernel_rfl) (by rfl) (fun w9 => ?_) ?_
      rotate_left
      · go_simp; try with_reducible rfl
      (try simp only [Act.put, List.setIfInBounds_toArray, List.set_cons_zero, List.set_cons_succ])
      refine Seq.calm (i := 15) (d := some 32) (v := ?_) rfl rfl (by kernel_rfl) (by rfl) (fun w9 => ?_) ?_
      rotate_left
      · go_simp; try with_reducible rfl
      (try simp only [Act.put, List.setIfInBounds_toArray, List.set_cons_zero, List.set_cons_succ])
      refine Seq.calm (i := 16) (d := some 33) (v := ?_) rfl rfl (by kernel_rfl) (by rfl) (fun w9 => ?_) ?_
      rotate_left
      · go_simp; try with_reducible rfl
      (try simp only [Act.put, List.setIfInBounds_toArray, List.set_cons_zero, List.set_cons_succ])
      refine Seq.held (i := 17) (d := some 34) (v := ?_) rfl rfl (by kernel_rfl) (by kernel_rfl) (by rfl) ?_ ?_
      rotate_left
      · go_simp; try with_reducible rfl
      (try simp only [Act.put, List.setIfInBounds_toArray, List.set_cons_zero, List.set_cons_succ])
      refine Seq.calm (i := 18) (d := some 6) (v := ?_) rfl rfl (by kernel_rfl) (by rfl) (fun w9 => ?_) ?_
      rotate_left
      · go_simp; try with_reducible rfl
      (try simp only [Act.put, List.setIfInBounds_toArray, List.set_cons_zero, List.set_cons_succ])
      refine Seq.done (by kernel_rfl) ?_
      clear i1 i2 i3 i4 i5 i6
      go_wp2_with fail
      go_ret
      exact ⟨by rw [fin.out]; rfl, (Drawn0.refl _).step 1⟩
theorem gf_Mul.calls (a0 : Nat) (a1 a2 : Int) (r : Int) (w : World) (hF0 : Fld w a0) (h : gf_Mul.f a0 a1 a2 = some r) :
    Calls Try.prog 22 #[.pointer (some ⟨a0, 0, none⟩), .int .u8 a1, .int .u8 a2] w fun e w' => e = .returned (.int .u8 r) ∧ Drawn0 w w' := by
  unfold gf_Mul.f at h
  split at h
  · rename_i hc
    obtain ⟨a, rfl⟩ := Int.eq_ofNat_of_zero_le hc.1
    obtain ⟨b, rfl⟩ := Int.eq_ofNat_of_zero_le hc.2.2.1
    obtain rfl := Option.some.inj h
    exact mul_nat a0 a b hF0 (by omega) (by omega)
  · cases h

def gf_Div.f (_p : Nat) (a b : Int) : Option (Int × Int) := if 0 ≤ a ∧ a < 256 ∧ 0 ≤ b ∧ b < 256 then (if b = 0 then some (0, 1) else some ((Gf.divN a.toNat b.toNat : Nat), 0)) else none
theorem div_zero {w : World} (p a : Nat) (hF : Fld w p) :
    Calls Try.prog 36 #[.pointer (some ⟨p, 0, none⟩), .int .u8 a, .int .u8 0] w fun e w' => e = .returned (.tuple #[.int .u8 0, .int .i64 1]) ∧ Drawn0 w w' := by
  go_enter Try.func36, Try.ntmps36
  go_wp2_with fail
  go_ret2
  exact ⟨rfl, Drawn0.refl _⟩
theorem div_nat {w : World} (p a b : Nat) (hF : Fld w p) (ha : a < 256) (hb : b < 256) (hb0 : b ≠ 0) :
    Calls Try.prog 36 #[.pointer (some ⟨p, 0, none⟩), .int .u8 a, .int .u8 b] w fun e w' => e = .returned (.tuple #[.int .u8 (Gf.divN a b : Nat), .int .i64 0]) ∧ Drawn0 w w' := by
  have e2 : ((b : Int) == 0) = false := beq_eq_false_iff_ne.2 (by omega)
  by_cases h1 : a = 0
  · subst h1
    have fin : Hid (Gf.divN 0 b = 0) := Lib.hid rfl
    clear hb0
    go_enter Try.func36, Try.ntmps36
    go_wp2_with fail
    go_ret2
    exact ⟨by rw [fin.out]; rfl, Drawn0.refl _⟩
  · have e1 : ((a : Int) == 0) = false := beq_eq_false_iff_ne.2 (by omega)
    have fin : Hid (Gf.divN a b = Gf.E (Gf.lo a + 255 - Gf.lo b)) := Lib.hid (by unfold Gf.divN; rw [if_neg h1])
    have la := (Gf.E_lg ha h1).2
    have lb := (Gf.E_lg hb hb0).2
    have c1 := hF.log ha
    have c2 := hF.log hb
    have c3 := hF.exp (i := Gf.lo a + 255 - Gf.lo b) (by omega)
    generalize Gf.lo a = x at *
    generalize Gf.lo b = y at *
    have i1 : (a : Int) < 256 := by omega
    have i2 : (b : Int) < 256 := by omega
    have i3 : IntKind.i64.wrap ((x : Int) + 255) = (x : Int) + 255 := IntWalk.i64_in _ (by omega)
    have i7 : IntKind.i64.wrap ((x : Int) + 255 - (y : Int)) = (x : Int) + 255 - (y : Int) := IntWalk.i64_in _ (by omega)
    have i4 : (0 : Int) ≤ (x : Int) + 255 - (y : Int) := by omega
    have i5 : (x : Int) + 255 - (y : Int) < 510 := by omega
    have i8 : (y : Int) ≤ (x : Int) + 255 := by omega
    have i6 : ((x : Int) + 255 - (y : Int)).toNat = x + 255 - y := by omega
    clear h1 hb0 hF
    go_enter Try.func36, Try.ntmps36
    go_wp2_with fail
    refine Seq.start (fun _ => True) (Seq.but []) (Seq.these []) (by kernel_rfl) ?_
    refine Seq.calm (i := 0) (d := some 18) (v := ?_) rfl rfl (by kernel_rfl) (by rfl) (fun w9 => ?_) ?_
    rotate_left
    · go_simp; try with_reducible rfl
    (try simp only [Act.put, List.setIfInBounds_toArray, List.set_cons_zero, List.set_cons_succ])
    refine Seq.calm (i := 1) (d := some 19) (v := ?_) rfl rfl (by kernel_rfl) (by rfl) (fun w9 => ?_) ?_
    rotate_left
    · go_simp; try with_reducible rfl
    (try simp only [Act.put, List.setIfInBounds_toArray, List.set_cons_zero, List.set_cons_succ])
    refine Seq.calm (i := 2) (d := some 20) (v := ?_) rfl rfl (by kernel_rfl) (by rfl) (fun w9 => ?_) ?_
    rotate_left
    · go_simp; try with_reducible rfl
    (try simp only [Act.put, List.setIfInBounds_toArray, List.set_cons_zero, List.set_cons_succ])
    refine Seq.calm (i := 3) (d := some 21) (v := ?_) rfl rfl (by kernel_rfl) (by rfl) (fun w9 => ?_) ?_
    rotate_left
    · go_simp; try with_reducible rfl
    (try simp only [Act.put, List.setIfInBounds_toArray, List.set_cons_zero, List.set_cons_succ])
    refine Seq.calm (i := 4) (d := some 22) (v := ?_) rfl rfl (by kernel_rfl) (by rfl) (fun w9 => ?_) ?_
    rotate_left
    · go_simp; try with_reducible rfl
    (try simp only [Act.put, List.setIfInBounds_toArray, List.set_cons_zero, List.set_cons_succ])
    refine Seq.calm (i := 5) (d := some 23) (v := ?_) rfl rfl (by kernel_rfl) (by rfl) (fun w9 => ?_) ?_
    rotate_left
    · go_simp; try with_reducible rfl
    (try simp only [Act.put, List.setIfInBounds_toArray, List.set_cons_zero, List.set_cons_succ])
    refine Seq.held (i := 6) (d := some 24) (v := ?_) rfl rfl (by kernel_rfl) (by kernel_rfl) (by rfl) ?_ ?_
    rotate_left
    · go_simp; try with_reducible rfl
    (try simp only [Act.put, List.setIfInBounds_toArray, List.set_cons_zero, List.set_cons_succ])
    refine Seq.calm (i := 7) (d := some 25) (v := ?_) rfl rfl (by kernel_rfl) (by rfl) (fun w9 => ?_) ?_
    rotate_left
    · go_simp; try with_reducible rfl
    (try simp only [Act.put, List.setIfInBounds_toArray, List.set_cons_zero, List.set_cons_succ])
    refine Seq.calm (i := 8) (d := some 26) (v := ?_) rfl rfl (by kernel_rfl) (by rfl) (fun w9 => ?_) ?_
    rotate_left
    · go_simp; try with_reducible rfl
    (try simp only [Act.put, List.setIfInBounds_toArray, List.set_cons_zero, List.set_cons_succ])
    refine Seq.calm (i := 9) (d := some 27) (v := ?_) rfl rfl (by kernel_rfl) (by rfl) (fun w9 => ?_) ?_
    rotate_left
    · go_simp; try with_reducible rfl
    (try simp only [Act.put, List.setIfInBounds_toArray, List.set_cons_zero, List.set_cons_succ])
    refine Seq.calm (i := 10) (d := some 28) (v := ?_) rfl rfl (by kernel_rfl) (by rfl) (fun w9 => ?_) ?_
    rotate_left
    · go_simp; try with_reducible rfl
    (try simp only [Act.put, List.setIfInBounds_toArray, List.set_cons_zero, List.set_cons_succ])
    refine Seq.calm (i := 11) (d := some 29) (v := ?_) rfl rfl (by kernel_rfl) (by rfl) (fun w9 => ?_) ?_
    rotate_left
    · go_simp; try with_reducible rfl
    (try simp only [Act.put, List.setIfInBounds_toArray, List.set_cons_zero, List.set_cons_succ])
    refine Seq.calm (i := 12) (d := some 30) (v := ?_) rfl rfl (by kernel_rfl) (by rfl) (fun w9 => ?_) ?_
    rotate_left
    · go_simp; try with_reducible rfl
    (try simp only [Act.put, List.setIfInBounds_toArray, List.set_cons_zero, List.set_cons_succ])
    refine Seq.held (i := 13) (d := some 31) (v := ?_) rfl rfl (by kernel_rfl) (by kernel_rfl) (by rfl) ?_ ?_
    rotate_left
    · go_simp; try with_reducible rfl
    (try simp only [Act.put, List.setIfInBounds_toArray, List.set_cons_zero, List.set_cons_succ])
    refine Seq.calm (i := 14) (d := some 32) (v := ?_) rfl rfl (by kernel_rfl) (by rfl) (fun w9 => ?_) ?_
    rotate_left
    · go_simp; try with_reducible rfl
    (try simp only [Act.put, List.setIfInBounds_toArray, List.set_cons_zero, List.set_cons_succ])
    refine Seq.calm (i := 15) (d := some 33) (v := ?_) rfl rfl (by kernel_rfl) (by rfl) (fun w9 => ?_) ?_
    rotate_left
    · go_simp; try with_reducible rfl
    (try simp only [Act.put, List.setIfInBounds_toArray, List.set_cons_zero, List.set_cons_succ])
    refine Seq.calm (i := 16) (d := some 34) (v := ?_) rfl rfl (by kernel_rfl) (by rfl) (fun w9 => ?_) ?_
    rotate_left
    · go_simp; try with_reducible rfl
    (try simp only [Act.put, List.setIfInBounds_toArray, List.set_cons_zero, List.set_cons_succ])
    refine Seq.calm (i := 17) (d := some 35) (v := ?_) rfl rfl (by kernel_rfl) (by rfl) (fun w9 => ?_) ?_
    rotate_left
    · go_simp; try with_reducible rfl
    (try simp only [Act.put, List.setIfInBounds_toArray, List.set_cons_zero, List.set_cons_succ])
    refine Seq.held (i := 18) (d := some 36) (v := ?_) rfl rfl (by kernel_rfl) (by kernel_rfl) (by rfl) ?_ ?_
    rotate_left
    · go_simp; try with_reducible rfl
    (try simp only [Act.put, List.setIfInBounds_toArray, List.set_cons_zero, List.set_cons_succ])
    refine Seq.calm (i := 19) (d := some 6) (v := ?_) rfl rfl (by kernel_rfl) (by rfl) (fun w9 => ?_) ?_
    rotate_left
    · go_simp; try with_reducible rfl
    (try simp only [Act.put, List.setIfInBounds_toArray, List.set_cons_zero, List.set_cons_succ])
    refine Seq.calm (i := 20) (d := some 7) (v := ?_) rfl rfl (by kernel_rfl) (by rfl) (fun w9 => ?_) ?_
    rotate_left
    · go_simp; try with_reducible rfl
    (try simp only [Act.put, List.setIfInBounds_toArray, List.set_cons_zero, List.set_cons_succ])
    refine Seq.done (by kernel_rfl) ?_
    clear i1 i2 i3 i4 i5 i6 i7 i8
    go_wp2_with fail
    go_ret2
    exact ⟨by rw [fin.out]; rfl, (Drawn0.refl _).step 1⟩
theorem gf_Div.calls (a0 : Nat) (a1 a2 : Int) (r1 r2 : Int) (w : World) (hF0 : Fld w a0) (h : gf_Div.f a0 a1 a2 = some (r1, r2)) :
    Calls Try.prog 36 #[.pointer (some ⟨a0, 0, none⟩), .int .u8 a1, .int .u8 a2] w fun e w' => e = .returned (.tuple #[.int .u8 r1, .int .i64 r2]) ∧ Drawn0 w w' := by
  unfold gf_Div.f at h
  split at h
  · rename_i hc
    obtain ⟨a, rfl⟩ := Int.eq_ofNat_of_zero_le hc.1
    obtain ⟨b, rfl⟩ := Int.eq_ofNat_of_zero_le hc.2.2.1
    split at h
    · rename_i h0
      rw [h0]
      obtain ⟨rfl, rfl⟩ : 0 = r1 ∧ 1 = r2 := by simpa using h
      exact div_zero a0 a hF0
    · obtain ⟨rfl, rfl⟩ : ((Gf.divN a b : Nat) : Int) = r1 ∧ 0 = r2 := by simpa using h
      exact div_nat a0 a b hF0 (by omega) (by omega) (by omega)
  · cases h
end Go.Proofs.Ytieiaoknbnkjpaa.Rf
