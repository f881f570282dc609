/- RankOrder: the walk. -/
import Derived.Test.YteclijealbdhnaaW
import Derived.Test.YteclijealbdhnaaL
namespace Go.Proofs.Yteclijealbdhnaa
open Go.RowKit

set_option maxHeartbeats 40000000 in
theorem order_walk (a b c i j k : Nat) (ha : a < 18446744073709551616) (hb : b < 18446744073709551616) (hc : c < 18446744073709551616) (hi : i < 65536) (hj : j < 65536) (hk : k < 65536) (w : World) :
    Calls Try.prog 3 #[.int .u64 a, .int .u64 b, .int .u64 c, .int .u16 i, .int .u16 j, .int .u16 k] w fun e w' => e = .returned (.bool true) ∧ Below w.heap.size w w' := by
  have R1 := Lib.hid (fun w => rank_any a b ((i : Int) + 1) ((j : Int) + 1) ha hb w)
  have R2 := Lib.hid (fun w => rank_any b c ((j : Int) + 1) ((k : Int) + 1) hb hc w)
  have R3 := Lib.hid (fun w => rank_any a c ((i : Int) + 1) ((k : Int) + 1) ha hc w)
  have R4 := Lib.hid (fun w => rank_any b a ((j : Int) + 1) ((i : Int) + 1) hb ha w)
  have R5 := Lib.hid (fun w => rank_any a a ((i : Int) + 1) ((i : Int) + 1) ha ha w)
  have U1 := Lib.hid (fun w => raises_any a b ((i : Int) + 1) ((j : Int) + 1) ha hb w)
  have U2 := Lib.hid (fun w => raises_any b a ((j : Int) + 1) ((i : Int) + 1) hb ha w)
  have hback := raises_back a b ((i : Int) + 1) ((j : Int) + 1)
  have hmore := raises_more a b ((i : Int) + 1) ((j : Int) + 1)
  have htr := rankF_trans a b c ((i : Int) + 1) ((j : Int) + 1) ((k : Int) + 1)
  rw [rankF_neg a b ((i : Int) + 1) ((j : Int) + 1)] at R4
  rw [rankF_self] at R5
  have b1 := rankF_bd a b ((i : Int) + 1) ((j : Int) + 1)
  have b2 := rankF_bd b c ((j : Int) + 1) ((k : Int) + 1)
  have b3 := rankF_bd a c ((i : Int) + 1) ((k : Int) + 1)
  generalize rankF a ((i : Int) + 1) b ((j : Int) + 1) = AB at *
  generalize rankF b ((j : Int) + 1) c ((k : Int) + 1) = BC at *
  generalize rankF a ((i : Int) + 1) c ((k : Int) + 1) = AC at *
  generalize raisesF a ((i : Int) + 1) b ((j : Int) + 1) = UP at *
  generalize raisesF b ((j : Int) + 1) a ((i : Int) + 1) = DN at *
  clear ha hb hc
  obtain ⟨B, HB⟩ : ∃ B, Hid (B = w.heap.size) := ⟨_, rfl⟩
  rw [← HB.out]
  -- the way up to the call of Raises
  go_enter Try.func3, Try.ntmps3
  go_wp2_with fail
  refine (awake_any _).mono ?_
  rintro e w1 ⟨rfl, d1⟩
  rw [← HB.out] at d1
  have z1 : B ≤ w1.heap.size := by have := d1.size; rw [HB.out]; exact this
  have D1 := Lib.hid d1
  clear d1
  go_wp2_with fail
  refine (R1.out _).mono ?_
  rintro e w2 ⟨rfl, d2⟩
  have z2 : B ≤ w2.heap.size := by have := d2.size; omega
  have D2 := Lib.hid (D1.out.trans (d2.mono z1))
  clear d2 D1 R1
  go_wp2_with fail
  refine (R2.out _).mono ?_
  rintro e w3 ⟨rfl, d3⟩
  have z3 : B ≤ w3.heap.size := by have := d3.size; omega
  have D3 := Lib.hid (D2.out.trans (d3.mono z2))
  clear d3 D2 R2
  go_wp2_with fail
  refine (R3.out _).mono ?_
  rintro e w4 ⟨rfl, d4⟩
  have z4 : B ≤ w4.heap.size := by have := d4.size; omega
  have D4 := Lib.hid (D3.out.trans (d4.mono z3))
  clear d4 D3 R3
  go_wp2_with fail
  refine (R4.out _).mono ?_
  rintro e w5 ⟨rfl, d5⟩
  have z5 : B ≤ w5.heap.size := by have := d5.size; omega
  have D5 := Lib.hid (D4.out.trans (d5.mono z4))
  clear d5 D4 R4
  have hAB : AB = -1 ∨ AB = 0 ∨ AB = 1 := by omega
  have hBC : BC = -1 ∨ BC = 0 ∨ BC = 1 := by omega
  have hAC : AC = -1 ∨ AC = 0 ∨ AC = 1 := by omega
  clear b1 b2 b3 z1 z2 z3 z4
  have H1 := Lib.hid hback
  have H2 := Lib.hid hmore
  have H3 := Lib.hid htr
  clear hback hmore htr
  have hcase : (AB = -1) ∨ (AB = 0 ∧ BC = -1) ∨ (AB = 1 ∧ BC = -1) ∨ (AB = 0 ∧ BC = 0 ∧ AC = 0) ∨ (AB = 0 ∧ BC = 0 ∧ AC = 1) ∨ (AB = 0 ∧ BC = 1 ∧ AC = 1) ∨ (AB = 1 ∧ BC = 0 ∧ AC = 1) ∨ (AB = 1 ∧ BC = 1 ∧ AC = 1) := by
    have := H3.out
    omega
  clear H3 hAB hBC hAC
  rcases hcase with rfl | ⟨rfl, rfl⟩ | ⟨rfl, rfl⟩ | ⟨rfl, rfl, rfl⟩ | ⟨rfl, rfl, rfl⟩ | ⟨rfl, rfl, rfl⟩ | ⟨rfl, rfl, rfl⟩ | ⟨rfl, rfl, rfl⟩
  · go_wp2_with fail
    refine (R5.out _).mono ?_
    rintro e w6 ⟨rfl, d6⟩
    have z6 : B ≤ w6.heap.size := by have := d6.size; omega
    have D6 := Lib.hid (D5.out.trans (d6.mono z5))
    clear d6 D5 R5
    go_wp2_with fail
    refine (U1.out _).mono ?_
    rintro e w7 ⟨rfl, d7⟩
    have z7 : B ≤ w7.heap.size := by have := d7.size; omega
    have D7 := Lib.hid (D6.out.trans (d7.mono z6))
    clear d7 D6 U1
    cases UP with
    | false => (go_wp2_with fail; go_ret; exact ⟨rfl, D7.out⟩)
    | true =>
      have hdn := H1.out rfl
      have hm := H2.out rfl
      subst hdn
      clear H1 H2
      obtain ⟨rfl, ha0⟩ : b = 0 ∧ 0 < a := hm.resolve_left (by decide)
      clear hm
      go_wp2_with fail
      refine (U2.out _).mono ?_
      rintro e w8 ⟨rfl, d8⟩
      have D8 := Lib.hid (D7.out.trans (d8.mono z7))
      clear d8 D7 U2
      go_wp2_with fail
      go_ret
      exact ⟨rfl, D8.out⟩
  · go_wp2_with fail
    refine (R5.out _).mono ?_
    rintro e w6 ⟨rfl, d6⟩
    have z6 : B ≤ w6.heap.size := by have := d6.size; omega
    have D6 := Lib.hid (D5.out.trans (d6.mono z5))
    clear d6 D5 R5
    go_wp2_with fail
    refine (U1.out _).mono ?_
    rintro e w7 ⟨rfl, d7⟩
    have z7 : B ≤ w7.heap.size := by have := d7.size; omega
    have D7 := Lib.hid (D6.out.trans (d7.mono z6))
    clear d7 D6 U1
    cases UP with
    | false => (go_wp2_with fail; go_ret; exact ⟨rfl, D7.out⟩)
    | true =>
      have hdn := H1.out rfl
      have hm := H2.out rfl
      subst hdn
      clear H1 H2
      obtain ⟨rfl, ha0⟩ : b = 0 ∧ 0 < a := hm.resolve_left (by decide)
      clear hm
      go_wp2_with fail
      refine (U2.out _).mono ?_
      rintro e w8 ⟨rfl, d8⟩
      have D8 := Lib.hid (D7.out.trans (d8.mono z7))
      clear d8 D7 U2
      go_wp2_with fail
      go_ret
      exact ⟨rfl, D8.out⟩
  · go_wp2_with fail
    refine (R5.out _).mono ?_
    rintro e w6 ⟨rfl, d6⟩
    have z6 : B ≤ w6.heap.size := by have := d6.size; omega
    have D6 := Lib.hid (D5.out.trans (d6.mono z5))
    clear d6 D5 R5
    go_wp2_with fail
    refine (U1.out _).mono ?_
    rintro e w7 ⟨rfl, d7⟩
    have z7 : B ≤ w7.heap.size := by have := d7.size; omega
    have D7 := Lib.hid (D6.out.trans (d7.mono z6))
    clear d7 D6 U1
    cases UP with
    | false => (go_wp2_with fail; go_ret; exact ⟨rfl, D7.out⟩)
    | true =>
      have hdn := H1.out rfl
      have hm := H2.out rfl
      subst hdn
      clear H1 H2
      clear hm
      go_wp2_with fail
      refine (U2.out _).mono ?_
      rintro e w8 ⟨rfl, d8⟩
      have D8 := Lib.hid (D7.out.trans (d8.mono z7))
      clear d8 D7 U2
      go_wp2_with fail
      go_ret
      exact ⟨rfl, D8.out⟩
  · go_wp2_with fail
    refine (R5.out _).mono ?_
    rintro e w6 ⟨rfl, d6⟩
    have z6 : B ≤ w6.heap.size := by have := d6.size; omega
    have D6 := Lib.hid (D5.out.trans (d6.mono z5))
    clear d6 D5 R5
    go_wp2_with fail
    refine (U1.out _).mono ?_
    rintro e w7 ⟨rfl, d7⟩
    have z7 : B ≤ w7.heap.size := by have := d7.size; omega
    have D7 := Lib.hid (D6.out.trans (d7.mono z6))
    clear d7 D6 U1
    cases UP with
    | false => (go_wp2_with fail; go_ret; exact ⟨rfl, D7.out⟩)
    | true =>
      have hdn := H1.out rfl
      have hm := H2.out rfl
      subst hdn
      clear H1 H2
      obtain ⟨rfl, ha0⟩ : b = 0 ∧ 0 < a := hm.resolve_left (by decide)
      clear hm
      go_wp2_with fail
      refine (U2.out _).mono ?_
      rintro e w8 ⟨rfl, d8⟩
      have D8 := Lib.hid (D7.out.trans (d8.mono z7))
      clear d8 D7 U2
      go_wp2_with fail
      go_ret
      exact ⟨rfl, D8.out⟩
  · go_wp2_with fail
    refine (R5.out _).mono ?_
    rintro e w6 ⟨rfl, d6⟩
    have z6 : B ≤ w6.heap.size := by have := d6.size; omega
    have D6 := Lib.hid (D5.out.trans (d6.mono z5))
    clear d6 D5 R5
    go_wp2_with fail
    refine (U1.out _).mono ?_
    rintro e w7 ⟨rfl, d7⟩
    have z7 : B ≤ w7.heap.size := by have := d7.size; omega
    have D7 := Lib.hid (D6.out.trans (d7.mono z6))
    clear d7 D6 U1
    cases UP with
    | false => (go_wp2_with fail; go_ret; exact ⟨rfl, D7.out⟩)
    | true =>
      have hdn := H1.out rfl
      have hm := H2.out rfl
      subst hdn
      clear H1 H2
      obtain ⟨rfl, ha0⟩ : b = 0 ∧ 0 < a := hm.resolve_left (by decide)
      clear hm
      go_wp2_with fail
      refine (U2.out _).mono ?_
      rintro e w8 ⟨rfl, d8⟩
      have D8 := Lib.hid (D7.out.trans (d8.mono z7))
      clear d8 D7 U2
      go_wp2_with fail
      go_ret
      exact ⟨rfl, D8.out⟩
  · go_wp2_with fail
    refine (R5.out _).mono ?_
    rintro e w6 ⟨rfl, d6⟩
    have z6 : B ≤ w6.heap.size := by have := d6.size; omega
    have D6 := Lib.hid (D5.out.trans (d6.mono z5))
    clear d6 D5 R5
    go_wp2_with fail
    refine (U1.out _).mono ?_
    rintro e w7 ⟨rfl, d7⟩
    have z7 : B ≤ w7.heap.size := by have := d7.size; omega
    have D7 := Lib.hid (D6.out.trans (d7.mono z6))
    clear d7 D6 U1
    cases UP with
    | false => (go_wp2_with fail; go_ret; exact ⟨rfl, D7.out⟩)
    | true =>
      have hdn := H1.out rfl
      have hm := H2.out rfl
      subst hdn
      clear H1 H2
      obtain ⟨rfl, ha0⟩ : b = 0 ∧ 0 < a := hm.resolve_left (by decide)
      clear hm
      go_wp2_with fail
      refine (U2.out _).mono ?_
      rintro e w8 ⟨rfl, d8⟩
      have D8 := Lib.hid (D7.out.trans (d8.mono z7))
      clear d8 D7 U2
      go_wp2_with fail
      go_ret
      exact ⟨rfl, D8.out⟩
  · go_wp2_with fail
    refine (R5.out _).mono ?_
    rintro e w6 ⟨rfl, d6⟩
    have z6 : B ≤ w6.heap.size := by have := d6.size; omega
    have D6 := Lib.hid (D5.out.trans (d6.mono z5))
    clear d6 D5 R5
    go_wp2_with fail
    refine (U1.out _).mono ?_
    rintro e w7 ⟨rfl, d7⟩
    have z7 : B ≤ w7.heap.size := by have := d7.size; omega
    have D7 := Lib.hid (D6.out.trans (d7.mono z6))
    clear d7 D6 U1
    cases UP with
    | false => (go_wp2_with fail; go_ret; exact ⟨rfl, D7.out⟩)
    | true =>
      have hdn := H1.out rfl
      have hm := H2.out rfl
      subst hdn
      clear H1 H2
      clear hm
      go_wp2_with fail
      refine (U2.out _).mono ?_
      rintro e w8 ⟨rfl, d8⟩
      have D8 := Lib.hid (D7.out.trans (d8.mono z7))
      clear d8 D7 U2
      go_wp2_with fail
      go_ret
      exact ⟨rfl, D8.out⟩
  · go_wp2_with fail
    refine (R5.out _).mono ?_
    rintro e w6 ⟨rfl, d6⟩
    have z6 : B ≤ w6.heap.size := by have := d6.size; omega
    have D6 := Lib.hid (D5.out.trans (d6.mono z5))
    clear d6 D5 R5
    go_wp2_with fail
    refine (U1.out _).mono ?_
    rintro e w7 ⟨rfl, d7⟩
    have z7 : B ≤ w7.heap.size := by have := d7.size; omega
    have D7 := Lib.hid (D6.out.trans (d7.mono z6))
    clear d7 D6 U1
    cases UP with
    | false => (go_wp2_with fail; go_ret; exact ⟨rfl, D7.out⟩)
    | true =>
      have hdn := H1.out rfl
      have hm := H2.out rfl
      subst hdn
      clear H1 H2
      clear hm
      go_wp2_with fail
      refine (U2.out _).mono ?_
      rintro e w8 ⟨rfl, d8⟩
      have D8 := Lib.hid (D7.out.trans (d8.mono z7))
      clear d8 D7 U2
      go_wp2_with fail
      go_ret
      exact ⟨rfl, D8.out⟩
end Go.Proofs.Yteclijealbdhnaa
