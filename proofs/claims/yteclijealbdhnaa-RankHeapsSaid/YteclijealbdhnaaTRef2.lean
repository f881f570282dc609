/- The document's Drop and Same, of things. -/
import Derived.Test.YteclijealbdhnaaTRef
namespace Go.Proofs.Yteclijealbdhnaa
open Go.RowKit

/-- What Drop leaves. -/
def filtK (a : Int) (l : List Th) : List Th := l.filter fun x => !qF a x.1
theorem filtK_succ {a : Int} {l : List Th} {n : Nat} (h : n < l.length) : filtK a (l.take (n + 1)) = filtK a (l.take n) ++ (if qF a (l.getD n (0, 0)).1 then [] else [l.getD n (0, 0)]) := by
  unfold filtK
  rw [List.take_succ_eq_append_getElem h, List.filter_append, List.getD_eq_getElem?_getD, List.getElem?_eq_getElem h]
  simp only [Option.getD_some]
  cases hq : qF a l[n].1 <;> simp [hq]
theorem filtK_len {a : Int} (l : List Th) : (filtK a l).length ≤ l.length := List.length_filter_le _ _

set_option maxHeartbeats 8000000 in
theorem rdrop_any (a0 : Option Addr) (len cap : Nat) (l : List Th) (a : Int) (w : World) (h : RowK w a0 len cap l) (hl : len ≤ 100000) :
    Calls Try.prog 24 #[.slice a0 len cap, .int .i64 a] w fun e w' => ∃ v, e = .returned v ∧ w'.ownsRow w.heap.size 45 2 v (filtK a l).length (flat encK (filtK a l)) ∧ Below w.heap.size w w' := by
  obtain ⟨B0, HB0⟩ : ∃ B0, Hid (B0 = w.heap.size) := ⟨_, rfl⟩
  rw [← HB0.out]
  have hll := h.len
  have HR := Lib.hid h
  have HL := Lib.hid hll
  clear h hll
  go_enter Try.func24, Try.ntmps24
  go_wp2_with fail
  go_loopw [5, 6, 9] (fun ov _ iv wr => ∃ (n : Nat) (oa : Option Addr) (om oc : Nat), iv = .int .i64 n ∧ ov = .slice oa om oc ∧ n ≤ len ∧ Hid (wr.ownsRow B0 45 2 (.slice oa om oc) (filtK a (l.take n)).length (flat encK (filtK a (l.take n)))) ∧ Hid (Below B0 w wr) ∧ B0 ≤ wr.heap.size) (fun _ _ iv _ => len - (intOf iv).toNat)
  case atStart => exact ⟨0, none, 0, 0, rfl, rfl, Nat.zero_le _, World.ownsRow_nil _ _ _ _, Below.refl _ _, by rw [HB0.out]; exact Nat.le_refl _⟩
  case round =>
    obtain ⟨n, oa, om, oc, rfl, rfl, hn, hO, hB, hz⟩ := hrel
    by_cases hlt : n < len
    · have hRr : RowK wr a0 len cap l := HR.out.below (by have := hB.out; rw [HB0.out] at this; exact this)
      obtain ⟨g, off, rfl, c0, c1⟩ := hRr.at n hlt
      obtain ⟨x, hx⟩ : ∃ x, Hid (l.getD n (0, 0) = x) := ⟨_, rfl⟩
      rw [hx.out] at c0 c1
      obtain ⟨x1, x2⟩ := x
      have hsucc := filtK_succ (a := a) (l := l) (n := n) (by rw [HL.out]; exact hlt)
      rw [hx.out] at hsucc
      have hfl : (filtK a (l.take n)).length ≤ n := Nat.le_trans (filtK_len _) (by rw [List.length_take]; omega)
      have Hsucc := Lib.hid hsucc
      have Hfl := Lib.hid hfl
      clear hRr hsucc hfl
      by_cases h0 : a = 0
      · have e0 : (a == 0) = true := by simp [h0]
        have hS : Hid (filtK a (l.take (n + 1)) = filtK a (l.take n) ++ [(x1, x2)]) := by unfold Hid; rw [Hsucc.out]; simp [qF, h0]
        have hn3 := heap_alloc_new wr (.cells #[.int .i64 x1, .int .i64 x2] 45)
        have R3 : Hid (RowK (wr.alloc (.cells #[.int .i64 x1, .int .i64 x2] 45)) (some ⟨wr.heap.size, 0, none⟩) 1 1 [(x1, x2)]) := .inr ⟨_, 0, rfl, rfl, Nat.le_refl _, by simp, fun i hi => by
          obtain rfl : i = 0 := by omega
          refine ⟨?_, ?_⟩ <;> rw [cell_of_row _ _ _ _ _ _ hn3] <;> rfl⟩
        have O1 := Lib.hid (hO.out.alloc (.cells #[.int .i64 x1, .int .i64 x2] 45))
        have B1 := Lib.hid (hB.out.trans ((Below.refl B0 wr).alloc hz (.cells #[.int .i64 x1, .int .i64 x2] 45)))
        have hHV : ∀ j, (Value.slice oa om oc).ownBlock = some j → B0 ≤ j := fun j hj => (hO.out.lt j hj).1
        have HV := Lib.hid hHV
        clear hn3 hHV h0
        go_wp2_with (first
          | (at_builtin
             refine row_append rfl (.tmp 24) (.tmp 29) rfl B0 (.slice oa om oc) (filtK a (l.take n)) rfl (by exact O1.out) (some ⟨wr.heap.size, 0, none⟩) 1 1 [(x1, x2)] rfl (by exact R3.out) (by have := Hfl.out; omega) (by simp; omega) ?_
             intro va vm vc w2 o2 g2 at2
             have O2 := Lib.hid o2
             have zz2 : wr.heap.size + 1 ≤ w2.heap.size := by have := g2.size; simpa using this
             have B2 : Hid (Below B0 w w2) := B1.out.trans ⟨g2.os, g2.tape, g2.output, g2.size, fun j hj => g2.block j (by simp; omega) (fun e => by have := HV.out j e.symm; omega)⟩
             clear o2 g2 at2))
        go_roundw
        case rel => exact ⟨n + 1, va, vm, vc, by go_num, rfl, by omega, by rw [hS.out]; exact O2, B2, by omega⟩
        case measure => simp [intOf]; omega
      · have e0 : (a == 0) = false := by simp [h0]
        cases hq : qF a x1 with
        | true =>
          have e1 : (x1.tmod a != 0) = false := by unfold qF at hq; rw [if_neg h0] at hq; simpa using hq
          have hS : Hid (filtK a (l.take (n + 1)) = filtK a (l.take n)) := by unfold Hid; rw [Hsucc.out]; simp [hq]
          clear hq
          go_wp2_with fail
          go_roundw
          case rel => exact ⟨n + 1, oa, om, oc, by go_num, rfl, by omega, by rw [hS.out]; exact hO, hB, hz⟩
          case measure => simp [intOf]; omega
        | false =>
          have e1 : (x1.tmod a != 0) = true := by unfold qF at hq; rw [if_neg h0] at hq; simpa using hq
          have hS : Hid (filtK a (l.take (n + 1)) = filtK a (l.take n) ++ [(x1, x2)]) := by unfold Hid; rw [Hsucc.out]; simp [hq]
          have hn3 := heap_alloc_new wr (.cells #[.int .i64 x1, .int .i64 x2] 45)
          have R3 : Hid (RowK (wr.alloc (.cells #[.int .i64 x1, .int .i64 x2] 45)) (some ⟨wr.heap.size, 0, none⟩) 1 1 [(x1, x2)]) := .inr ⟨_, 0, rfl, rfl, Nat.le_refl _, by simp, fun i hi => by
            obtain rfl : i = 0 := by omega
            refine ⟨?_, ?_⟩ <;> rw [cell_of_row _ _ _ _ _ _ hn3] <;> rfl⟩
          have O1 := Lib.hid (hO.out.alloc (.cells #[.int .i64 x1, .int .i64 x2] 45))
          have B1 := Lib.hid (hB.out.trans ((Below.refl B0 wr).alloc hz (.cells #[.int .i64 x1, .int .i64 x2] 45)))
          have hHV : ∀ j, (Value.slice oa om oc).ownBlock = some j → B0 ≤ j := fun j hj => (hO.out.lt j hj).1
          have HV := Lib.hid hHV
          clear hn3 hHV hq
          go_wp2_with (first
            | (at_builtin
               refine row_append rfl (.tmp 24) (.tmp 29) rfl B0 (.slice oa om oc) (filtK a (l.take n)) rfl (by exact O1.out) (some ⟨wr.heap.size, 0, none⟩) 1 1 [(x1, x2)] rfl (by exact R3.out) (by have := Hfl.out; omega) (by simp; omega) ?_
               intro va vm vc w2 o2 g2 at2
               have O2 := Lib.hid o2
               have zz2 : wr.heap.size + 1 ≤ w2.heap.size := by have := g2.size; simpa using this
               have B2 : Hid (Below B0 w w2) := B1.out.trans ⟨g2.os, g2.tape, g2.output, g2.size, fun j hj => g2.block j (by simp; omega) (fun e => by have := HV.out j e.symm; omega)⟩
               clear o2 g2 at2))
          go_roundw
          case rel => exact ⟨n + 1, va, vm, vc, by go_num, rfl, by omega, by rw [hS.out]; exact O2, B2, by omega⟩
          case measure => simp [intOf]; omega
    · obtain rfl : n = len := by omega
      have hT : Hid (l.take n = l) := List.take_of_length_le (by rw [HL.out]; exact Nat.le_refl _)
      go_wp2_with fail
      go_ret
      refine ⟨_, rfl, ?_, hB.out⟩
      have := hO.out
      rw [hT.out] at this
      exact this
end Go.Proofs.Yteclijealbdhnaa
