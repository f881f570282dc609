/- What Drop asks; slices.IndexFunc of entries. -/
import Derived.Test.YteclijealbdhnaaTAll
namespace Go.Proofs.Yteclijealbdhnaa
open Go.RowKit

/-- What RankHeaps asks of a thing. -/
def qF (a : Int) (k : Int) : Bool := if a = 0 then false else (Int.tmod k a == 0)

set_option maxHeartbeats 1000000 in
theorem pred_any (ob : Nat) (a k nm : Int) (w : World) (hc : w.cell? ⟨ob, 1, none⟩ = some (.int .i64 a)) (ho : ob < w.heap.size) :
    Calls Try.prog 26 #[thing k nm, .pointer (some ⟨ob, 0, none⟩)] w fun e w' => e = .returned (.bool (qF a k)) ∧ Below w.heap.size w w' := by
  by_cases h0 : a = 0
  · have hne : (a != 0) = false := by simp [h0]
    have fin : Hid (qF a k = false) := by simp [Hid, qF, h0]
    go_enter Try.func26, Try.ntmps26
    go_wp2_with fail
    go_ret
    rw [fin.out]
    exact ⟨rfl, (Below.refl _ _).alloc (Nat.le_refl _) _⟩
  · have hne : (a != 0) = true := by simp [h0]
    have hne2 : (a == 0) = false := by simp [h0]
    have fin : Hid (qF a k = (Int.tmod k a == 0)) := by simp [Hid, qF, h0]
    go_enter Try.func26, Try.ntmps26
    go_wp2_with fail
    go_ret
    rw [fin.out]
    exact ⟨rfl, (Below.refl _ _).alloc (Nat.le_refl _) _⟩

/-- What is asked lies at cb; its number at ob. -/
def Ask (w : World) (cb ob : Nat) (a : Int) : Prop := w.cell? ⟨cb, 0, none⟩ = some (.func (.func 26) #[] #[.pointer (some ⟨ob, 0, none⟩)]) ∧ w.cell? ⟨ob, 1, none⟩ = some (.int .i64 a)
theorem Ask.lt {w : World} {cb ob : Nat} {a : Int} (h : Ask w cb ob a) : cb < w.heap.size ∧ ob < w.heap.size := by
  obtain ⟨h1, h2⟩ := h
  exact ⟨World.block_lt_of_cell? w _ h1, World.block_lt_of_cell? w _ h2⟩
theorem Ask.of {w w' : World} {cb ob : Nat} {a : Int} (h : Ask w cb ob a) (h1 : w'.heap[cb]? = w.heap[cb]?) (h2 : w'.heap[ob]? = w.heap[ob]?) : Ask w' cb ob a := by
  obtain ⟨g1, g2⟩ := h
  exact ⟨(World.cell?_of_block (a := ⟨cb, 0, none⟩) h1).trans g1, (World.cell?_of_block (a := ⟨ob, 1, none⟩) h2).trans g2⟩
theorem Ask.below {w w' : World} {cb ob : Nat} {a : Int} (h : Ask w cb ob a) (hb : Below w.heap.size w w') : Ask w' cb ob a := by
  obtain ⟨l1, l2⟩ := h.lt
  have h1 := hb.block cb l1
  have h2 := hb.block ob l2
  exact Ask.of h h1 h2

set_option maxHeartbeats 1000000 in
theorem ask_any {cb ob : Nat} {a : Int} (k nm n : Int) (w : World) (h : Ask w cb ob a) :
    Calls Try.prog 44 #[ent k nm n, .pointer (some ⟨cb, 0, none⟩)] w fun e w' => e = .returned (.bool (qF a k)) ∧ Below w.heap.size w w' := by
  have hb0 := (Below.refl w.heap.size w).alloc (Nat.le_refl _) (.cells #[.int .i64 k, .int .i64 nm, .int .i64 n] 78)
  have H2 := Lib.hid (h.below hb0)
  have H0 := Lib.hid hb0
  obtain ⟨l1, l2⟩ := h.lt
  obtain ⟨c1, c2⟩ := h
  clear hb0
  go_enter Try.func44, Try.ntmps44
  go_wp2_with fail
  refine (pred_any ob a k nm _ H2.out.2 H2.out.lt.2).mono ?_
  rintro e w1 ⟨rfl, b1⟩
  have B1 := Lib.hid (H0.out.trans (b1.mono (by simp)))
  clear b1
  go_wp2_with fail
  go_ret
  exact ⟨rfl, B1.out⟩

abbrev fv (cb : Nat) : Value := .func (.func 44) #[] #[.pointer (some ⟨cb, 0, none⟩)]
/-- What is kept. -/
def nq (a : Int) (x : Ent) : Bool := !qF a x.1

/-- Where the first one lies that is asked for. -/
def idxOf (a : Int) : List Ent → Nat → Int
  | [], _ => -1
  | x :: l, k => if qF a x.1 then k else idxOf a l (k + 1)
theorem idxOf_stop {a : Int} {l : List Ent} {k : Nat} {x : Ent} (hx : l[k]? = some x) (h : qF a x.1 = true) : idxOf a (l.drop k) k = k := by
  obtain ⟨hk, rfl⟩ := List.getElem?_eq_some_iff.1 hx
  rw [List.drop_eq_getElem_cons hk, idxOf, if_pos h]
theorem idxOf_go {a : Int} {l : List Ent} {k : Nat} {x : Ent} (hx : l[k]? = some x) (h : qF a x.1 = false) : idxOf a (l.drop k) k = idxOf a (l.drop (k + 1)) (k + 1) := by
  obtain ⟨hk, rfl⟩ := List.getElem?_eq_some_iff.1 hx
  rw [List.drop_eq_getElem_cons hk, idxOf, if_neg (by simp [h])]
theorem idxOf_none {a : Int} : ∀ (l : List Ent) (k : Nat), idxOf a l k = -1 → l.filter (nq a) = l
  | [], _, _ => rfl
  | x :: l, k, h => by
    by_cases hq : qF a x.1 = true
    · rw [idxOf, if_pos hq] at h; omega
    · rw [idxOf, if_neg hq] at h
      rw [List.filter_cons, if_pos (by simp [nq, hq]), idxOf_none l _ h]
theorem idxOf_some {a : Int} : ∀ (l : List Ent) (k i : Nat), idxOf a l k = (k + i : Nat) → i < l.length ∧ (l.take (i + 1)).filter (nq a) = l.take i
  | [], k, i, h => by simp [idxOf] at h; omega
  | x :: l, k, i, h => by
    by_cases hq : qF a x.1 = true
    · rw [idxOf, if_pos hq] at h
      obtain rfl : i = 0 := by omega
      simp [nq, hq]
    · rw [idxOf, if_neg hq] at h
      obtain ⟨j, rfl⟩ : ∃ j, i = j + 1 := by
        cases i with
        | zero =>
          exfalso
          have : ∀ (l : List Ent) (k : Nat), idxOf a l (k + 1) ≠ (k : Int) := by
            intro l
            induction l with
            | nil => intro k; simp [idxOf]
            | cons y l ih =>
              intro k
              rw [idxOf]
              split
              · omega
              · intro e
                have h2 : ∀ (l : List Ent) (m : Nat), idxOf a l m = -1 ∨ (m : Int) ≤ idxOf a l m := by
                  intro l
                  induction l with
                  | nil => intro m; exact .inl rfl
                  | cons z l ih2 =>
                    intro m
                    rw [idxOf]
                    split
                    · exact .inr (Int.le_refl _)
                    · rcases ih2 (m + 1) with h | h
                      · exact .inl h
                      · exact .inr (by omega)
                rcases h2 l (k + 1 + 1) with h | h <;> omega
          exact this l k (by simpa using h)
        | succ j => exact ⟨j, rfl⟩
      obtain ⟨h1, h2⟩ := idxOf_some l (k + 1) j (by rw [h]; omega)
      refine ⟨by simp; omega, ?_⟩
      rw [List.take_succ_cons, List.filter_cons, if_pos (by simp [nq, hq]), h2, List.take_succ_cons]
theorem idxOf_range {a : Int} : ∀ (l : List Ent) (k : Nat), idxOf a l k = -1 ∨ ∃ i, i < l.length ∧ idxOf a l k = (k + i : Nat)
  | [], _ => .inl rfl
  | x :: l, k => by
    rw [idxOf]
    split
    · exact .inr ⟨0, by simp, by simp⟩
    · rcases idxOf_range l (k + 1) with h | ⟨i, hi, h⟩
      · exact .inl h
      · exact .inr ⟨i + 1, by simp; omega, by rw [h]; omega⟩

set_option maxHeartbeats 2000000 in
theorem index_any {cb ob : Nat} {a : Int} {B g cap : Nat} {l : List Ent} (w : World) (h : Ask w cb ob a) (ho : w.ownsRow B 78 3 (.slice (some ⟨g, 0, none⟩) l.length cap) l.length (flat encT l)) (hl : l.length ≤ 1000000000) :
    Calls Try.prog 52 #[.slice (some ⟨g, 0, none⟩) l.length cap, fv cb] w fun e w' => e = .returned (.int .i64 (idxOf a l 0)) ∧ Below w.heap.size w w' := by
  obtain ⟨B0, HB0⟩ : ∃ B0, Hid (B0 = w.heap.size) := ⟨_, rfl⟩
  rw [← HB0.out]
  have H0 := Lib.hid h
  have HO := Lib.hid ho
  clear h ho
  go_enter Try.func52, Try.ntmps52
  go_wp2_with fail
  go_loopw [5, 8] (fun _ iv wr => ∃ k : Nat, iv = .int .i64 k ∧ k ≤ l.length ∧ Hid (idxOf a l 0 = idxOf a (l.drop k) k) ∧ Hid (Below B0 w wr) ∧ B0 ≤ wr.heap.size) (fun _ iv _ => l.length - (intOf iv).toNat)
  case atStart => exact ⟨0, rfl, Nat.zero_le _, rfl, Below.refl _ _, by rw [HB0.out]; exact Nat.le_refl _⟩
  case round =>
    obtain ⟨k, rfl, hk, hI, hB, hz⟩ := hrel
    by_cases hlt : k < l.length
    · have hb := hB.out
      rw [HB0.out] at hb
      have own := own_below HO.out hb
      have HA := Lib.hid (H0.out.below hb)
      obtain ⟨x0, x1, x2⟩ := ent_cells own k hlt
      obtain ⟨X, HX⟩ : ∃ X, Hid (l[k]? = some X) := ⟨l[k], List.getElem?_eq_getElem hlt⟩
      have hX : l.getD k (0, 0, 0) = X := by rw [List.getD_eq_getElem?_getD, HX.out]; rfl
      rw [hX] at x0 x1 x2
      obtain ⟨X1, X2, X3⟩ := X
      clear hb own hX
      cases hq : qF a X1 with
      | true =>
        have fin : Hid (idxOf a l 0 = (k : Int)) := by unfold Hid; rw [hI.out, idxOf_stop HX.out hq]
        have Hq := Lib.hid hq
        clear hq
        go_wp2_with fail
        refine (ask_any X1 X2 X3 _ HA.out).mono ?_
        rintro e w1 ⟨rfl, b1⟩
        have B1 := Lib.hid (hB.out.trans (b1.mono hz))
        rw [Hq.out]
        clear b1
        go_wp2_with fail
        go_ret
        rw [fin.out]
        exact ⟨rfl, B1.out⟩
      | false =>
        have HI2 : Hid (idxOf a l 0 = idxOf a (l.drop (k + 1)) (k + 1)) := by unfold Hid; rw [hI.out, idxOf_go HX.out hq]
        have Hq := Lib.hid hq
        clear hq
        go_wp2_with fail
        refine (ask_any X1 X2 X3 _ HA.out).mono ?_
        rintro e w1 ⟨rfl, b1⟩
        have B1 := Lib.hid (hB.out.trans (b1.mono hz))
        have z1 : B0 ≤ w1.heap.size := by have := b1.size; omega
        rw [Hq.out]
        clear b1
        go_wp2_with fail
        go_roundw
        case rel => exact ⟨k + 1, by go_num, by omega, HI2, B1, z1⟩
        case measure => simp [intOf]; omega
    · obtain rfl : k = l.length := by omega
      have fin : Hid (idxOf a l 0 = -1) := by unfold Hid; rw [hI.out, List.drop_length]; rfl
      go_wp2_with fail
      go_ret
      rw [fin.out]
      exact ⟨rfl, hB.out⟩
end Go.Proofs.Yteclijealbdhnaa
