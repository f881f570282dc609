/- Memory words for the heaps: composing what a row of the call's own has become; the cells of a list of entries. -/
import Derived.Below
import Derived.WalkSpells
namespace Go.Proofs.Yteclijealbdhnaa
open Go Go.RowKit

theorem grown_trans {w w1 w2 : World} {r : Option Nat} (h1 : w.grownBy w1 r) (h2 : w1.grownBy w2 r) : w.grownBy w2 r :=
  ⟨h2.os.trans h1.os, h2.tape.trans h1.tape, h2.output.trans h1.output, Nat.le_trans h1.size h2.size,
    fun k hk hr => (h2.block k (Nat.lt_of_lt_of_le hk h1.size) hr).trans (h1.block k hk hr)⟩
theorem grown_refl (w : World) (r : Option Nat) : w.grownBy w r := ⟨rfl, rfl, rfl, Nat.le_refl _, fun _ _ _ => rfl⟩
theorem grown_below {w w1 : World} (r : Option Nat) (h : Below w.heap.size w w1) : w.grownBy w1 r :=
  ⟨h.os, h.tape, h.output, h.size, fun k hk _ => h.block k hk⟩
theorem grown_drew {w w1 : World} {r : Option Nat} (h : w.grownBy w1 r) : w.grownBy w1.drew r := ⟨h.os, h.tape, h.output, h.size, h.block⟩
theorem below_grown {B : Nat} {w w1 : World} {b : Nat} (h : w.grownBy w1 (some b)) (hB : B ≤ b) (hw : B ≤ w.heap.size) : Below B w w1 :=
  ⟨h.os, h.tape, h.output, h.size, fun k hk => h.block k (by omega) (fun e => by have := Option.some.inj e; omega)⟩
theorem own_below {w w1 : World} {base : Nat} {e : TypeId} {size : Nat} {v : Value} {n : Nat} {xs : List Value} (h : w.ownsRow base e size v n xs) (hb : Below w.heap.size w w1) : w1.ownsRow base e size v n xs := by
  refine h.kept (grown_below none hb) ?_
  cases hv : v.ownBlock with
  | none => exact .inl rfl
  | some k => exact .inr (by simp)
theorem own_drew {w : World} {base : Nat} {e : TypeId} {size : Nat} {v : Value} {n : Nat} {xs : List Value} (h : w.ownsRow base e size v n xs) : w.drew.ownsRow base e size v n xs := h

/-- A struct of three cells that lies in a block of its own. -/
theorem cells3 {w : World} {p : Nat} {x y z : Value} {t : TypeId} (h : w.heap[p]? = some (.cells #[x, y, z] t (0, 0))) :
    w.cell? ⟨p, 0, none⟩ = some x ∧ w.cell? ⟨p, 1, none⟩ = some y ∧ w.cell? ⟨p, 2, none⟩ = some z ∧ (∀ o, w.frozen? ⟨p, o, none⟩ = false) ∧ p < w.heap.size := by
  refine ⟨?_, ?_, ?_, fun o => frozen_of_row w p o _ t h, (Array.getElem?_eq_some_iff.1 h).1⟩ <;> rw [cell_of_row w p _ _ t (0, 0) h] <;> rfl

/-- The cells of entries, one behind the other. -/
def flat {α : Type} (enc : α → List Value) : List α → List Value
  | [] => []
  | x :: l => enc x ++ flat enc l

theorem flat_append {α : Type} (enc : α → List Value) : ∀ (l m : List α), flat enc (l ++ m) = flat enc l ++ flat enc m
  | [], m => rfl
  | x :: l, m => by simp [flat, flat_append enc l m]
theorem flat_length {α : Type} (enc : α → List Value) (k : Nat) (hk : ∀ x, (enc x).length = k) : ∀ l : List α, (flat enc l).length = l.length * k
  | [] => by simp [flat]
  | x :: l => by simp [flat, flat_length enc k hk l, hk x, Nat.add_mul]; omega
theorem flat_get {α : Type} (enc : α → List Value) (k : Nat) (hk : ∀ x, (enc x).length = k) : ∀ (l : List α) (i j : Nat) (x : α), l[i]? = some x → j < k → (flat enc l)[i * k + j]? = (enc x)[j]?
  | [], _, _, _, h, _ => by simp at h
  | y :: l, 0, j, x, h, hj => by
    obtain rfl : y = x := by simpa using h
    rw [flat, List.getElem?_append_left (by rw [hk]; omega)]; simp
  | y :: l, i + 1, j, x, h, hj => by
    rw [flat, List.getElem?_append_right (by rw [hk, Nat.add_mul]; omega), hk, show (i + 1) * k + j - k = i * k + j by rw [Nat.add_mul]; omega]
    exact flat_get enc k hk l i j x (by simpa using h) hj
/-- Entry i's cells, one by one, as those of x. -/
def setMany (xs : List Value) : Nat → List Value → List Value
  | _, [] => xs
  | s, v :: r => setMany (xs.set s v) (s + 1) r
theorem setMany_cons (y : Value) (xs : List Value) : ∀ (vs : List Value) (s : Nat), setMany (y :: xs) (s + 1) vs = y :: setMany xs s vs := by
  intro vs
  induction vs generalizing xs with
  | nil => intro s; rfl
  | cons v r ih => intro s; rw [setMany, setMany, List.set_cons_succ, ih]
theorem setMany_append (ys : List Value) : ∀ (xs vs : List Value) (s : Nat), setMany (ys ++ xs) (ys.length + s) vs = ys ++ setMany xs s vs := by
  induction ys with
  | nil => intro xs vs s; simp
  | cons y ys ih => intro xs vs s; rw [List.cons_append, List.length_cons, show ys.length + 1 + s = (ys.length + s) + 1 by omega, setMany_cons, ih, List.cons_append]
theorem setMany_head : ∀ (vs ys xs : List Value), ys.length = vs.length → setMany (ys ++ xs) 0 vs = vs ++ xs
  | [], ys, xs, h => by
    obtain rfl : ys = [] := List.length_eq_zero_iff.1 h
    rfl
  | v :: r, [], xs, h => by simp at h
  | v :: r, y :: ys, xs, h => by
    rw [setMany, List.cons_append, List.set_cons_zero, setMany_cons, setMany_head r ys xs (by simpa using h), List.cons_append]
theorem flat_set {α : Type} (enc : α → List Value) (k : Nat) (hk : ∀ x, (enc x).length = k) : ∀ (l : List α) (i : Nat) (x : α), i < l.length → flat enc (l.set i x) = setMany (flat enc l) (i * k) (enc x)
  | [], _, _, h => by simp at h
  | y :: l, 0, x, _ => by
    rw [List.set_cons_zero, flat, flat, Nat.zero_mul, setMany_head (enc x) (enc y) _ (by rw [hk, hk])]
  | y :: l, i + 1, x, h => by
    rw [List.set_cons_succ, flat, flat, show (i + 1) * k = (enc y).length + i * k by rw [hk, Nat.add_mul]; omega, setMany_append, flat_set enc k hk l i x (by simpa using h)]
end Go.Proofs.Yteclijealbdhnaa
