/- The plain laws of heaps of numbers: what was pushed, what comes out. -/
import Derived.Test.YteclijealbdhnaaIAll
namespace Go.Proofs.Yteclijealbdhnaa
open Go.RowKit

theorem ord13 : Ord (ltI 13) := by
  constructor
  · intro x; simp [ltI, lessI]
  · intro x y z h1 h2
    simp [ltI, lessI] at *; omega
  · intro x y z h1 h2
    simp [ltI, lessI] at *; omega
theorem ord36 : Ord (ltI 36) := by
  constructor
  · intro x; simp [ltI, lessI]
  · intro x y z h1 h2
    simp [ltI, lessI] at *; omega
  · intro x y z h1 h2
    simp [ltI, lessI] at *; omega

/-- The heap behind k pushes. -/
def heapN (g : Nat) (ks : List Int) : Nat → List Ent
  | 0 => []
  | k + 1 => pushG (ltI g) (heapN g ks k) (0, ks.getD k 0, (k : Int))
theorem heapN_length (g : Nat) (ks : List Int) : ∀ k, (heapN g ks k).length = k
  | 0 => rfl
  | k + 1 => by rw [heapN, pushG_length, heapN_length g ks k]
theorem heapN_heap {g : Nat} (O : Ord (ltI g)) (ks : List Int) : ∀ k, HeapFrom (ltI g) 0 (heapN g ks k)
  | 0 => fun j _ h _ => by simp [heapN] at h
  | k + 1 => push_heap O (heapN_heap O ks k) _
/-- What was pushed, in the order in which it was. -/
def entN (ks : List Int) : Nat → List Ent
  | 0 => []
  | k + 1 => entN ks k ++ [(0, ks.getD k 0, (k : Int))]
theorem heapN_perm (g : Nat) (ks : List Int) : ∀ k, (heapN g ks k).Perm (entN ks k)
  | 0 => List.Perm.refl _
  | k + 1 => (push_perm (ltI g) _ _).trans ((List.Perm.cons _ (heapN_perm g ks k)).trans (List.perm_append_singleton _ _).symm)
theorem entN_vals (ks : List Int) : ∀ k, k ≤ ks.length → valsI (entN ks k) = ks.take k
  | 0, _ => by simp [entN, valsI]
  | k + 1, h => by
    have e := entN_vals ks k (by omega)
    have : ks.getD k 0 = ks[k]'(by omega) := by simp [List.getD_eq_getElem?_getD, List.getElem?_eq_getElem (show k < ks.length by omega)]
    rw [List.take_succ_eq_append_getElem (show k < ks.length by omega), ← this]
    unfold valsI at *
    rw [entN, List.map_append, e]
    rfl
theorem entN_lt (ks : List Int) : ∀ (k : Nat) (x : Ent), x ∈ entN ks k → x.2.2 < (k : Int)
  | 0, x, h => by simp [entN] at h
  | k + 1, x, h => by
    rw [entN, List.mem_append, List.mem_singleton] at h
    rcases h with h | h
    · have := entN_lt ks k x h; omega
    · subst h; simp; omega
theorem entN_sorted (ks : List Int) : ∀ k, Sorted (ltI 36) (entN ks k)
  | 0 => List.Pairwise.nil
  | k + 1 => by
    refine List.pairwise_append.2 ⟨entN_sorted ks k, List.pairwise_singleton _ _, fun x hx y hy => ?_⟩
    rw [List.mem_singleton] at hy
    subst hy
    have := entN_lt ks k x hx
    simp [ltI, lessI, this]

/-- With no order all come out as they were pushed. -/
theorem all36 (ks : List Int) : allI 36 (heapN 36 ks ks.length) = ks := by
  unfold allI
  rw [drain_sorted ord36 _ _ _ (heapN_heap ord36 ks _) (heapN_perm 36 ks _) (entN_sorted ks _) (Nat.le_refl _), entN_vals ks _ (Nat.le_refl _), List.take_length]

theorem drain_perm {lt : Ent → Ent → Bool} (O : Ord lt) : ∀ (f : Nat) (l : List Ent), l.length ≤ f → (drainG lt f l).Perm l
  | 0, l, h => by
    have : l = [] := List.length_eq_zero_iff.1 (by omega)
    subst this; exact List.Perm.refl _
  | f + 1, [], _ => List.Perm.refl _
  | f + 1, x :: r, h => by
    simp only [drainG]
    exact (List.Perm.cons x (drain_perm O f _ (by rw [popG_length]; simp at h ⊢; exact h))).trans (pop_perm O x r)
theorem drain_le {lt : Ent → Ent → Bool} (O : Ord lt) : ∀ (f : Nat) (l : List Ent), l.length ≤ f → HeapFrom lt 0 l → (drainG lt f l).Pairwise fun x y => lt y x = false
  | 0, l, _, _ => List.Pairwise.nil
  | f + 1, [], _, _ => List.Pairwise.nil
  | f + 1, x :: r, h, hh => by
    simp only [drainG]
    have hl : (popG lt (x :: r)).length ≤ f := by rw [popG_length]; simp at h ⊢; exact h
    refine List.pairwise_cons.2 ⟨fun y hy => ?_, drain_le O f _ hl (pop_heap O hh)⟩
    have hy2 := (drain_perm O f _ hl).subset hy
    have hy3 : y ∈ x :: r := (pop_perm O x r).subset (List.mem_cons_of_mem _ hy2)
    obtain ⟨i, hi, hiy⟩ := List.mem_iff_getElem.1 hy3
    have := root_min O hh i hi
    rw [show at' (x :: r) i = y by simp only [at', List.getD_eq_getElem?_getD]; rw [List.getElem?_eq_getElem hi, hiy]; rfl] at this
    exact this

/-- What comes out rises. -/
theorem all13_le (l : List Ent) (h : HeapFrom (ltI 13) 0 l) : (allI 13 l).Pairwise fun x y => x ≤ y := by
  unfold allI valsI
  rw [List.pairwise_map]
  refine List.Pairwise.imp ?_ (drain_le ord13 _ l (Nat.le_refl _) h)
  intro x y hxy
  simp [ltI, lessI] at hxy
  omega
theorem all13_perm (ks : List Int) : (allI 13 (heapN 13 ks ks.length)).Perm ks := by
  unfold allI valsI
  have h := (drain_perm ord13 _ (heapN 13 ks ks.length) (Nat.le_refl _)).trans (heapN_perm 13 ks _)
  have h2 := h.map (fun x : Ent => x.2.1)
  have e := entN_vals ks ks.length (Nat.le_refl _)
  unfold valsI at e
  rw [e, List.take_length] at h2
  exact h2

/-- The sum of bits of 64-bit numbers. -/
def xorI (a b : Int) : Int := bits .xor .i64 a b
def xorN (ks : List Int) (k : Nat) : Int := (ks.take k).foldl xorI 0
theorem xorN_succ (ks : List Int) (k : Nat) (h : k < ks.length) : xorN ks (k + 1) = xorI (xorN ks k) (ks.getD k 0) := by
  unfold xorN
  rw [List.take_succ_eq_append_getElem h, List.foldl_append]
  simp [List.getD_eq_getElem?_getD, List.getElem?_eq_getElem h]
theorem wrap_back (x : BitVec 64) : BitVec.ofInt 64 (IntKind.i64.wrap (x.toNat : Int)) = x := by
  have hx := x.isLt
  apply BitVec.eq_of_toNat_eq
  rw [BitVec.toNat_ofInt]
  simp only [IntKind.wrap]
  split <;> simp [IntKind.bits] at * <;> omega
theorem xorI_eq (a b : Int) : xorI a b = IntKind.i64.wrap ((BitVec.ofInt 64 a ^^^ BitVec.ofInt 64 b).toNat : Int) := rfl
theorem xorI_right (a b c : Int) : xorI (xorI a b) c = xorI (xorI a c) b := by
  rw [xorI_eq, xorI_eq a b, wrap_back, xorI_eq, xorI_eq a c, wrap_back, BitVec.xor_assoc, BitVec.xor_assoc, BitVec.xor_comm (BitVec.ofInt 64 b)]
theorem xor_perm {l m : List Int} (h : l.Perm m) (z : Int) : l.foldl xorI z = m.foldl xorI z :=
  h.foldl_eq' (fun x _ y _ z => xorI_right z x y) z
theorem xor_all (ks : List Int) : xorN (allI 13 (heapN 13 ks ks.length)) ks.length = xorN ks ks.length := by
  have h := all13_perm ks
  unfold xorN
  generalize allI 13 (heapN 13 ks ks.length) = l at *
  rw [List.take_length, List.take_of_length_le (by rw [h.length_eq]; exact Nat.le_refl _)]
  exact xor_perm h 0
end Go.Proofs.Yteclijealbdhnaa
