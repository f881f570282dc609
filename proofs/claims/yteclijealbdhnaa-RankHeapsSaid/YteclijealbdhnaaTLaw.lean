/- The plain laws of a heap of things against the document's list. -/
import Derived.Test.YteclijealbdhnaaTSame
namespace Go.Proofs.Yteclijealbdhnaa

theorem ordT : Ord ltT := by
  constructor
  · intro x; simp [ltT]
  · intro x y z h1 h2
    simp [ltT] at *; omega
  · intro x y z h1 h2
    simp [ltT] at *; omega

/-- The heap l holds the list W. -/
def Inv (l : List Ent) (W : List Th) (n : Nat) : Prop := ∃ S, Sorted ltT S ∧ l.Perm S ∧ S.map thOf = W ∧ (∀ x ∈ S, x.2.2 < (n : Int)) ∧ HeapFrom ltT 0 l

theorem inv_nil : Inv [] [] 0 := ⟨[], .nil, .refl _, rfl, by simp, fun j _ h => by simp at h⟩
theorem Inv.len {l : List Ent} {W : List Th} {n : Nat} (h : Inv l W n) : l.length = W.length := by
  obtain ⟨S, _, hp, rfl, _⟩ := h
  rw [List.length_map, hp.length_eq]

theorem putAt_ge (W : List Th) (k : Int) : ∀ n i, putAt W k n ≤ i → i < n → k < (W.getD i (0, 0)).1
  | 0, _, _, h => by omega
  | n + 1, i, h, hi => by
    rw [putAt] at h
    split at h
    · rename_i hlt
      by_cases e : i = n
      · rw [e]; exact hlt
      · exact putAt_ge W k n i h (by omega)
    · omega
theorem putAt_lt (W : List Th) (k : Int) : ∀ n, 0 < putAt W k n → ¬ k < (W.getD (putAt W k n - 1) (0, 0)).1
  | 0, h => by simp [putAt] at h
  | n + 1, h => by
    rw [putAt] at h ⊢
    split at h
    · rename_i hlt
      rw [if_pos hlt]; exact putAt_lt W k n h
    · rename_i hlt
      rw [if_neg hlt, Nat.add_sub_cancel]; exact hlt

theorem inv_push {l : List Ent} {W : List Th} {n : Nat} (h : Inv l W n) (k nm : Int) : Inv (pushF l (k, nm, n)) (putL W (k, nm)) (n + 1) := by
  obtain ⟨S, hs, hp, rfl, hn, hh⟩ := h
  have hle : putAt (S.map thOf) k (S.map thOf).length ≤ S.length := by simpa using putAt_le (S.map thOf) k (S.map thOf).length
  have hge := putAt_ge (S.map thOf) k (S.map thOf).length
  have hlt := putAt_lt (S.map thOf) k (S.map thOf).length
  unfold putL
  generalize putAt (S.map thOf) k (S.map thOf).length = p at *
  have hgd : ∀ i (hi : i < S.length), ((S.map thOf).getD i (0, 0)).1 = (S[i]).1 := fun i hi => by
    rw [List.getD_eq_getElem?_getD, List.getElem?_map, List.getElem?_eq_getElem hi]; rfl
  have hsg := List.pairwise_iff_getElem.1 hs
  have hlow : ∀ i (hi : i < S.length), i < p → ltT S[i] (k, nm, (n : Int)) = true := fun i hi hip => by
    have h1 := hlt (by omega)
    rw [hgd (p - 1) (by omega)] at h1
    have h2 : S[i].1 ≤ S[p - 1].1 := by
      by_cases e : i = p - 1
      · subst e; exact Int.le_refl _
      · have := hsg i (p - 1) hi (by omega) (by omega)
        simp [ltT] at this; omega
    have h3 := hn S[i] (List.getElem_mem hi)
    simp [ltT]; omega
  have hhigh : ∀ i (hi : i < S.length), p ≤ i → ltT (k, nm, (n : Int)) S[i] = true := fun i hi hip => by
    have h1 := hge i hip (by simpa using hi)
    rw [hgd i hi] at h1
    simp [ltT]; omega
  refine ⟨(S.take p ++ [(k, nm, (n : Int))]) ++ S.drop p, ?_, ?_, ?_, ?_, ?_⟩
  · refine List.pairwise_append.2 ⟨List.pairwise_append.2 ⟨hs.sublist (List.take_sublist _ _), by simp, ?_⟩, hs.sublist (List.drop_sublist _ _), ?_⟩
    · intro x hx y hy
      obtain ⟨i, hi, rfl⟩ := List.mem_iff_getElem.1 hx
      obtain rfl := List.mem_singleton.1 hy
      rw [List.length_take] at hi
      rw [List.getElem_take]
      exact hlow i (by omega) (by omega)
    · intro x hx y hy
      obtain ⟨j, hj, rfl⟩ := List.mem_iff_getElem.1 hy
      rw [List.length_drop] at hj
      rw [List.getElem_drop]
      rcases List.mem_append.1 hx with h | h
      · obtain ⟨i, hi, rfl⟩ := List.mem_iff_getElem.1 h
        rw [List.length_take] at hi
        rw [List.getElem_take]
        exact hsg i (p + j) (by omega) (by omega) (by omega)
      · obtain rfl := List.mem_singleton.1 h
        exact hhigh (p + j) (by omega) (by omega)
  · refine (push_perm ltT l (k, nm, (n : Int))).trans ?_
    refine (List.Perm.cons _ hp).trans ?_
    rw [List.append_assoc]
    refine List.Perm.trans ?_ (List.perm_append_comm_assoc _ _ _)
    rw [List.singleton_append, List.take_append_drop]
  · simp [thOf, List.map_take, List.map_drop]
  · intro x hx
    rcases List.mem_append.1 hx with h | h
    · rcases List.mem_append.1 h with h | h
      · have := hn x (List.mem_of_mem_take h); omega
      · rw [List.mem_singleton.1 h]; simp only; omega
    · have := hn x (List.mem_of_mem_drop h); omega
  · exact push_heap ordT hh _

theorem inv_head {x : Ent} {r : List Ent} {W : List Th} {n : Nat} (h : Inv (x :: r) W n) : ∃ W', W = thOf x :: W' ∧ Inv (popF (x :: r)) W' n := by
  obtain ⟨S, hs, hp, rfl, hn, hh⟩ := h
  obtain ⟨S', rfl, hs', hp'⟩ := head_same ordT hh hp hs
  exact ⟨S'.map thOf, rfl, S', hs', hp', rfl, fun y hy => hn y (List.mem_cons_of_mem _ hy), pop_heap ordT hh⟩

theorem inv_drop {l : List Ent} {W : List Th} {n : Nat} (h : Inv l W n) (a : Int) : Inv (heapF ltT (l.filter (nq a)) (l.filter (nq a)).length) (filtK a W) n := by
  obtain ⟨S, hs, hp, rfl, hn, hh⟩ := h
  refine ⟨S.filter (nq a), hs.sublist List.filter_sublist, (heapF_perm ordT _ _).trans (hp.filter _), ?_, fun x hx => hn x (List.mem_filter.1 hx).1, heapF_all ordT _⟩
  unfold filtK
  rw [List.filter_map]
  rfl

theorem inv_all {l : List Ent} {W : List Th} {n : Nat} (h : Inv l W n) : allT l = W := by
  obtain ⟨S, hs, hp, rfl, hn, hh⟩ := h
  unfold allT
  rw [drain_sorted ordT l.length l S hh hp hs (Nat.le_refl _)]
end Go.Proofs.Yteclijealbdhnaa
