/- An array of bools that tells which numbers have been seen. -/
import Derived.Test.YtieiaoknbnkjpaaFU
namespace Go.Proofs.Ytieiaoknbnkjpaa.Rf
open Go.RowKit Go.Proofs.YtieiaoknbnkjpaaW.PrintWords

def Seen (N : Nat) (S : List Int) (cs : Array Value) : Prop := cs.size = N ∧ ∀ v, v < N → cs[v]? = some (.bool (S.contains (v : Int)))
def zb (N : Nat) : Array Value := (List.replicate N (Value.bool false)).toArray
theorem seen_zero (N : Nat) : Seen N [] (zb N) := by
  refine ⟨by simp [zb], fun v hv => ?_⟩
  rw [zb, List.getElem?_toArray, List.getElem?_replicate, if_pos hv]; rfl
theorem seen_set {N : Nat} {S : List Int} {cs : Array Value} (h : Seen N S cs) {v : Nat} (hv : v < N) : Seen N (S ++ [(v : Int)]) (cs.setIfInBounds v (.bool true)) := by
  refine ⟨by simp [h.1], fun u hu => ?_⟩
  have h1 := h.1
  by_cases c : v = u
  · subst c
    rw [Array.getElem?_setIfInBounds_self_of_lt (by omega)]
    simp
  · rw [Array.getElem?_setIfInBounds_ne c, h.2 u hu]
    simp only [List.contains_append, List.contains_cons, List.contains_nil, Bool.or_false]
    rw [show ((u : Int) == (v : Int)) = false from beq_eq_false_iff_ne.2 (by omega), Bool.or_false]
theorem getD_nodup {l : List Int} {k : Nat} (hk : k < l.length) (hn : (l.take k).Nodup) : (l.take (k + 1)).Nodup ↔ (l.take k).contains (l.getD k 0) = false := by
  rw [List.take_succ_eq_append_getElem hk, List.nodup_append]
  rw [List.getD_eq_getElem?_getD, List.getElem?_eq_getElem hk]
  simp only [hn, List.nodup_cons, List.not_mem_nil, not_false_eq_true, List.nodup_nil, and_self, List.mem_singleton, ne_eq, true_and, forall_eq, Option.getD_some]
  rw [← Bool.not_eq_true, List.contains_iff_mem]
  exact ⟨fun h hm => h _ hm rfl, fun h a ha e => h (e ▸ ha)⟩
theorem not_nodup_of {l : List Int} {k : Nat} (hk : k < l.length) (h : (l.take k).contains (l.getD k 0) = true) : ¬ l.Nodup := fun hn => by
  have h1 : (l.take (k + 1)).Nodup := hn.sublist (List.take_sublist _ _)
  have h2 : (l.take k).Nodup := hn.sublist (List.take_sublist _ _)
  rw [getD_nodup hk h2, h] at h1
  cases h1

end Go.Proofs.Ytieiaoknbnkjpaa.Rf
