/- The state of RankHeaps: a heap and the document's list, apart. -/
import Derived.Test.YteclijealbdhnaaTLaw
import Derived.Test.YteclijealbdhnaaW
namespace Go.Proofs.Yteclijealbdhnaa
open Go.RowKit

/-- The list's row is no block of the heap's. -/
def Apart (w : World) (q : Nat) (wa : Option Addr) (B : Nat) : Prop := ∀ g off, wa = some ⟨g, off, none⟩ → B ≤ g ∧ g ≠ q ∧ ∀ v0 (n0 : Int), w.heap[q]? = some (.cells #[.func (.func 19) #[] #[], v0, .int .i64 n0] 76 (0, 0)) → v0.ownBlock ≠ some g

theorem keep_row {w w' : World} {B q n wl wc : Nat} {l : List Ent} {W : List Th} {wa : Option Addr} (hh : HeapAt w B q l n) (hr : RowK w wa wl wc W) (ha : Apart w q wa B) (hk : KeepT q w w') (hz : w.heap.size ≤ w'.heap.size) :
    RowK w' wa wl wc W ∧ Apart w' q wa B := by
  obtain ⟨⟨v, h1, h2, h3⟩, h4, h5⟩ := hh
  obtain ⟨k1, v1, n1, k2, k3⟩ := hk v n h1
  refine ⟨hr.of hz fun g off e hg => ?_, fun g off e => ?_⟩
  · obtain ⟨a1, a2, a3⟩ := ha g off e
    exact k1 g hg a2 (a3 v n h1)
  · obtain ⟨a1, a2, a3⟩ := ha g off e
    refine ⟨a1, a2, fun v0 n0 h0 => ?_⟩
    have e0 := k2.symm.trans h0
    simp only [Option.some.injEq, Obj.cells.injEq, Array.mk.injEq, List.cons.injEq, and_true, true_and] at e0
    obtain ⟨rfl, _⟩ := e0
    rcases k3 with h | h
    · rw [h]; exact a3 v n h1
    · intro e1
      have := h g e1
      rcases hr with ⟨hn, _⟩ | ⟨g', off', e', _, _, hg', _⟩
      · rw [hn] at e; cases e
      · rw [e'] at e; cases e; omega
theorem new_apart {w w' : World} {B q n : Nat} {l : List Ent} {wa : Option Addr} (hh : HeapAt w B q l n) (hB : B ≤ w.heap.size) (hb : Below w.heap.size w w') (hg : ∀ g off, wa = some ⟨g, off, none⟩ → w.heap.size ≤ g) : Apart w' q wa B := by
  intro g off e
  have h0 := hg g off e
  have hq := hh.lt
  obtain ⟨⟨v, h1, h2, h3⟩, h4, h5⟩ := hh
  refine ⟨by omega, by omega, fun v0 n0 h => ?_⟩
  have e0 := h1.symm.trans ((hb.block q hq).symm.trans h)
  simp only [Option.some.injEq, Obj.cells.injEq, Array.mk.injEq, List.cons.injEq, and_true, true_and] at e0
  obtain ⟨rfl, _⟩ := e0
  intro e1
  have := (h2.lt g e1).2
  omega

/-- The heap at q holds W; the document's list lies at wa. -/
def St (w0 w : World) (B q : Nat) (l : List Ent) (W : List Th) (n : Nat) (wa : Option Addr) (wc : Nat) : Prop :=
  HeapAt w B q l n ∧ Inv l W n ∧ RowK w wa W.length wc W ∧ Apart w q wa B ∧ Below B w0 w ∧ B ≤ w.heap.size
theorem St.below {w0 w w' : World} {B q n wc : Nat} {l : List Ent} {W : List Th} {wa : Option Addr} (h : St w0 w B q l W n wa wc) (hb : Below w.heap.size w w') : St w0 w' B q l W n wa wc := by
  obtain ⟨h1, h2, h3, h4, h5, h6⟩ := h
  obtain ⟨r1, r2⟩ := keep_row h1 h3 h4 (below_keep h1 hb) hb.size
  exact ⟨h1.below hb, h2, r1, r2, h5.trans (hb.mono h6), by have := hb.size; omega⟩
theorem St.far {w0 w : World} {B q n wc : Nat} {l : List Ent} {W : List Th} {wa : Option Addr} (h : St w0 w B q l W n wa wc) (a : Addr) (u : Value) (hq : q ≠ a.block) (hB : B ≤ a.block)
    (hv : ∀ v0 (n0 : Int), w.heap[q]? = some (.cells #[.func (.func 19) #[] #[], v0, .int .i64 n0] 76 (0, 0)) → v0.ownBlock ≠ some a.block) (hr : ∀ g off, wa = some ⟨g, off, none⟩ → g ≠ a.block) : St w0 (w.setCell a u) B q l W n wa wc := by
  obtain ⟨h1, h2, h3, h4, h5, h6⟩ := h
  refine ⟨h1.far a u hq (fun v0 h0 => hv v0 n h0), h2, h3.of (by rw [World.size_setCell]; exact Nat.le_refl _) (fun g off e hg => Below.heap_setCell _ _ _ _ (hr g off e)), ?_, h5.setCell hB u, by rw [World.size_setCell]; exact h6⟩
  intro g off e
  obtain ⟨a1, a2, a3⟩ := h4 g off e
  exact ⟨a1, a2, fun v0 n0 h0 => a3 v0 n0 (by rw [Below.heap_setCell _ _ _ _ hq] at h0; exact h0)⟩
/-- What the heap's row is not. -/
theorem St.row_ne {w0 w : World} {B q n wc : Nat} {l : List Ent} {W : List Th} {wa : Option Addr} (h : St w0 w B q l W n wa wc) : ∀ v0 (n0 : Int), w.heap[q]? = some (.cells #[.func (.func 19) #[] #[], v0, .int .i64 n0] 76 (0, 0)) → ∀ j, w.heap.size ≤ j → v0.ownBlock ≠ some j := by
  intro v0 n0 h0 j hj e
  obtain ⟨⟨⟨v, h1, h2, h3⟩, _⟩, _⟩ := h
  have e0 := h1.symm.trans h0
  simp only [Option.some.injEq, Obj.cells.injEq, Array.mk.injEq, List.cons.injEq, and_true, true_and] at e0
  obtain ⟨rfl, _⟩ := e0
  have := (h2.lt j e).2
  omega
theorem St.wa_lt {w0 w : World} {B q n wc : Nat} {l : List Ent} {W : List Th} {wa : Option Addr} (h : St w0 w B q l W n wa wc) : ∀ g off, wa = some ⟨g, off, none⟩ → g < w.heap.size := by
  intro g off e
  obtain ⟨_, _, h3, _⟩ := h
  rcases h3 with ⟨hn, _⟩ | ⟨g', off', e', _, _, hg', _⟩
  · rw [hn] at e; cases e
  · rw [e'] at e; cases e; exact hg'
end Go.Proofs.Yteclijealbdhnaa
