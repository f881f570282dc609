/- Small facts of words and rounds. -/
import Derived.Test.YtieiaoknbnkjpaaFU
namespace Go.Proofs.Ytieiaoknbnkjpaa.Rf
open Go.RowKit Go.Proofs.YtieiaoknbnkjpaaW.PrintWords

theorem w64 {x : Int} (h1 : -4611686018427387904 ≤ x) (h2 : x ≤ 4611686018427387904) : wrap64 x = x := by unfold wrap64; omega
theorem Ev.fn {α : Type} {g f : Nat → Option α} {r : α} (h : ∀ k, g (k + 1) = f k) (k : Ev f r) : Ev g r := Ev.step h k
theorem uI_zero {u : UInt8} : uI u = 0 ↔ u = 0 := by
  constructor
  · intro h
    apply UInt8.toNat_inj.1
    unfold uI at h
    simpa using h
  · intro h; subst h; rfl
theorem uI_inj {u v : UInt8} (h : uI u = uI v) : u = v := UInt8.toNat_inj.1 (by unfold uI at h; omega)

end Go.Proofs.Ytieiaoknbnkjpaa.Rf
