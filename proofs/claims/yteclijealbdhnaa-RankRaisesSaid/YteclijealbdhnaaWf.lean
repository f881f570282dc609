/- Whole numbers that came in, as natural numbers within bounds. -/
import Derived.OpenShut
namespace Go.Proofs.Yteclijealbdhnaa
theorem nat_u64 {a : Int} (h : (Lit.int .u64 a).wf = true) : ∃ n : Nat, n < 18446744073709551616 ∧ a = n := by
  have := bounds_u64 h
  exact ⟨a.toNat, by omega, by omega⟩
theorem nat_u32 {a : Int} (h : (Lit.int .u32 a).wf = true) : ∃ n : Nat, n < 4294967296 ∧ a = n := by
  have := bounds_u32 h
  exact ⟨a.toNat, by omega, by omega⟩
theorem nat_u16 {a : Int} (h : (Lit.int .u16 a).wf = true) : ∃ n : Nat, n < 65536 ∧ a = n := by
  have := bounds_u16 h
  exact ⟨a.toNat, by omega, by omega⟩
theorem nat_u8 {a : Int} (h : (Lit.int .u8 a).wf = true) : ∃ n : Nat, n < 256 ∧ a = n := by
  have := bounds_u8 h
  exact ⟨a.toNat, by omega, by omega⟩
end Go.Proofs.Yteclijealbdhnaa
