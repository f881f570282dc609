/-
  No cell of these rows narrows 'for every input' (looked for: loops, veiled, ifaces, maps, wideKeys, modest, calm, conditions, laid).
  DERIVED. THE GIVEN ROWS OF THIS SEAT. 6 by the template 'for every input the law returns true; each argument reads behind the call as it read before'; 0 by the template 'total and deterministic' (their statements: YteclijealbdhnaaTotals.lean).
  GIVEN WITH THE SEED: the statements are not yours to turn. If you find one false, say at which input.
  Laid BY PROGRAM, IN A SANDBOX (cutbox-rows.mjs): the forced cells as the released guide's own fill.sh prints them over the translation 469074d019487f41… (all of the seat's roots in one cut). By AI agents, Wed Nov 11 2026. No macro, syntax, notation, axiom, sorry.
-/
import Derived.Test.YteclijealbdhnaaChecked
import GoSem.Claim
import GoSem.ClaimJoined
import GoSem.ClaimMapViews
import Derived.JoinedTies
import Derived.KernelRfl
namespace Go.Proofs.Yteclijealbdhnaa
/- THE CELL 'sum', in the pinned program and in every row, IS THE sha256 OF THE DUMP (.gsa) THAT YteclijealbdhnaaProg.lean LOADS. Nothing in Lean hashes anything: it is a label: what it is worth is what the hold of that sum in a sandbox is worth. -/
noncomputable def Try.pinned : Pinned := { name := "yteclijealbdhnaa", sum := "469074d019487f410fe8548f8d31f24b8db42a9ca6a7035f337b38dde806ad24", checked := Try.checked }
namespace Rows
def none {H : Type} : Left H := { results := [], args := [] }

/-- 'shroudlaw17.RankOrder': WHATEVER THE INPUT: true; the input reads as it did. -/
def rankOrderSpec : ChangeSpec := { name := "rankOrder", fn := fun _ => fun
  | [d1, d2, d3, d4, d5, d6] => { results := [.lit (.bool true)], args := [d1, d2, d3, d4, d5, d6] }
  | _ => none }
def rankOrderRow : OpenClaim := { program := "yteclijealbdhnaa", sum := "469074d019487f410fe8548f8d31f24b8db42a9ca6a7035f337b38dde806ad24", func := "shroud/shroudlaw17.RankOrder", spec := "rankOrder", unfollowed := true, recurses := true, apart := false }
def RankOrderSaid : Prop := rankOrderRow.holds Try.pinned (OpenSpec.ofChange rankOrderSpec)

/-- ITS FALSE NEIGHBOUR: 'it returns false'. Refute it at one input. -/
def rankOrderWrong : ChangeSpec := { name := "rankOrder", fn := fun _ => fun
  | [d1, d2, d3, d4, d5, d6] => { results := [.lit (.bool false)], args := [d1, d2, d3, d4, d5, d6] }
  | _ => none }
def RankOrderWrongFalsely : Prop := rankOrderRow.holds Try.pinned (OpenSpec.ofChange rankOrderWrong)

/-- 'shroudlaw17.RankRaises': WHATEVER THE INPUT: true; the input reads as it did. -/
def rankRaisesSpec : ChangeSpec := { name := "rankRaises", fn := fun _ => fun
  | [d1, d2] => { results := [.lit (.bool true)], args := [d1, d2] }
  | _ => none }
def rankRaisesRow : OpenClaim := { program := "yteclijealbdhnaa", sum := "469074d019487f410fe8548f8d31f24b8db42a9ca6a7035f337b38dde806ad24", func := "shroud/shroudlaw17.RankRaises", spec := "rankRaises", unfollowed := true, recurses := true, apart := false }
def RankRaisesSaid : Prop := rankRaisesRow.holds Try.pinned (OpenSpec.ofChange rankRaisesSpec)

/-- ITS FALSE NEIGHBOUR: 'it returns false'. Refute it at one input. -/
def rankRaisesWrong : ChangeSpec := { name := "rankRaises", fn := fun _ => fun
  | [d1, d2] => { results := [.lit (.bool false)], args := [d1, d2] }
  | _ => none }
def RankRaisesWrongFalsely : Prop := rankRaisesRow.holds Try.pinned (OpenSpec.ofChange rankRaisesWrong)

/-- 'shroudlaw17.RankScales': WHATEVER THE INPUT: true; the input reads as it did. -/
def rankScalesSpec : ChangeSpec := { name := "rankScales", fn := fun _ => fun
  | [d1, d2, d3, d4, d5] => { results := [.lit (.bool true)], args := [d1, d2, d3, d4, d5] }
  | _ => none }
def rankScalesRow : OpenClaim := { program := "yteclijealbdhnaa", sum := "469074d019487f410fe8548f8d31f24b8db42a9ca6a7035f337b38dde806ad24", func := "shroud/shroudlaw17.RankScales", spec := "rankScales", unfollowed := true, recurses := true, apart := false }
def RankScalesSaid : Prop := rankScalesRow.holds Try.pinned (OpenSpec.ofChange rankScalesSpec)

/-- ITS FALSE NEIGHBOUR: 'it returns false'. Refute it at one input. -/
def rankScalesWrong : ChangeSpec := { name := "rankScales", fn := fun _ => fun
  | [d1, d2, d3, d4, d5] => { results := [.lit (.bool false)], args := [d1, d2, d3, d4, d5] }
  | _ => none }
def RankScalesWrongFalsely : Prop := rankScalesRow.holds Try.pinned (OpenSpec.ofChange rankScalesWrong)

/-- 'shroudlaw17.RankSorts': WHATEVER THE INPUT: true; the input reads as it did. -/
def rankSortsSpec : ChangeSpec := { name := "rankSorts", fn := fun _ => fun
  | [d] => { results := [.lit (.bool true)], args := [d] }
  | _ => none }
def rankSortsRow : OpenClaim := { program := "yteclijealbdhnaa", sum := "469074d019487f410fe8548f8d31f24b8db42a9ca6a7035f337b38dde806ad24", func := "shroud/shroudlaw17.RankSorts", spec := "rankSorts", unfollowed := true, recurses := true, apart := false }
def RankSortsSaid : Prop := rankSortsRow.holds Try.pinned (OpenSpec.ofChange rankSortsSpec)

/-- ITS FALSE NEIGHBOUR: 'it returns false'. Refute it at one input. -/
def rankSortsWrong : ChangeSpec := { name := "rankSorts", fn := fun _ => fun
  | [d] => { results := [.lit (.bool false)], args := [d] }
  | _ => none }
def RankSortsWrongFalsely : Prop := rankSortsRow.holds Try.pinned (OpenSpec.ofChange rankSortsWrong)

/-- 'shroudlaw17.RankHeaps': WHATEVER THE INPUT: true; the input reads as it did. -/
def rankHeapsSpec : ChangeSpec := { name := "rankHeaps", fn := fun _ => fun
  | [d] => { results := [.lit (.bool true)], args := [d] }
  | _ => none }
def rankHeapsRow : OpenClaim := { program := "yteclijealbdhnaa", sum := "469074d019487f410fe8548f8d31f24b8db42a9ca6a7035f337b38dde806ad24", func := "shroud/shroudlaw17.RankHeaps", spec := "rankHeaps", unfollowed := true, recurses := true, apart := false }
def RankHeapsSaid : Prop := rankHeapsRow.holds Try.pinned (OpenSpec.ofChange rankHeapsSpec)

/-- ITS FALSE NEIGHBOUR: 'it returns false'. Refute it at one input. -/
def rankHeapsWrong : ChangeSpec := { name := "rankHeaps", fn := fun _ => fun
  | [d] => { results := [.lit (.bool false)], args := [d] }
  | _ => none }
def RankHeapsWrongFalsely : Prop := rankHeapsRow.holds Try.pinned (OpenSpec.ofChange rankHeapsWrong)

/-- 'shroudlaw17.RankKeeps': WHATEVER THE INPUT: true; the input reads as it did. -/
def rankKeepsSpec : ChangeSpec := { name := "rankKeeps", fn := fun _ => fun
  | [d1, d2] => { results := [.lit (.bool true)], args := [d1, d2] }
  | _ => none }
def rankKeepsRow : OpenClaim := { program := "yteclijealbdhnaa", sum := "469074d019487f410fe8548f8d31f24b8db42a9ca6a7035f337b38dde806ad24", func := "shroud/shroudlaw17.RankKeeps", spec := "rankKeeps", unfollowed := true, recurses := true, apart := false }
def RankKeepsSaid : Prop := rankKeepsRow.holds Try.pinned (OpenSpec.ofChange rankKeepsSpec)

/-- ITS FALSE NEIGHBOUR: 'it returns false'. Refute it at one input. -/
def rankKeepsWrong : ChangeSpec := { name := "rankKeeps", fn := fun _ => fun
  | [d1, d2] => { results := [.lit (.bool false)], args := [d1, d2] }
  | _ => none }
def RankKeepsWrongFalsely : Prop := rankKeepsRow.holds Try.pinned (OpenSpec.ofChange rankKeepsWrong)

/- THE SECOND FORM. 'bulk': how many values and letters a reading holds, each counted each time it is reached (what is shared counts as often as it is met; a slice's spare places count too). A statement '..UptoSaid' is the law's where the arguments, and the package variables that the reading takes, are together of bulk at most 1048576: NARROWER than '..Said'. Prove '..Said' where nothing that the law and all that it calls make is longer than what came in: it says more and counts as full. Else prove '..UptoSaid'. A law counts once. -/
mutual
def uptoBulk {H : Type} : DataW H → Nat
  | .lit (.string bytes) => bytes.length + 1
  | .lit _ => 1
  | .nil => 1
  | .ptr d => uptoBulk d + 1
  | .slice elems spare => uptoBulkAll elems + uptoBulkAll spare + 1
  | .agg parts => uptoBulkAll parts + 1
  | .iface _ d => uptoBulk d + 1
  | .map entries => uptoBulkEntries entries + 1
  | .held _ => 1
def uptoBulkAll {H : Type} : List (DataW H) → Nat
  | [] => 0
  | d :: r => uptoBulk d + uptoBulkAll r
def uptoBulkEntries {H : Type} : List (Lit × DataW H) → Nat
  | [] => 0
  | x :: r => uptoBulkEntry x + uptoBulkEntries r
def uptoBulkEntry {H : Type} : Lit × DataW H → Nat
  | (.string bytes, d) => bytes.length + uptoBulk d + 1
  | (_, d) => uptoBulk d + 1
 end
def uptoSmall : (H : Type) → List (DataW H) → Bool := fun _ ds => decide (uptoBulkAll ds ≤ 1048576)
def OpenSpec.upto (s : _root_.Go.ChangeSpec) : _root_.Go.OpenSpec := { _root_.Go.OpenSpec.ofChange s with cond := some uptoSmall }

/-- 'shroudlaw17.RankOrder', WHERE WHAT IT READS IS OF BULK AT MOST 1048576: true; the input reads as it did. -/
def rankOrderUptoRow : OpenClaim := { program := "yteclijealbdhnaa", sum := "469074d019487f410fe8548f8d31f24b8db42a9ca6a7035f337b38dde806ad24", func := "shroud/shroudlaw17.RankOrder", spec := "rankOrder", unfollowed := true, recurses := true, apart := false, narrowed := true }
def RankOrderUptoSaid : Prop := rankOrderUptoRow.holds Try.pinned (OpenSpec.upto rankOrderSpec)

/-- 'shroudlaw17.RankRaises', WHERE WHAT IT READS IS OF BULK AT MOST 1048576: true; the input reads as it did. -/
def rankRaisesUptoRow : OpenClaim := { program := "yteclijealbdhnaa", sum := "469074d019487f410fe8548f8d31f24b8db42a9ca6a7035f337b38dde806ad24", func := "shroud/shroudlaw17.RankRaises", spec := "rankRaises", unfollowed := true, recurses := true, apart := false, narrowed := true }
def RankRaisesUptoSaid : Prop := rankRaisesUptoRow.holds Try.pinned (OpenSpec.upto rankRaisesSpec)

/-- 'shroudlaw17.RankScales', WHERE WHAT IT READS IS OF BULK AT MOST 1048576: true; the input reads as it did. -/
def rankScalesUptoRow : OpenClaim := { program := "yteclijealbdhnaa", sum := "469074d019487f410fe8548f8d31f24b8db42a9ca6a7035f337b38dde806ad24", func := "shroud/shroudlaw17.RankScales", spec := "rankScales", unfollowed := true, recurses := true, apart := false, narrowed := true }
def RankScalesUptoSaid : Prop := rankScalesUptoRow.holds Try.pinned (OpenSpec.upto rankScalesSpec)

/-- 'shroudlaw17.RankSorts', WHERE WHAT IT READS IS OF BULK AT MOST 1048576: true; the input reads as it did. -/
def rankSortsUptoRow : OpenClaim := { program := "yteclijealbdhnaa", sum := "469074d019487f410fe8548f8d31f24b8db42a9ca6a7035f337b38dde806ad24", func := "shroud/shroudlaw17.RankSorts", spec := "rankSorts", unfollowed := true, recurses := true, apart := false, narrowed := true }
def RankSortsUptoSaid : Prop := rankSortsUptoRow.holds Try.pinned (OpenSpec.upto rankSortsSpec)

/-- 'shroudlaw17.RankHeaps', WHERE WHAT IT READS IS OF BULK AT MOST 1048576: true; the input reads as it did. -/
def rankHeapsUptoRow : OpenClaim := { program := "yteclijealbdhnaa", sum := "469074d019487f410fe8548f8d31f24b8db42a9ca6a7035f337b38dde806ad24", func := "shroud/shroudlaw17.RankHeaps", spec := "rankHeaps", unfollowed := true, recurses := true, apart := false, narrowed := true }
def RankHeapsUptoSaid : Prop := rankHeapsUptoRow.holds Try.pinned (OpenSpec.upto rankHeapsSpec)

/-- 'shroudlaw17.RankKeeps', WHERE WHAT IT READS IS OF BULK AT MOST 1048576: true; the input reads as it did. -/
def rankKeepsUptoRow : OpenClaim := { program := "yteclijealbdhnaa", sum := "469074d019487f410fe8548f8d31f24b8db42a9ca6a7035f337b38dde806ad24", func := "shroud/shroudlaw17.RankKeeps", spec := "rankKeeps", unfollowed := true, recurses := true, apart := false, narrowed := true }
def RankKeepsUptoSaid : Prop := rankKeepsUptoRow.holds Try.pinned (OpenSpec.upto rankKeepsSpec)

end Rows
end Go.Proofs.Yteclijealbdhnaa
