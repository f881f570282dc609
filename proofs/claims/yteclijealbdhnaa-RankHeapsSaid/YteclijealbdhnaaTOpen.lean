/- The argument of RankHeaps: a slice of structs of two whole numbers. -/
import Derived.Test.YteclijealbdhnaaTHeaps
import Derived.ChangeSame
import Derived.ChangeSlices
namespace Go.Proofs.Yteclijealbdhnaa
open Go.RowKit

theorem Try.under41 : Try.prog.underlying 41 = some (.slice 49) := by kernel_rfl
theorem Try.under49 : ∃ f0 f1 : Field, Try.prog.underlying 49 = some (.struct #[f0, f1]) ∧ f0.type = 3 ∧ f0.offset = 0 ∧ f1.type = 3 ∧ f1.offset = 1 := by
  have h : (match Try.prog.underlying 49 with | some (.struct fs) => (match fs.toList with | [f0, f1] => f0.type == 3 && f0.offset == 0 && f1.type == 3 && f1.offset == 1 | _ => false) | _ => false) = true := by kernel_rfl
  split at h
  · rename_i fs hfs
    split at h
    · rename_i f0 f1 hl
      simp only [Bool.and_eq_true, beq_iff_eq] at h
      refine ⟨f0, f1, ?_, h.1.1.1, h.1.1.2, h.1.2, h.2⟩
      rw [hfs, ← hl]
    · cases h
  · cases h
theorem Try.under3 : Try.prog.underlying 3 = some (.int .i64) := by kernel_rfl
theorem Try.cells3 : Try.prog.cellsOf 3 = 1 := by kernel_rfl
theorem Try.cells49 : Try.prog.cellsOf 49 = 2 := by kernel_rfl

theorem open_op {H : Type} {enc : TypeId × Value → H} {w : World} {base : Nat} {spare : Nat → Bool} {held : Bool} {fuel : Nat} {cs : List Value} {x : DataW H × List MemPlace} (h : DataW.trod enc Try.prog w base spare held fuel 49 cs = some x) :
    ∃ a b : Int, cs = [.int .i64 a, .int .i64 b] := by
  obtain ⟨f0, f1, hu, t0, o0, t1, o1⟩ := Try.under49
  obtain ⟨y0, y1, n, _, hl, h0, h1⟩ := Go.ChangeShapes.trod_struct2 hu h
  rw [t0, o0, Try.cells3] at h0
  rw [t1, o1, Try.cells3] at h1
  rw [Try.cells49] at hl
  obtain ⟨a, ha, _⟩ := DataW.trod_int Try.under3 h0
  obtain ⟨b, hb, _⟩ := DataW.trod_int Try.under3 h1
  match cs, hl with
  | [u, v], _ =>
    simp at ha hb
    exact ⟨a, b, by rw [ha, hb]⟩

theorem addr_add (b off j : Nat) : (⟨b, off, none⟩ : Addr).add j = ⟨b, off + j, none⟩ := by unfold Addr.add; split <;> simp_all

theorem open_ops {H : Type} {enc : TypeId × Value → H} {w : World} {base : Nat} {spare : Nat → Bool} {held : Bool} {fuel : Nat} {a0 : Option Addr} {len cap : Nat} {x : DataW H × List MemPlace} (h : DataW.trod enc Try.prog w base spare held fuel 41 [.slice a0 len cap] = some x) :
    len ≤ maxLen ∧ (len = 0 ∨ ∃ zs, RowK w a0 len cap zs) := by
  rcases DataW.trod_slice Try.under41 h with ⟨h0, _⟩ | ⟨a, l, c, elems, rest, n, _, hcs, _, hb, hl, hm, hlen, hel, _, _⟩
  · simp at h0
    exact ⟨by omega, .inl h0.2.1⟩
  · simp at hcs
    obtain ⟨rfl, rfl, rfl⟩ := hcs
    refine ⟨by omega, ?_⟩
    by_cases hz : len = 0
    · exact .inl hz
    right
    have each : ∀ i, i < len → ∃ z : Th, w.cell? (a.add (i * 2)) = some (.int .i64 z.1) ∧ w.cell? ((a.add (i * 2)).add 1) = some (.int .i64 z.2) := fun i hi => by
      have h1 := hel i hi
      rw [List.getElem?_eq_getElem (by omega), Try.cells49, Option.bind_eq_some_iff] at h1
      obtain ⟨cs, h2, h3⟩ := h1
      obtain ⟨u, v, rfl⟩ := open_op h3
      obtain ⟨_, _, h4⟩ := World.cells?_some h2
      refine ⟨(u, v), ?_, ?_⟩
      · have := h4 0 (by omega); simpa [Addr.add] using this
      · have := h4 1 (by omega); simpa using this
    obtain ⟨b, off, spot⟩ := a
    have hspot : spot = none := by
      obtain ⟨z, hz1, _⟩ := each 0 (by omega)
      simpa [Addr.add] using World.cell?_spot hz1
    subst hspot
    refine ⟨(List.range len).map fun i => if hi : i < len then (each i hi).choose else (0, 0), .inr ⟨b, off, rfl, by simp, hl, ?_, fun i hi => ?_⟩⟩
    · obtain ⟨z, hz1, _⟩ := each 0 (by omega)
      have := World.block_lt_of_cell? w _ hz1
      simpa [Addr.add] using this
    · have e := (each i hi).choose_spec
      have hg : ((List.range len).map fun i => if hi : i < len then (each i hi).choose else (0, 0)).getD i (0, 0) = (each i hi).choose := by
        rw [List.getD_eq_getElem?_getD, List.getElem?_map, List.getElem?_range hi]
        simp [hi]
      obtain ⟨z, hzz⟩ : ∃ z, (each i hi).choose = z := ⟨_, rfl⟩
      rw [hg, hzz]
      rw [hzz, addr_add, addr_add] at e
      exact e
end Go.Proofs.Yteclijealbdhnaa
