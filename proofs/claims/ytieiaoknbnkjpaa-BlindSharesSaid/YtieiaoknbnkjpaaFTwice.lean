/- Have two points one place? -/
import Derived.Test.YtieiaoknbnkjpaaFSeen
namespace Go.Proofs.Ytieiaoknbnkjpaa.Rf
open Go.RowKit Go.Proofs.YtieiaoknbnkjpaaW.PrintWords

theorem info73 : (Try.prog.info? 73).map (·.zero) = some (some (.agg (zb 256))) := by kernel_rfl
theorem zv73 (w : World) : (zeroValue 73).run Try.prog w = .ok (.agg (zb 256)) w := by
  obtain ⟨i, hi, hz⟩ := Option.map_eq_some_iff.1 info73
  simp [zeroValue, typeInfo, hi, hz]
def xs53 (l : List S53) : List Int := l.map (·.f0)
theorem xs53_rd (l : List S53) (i : Int) : (rd_T53 l i).f0 = (xs53 l).getD i.toNat 0 := by
  unfold rd_T53 xs53
  rw [List.getD_eq_getElem?_getD, List.getD_eq_getElem?_getD, List.getElem?_map]
  cases l[i.toNat]? <;> rfl
def poly_twice.f (l : List S53) : Option Bool := if Bytes (xs53 l) then some (!decide (xs53 l).Nodup) else none
set_option maxRecDepth 100000 in
set_option maxHeartbeats 4000000 in
theorem poly_twice.calls (A0 : Option Addr) (c0 : Nat) (l0 : List S53) (r : Bool) (w : World) (hr0 : Kd.C k53 w A0 l0.length l0) (hc0 : l0.length ≤ c0) (h : poly_twice.f l0 = some r) :
    Calls Try.prog 35 #[.slice A0 l0.length c0] w fun e w' => e = .returned (.bool r) ∧ Below w.heap.size w w' := by
  unfold poly_twice.f at h
  split at h
  case isFalse => cases h
  rename_i hB
  have HR := Aside0.mk (Option.some.inj h)
  have HBy := Aside0.mk hB
  have HC := Aside0.mk hr0
  have hm : l0.length ≤ 9223372036854775807 := hr0.2.1
  have HS := Aside0.mk (seen_zero 256)
  have hz := zv73
  have hu53 := Try.underlying53
  clear h hB hr0
  go_enter Try.func35, Try.ntmps35
  go_wp2_with fail
  generalize zb 256 = cs0 at *
  go_loopw [8] (fun i wr => ∃ (k : Nat) (cs : Array Value), k ≤ l0.length ∧ i = .int .i64 k ∧ Aside0 (((xs53 l0).take k).Nodup) ∧ Aside0 (Seen 256 ((xs53 l0).take k) cs) ∧ Aside0 (wr.heap[w.heap.size]? = some (.cells cs 73 (0, 0))) ∧ Aside0 (Below w.heap.size w wr)) (fun i _ => l0.length - (intOf i).toNat)
  case atStart => exact ⟨0, cs0, Nat.zero_le _, rfl, ⟨by simp⟩, ⟨by simpa using HS.out⟩, ⟨heap_alloc_new w _⟩, ⟨(Below.refl _ _).alloc (Nat.le_refl _) _⟩⟩
  case round =>
    obtain ⟨k, cs, hk, rfl, hN, hS, hW, hB⟩ := hrel
    by_cases hlt : k < l0.length
    · have i1 : (k : Int) < (l0.length : Int) := by omega
      have i0 : (0 : Int) ≤ (k : Int) := by omega
      obtain ⟨ad, rfl, x0, x1⟩ := at_T53 HC.out (k : Int) i0 i1
      rw [xs53_rd] at x0
      obtain ⟨y, hy⟩ : ∃ y, Aside0 ((rd_T53 l0 (k : Int)).f1 = y) := ⟨_, ⟨rfl⟩⟩
      rw [hy.out] at x1
      simp only [Int.toNat_natCast] at x0 x1
      have hxl : (xs53 l0).length = l0.length := by simp [xs53]
      obtain ⟨x, hx⟩ : ∃ x : Nat, Aside0 ((xs53 l0).getD k 0 = (x : Int)) := by
        have := HBy.out ((xs53 l0).getD k 0) (by rw [List.getD_eq_getElem?_getD, List.getElem?_eq_getElem (by omega)]; exact List.getElem_mem _)
        exact ⟨((xs53 l0).getD k 0).toNat, ⟨by omega⟩⟩
      have hx256 : x < 256 := by
        have := HBy.out ((xs53 l0).getD k 0) (by rw [List.getD_eq_getElem?_getD, List.getElem?_eq_getElem (by omega)]; exact List.getElem_mem _)
        rw [hx.out] at this; omega
      rw [hx.out] at x0
      replace x0 := (hB.out.cell (World.block_lt_of_cell? w _ x0)).trans x0
      replace x1 := (hB.out.cell (World.block_lt_of_cell? w _ x1)).trans x1
      have hb0 : wr.cell? ⟨w.heap.size, x, none⟩ = some (.bool (((xs53 l0).take k).contains (x : Int))) := (blk_cell hW.out x).trans (hS.out.2 x hx256)
      have hf0 : wr.frozen? ⟨w.heap.size, x, none⟩ = false := blk_frozen hW.out x
      have gl := blk_lt hW.out
      obtain ⟨b, hbb⟩ : ∃ b, Aside0 (((xs53 l0).take k).contains (x : Int) = b) := ⟨_, ⟨rfl⟩⟩
      rw [hbb.out] at hb0
      have i2 : (x : Int) < 256 := by omega
      cases b with
      | true =>
        go_wp2_with fail
        go_ret
        refine ⟨?_, ?_⟩
        · rw [← HR.out, decide_eq_false (not_nodup_of (k := k) (by omega) (by rw [hx.out]; exact hbb.out))]; rfl
        · exact hB.out.alloc hB.out.size _
      | false =>
        go_wp2_with fail
        have ht : (xs53 l0).take (k + 1) = (xs53 l0).take k ++ [(x : Int)] := by
          rw [List.take_succ_eq_append_getElem (by omega)]
          have := hx.out
          rw [List.getD_eq_getElem?_getD, List.getElem?_eq_getElem (by omega)] at this
          have e : (xs53 l0)[k]'(by omega) = (x : Int) := by simpa using this
          rw [e]
        refine ⟨⟨k + 1, _, by omega, by go_num, ⟨(getD_nodup (by omega) hN.out).2 (by rw [hx.out]; exact hbb.out)⟩, ⟨by rw [ht]; exact seen_set hS.out hx256⟩, ⟨?_⟩, ⟨?_⟩⟩, by simp [intOf]; omega⟩
        · rw [Below.heap_alloc _ _ _ (by simpa [World.setCell] using gl)]
          exact blk_set hW.out _ _
        · exact (hB.out.setCell (Nat.le_refl _) _).alloc (by simpa [World.setCell] using hB.out.size) _
    · obtain rfl : k = l0.length := by omega
      go_wp2_with fail
      go_ret
      refine ⟨?_, hB.out⟩
      have := hN.out
      rw [List.take_of_length_le (by simp [xs53])] at this
      rw [← HR.out, decide_eq_true this]; rfl
end Go.Proofs.Ytieiaoknbnkjpaa.Rf
