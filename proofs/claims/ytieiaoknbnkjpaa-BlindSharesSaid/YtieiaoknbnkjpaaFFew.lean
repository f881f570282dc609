/- Numbers below 10, each one's first, fewer than a number. -/
import Derived.Test.YtieiaoknbnkjpaaFSeen
import Derived.Outline
namespace Go.Proofs.Ytieiaoknbnkjpaa.Rf
open Go.RowKit Go.Proofs.YtieiaoknbnkjpaaW.PrintWords Go.Proofs.YtieiaoknbnkjpaaW.PrintLast Go.Proofs.YtieiaoknbnkjpaaW.PrintMore

theorem info57 : (Try.prog.info? 57).map (·.zero) = some (some (.agg #[.bool false, .bool false, .bool false, .bool false, .bool false, .bool false, .bool false, .bool false, .bool false, .bool false])) := by kernel_rfl
theorem zv57 (w : World) : (zeroValue 57).run Try.prog w = .ok (.agg #[.bool false, .bool false, .bool false, .bool false, .bool false, .bool false, .bool false, .bool false, .bool false, .bool false]) w := by
  obtain ⟨i, hi, hz⟩ := Option.map_eq_some_iff.1 info57
  simp [zeroValue, typeInfo, hi, hz]
theorem infoI3 : (Try.prog.info? 3).map (fun i => (i.zero, i.size, i.bytes)) = some (some (.int .i64 0), 1, 8) := by kernel_rfl
def fewStep (k : Int) (out : List Int) (x : Int) : List Int := if out.contains (x % 10) = false ∧ (out.length : Int) + 1 < k then out ++ [x % 10] else out
def fewL (k : Int) (l : List Int) : List Int := l.foldl (fewStep k) []
theorem fewL_snoc (k : Int) (l : List Int) (x : Int) : fewL k (l ++ [x]) = fewStep k (fewL k l) x := by simp [fewL]
theorem fewL_length0 (k : Int) : ∀ (l out : List Int), (l.foldl (fewStep k) out).length ≤ out.length + l.length
  | [], _ => by simp
  | x :: l, out => by
    have h := fewL_length0 k l (fewStep k out x)
    have h2 : (fewStep k out x).length ≤ out.length + 1 := by
      unfold fewStep
      split <;> simp
    simp only [List.foldl_cons, List.length_cons]
    omega
theorem fewL_length (k : Int) (l : List Int) : (fewL k l).length ≤ l.length := by simpa [fewL] using fewL_length0 k l []
def shroudlaw06_few.f (l : List Int) (k : Int) : Option (List Int) := if l.length < 1000000 ∧ Bytes l then some (fewL k l) else none
set_option maxRecDepth 100000 in
set_option maxHeartbeats 8000000 in
theorem shroudlaw06_few.calls (A0 : Option Addr) (c0 : Nat) (l0 : List Int) (a1 : Int) (r : List Int) (w : World) (hr0 : Kd.C (Kd.int .u8) w A0 l0.length l0) (hc0 : l0.length ≤ c0) (h : shroudlaw06_few.f l0 a1 = some r) :
    Calls Try.prog 13 #[.slice A0 l0.length c0, .int .i64 a1] w fun e w' => ∃ v0_ : Value, e = .returned (v0_) ∧ Kd.R (Kd.int .i64) 3 w' w.heap.size (fun _ => True) v0_ r ∧ Below w.heap.size w w' := by
  unfold shroudlaw06_few.f at h
  split at h
  case isFalse => cases h
  rename_i hh
  obtain ⟨hlen, hby⟩ := hh
  have HR := Aside0.mk (Option.some.inj h)
  have HC := Aside0.mk hr0
  have HL := Aside0.mk hlen
  have HBY := Aside0.mk hby
  have hm := hr0.2.1
  have hz := zv57
  clear h hr0 hc0 hlen hby
  go_enter Try.func13, Try.ntmps13
  go_wp2_with fail
  have HS := Aside0.mk (show Seen 10 [] #[.bool false, .bool false, .bool false, .bool false, .bool false, .bool false, .bool false, .bool false, .bool false, .bool false] from seen_zero 10)
  have HG := Aside0.mk (heap_alloc_new w (.cells #[.bool false, .bool false, .bool false, .bool false, .bool false, .bool false, .bool false, .bool false, .bool false, .bool false] 57))
  have HB := Aside0.mk ((Below.refl w.heap.size w).alloc (Nat.le_refl _) (.cells #[.bool false, .bool false, .bool false, .bool false, .bool false, .bool false, .bool false, .bool false, .bool false, .bool false] 57))
  go_loopw [5, 12] (fun v i wr => ∃ (j : Nat) (cs : Array Value), j ≤ l0.length ∧ i = .int .i64 j ∧ Aside0 (Seen 10 (fewL a1 (l0.take j)) cs) ∧ Aside0 (wr.heap[w.heap.size]? = some (.cells cs 57 (0, 0))) ∧ Aside0 (Kd.R (Kd.int .i64) 3 wr w.heap.size (fun _ => True) v (fewL a1 (l0.take j))) ∧ Aside0 (Below w.heap.size w wr)) (fun _ i _ => l0.length - (intOf i).toNat)
  case atStart => exact ⟨0, _, Nat.zero_le _, rfl, ⟨by simpa [fewL] using HS.out⟩, HG, ⟨by simpa [fewL] using Kd.R_nil _ _ _ _ _⟩, HB⟩
  case round =>
    clear HS HG HB
    obtain ⟨j, cs, hj, rfl, hS, hG, hR, hB⟩ := hrel
    by_cases hlt : j < l0.length
    · have i1 : (j : Int) < (l0.length : Int) := by omega
      have i0 : (0 : Int) ≤ (j : Int) := by omega
      obtain ⟨ad, e, x0⟩ := Kd.at_int HC.out (j : Int) i0 i1
      subst e
      replace x0 := (hB.out.cell (World.block_lt_of_cell? w _ x0)).trans x0
      unfold rd at x0
      simp only [Int.toNat_natCast] at x0
      have hx := HBY.out (l0.getD j 0) (by rw [List.getD_eq_getElem?_getD, List.getElem?_eq_getElem hlt]; exact List.getElem_mem _)
      obtain ⟨x, ex⟩ : ∃ x : Nat, Aside0 (l0.getD j 0 = (x : Int)) := ⟨(l0.getD j 0).toNat, ⟨by omega⟩⟩
      rw [ex.out] at x0 hx
      have x256 : (x : Int) < 256 := hx.2
      obtain ⟨y, ey⟩ : ∃ y : Nat, Aside0 ((x : Int) % 10 = (y : Int)) := ⟨x % 10, ⟨by omega⟩⟩
      have y10 : y < 10 := by have := ey.out; omega
      have hy := ey.out
      have hst : fewL a1 (l0.take (j + 1)) = fewStep a1 (fewL a1 (l0.take j)) (x : Int) := by
        rw [List.take_succ_eq_append_getElem hlt, fewL_snoc]
        have h2 := ex.out
        rw [List.getD_eq_getElem?_getD, List.getElem?_eq_getElem hlt] at h2
        rw [show l0[j] = (x : Int) from h2]
      unfold fewStep at hst
      rw [hy] at hst
      have hol := fewL_length a1 (l0.take j)
      rw [List.length_take, Nat.min_eq_left hj] at hol
      obtain ⟨out, eo⟩ : ∃ out, Aside0 (fewL a1 (l0.take j) = out) := ⟨_, ⟨rfl⟩⟩
      rw [eo.out] at hS hR hst hol
      have HST := Aside0.mk hst
      have HOL := Aside0.mk hol
      have hb0 : wr.cell? ⟨w.heap.size, y, none⟩ = some (.bool (out.contains (y : Int))) := (blk_cell hG.out y).trans (hS.out.2 y y10)
      have hf0 : wr.frozen? ⟨w.heap.size, y, none⟩ = false := blk_frozen hG.out y
      obtain ⟨b, eb⟩ : ∃ b, Aside0 (out.contains (y : Int) = b) := ⟨_, ⟨rfl⟩⟩
      rw [eb.out] at hb0
      obtain ⟨A5, c5, e5⟩ := Kd.R_slice hR.out
      clear hx hst hol
      cases b with
      | true =>
        subst e5
        go_wp2_with fail
        refine ⟨⟨j + 1, cs, by omega, by go_num, ⟨?_⟩, hG, ⟨?_⟩, hB⟩, by simp [intOf]; omega⟩
        · rw [HST.out, if_neg (by rw [eb.out]; simp)]; exact hS.out
        · rw [HST.out, if_neg (by rw [eb.out]; simp)]; exact hR.out
      | false =>
        by_cases hk : (out.length : Int) + 1 < a1
        · have dk : decide ((out.length : Int) + 1 < a1) = true := decide_eq_true hk
          have HK := Aside0.mk hk
          clear hk
          have hol2 : out.length ≤ 9223372036854775800 := by have := HOL.out; have := HL.out; omega
          subst e5
          go_wp2_with (first | ((with_reducible refine gate_store (t := 4) (p := 33) rfl ?_); refine store_event (t := 4) (p := 33) (v := ?vo_w14) (w1 := (wr.setCell ⟨w.heap.size, y, none⟩ (.bool true))) ?hg ?ho ?hn ?hr ?_; (case ho => rfl); (case hg => rfl); (case hn => rfl); (case hr => first | (go_simp; done) | (go_simp; rfl)); intro w15 hw; have G1 := Aside0.mk (show w15.heap[w.heap.size]? = some (.cells (cs.setIfInBounds y (.bool true)) 57 (0, 0)) by rw [hw]; exact blk_set hG.out _ _); have R1 := Aside0.mk (show Kd.R (Kd.int .i64) 3 w15 w.heap.size (fun _ => True) (.slice A5 out.length c5) out by rw [hw]; exact Kd.R_set hR.out hG.out (by decide) _ _); have B1 := Aside0.mk (show Below w.heap.size w w15 by rw [hw]; exact hB.out.setCell (Nat.le_refl _) _); clear hw hb0 hf0) | ((with_reducible refine gate_builtin (b := .append) (xs := #[.tmp 34, .tmp 36]) rfl ?_); at_builtin; refine Kd.R_append (Kd.int .i64) (w0 := w) w.heap.size rfl (.tmp 34) (.tmp 36) 23 3 (.int .i64 0) 8 rfl Try.underlying23 infoI3 rfl (by decide) (by omega) (.slice A5 out.length c5) out (y : Int) [.int .i64 (y : Int)] (fun _ => True) (fun _ => False) rfl rfl ?aP (fun _ hk => hk.elim) ?aF ?aO ?aB ?aS ?aL ?_; (case aP => rfl); (case aB => exact B1.out); (case aF => exact (fun _ _ => trivial)); (case aO => exact R1.out); (case aS => exact B1.out.size); (case aL => have := HL.out; have := HOL.out; omega); intro v244 w22 ho hb hg hat; have G2 := Aside0.mk (blk_grown G1.out hg (Kd.R_ne R1.out G1.out (by decide))); have R2 := Aside0.mk ho; have B2 := Aside0.mk hb; clear G1 R1 B1 ho hb hg hat))
          refine ⟨⟨j + 1, _, by omega, by go_num, ⟨?_⟩, G2, ⟨?_⟩, B2⟩, by simp [intOf]; omega⟩
          · rw [HST.out, if_pos ⟨eb.out, HK.out⟩]; exact seen_set hS.out y10
          · rw [HST.out, if_pos ⟨eb.out, HK.out⟩]; exact R2.out
        · have dk : decide ((out.length : Int) + 1 < a1) = false := decide_eq_false hk
          have HK := Aside0.mk hk
          clear hk
          have hol2 : out.length ≤ 9223372036854775800 := by have := HOL.out; have := HL.out; omega
          subst e5
          go_wp2_with fail
          refine ⟨⟨j + 1, cs, by omega, by go_num, ⟨?_⟩, hG, ⟨?_⟩, hB⟩, by simp [intOf]; omega⟩
          · rw [HST.out, if_neg (fun h => HK.out h.2)]; exact hS.out
          · rw [HST.out, if_neg (fun h => HK.out h.2)]; exact hR.out
    · obtain rfl : j = l0.length := by omega
      go_wp2_with fail
      go_ret
      refine ⟨_, rfl, ?_, hB.out⟩
      have := hR.out
      rw [List.take_length] at this
      rw [← HR.out]
      exact this
end Go.Proofs.Ytieiaoknbnkjpaa.Rf
