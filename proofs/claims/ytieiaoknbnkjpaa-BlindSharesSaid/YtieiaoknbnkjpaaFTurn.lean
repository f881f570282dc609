/- The polynomial that is 1 at 0, and 0 at some places. -/
import Derived.Test.YtieiaoknbnkjpaaFSeen
import Derived.Test.YtieiaoknbnkjpaaRf8
namespace Go.Proofs.Ytieiaoknbnkjpaa.Rf
open Go.RowKit Go.Proofs.YtieiaoknbnkjpaaW.PrintWords Go.Proofs.YtieiaoknbnkjpaaW.PrintLast Go.Proofs.YtieiaoknbnkjpaaW.PrintMore

theorem info61 : (Try.prog.info? 61).map (·.zero) = some (some (.agg (zb 200))) := by kernel_rfl
theorem zv61 (w : World) : (zeroValue 61).run Try.prog w = .ok (.agg (zb 200)) w := by
  obtain ⟨i, hi, hz⟩ := Option.map_eq_some_iff.1 info61
  simp [zeroValue, typeInfo, hi, hz]
/-- They may be: each one in bounds, none twice. -/
def okWho (l : List Int) : Prop := (∀ x ∈ l, 0 ≤ x ∧ x < 200) ∧ l.Nodup
instance (l : List Int) : Decidable (okWho l) := by unfold okWho; infer_instance
def ptsOf (l : List Int) : List S53 := (⟨0, 1⟩ : S53) :: l.map fun x => ⟨x + 1, 0⟩
theorem ptsOf_snoc (l : List Int) (x : Int) : ptsOf (l ++ [x]) = ptsOf l ++ [⟨x + 1, 0⟩] := by simp [ptsOf]
def blind_turning.f (k : Nat) (p : Nat) (l : List Int) : Option (List Int × Int) := if l.length < 1000000 then (if okWho l then poly_Through.f k p (ptsOf l) else some ([], 1)) else none
theorem blind_turning.mono : ∀ a0 a1 k, LeO (blind_turning.f k a0 a1) (blind_turning.f (k + 1) a0 a1) := by
  intro a0 a1 k
  unfold blind_turning.f
  exact LeO.ite (LeO.ite (poly_Through.mono _ _ _) (LeO.refl _)) (LeO.refl _)
theorem okWho_not {l : List Int} {k : Nat} (hk : k < l.length) (h : ¬ (0 ≤ l.getD k 0 ∧ l.getD k 0 < 200) ∨ (l.take k).contains (l.getD k 0) = true) : ¬ okWho l := fun ho => by
  rcases h with h | h
  · apply h
    rw [List.getD_eq_getElem?_getD, List.getElem?_eq_getElem hk]
    exact ho.1 _ (List.getElem_mem _)
  · exact not_nodup_of hk h ho.2
theorem okWho_take {l : List Int} {k : Nat} (hk : k < l.length) (h0 : okWho (l.take k)) (h1 : 0 ≤ l.getD k 0 ∧ l.getD k 0 < 200) (h2 : (l.take k).contains (l.getD k 0) = false) : okWho (l.take (k + 1)) := by
  refine ⟨?_, (getD_nodup hk h0.2).2 h2⟩
  rw [List.take_succ_eq_append_getElem hk]
  intro x hx
  rcases List.mem_append.1 hx with hx | hx
  · exact h0.1 x hx
  · rw [List.mem_singleton.1 hx]
    rw [List.getD_eq_getElem?_getD, List.getElem?_eq_getElem hk] at h1
    exact h1
theorem take_snoc_getD {l : List Int} {k : Nat} (hk : k < l.length) : l.take (k + 1) = l.take k ++ [l.getD k 0] := by
  rw [List.take_succ_eq_append_getElem hk, List.getD_eq_getElem?_getD, List.getElem?_eq_getElem hk]; rfl
set_option maxRecDepth 100000 in
set_option maxHeartbeats 8000000 in
theorem blind_turning.calls (k : Nat) (a0 : Nat) (A1 : Option Addr) (c1 : Nat) (l1 : List Int) (r1 : List Int) (r2 : Int) (w : World) (hF0 : Fld w a0) (hr1 : Kd.C (Kd.int .i64) w A1 l1.length l1) (hc1 : l1.length ≤ c1) (h : blind_turning.f k a0 l1 = some (r1, r2)) :
    Calls Try.prog 19 #[.pointer (some ⟨a0, 0, none⟩), .slice A1 l1.length c1] w fun e w' => ∃ v0_ : Value, e = .returned (.tuple #[v0_, .int .i64 r2]) ∧ Kd.R (Kd.int .u8) 5 w' w.heap.size (fun _ => True) v0_ r1 ∧ Below w.heap.size w w' := by
  unfold blind_turning.f at h
  split at h
  case isFalse => cases h
  rename_i hlen
  have HL := Aside0.mk hlen
  have HH := Aside0.mk h
  clear hlen
  have HF := Aside0.mk hF0
  have HC := Aside0.mk hr1
  have hm : l1.length ≤ 9223372036854775807 := hr1.2.1
  have HS := Aside0.mk (seen_zero 200)
  have hz := zv61
  have HB := Aside0.mk ((Below.refl w.heap.size w).alloc (Nat.le_refl _) (.cells (zb 200) 61))
  have HG := Aside0.mk (heap_alloc_new w (.cells (zb 200) 61))
  clear h hF0 hr1
  generalize zb 200 = cs0 at *
  go_enter Try.func19, Try.ntmps19
  go_wp2_with (first | ((with_reducible refine gate_dst (N := 11) rfl ?_); refine Kd.R_lit k53 _ 53 ?hg (N := 11) ?hd (xs := ([(⟨0, 1⟩ : S53)] : List (S53))) (inner := [.int .u8 0, .int .u8 1]) (ok := fun _ => True) (okp := fun _ => True) ?hr ?hp (fun _ hk => hk) trivial (Below.refl _ _) (Nat.le_refl _) (by simp) ?_; (case hd => rfl); (case hg => rfl); (case hr => first | (go_simp; done) | (go_simp; rfl)); (case hp => exact (Reps.c2 (show Kd.M k53 _ _ _ (⟨0, 1⟩ : S53) [.int .u8 0, .int .u8 1] from (k53_mkM _ _ _ (⟨0, 1⟩ : S53) )) (Reps.none _ _))); intro v238 w14 ho15 hb hg_ hnew_; clear hg_ hnew_; have HO := Aside0.mk (Kd.R_lower ho15 HB.out.size); have HG1 := Aside0.mk ((hb.block _ (blk_lt HG.out)).trans HG.out); have HB1 := Aside0.mk (HB.out.trans (hb.mono HB.out.size)); clear HB HG hb ho15))
  go_loopw [7, 14] (fun v i wr => ∃ (j : Nat) (cs : Array Value), j ≤ l1.length ∧ i = .int .i64 j ∧ Aside0 (okWho (l1.take j)) ∧ Aside0 (Seen 200 (l1.take j) cs) ∧ Aside0 (wr.heap[w.heap.size]? = some (.cells cs 61 (0, 0))) ∧ Aside0 (Kd.R k53 53 wr w.heap.size (fun _ => True) v (ptsOf (l1.take j))) ∧ Aside0 (Below w.heap.size w wr)) (fun _ i _ => l1.length - (intOf i).toNat)
  case atStart => exact ⟨0, cs0, Nat.zero_le _, rfl, ⟨by simp [okWho]⟩, ⟨by simpa using HS.out⟩, HG1, ⟨by simpa [ptsOf] using HO.out⟩, HB1⟩
  case round =>
    clear HG1 HB1 HO
    obtain ⟨j, cs, hj, rfl, hN, hS, hG, hR, hB⟩ := hrel
    have gl := Aside0.mk (blk_lt hG.out)
    by_cases hlt : j < l1.length
    · have i1 : (j : Int) < (l1.length : Int) := by omega
      have i0 : (0 : Int) ≤ (j : Int) := by omega
      obtain ⟨ad, rfl, x0⟩ := Kd.at_int HC.out (j : Int) i0 i1
      replace x0 := (hB.out.cell (World.block_lt_of_cell? w _ x0)).trans x0
      unfold rd at x0
      simp only [Int.toNat_natCast] at x0
      obtain ⟨z, hz⟩ : ∃ z, Aside0 (l1.getD j 0 = z) := ⟨_, ⟨rfl⟩⟩
      rw [hz.out] at x0
      have fin : ∀ b : Bool, (¬ (0 ≤ z ∧ z < 200) ∨ (l1.take j).contains z = true) → r1 = [] ∧ r2 = 1 := fun b hb => by
        have := HH.out
        rw [if_neg (okWho_not hlt (by rw [hz.out]; exact hb))] at this
        obtain ⟨rfl, rfl⟩ : [] = r1 ∧ 1 = r2 := by simpa using this
        exact ⟨rfl, rfl⟩
      have FIN := Aside0.mk fin
      clear fin
      by_cases c1 : z < 0
      · obtain ⟨rfl, rfl⟩ := FIN.out true (.inl (by omega))
        go_wp2_with fail
        go_ret2
        exact ⟨_, rfl, Kd.R_nil _ _ _ _ _, hB.out⟩
      · have d1 : decide (z < 0) = false := decide_eq_false c1
        by_cases c2 : 200 ≤ z
        · obtain ⟨rfl, rfl⟩ := FIN.out true (.inl (by omega))
          clear c1
          go_wp2_with fail
          go_ret2
          exact ⟨_, rfl, Kd.R_nil _ _ _ _ _, hB.out⟩
        · have d2 : decide (200 ≤ z) = false := decide_eq_false c2
          obtain ⟨x, rfl⟩ := Int.eq_ofNat_of_zero_le (Int.not_lt.1 c1)
          have hx : x < 200 := by omega
          have hb0 : wr.cell? ⟨w.heap.size, x, none⟩ = some (.bool ((l1.take j).contains (x : Int))) := (blk_cell hG.out x).trans (hS.out.2 x hx)
          have hf0 : wr.frozen? ⟨w.heap.size, x, none⟩ = false := blk_frozen hG.out x
          obtain ⟨b, hbb⟩ : ∃ b, Aside0 ((l1.take j).contains (x : Int) = b) := ⟨_, ⟨rfl⟩⟩
          rw [hbb.out] at hb0
          cases b with
          | true =>
            obtain ⟨rfl, rfl⟩ := FIN.out true (.inr hbb.out)
            clear c1 c2
            go_wp2_with fail
            go_ret2
            exact ⟨_, rfl, Kd.R_nil _ _ _ _ _, hB.out⟩
          | false =>
            clear c1 c2
            go_wp2_with (first | ((with_reducible refine gate_store (t := 4) (p := 30) rfl ?_); refine store_event (t := 4) (p := 30) (v := ?vo_w14) (w1 := (wr.setCell ⟨w.heap.size, x, none⟩ (.bool true))) ?hg ?ho ?hn ?hr ?_; (case ho => rfl); (case hg => rfl); (case hn => rfl); (case hr => first | (go_simp; done) | (go_simp; rfl)); intro w15 hw; have G1 := Aside0.mk (show w15.heap[w.heap.size]? = some (.cells (cs.setIfInBounds x (.bool true)) 61 (0, 0)) by rw [hw]; exact blk_set hG.out _ _); have R1 := Aside0.mk (show Kd.R k53 53 w15 w.heap.size (fun _ => True) u7 (ptsOf (l1.take j)) by rw [hw]; exact Kd.R_set hR.out hG.out (by decide) _ _); have B1 := Aside0.mk (show Below w.heap.size w w15 by rw [hw]; exact hB.out.setCell (Nat.le_refl _) _); clear hw hb0 hf0) | ((with_reducible refine gate_builtin (b := .append) (xs := #[.tmp 31, .tmp 36]) rfl ?_); at_builtin; refine Kd.R_append k53 (w0 := w) w.heap.size rfl (.tmp 31) (.tmp 36) 54 53 (.agg #[(.int .u8 0), (.int .u8 0)]) 2 rfl Try.underlying54 info53 rfl (by decide) (by omega) u7 (ptsOf (l1.take j)) (⟨(x : Int) + 1, 0⟩ : S53) [.int .u8 ((x : Int) + 1), .int .u8 0] (fun _ => True) (fun _ => False) rfl rfl ?aP (fun _ hk => hk.elim) ?aF ?aO ?aB ?aS ?aL ?_; (case aP => exact k53_mkM _ _ _ (⟨(x : Int) + 1, 0⟩ : S53)); (case aB => exact B1.out); (case aF => exact (fun _ _ => trivial)); (case aO => exact R1.out); (case aS => exact B1.out.size); (case aL => have := HL.out; simp only [ptsOf, List.length_cons, List.length_map, List.length_take]; omega); intro v244 w22 ho hb hg hat; have G2 := Aside0.mk (blk_grown G1.out hg (Kd.R_ne R1.out G1.out (by decide))); have R2 := Aside0.mk ho; have B2 := Aside0.mk hb; clear G1 R1 B1 ho hb hg hat))
            refine ⟨⟨j + 1, _, by omega, by go_num, ⟨okWho_take hlt hN.out (by rw [hz.out]; omega) (by rw [hz.out]; exact hbb.out)⟩, ⟨by rw [take_snoc_getD hlt, hz.out]; exact seen_set hS.out hx⟩, G2, ⟨by rw [take_snoc_getD hlt, hz.out, ptsOf_snoc]; exact R2.out⟩, B2⟩, by simp [intOf]; omega⟩
    · obtain rfl : j = l1.length := by omega
      have hw : okWho l1 := by
        have := hN.out
        rwa [List.take_length] at this
      have h1 := HH.out
      rw [if_pos hw] at h1
      have H1 := Aside0.mk h1
      rw [List.take_length] at hR
      obtain ⟨Ao, co, eo, hco, hCo⟩ := Kd.R_reads hR.out
      subst eo
      have HCO := Aside0.mk hCo
      have HCL := Aside0.mk hco
      clear h1 hw hCo hco
      go_wp2_with ((with_reducible refine gate_callee (f := 30) rfl ?_); refine goesL_ (some 41) rfl rfl Try.func30 (by kernel_rfl) rfl #[.pointer (some ⟨a0, 0, none⟩), .slice Ao (ptsOf l1).length co] rfl (by (try simp only [List.map_toArray, List.map_cons, List.map_nil]); first | done | rfl) ?_; (with_reducible refine (poly_Through.calls k a0 _ _ (ptsOf l1) r1 r2 _ ?side1 ?side2 ?side3 H1.out).mono ?_); (case side1 => exact HF.out.below hB.out); (case side2 => exact HCO.out); (case side3 => exact HCL.out); rintro e w5 ⟨v170, rfl, ho0, hb⟩; refine ⟨_, rfl, ?_⟩; have HO := Aside0.mk (Kd.R_lower ho0 hB.out.size); have HB1 := Aside0.mk (hB.out.trans (hb.mono hB.out.size)); clear ho0 hb)
      go_ret2
      exact ⟨_, rfl, HO.out, HB1.out⟩
end Go.Proofs.Ytieiaoknbnkjpaa.Rf
