/- slices.Clone and bytes.Clone of bytes. -/
import Derived.Test.YtieiaoknbnkjpaaRf0
import Derived.WalkSpells
import Derived.WalkLawsBesides
import Derived.Outline
namespace Go.Proofs.Ytieiaoknbnkjpaa.Rf
open Go.RowKit Go.Proofs.YtieiaoknbnkjpaaW.PrintWords Go.Proofs.YtieiaoknbnkjpaaW.PrintLast Go.Proofs.YtieiaoknbnkjpaaW.PrintMore

def slices_Clone.f (l0 : List Int) : Option (List Int) := if l0.length < 140737488355328 then some l0 else none
set_option maxHeartbeats 4000000 in
theorem slices_Clone.calls (A0 : Option Addr) (c0 : Nat) (l0 : List Int) (r : List Int) (w : World) (hr0 : Kd.C (Kd.int .u8) w A0 l0.length l0) (hc0 : l0.length ≤ c0) (h : slices_Clone.f l0 = some r) :
    Calls Try.prog 41 #[.slice A0 l0.length c0] w fun e w' => ∃ v0_ : Value, e = .returned (v0_) ∧ Kd.R (Kd.int .u8) 5 w' w.heap.size (fun _ => True) v0_ r ∧ Below w.heap.size w w' := by
  unfold slices_Clone.f at h
  split at h
  case isFalse => cases h
  rename_i hl
  obtain rfl := Option.some.inj h
  have hq := fun wx => Lib.run_eql_slice_nil (P := Try.prog) (w := wx) 22
  cases A0 with
  | none =>
    have h0 : l0.length = 0 := by
      rcases Nat.eq_zero_or_pos l0.length with h0 | h0
      · exact h0
      · obtain ⟨ad, h, _⟩ := hr0.2.2 h0
        cases h
    obtain rfl := List.eq_nil_of_length_eq_zero h0
    clear h hr0 hl h0
    go_enter Try.func41, Try.ntmps41
    go_wp2_with fail
    go_ret
    exact ⟨_, rfl, Kd.R_nil _ _ _ _ _, Below.refl _ _⟩
  | some ad =>
    have HR0 := Aside0.mk hr0
    have HC0 := Aside0.mk hc0
    have HL := Aside0.mk hl
    have HB := Aside0.mk (Below.refl w.heap.size w)
    clear h hr0 hc0 hl
    go_enter Try.func41, Try.ntmps41
    go_wp2_with (first | ((with_reducible refine gate_dst (N := 5) rfl ?_); refine Kd.R_lit (Kd.int .u8) _ 5 ?hg (N := 5) ?hd (xs := ([] : List Int)) (inner := []) (ok := fun _ => True) (okp := fun _ => True) ?hr ?hp (fun _ hk => hk) trivial (Below.refl _ _) (Nat.le_refl _) (by simp) ?_; (case hd => rfl); (case hg => rfl); (case hr => first | (go_simp; done) | (go_simp; rfl)); (case hp => exact (Reps.none _ _)); intro v127 w10 ho11 hb hg_ hnew_; clear hg_ hnew_; have HO := Aside0.mk (Kd.R_lower ho11 (Nat.le_refl _)); have HB1 := Aside0.mk (HB.out.trans hb); clear ho11 hb HB) | ((with_reducible refine gate_builtin (b := .append) (xs := #[.tmp 5, .tmp 6]) rfl ?_); at_builtin; refine Kd.R_append_rows (Kd.int .u8) (w0 := w) w.heap.size rfl (.tmp 5) (.tmp 6) 22 5 (.int .u8 0) 1 rfl Try.underlying22 info5 rfl (by decide) (by omega) v127 [] l0 _ _ _ (fun _ => True) (fun _ => False) rfl rfl ?aO ?aR (fun _ _ h => h) (fun _ h => h.elim) ?aF ?aB ?aS ?aL ?_; (case aR => exact Kd.C_below HR0.out HB1.out); (case aB => exact HB1.out); (case aF => exact (fun _ _ => trivial)); (case aO => exact HO.out); (case aS => exact HB1.out.size); (case aL => have := HL.out; simp only [List.length_nil]; omega); intro v131 w13 ho hb hg hat; clear HO HB1; have HO := Aside0.mk ho; have HB1 := Aside0.mk hb; clear ho hb hg hat))
    go_ret
    exact ⟨_, rfl, by simpa using HO.out, HB1.out⟩

def bytes_Clone.f (l0 : List Int) : Option (List Int) := if l0.length < 140737488355328 then some l0 else none
set_option maxHeartbeats 4000000 in
theorem bytes_Clone.calls (A0 : Option Addr) (c0 : Nat) (l0 : List Int) (r : List Int) (w : World) (hr0 : Kd.C (Kd.int .u8) w A0 l0.length l0) (hc0 : l0.length ≤ c0) (h : bytes_Clone.f l0 = some r) :
    Calls Try.prog 20 #[.slice A0 l0.length c0] w fun e w' => ∃ v0_ : Value, e = .returned (v0_) ∧ Kd.R (Kd.int .u8) 5 w' w.heap.size (fun _ => True) v0_ r ∧ Below w.heap.size w w' := by
  unfold bytes_Clone.f at h
  split at h
  case isFalse => cases h
  rename_i hl
  obtain rfl := Option.some.inj h
  have hq := fun wx => Lib.run_eql_slice_nil (P := Try.prog) (w := wx) 22
  cases A0 with
  | none =>
    have h0 : l0.length = 0 := by
      rcases Nat.eq_zero_or_pos l0.length with h0 | h0
      · exact h0
      · obtain ⟨ad, h, _⟩ := hr0.2.2 h0
        cases h
    obtain rfl := List.eq_nil_of_length_eq_zero h0
    clear h hr0 hl h0
    go_enter Try.func20, Try.ntmps20
    go_wp2_with fail
    go_ret
    exact ⟨_, rfl, Kd.R_nil _ _ _ _ _, Below.refl _ _⟩
  | some ad =>
    have HR0 := Aside0.mk hr0
    have HC0 := Aside0.mk hc0
    have HL := Aside0.mk hl
    have HB := Aside0.mk (Below.refl w.heap.size w)
    clear h hr0 hc0 hl
    go_enter Try.func20, Try.ntmps20
    go_wp2_with (first | ((with_reducible refine gate_dst (N := 5) rfl ?_); refine Kd.R_lit (Kd.int .u8) _ 5 ?hg (N := 5) ?hd (xs := ([] : List Int)) (inner := []) (ok := fun _ => True) (okp := fun _ => True) ?hr ?hp (fun _ hk => hk) trivial (Below.refl _ _) (Nat.le_refl _) (by simp) ?_; (case hd => rfl); (case hg => rfl); (case hr => first | (go_simp; done) | (go_simp; rfl)); (case hp => exact (Reps.none _ _)); intro v127 w10 ho11 hb hg_ hnew_; clear hg_ hnew_; have HO := Aside0.mk (Kd.R_lower ho11 (Nat.le_refl _)); have HB1 := Aside0.mk (HB.out.trans hb); clear ho11 hb HB) | ((with_reducible refine gate_builtin (b := .append) (xs := #[.tmp 5, .tmp 6]) rfl ?_); at_builtin; refine Kd.R_append_rows (Kd.int .u8) (w0 := w) w.heap.size rfl (.tmp 5) (.tmp 6) 22 5 (.int .u8 0) 1 rfl Try.underlying22 info5 rfl (by decide) (by omega) v127 [] l0 _ _ _ (fun _ => True) (fun _ => False) rfl rfl ?aO ?aR (fun _ _ h => h) (fun _ h => h.elim) ?aF ?aB ?aS ?aL ?_; (case aR => exact Kd.C_below HR0.out HB1.out); (case aB => exact HB1.out); (case aF => exact (fun _ _ => trivial)); (case aO => exact HO.out); (case aS => exact HB1.out.size); (case aL => have := HL.out; simp only [List.length_nil]; omega); intro v131 w13 ho hb hg hat; clear HO HB1; have HO := Aside0.mk ho; have HB1 := Aside0.mk hb; clear ho hb hg hat))
    go_ret
    exact ⟨_, rfl, by simpa using HO.out, HB1.out⟩
end Go.Proofs.Ytieiaoknbnkjpaa.Rf
