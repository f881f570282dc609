/- The pads' law, over lists of numbers. -/
import Derived.Test.YtieiaoknbnkjpaaX2
import Derived.Test.YtieiaoknbnkjpaaRf26
namespace Go.Proofs.Ytieiaoknbnkjpaa.Rf
open Go.RowKit Go.Proofs.YtieiaoknbnkjpaaW.PrintWords
theorem bytes_wf {l : List Int} (h : ∀ x ∈ l, (Lit.int .u8 x).wf = true) : Bytes l := fun x hx => by
  have h1 : 0 ≤ x ∧ x ≤ 255 := by
    have := h x hx
    simp [Lit.wf, IntKind.min, IntKind.max, IntKind.signed, IntKind.bits] at this
    omega
  omega
theorem pad_ev (l m : List UInt8) (hl : l.length < 1000000) (h : l.length = m.length) : Ev (fun k => blind_Pad.f k (bs l) (bs m)) (bs (sealU l m), 0) := by
  unfold blind_Pad.f
  exact Ev.bind (seal_ev l m hl h) (Ev.now _)
theorem pads_j1 (x0 x2 x7 : List UInt8) (h0 : x0.length ≤ 300) (h7 : x7.length = x0.length) : Ev (fun k => shroudlaw06_BlindPads.j1 k (bs x0) (bs x2) (bs x7) false) true := by
  refine Ev.step (f := fun k => if ((bs x2).length : Int) < ((bs x0).length : Int) then (some true) else (if 0 ≤ ((bs x0).length : Int) then (if ((bs x0).length : Int) ≤ ((bs x2).length : Int) then ((blind_Pad.f k ((bs x2).take (((bs x0).length : Int) : Int).toNat) (bs x7)).bind fun bt299 => ((blind_Seal.f k ((bs x2).take (((bs x0).length : Int) : Int).toNat) bt299.1).bind fun bt303 => (if bt299.2 = 0 then (if bt303.2 = 0 then ((shroudref01_Same.f k bt303.1 (bs x7)).bind fun t307 => (some t307)) else (some false)) else (some false)))) else (none)) else (none))) (fun k => by
    simp only [shroudlaw06_BlindPads.j1]
    rw [if_neg (by decide)]) ?_
  by_cases hs : x2.length < x0.length
  · exact Ev.congr (fun k => if_pos (by rw [bs_length, bs_length]; omega)) (Ev.now _)
  · refine Ev.congr (fun k => if_neg (by rw [bs_length, bs_length]; omega)) (Ev.congr (fun k => if_pos (by omega)) (Ev.congr (fun k => if_pos (by rw [bs_length, bs_length]; omega)) ?_))
    rw [bs_length, Int.toNat_natCast, bs_take]
    have hl : (x2.take x0.length).length = x7.length := by rw [List.length_take]; omega
    refine Ev.bind (pad_ev _ x7 (by omega) hl) ?_
    refine Ev.bind (seal_ev _ (sealU (x2.take x0.length) x7) (by omega) (by rw [sealU_length])) ?_
    refine Ev.congr (fun k => if_pos rfl) (Ev.congr (fun k => if_pos rfl) ?_)
    have := same_ev (sealU (x2.take x0.length) (sealU (x2.take x0.length) x7)) x7 (by rw [sealU_length]; omega)
    rw [seal_other hl, decide_eq_true rfl] at this
    show Ev (fun k => (shroudref01_Same.f k (bs (sealU (x2.take x0.length) (sealU (x2.take x0.length) x7))) (bs x7)).bind fun t307 => (some t307)) true
    rw [seal_other hl]
    exact Ev.bind this (Ev.now _)
theorem pads_j0 (x0 x1 x2 : List UInt8) (h0 : x0.length ≤ 300) : Ev (fun k => shroudlaw06_BlindPads.j0 k (bs x0) (bs x1) (bs x2) false) true := by
  refine Ev.step (f := fun k => ((blind_Seal.f k (bs x0) (bs x1)).bind fun bt285 => (if ((bs x0).length : Int) = ((bs x1).length : Int) then ((blind_Seal.f k bt285.1 (bs x1)).bind fun bt293 => (if bt285.2 = 0 then (if bt293.2 = 0 then ((shroudref01_Same.f k bt293.1 (bs x0)).bind fun t297 => (shroudlaw06_BlindPads.j1 k (bs x0) (bs x2) bt285.1 (!t297))) else (shroudlaw06_BlindPads.j1 k (bs x0) (bs x2) bt285.1 true)) else (shroudlaw06_BlindPads.j1 k (bs x0) (bs x2) bt285.1 true))) else ((blind_Pad.f k (bs x0) (bs x1)).bind fun bt289 => (if bt285.2 = 1 then (if (bt285.1.length : Int) = 0 then (some (bt289.2 == 1)) else (some false)) else (some false)))))) (fun k => by
    simp only [shroudlaw06_BlindPads.j0]
    rw [if_neg (by decide)]) ?_
  by_cases hl : x0.length = x1.length
  · refine Ev.bind (seal_ev x0 x1 (by omega) hl) ?_
    refine Ev.congr (fun k => if_pos (by rw [bs_length, bs_length]; omega)) ?_
    refine Ev.bind (seal_ev (sealU x0 x1) x1 (by rw [sealU_length]; omega) (by rw [sealU_length]; exact hl)) ?_
    refine Ev.congr (fun k => if_pos rfl) (Ev.congr (fun k => if_pos rfl) ?_)
    show Ev (fun k => (shroudref01_Same.f k (bs (sealU (sealU x0 x1) x1)) (bs x0)).bind _) true
    rw [seal_twice hl]
    have h1 := same_ev x0 x0 (by omega)
    rw [decide_eq_true rfl] at h1
    exact Ev.bind h1 (pads_j1 x0 x2 (sealU x0 x1) h0 sealU_length)
  · refine ⟨0, fun k _ => ?_⟩
    show ((blind_Seal.f k (bs x0) (bs x1)).bind _) = _
    rw [seal_bad x0 x1 hl]
    show (if _ then _ else _) = _
    rw [if_neg (by rw [bs_length, bs_length]; omega)]
    unfold blind_Pad.f
    rw [seal_bad x0 x1 hl]
    rfl
theorem pads_j0t (x0 x1 x2 : List Int) : Ev (fun k => shroudlaw06_BlindPads.j0 k x0 x1 x2 true) true := by
  refine Ev.step (f := fun _ => some true) (fun k => ?_) (Ev.now _)
  simp only [shroudlaw06_BlindPads.j0]
  rfl
end Go.Proofs.Ytieiaoknbnkjpaa.Rf
namespace Go.Proofs.Ytieiaoknbnkjpaa.Pure
open Go.RowKit Go.Proofs.Ytieiaoknbnkjpaa.Rf Go.Proofs.YtieiaoknbnkjpaaW.PrintWords Go.Proofs.YtieiaoknbnkjpaaW.PrintLast
theorem BlindPads : shroudlaw06_BlindPads.Pure := by
  intro l0 l1 l2 _ _ w0 _ _ w1 _ _ w2
  obtain ⟨x0, rfl⟩ : ∃ s, l0 = bs s := ⟨toU l0, (bs_toU (bytes_wf w0)).symm⟩
  obtain ⟨x1, rfl⟩ : ∃ s, l1 = bs s := ⟨toU l1, (bs_toU (bytes_wf w1)).symm⟩
  obtain ⟨x2, rfl⟩ : ∃ s, l2 = bs s := ⟨toU l2, (bs_toU (bytes_wf w2)).symm⟩
  refine Ev.rounds (r := true) ?_
  unfold shroudlaw06_BlindPads.f
  refine Ev.bind (a := true) (g := fun _ => shroudlaw06_awake.f) (Ev.now true) ?_
  refine Ev.congr (fun k => if_pos rfl) ?_
  by_cases h0 : x0.length ≤ 300
  · refine Ev.congr (fun k => if_neg (by rw [bs_length]; omega)) ?_
    by_cases h1 : x1.length ≤ 300
    · refine Ev.congr (fun k => if_neg (by rw [bs_length]; omega)) ?_
      by_cases h2 : x2.length ≤ 300
      · rw [show (decide (((bs x2).length : Int) > 300)) = false by rw [bs_length]; exact decide_eq_false (by omega)]
        exact pads_j0 x0 x1 x2 h0
      · rw [show (decide (((bs x2).length : Int) > 300)) = true by rw [bs_length]; exact decide_eq_true (by omega)]
        exact pads_j0t _ _ _
    · exact Ev.congr (fun k => if_pos (by rw [bs_length]; omega)) (pads_j0t _ _ _)
  · exact Ev.congr (fun k => if_pos (by rw [bs_length]; omega)) (pads_j0t _ _ _)
end Go.Proofs.Ytieiaoknbnkjpaa.Pure
