/- What the printed functions come to on bytes: sameness, seals, pads. -/
import Derived.Test.YtieiaoknbnkjpaaX0
import Derived.Test.YtieiaoknbnkjpaaRf11
import Derived.Test.YtieiaoknbnkjpaaRf12
import Derived.Test.YtieiaoknbnkjpaaRf25
namespace Go.Proofs.Ytieiaoknbnkjpaa.Rf
open Go.RowKit Go.Proofs.YtieiaoknbnkjpaaW.PrintWords

theorem same_ev (l m : List UInt8) (hl : l.length < 1000000000) : Ev (fun k => shroudref01_Same.f k (bs l) (bs m)) (decide (l = m)) := by
  unfold shroudref01_Same.f
  by_cases hlen : l.length = m.length
  · have key : ∀ (d j : Nat), d + j = l.length → (∀ i, i < j → l.getD i 0 = m.getD i 0) → Ev (fun k => shroudref01_Same.l0 k (bs l) (bs m) ((bs l).length : Int) (j : Int)) (decide (l = m)) := by
      intro d
      induction d with
      | zero =>
        intro j hj hp
        refine ⟨1, fun k hk => ?_⟩
        obtain ⟨k, rfl⟩ : ∃ m, k = m + 1 := ⟨k - 1, by omega⟩
        simp only [shroudref01_Same.l0]
        rw [if_neg (by rw [bs_length]; omega), decide_eq_true]
        exact Gf.ext_getD hlen (fun i => by
          by_cases hi : i < j
          · exact hp i hi
          · rw [Gf.getD_big l (by omega), Gf.getD_big m (by omega)])
      | succ d ih =>
        intro j hj hp
        by_cases he : l.getD j 0 = m.getD j 0
        · refine Ev.step (f := fun k => shroudref01_Same.l0 k (bs l) (bs m) ((bs l).length : Int) ((j + 1 : Nat) : Int)) (fun k => ?_) (ih (j + 1) (by omega) (fun i hi => by
            by_cases h : i < j
            · exact hp i h
            · obtain rfl : i = j := by omega
              exact he))
          simp only [shroudref01_Same.l0]
          rw [if_pos (by rw [bs_length]; omega), if_pos (by omega), if_pos (by rw [bs_length]; omega), if_pos (by rw [bs_length]; omega), rd_bs, rd_bs, Int.toNat_natCast, if_pos (by rw [he]), w64 (by omega) (by omega)]
          rfl
        · refine ⟨1, fun k hk => ?_⟩
          obtain ⟨k, rfl⟩ : ∃ m, k = m + 1 := ⟨k - 1, by omega⟩
          simp only [shroudref01_Same.l0]
          rw [if_pos (by rw [bs_length]; omega), if_pos (by omega), if_pos (by rw [bs_length]; omega), if_pos (by rw [bs_length]; omega), rd_bs, rd_bs, Int.toNat_natCast, if_neg (fun e => he (uI_inj e)), decide_eq_false]
          intro e
          rw [e] at he
          exact he rfl
    rw [bs_length, bs_length]
    refine Ev.congr (fun k => if_pos (by omega)) ?_
    have := key l.length 0 (by omega) (fun i hi => by omega)
    rw [bs_length] at this
    exact this
  · rw [bs_length, bs_length]
    refine ⟨0, fun k _ => ?_⟩
    show (if _ then _ else _) = _
    rw [if_neg (by omega), decide_eq_false]
    rintro rfl
    exact hlen rfl

def sealL : List UInt8 → List UInt8 → Nat → List UInt8
  | s, _, 0 => s
  | s, m, n + 1 => (sealL s m n).set n ((sealL s m n).getD n 0 ^^^ m.getD n 0)
def sealU (s m : List UInt8) : List UInt8 := sealL s m m.length
theorem sealL_length (s m : List UInt8) : ∀ n, (sealL s m n).length = s.length
  | 0 => rfl
  | n + 1 => by rw [sealL, List.length_set, sealL_length]
theorem sealL_getD (s m : List UInt8) : ∀ n, n ≤ s.length → ∀ j, (sealL s m n).getD j 0 = if j < n then s.getD j 0 ^^^ m.getD j 0 else s.getD j 0
  | 0, _, j => by simp [sealL]
  | n + 1, hn, j => by
    have ih := sealL_getD s m n (by omega)
    rw [sealL, Gf.getD_set _ _ _ _ (by rw [sealL_length]; omega)]
    by_cases h : n = j
    · subst h
      rw [if_pos rfl, ih, if_neg (by omega), if_pos (by omega)]
    · rw [if_neg h, ih]
      by_cases h2 : j < n
      · rw [if_pos h2, if_pos (by omega)]
      · rw [if_neg h2, if_neg (by omega)]
theorem sealU_getD {s m : List UInt8} (h : s.length = m.length) (j : Nat) : (sealU s m).getD j 0 = s.getD j 0 ^^^ m.getD j 0 := by
  unfold sealU
  rw [sealL_getD s m _ (by omega)]
  split
  · rfl
  · rw [Gf.getD_big s (by omega), Gf.getD_big m (by omega)]; rfl
theorem sealU_length {s m : List UInt8} : (sealU s m).length = s.length := sealL_length _ _ _
theorem seal_twice {s m : List UInt8} (h : s.length = m.length) : sealU (sealU s m) m = s := by
  refine Gf.ext_getD (by rw [sealU_length, sealU_length]) (fun j => ?_)
  rw [sealU_getD (by rw [sealU_length]; exact h), sealU_getD h, Gf.xor_cancel]
theorem seal_other {s m : List UInt8} (h : s.length = m.length) : sealU s (sealU s m) = m := by
  refine Gf.ext_getD (by rw [sealU_length]; exact h) (fun j => ?_)
  rw [sealU_getD (by rw [sealU_length]), sealU_getD h, ← UInt8.xor_assoc, UInt8.xor_self, UInt8.zero_xor]
theorem seal_ev (l m : List UInt8) (hl : l.length < 1000000) (h : l.length = m.length) : Ev (fun k => blind_Seal.f k (bs l) (bs m)) (bs (sealU l m), 0) := by
  unfold blind_Seal.f
  rw [bs_length, bs_length]
  refine Ev.congr (fun k => if_pos (by omega)) ?_
  refine Ev.bind (a := bs l) (Ev.congr (fun k => rfl) ⟨0, fun k _ => by unfold bytes_Clone.f; rw [if_pos (by rw [bs_length]; omega)]⟩) ?_
  have key : ∀ (d j : Nat), d + j = m.length → Ev (fun k => blind_Seal.l0 k (bs (sealL l m j)) (bs m) (m.length : Int) (j : Int)) (bs (sealU l m), 0) := by
    intro d
    induction d with
    | zero =>
      intro j hj
      obtain rfl : j = m.length := by omega
      refine ⟨1, fun k hk => ?_⟩
      obtain ⟨k, rfl⟩ : ∃ m, k = m + 1 := ⟨k - 1, by omega⟩
      simp only [blind_Seal.l0]
      rw [if_neg (by omega)]
      rfl
    | succ d ih =>
      intro j hj
      refine Ev.step (f := fun k => blind_Seal.l0 k (bs (sealL l m (j + 1))) (bs m) (m.length : Int) ((j + 1 : Nat) : Int)) (fun k => ?_) (ih (j + 1) (by omega))
      simp only [blind_Seal.l0]
      rw [if_pos (by omega), if_pos (by omega), if_pos (by rw [bs_length]; omega), if_pos (by rw [bs_length, sealL_length]; omega), rd_bs, rd_bs, Int.toNat_natCast, gf_Add_u, w64 (by omega) (by omega)]
      show blind_Seal.l0 k ((bs (sealL l m j)).set j _) _ _ _ = _
      rw [bs_set]
      rfl
  exact key m.length 0 (by omega)
theorem seal_bad (l m : List UInt8) (h : l.length ≠ m.length) (k : Nat) : blind_Seal.f k (bs l) (bs m) = some ([], 1) := by
  unfold blind_Seal.f
  rw [bs_length, bs_length, if_neg (by omega)]
end Go.Proofs.Ytieiaoknbnkjpaa.Rf
