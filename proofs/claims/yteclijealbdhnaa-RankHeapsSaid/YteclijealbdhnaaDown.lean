/- Heap.down: an entry sinks to its place. -/
import Derived.Test.YteclijealbdhnaaUp
namespace Go.Proofs.Yteclijealbdhnaa
open Go.RowKit

def stepF (lt : Ent → Ent → Bool) (l : List Ent) (c m : Nat) : Nat := if c < l.length ∧ lt (l.getD c (0, 0, 0)) (l.getD m (0, 0, 0)) = true then c else m
/-- What is left of the two steps. -/
def restF (lt : Ent → Ent → Bool) (l : List Ent) (a : Nat) : Nat → Nat → Nat
  | 0, m => m
  | 1, m => stepF lt l (2 * a + 2) m
  | _ + 2, m => stepF lt l (2 * a + 2) (stepF lt l (2 * a + 1) m)
def downF (lt : Ent → Ent → Bool) : Nat → List Ent → Nat → List Ent
  | 0, l, _ => l
  | f + 1, l, a => if restF lt l a 2 a = a then l else downF lt f ((l.set a (l.getD (restF lt l a 2 a) (0, 0, 0))).set (restF lt l a 2 a) (l.getD a (0, 0, 0))) (restF lt l a 2 a)

theorem restF_step (lt : Ent → Ent → Bool) (l : List Ent) (a j m : Nat) (hj : j < 2) : restF lt l a (2 - j) m = restF lt l a (2 - (j + 1)) (stepF lt l (2 * a + 1 + j) m) := by
  match j, hj with
  | 0, _ => rfl
  | 1, _ => rfl
theorem stepF_yes {lt : Ent → Ent → Bool} {l : List Ent} {c m : Nat} {X Y : Ent} (hc : c < l.length) (hX : l.getD c (0, 0, 0) = X) (hY : l.getD m (0, 0, 0) = Y) (h : lt X Y = true) : stepF lt l c m = c := by
  unfold stepF; rw [if_pos ⟨hc, by rw [hX, hY]; exact h⟩]
theorem stepF_no {lt : Ent → Ent → Bool} {l : List Ent} {c m : Nat} {X Y : Ent} (hX : l.getD c (0, 0, 0) = X) (hY : l.getD m (0, 0, 0) = Y) (h : lt X Y = false) : stepF lt l c m = m := by
  unfold stepF; rw [if_neg (fun hh => by rw [hX, hY, h] at hh; cases hh.2)]
theorem stepF_out {lt : Ent → Ent → Bool} {l : List Ent} {c m : Nat} (hc : ¬ c < l.length) : stepF lt l c m = m := by
  unfold stepF; rw [if_neg (fun hh => hc hh.1)]
theorem downF_stop {f : Nat} {l : List Ent} {k : Nat} (h : restF ltT l k 2 k = k) : downF ltT f l k = l := by
  cases f with
  | zero => rfl
  | succ f => simp only [downF]; rw [if_pos h]
theorem downF_go {f : Nat} {l : List Ent} {k m : Nat} {X Y : Ent} (hf : 1 ≤ f) (h : restF ltT l k 2 k = m) (hm : m ≠ k) (hX : l.getD k (0, 0, 0) = X) (hY : l.getD m (0, 0, 0) = Y) : downF ltT f l k = downF ltT (f - 1) ((l.set k Y).set m X) m := by
  obtain ⟨f, rfl⟩ : ∃ g, f = g + 1 := ⟨f - 1, by omega⟩
  simp only [downF]; rw [h, if_neg hm, hX, hY]; rfl

set_option maxHeartbeats 8000000 in
theorem down_any (p b n cap base : Nat) (l : List Ent) (at0 : Nat) (w : World) (hat : at0 ≤ 1000000000000) (hlen : l.length ≤ 1000000000000)
    (hp : w.heap[p]? = some (.cells #[.func (.func 19) #[] #[], .slice (some ⟨b, 0, none⟩) l.length cap, .int .i64 n] 76 (0, 0)))
    (hown : w.ownsRow base 78 3 (.slice (some ⟨b, 0, none⟩) l.length cap) l.length (flat encT l)) (hpb : p ≠ b) :
    Calls Try.prog 42 #[.pointer (some ⟨p, 0, none⟩), .int .i64 at0] w fun e w' => e = .returned (.tuple #[]) ∧
      w'.ownsRow base 78 3 (.slice (some ⟨b, 0, none⟩) l.length cap) l.length (flat encT (downF ltT (l.length + 1) l at0)) ∧ w.grownBy w' (some b) := by
  go_enter Try.func42, Try.ntmps42
  go_wp2_with fail
  go_loopw [1] (fun i wr => ∃ (k f : Nat) (l' : List Ent), i = .int .i64 k ∧ k ≤ 1000000000000 ∧ l.length + 1 ≤ f + k ∧ 1 ≤ f ∧ l'.length = l.length ∧ Hid (downF ltT (l.length + 1) l at0 = downF ltT f l' k) ∧
      wr.ownsRow base 78 3 (.slice (some ⟨b, 0, none⟩) l.length cap) l.length (flat encT l') ∧ w.grownBy wr (some b)) (fun i _ => l.length - (intOf i).toNat)
  case atStart => exact ⟨at0, l.length + 1, l, rfl, hat, by omega, by omega, rfl, rfl, hown, grown_refl _ _⟩
  case round =>
    obtain ⟨k, f, l', rfl, hk, hf, hf1, hl, HU, hown', hg⟩ := hrel
    obtain ⟨wo, rfl⟩ : ∃ wo : World, wo = wr := ⟨_, rfl⟩
    have hpw := (hg.block p (cells3 hp).2.2.2.2 (fun e => hpb (Option.some.inj e))).trans hp
    have hplo := (cells3 hpw).2.2.2.2
    have Hpw := Lib.hid hpw
    have Hg := Lib.hid hg
    have Hown' := Lib.hid hown'
    have Hp := Lib.hid hp
    have Hown := Lib.hid hown
    clear hpw hg hown' hp hown
    go_wp2_with fail
    go_loopw [4, 6, 16] (fun mm _ ii wi => ∃ j m : Nat, mm = .int .i64 m ∧ ii = .int .i64 j ∧ j ≤ 2 ∧ (m = k ∨ (k < m ∧ m < l.length)) ∧ Hid (restF ltT l' k 2 k = restF ltT l' k (2 - j) m) ∧
      Below (wo.heap.size + 1) (wo.alloc (.cells #[.int .i64 (2 * (k : Int) + 1), .int .i64 (2 * (k : Int) + 2)] 3)) wi) (fun _ _ ii _ => 2 - (intOf ii).toNat)
    case atStart => exact ⟨0, k, rfl, rfl, by omega, .inl rfl, rfl, by first | exact Below.refl _ _ | exact (Below.refl _ _).drew⟩
    case round =>
      obtain ⟨j, m, rfl, rfl, hj, hm, HR, hbi⟩ := hrel
      obtain ⟨wi, rfl⟩ : ∃ wi : World, wi = wr := ⟨_, rfl⟩
      have hbo : Below wo.heap.size wo wi := ((Below.refl _ _).alloc (Nat.le_refl _) _).trans (hbi.mono (by omega))
      obtain ⟨c0, c1, c2, fz, hpl⟩ := cells3 ((hbo.block p hplo).trans Hpw.out)
      have hwz : wo.heap.size + 1 ≤ wi.heap.size := by have := hbi.size; simpa using this
      by_cases hj2 : j < 2
      · have hc : wi.cell? ⟨wo.heap.size, j, none⟩ = some (.int .i64 ((2 * k + 1 + j : Nat) : Int)) := by
          rw [hbi.cell (by simp)]
          match j, hj2 with
          | 0, _ => simp
          | 1, _ => simp; omega
        have HR2 := restF_step ltT l' k j m hj2
        obtain ⟨c, hcd⟩ : ∃ c, c = 2 * k + 1 + j := ⟨_, rfl⟩
        rw [← hcd] at hc HR2
        have hkc : k < c := by omega
        have Hcd := Lib.hid hcd
        have HR2 := Lib.hid HR2
        clear hcd
        by_cases hcl : c < l.length
        · have hml : m < l.length := by omega
          obtain ⟨x0, x1, x2⟩ := ent_cells (own_below Hown'.out hbo) c (by omega)
          obtain ⟨y0, y1, y2⟩ := ent_cells (own_below Hown'.out hbo) m (by omega)
          obtain ⟨X, HX⟩ : ∃ X, Hid (l'.getD c (0, 0, 0) = X) := ⟨_, rfl⟩
          obtain ⟨Y, HY⟩ : ∃ Y, Hid (l'.getD m (0, 0, 0) = Y) := ⟨_, rfl⟩
          rw [HX.out] at x0 x1 x2
          rw [HY.out] at y0 y1 y2
          obtain ⟨X1, X2, X3⟩ := X
          obtain ⟨Y1, Y2, Y3⟩ := Y
          have Hbi := Lib.hid hbi
          have Hbo := Lib.hid hbo
          clear hbi hbo
          by_cases hlt : ltT (X1, X2, X3) (Y1, Y2, Y3) = true
          · go_wp2_with fail
            refine Seq.start (fun _ => True) (Seq.but [23]) (Seq.these []) (by kernel_rfl) ?_
            refine Seq.calm (i := 0) (d := some 20) (v := ?_) rfl rfl (by kernel_rfl) (by rfl) (fun w9 => ?_) ?_
            rotate_left
            · go_simp; try with_reducible rfl
            (try simp only [Act.put, List.setIfInBounds_toArray, List.set_cons_zero, List.set_cons_succ])
            refine Seq.calm (i := 1) (d := some 21) (v := ?_) rfl rfl (by kernel_rfl) (by rfl) (fun w9 => ?_) ?_
            rotate_left
            · go_simp; try with_reducible rfl
            (try simp only [Act.put, List.setIfInBounds_toArray, List.set_cons_zero, List.set_cons_succ])
            refine Seq.calm (i := 2) (d := some 22) (v := ?_) rfl rfl (by kernel_rfl) (by rfl) (fun w9 => ?_) ?_
            rotate_left
            · go_simp; try with_reducible rfl
            (try simp only [Act.put, List.setIfInBounds_toArray, List.set_cons_zero, List.set_cons_succ])
            refine Seq.calm (i := 3) (d := some 23) (v := ?_) rfl rfl (by kernel_rfl) (by rfl) (fun w9 => ?_) ?_
            rotate_left
            · go_simp; try with_reducible rfl
            (try simp only [Act.put, List.setIfInBounds_toArray, List.set_cons_zero, List.set_cons_succ])
            refine Seq.held (i := 4) (d := some 24) (v := ?_) rfl rfl (by kernel_rfl) (by kernel_rfl) (by rfl) ?_ ?_
            rotate_left
            · go_simp; try with_reducible rfl
            (try simp only [Act.put, List.setIfInBounds_toArray, List.set_cons_zero, List.set_cons_succ])
            refine Seq.calm (i := 5) (d := some 25) (v := ?_) rfl rfl (by kernel_rfl) (by rfl) (fun w9 => ?_) ?_
            rotate_left
            · go_simp; try with_reducible rfl
            (try simp only [Act.put, List.setIfInBounds_toArray, List.set_cons_zero, List.set_cons_succ])
            refine Seq.calm (i := 6) (d := some 26) (v := ?_) rfl rfl (by kernel_rfl) (by rfl) (fun w9 => ?_) ?_
            rotate_left
            · go_simp; try with_reducible rfl
            (try simp only [Act.put, List.setIfInBounds_toArray, List.set_cons_zero, List.set_cons_succ])
            refine Seq.calm (i := 7) (d := some 27) (v := ?_) rfl rfl (by kernel_rfl) (by rfl) (fun w9 => ?_) ?_
            rotate_left
            · go_simp; try with_reducible rfl
            (try simp only [Act.put, List.setIfInBounds_toArray, List.set_cons_zero, List.set_cons_succ])
            refine Seq.calm (i := 8) (d := some 28) (v := ?_) rfl rfl (by kernel_rfl) (by rfl) (fun w9 => ?_) ?_
            rotate_left
            · go_simp; try with_reducible rfl
            (try simp only [Act.put, List.setIfInBounds_toArray, List.set_cons_zero, List.set_cons_succ])
            refine Seq.calm (i := 9) (d := some 29) (v := ?_) rfl rfl (by kernel_rfl) (by rfl) (fun w9 => ?_) ?_
            rotate_left
            · go_simp; try with_reducible rfl
            (try simp only [Act.put, List.setIfInBounds_toArray, List.set_cons_zero, List.set_cons_succ])
            refine Seq.calm (i := 10) (d := some 30) (v := ?_) rfl rfl (by kernel_rfl) (by rfl) (fun w9 => ?_) ?_
            rotate_left
            · go_simp; try with_reducible rfl
            (try simp only [Act.put, List.setIfInBounds_toArray, List.set_cons_zero, List.set_cons_succ])
            refine Seq.calm (i := 11) (d := some 31) (v := ?_) rfl rfl (by kernel_rfl) (by rfl) (fun w9 => ?_) ?_
            rotate_left
            · go_simp; try with_reducible rfl
            (try simp only [Act.put, List.setIfInBounds_toArray, List.set_cons_zero, List.set_cons_succ])
            refine Seq.held (i := 12) (d := some 32) (v := ?_) rfl rfl (by kernel_rfl) (by kernel_rfl) (by rfl) ?_ ?_
            rotate_left
            · go_simp; try with_reducible rfl
            (try simp only [Act.put, List.setIfInBounds_toArray, List.set_cons_zero, List.set_cons_succ])
            refine Seq.calm (i := 13) (d := some 33) (v := ?_) rfl rfl (by kernel_rfl) (by rfl) (fun w9 => ?_) ?_
            rotate_left
            · go_simp; try with_reducible rfl
            (try simp only [Act.put, List.setIfInBounds_toArray, List.set_cons_zero, List.set_cons_succ])
            refine Seq.calm (i := 14) (d := some 34) (v := ?_) rfl rfl (by kernel_rfl) (by rfl) (fun w9 => ?_) ?_
            rotate_left
            · go_simp; try with_reducible rfl
            (try simp only [Act.put, List.setIfInBounds_toArray, List.set_cons_zero, List.set_cons_succ])
            refine Seq.held (i := 15) (d := some 35) (v := ?_) rfl rfl (by kernel_rfl) (by kernel_rfl) (by rfl) ?_ ?_
            rotate_left
            · go_simp; try with_reducible rfl
            (try simp only [Act.put, List.setIfInBounds_toArray, List.set_cons_zero, List.set_cons_succ])
            refine Seq.calm (i := 16) (d := some 36) (v := ?_) rfl rfl (by kernel_rfl) (by rfl) (fun w9 => ?_) ?_
            rotate_left
            · go_simp; try with_reducible rfl
            (try simp only [Act.put, List.setIfInBounds_toArray, List.set_cons_zero, List.set_cons_succ])
            refine Seq.calm (i := 17) (d := some 37) (v := ?_) rfl rfl (by kernel_rfl) (by rfl) (fun w9 => ?_) ?_
            rotate_left
            · go_simp; try with_reducible rfl
            (try simp only [Act.put, List.setIfInBounds_toArray, List.set_cons_zero, List.set_cons_succ])
            refine Seq.calm (i := 18) (d := some 38) (v := ?_) rfl rfl (by kernel_rfl) (by rfl) (fun w9 => ?_) ?_
            rotate_left
            · go_simp; try with_reducible rfl
            (try simp only [Act.put, List.setIfInBounds_toArray, List.set_cons_zero, List.set_cons_succ])
            refine Seq.held (i := 19) (d := some 39) (v := ?_) rfl rfl (by kernel_rfl) (by kernel_rfl) (by rfl) ?_ ?_
            rotate_left
            · go_simp; try with_reducible rfl
            (try simp only [Act.put, List.setIfInBounds_toArray, List.set_cons_zero, List.set_cons_succ])
            refine Seq.calm (i := 20) (d := some 40) (v := ?_) rfl rfl (by kernel_rfl) (by rfl) (fun w9 => ?_) ?_
            rotate_left
            · go_simp; try with_reducible rfl
            (try simp only [Act.put, List.setIfInBounds_toArray, List.set_cons_zero, List.set_cons_succ])
            refine Seq.calm (i := 21) (d := some 41) (v := ?_) rfl rfl (by kernel_rfl) (by rfl) (fun w9 => ?_) ?_
            rotate_left
            · go_simp; try with_reducible rfl
            (try simp only [Act.put, List.setIfInBounds_toArray, List.set_cons_zero, List.set_cons_succ])
            refine Seq.held (i := 22) (d := some 42) (v := ?_) rfl rfl (by kernel_rfl) (by kernel_rfl) (by rfl) ?_ ?_
            rotate_left
            · go_simp; try with_reducible rfl
            (try simp only [Act.put, List.setIfInBounds_toArray, List.set_cons_zero, List.set_cons_succ])
            refine Seq.drop (i := 23) rfl (by kernel_rfl) (by kernel_rfl) (by rfl) (fun K9 hK9 => ?_)
            go_simp
            (with_reducible refine (first_lt p _ _ _ _ _ _ _ (by simp [c0]) (by simp [hpl])).mono ?_)
            rintro e w2 ⟨rfl, hb2⟩
            refine hK9.out _ _ ?_
            clear hK9 K9
            (try simp only [Act.put, List.setIfInBounds_toArray, List.set_cons_zero, List.set_cons_succ])
            refine Seq.calm (i := 24) (d := some 44) (v := ?_) rfl rfl (by kernel_rfl) (by rfl) (fun w9 => ?_) ?_
            rotate_left
            · go_simp; try with_reducible rfl
            (try simp only [Act.put, List.setIfInBounds_toArray, List.set_cons_zero, List.set_cons_succ])
            refine Seq.done (by kernel_rfl) ?_
            go_wp2_with fail
            go_roundw
            case rel =>
              exact ⟨j + 1, c, rfl, by go_num, by omega, .inr ⟨hkc, hcl⟩, (show Hid _ from by
                unfold Hid
                rw [HR.out, HR2.out, stepF_yes (by omega) HX.out HY.out hlt]), Hbi.out.drew.trans (hb2.mono (by simp; omega))⟩
            case measure => simp [intOf]; omega
          · have hlt' : ltT (X1, X2, X3) (Y1, Y2, Y3) = false := by simpa using hlt
            clear hlt
            go_wp2_with fail
            refine Seq.start (fun _ => True) (Seq.but [23]) (Seq.these []) (by kernel_rfl) ?_
            refine Seq.calm (i := 0) (d := some 20) (v := ?_) rfl rfl (by kernel_rfl) (by rfl) (fun w9 => ?_) ?_
            rotate_left
            · go_simp; try with_reducible rfl
            (try simp only [Act.put, List.setIfInBounds_toArray, List.set_cons_zero, List.set_cons_succ])
            refine Seq.calm (i := 1) (d := some 21) (v := ?_) rfl rfl (by kernel_rfl) (by rfl) (fun w9 => ?_) ?_
            rotate_left
            · go_simp; try with_reducible rfl
            (try simp only [Act.put, List.setIfInBounds_toArray, List.set_cons_zero, List.set_cons_succ])
            refine Seq.calm (i := 2) (d := some 22) (v := ?_) rfl rfl (by kernel_rfl) (by rfl) (fun w9 => ?_) ?_
            rotate_left
            · go_simp; try with_reducible rfl
            (try simp only [Act.put, List.setIfInBounds_toArray, List.set_cons_zero, List.set_cons_succ])
            refine Seq.calm (i := 3) (d := some 23) (v := ?_) rfl rfl (by kernel_rfl) (by rfl) (fun w9 => ?_) ?_
            rotate_left
            · go_simp; try with_reducible rfl
            (try simp only [Act.put, List.setIfInBounds_toArray, List.set_cons_zero, List.set_cons_succ])
            refine Seq.held (i := 4) (d := some 24) (v := ?_) rfl rfl (by kernel_rfl) (by kernel_rfl) (by rfl) ?_ ?_
            rotate_left
            · go_simp; try with_reducible rfl
            (try simp only [Act.put, List.setIfInBounds_toArray, List.set_cons_zero, List.set_cons_succ])
            refine Seq.calm (i := 5) (d := some 25) (v := ?_) rfl rfl (by kernel_rfl) (by rfl) (fun w9 => ?_) ?_
            rotate_left
            · go_simp; try with_reducible rfl
            (try simp only [Act.put, List.setIfInBounds_toArray, List.set_cons_zero, List.set_cons_succ])
            refine Seq.calm (i := 6) (d := some 26) (v := ?_) rfl rfl (by kernel_rfl) (by rfl) (fun w9 => ?_) ?_
            rotate_left
            · go_simp; try with_reducible rfl
            (try simp only [Act.put, List.setIfInBounds_toArray, List.set_cons_zero, List.set_cons_succ])
            refine Seq.calm (i := 7) (d := some 27) (v := ?_) rfl rfl (by kernel_rfl) (by rfl) (fun w9 => ?_) ?_
            rotate_left
            · go_simp; try with_reducible rfl
            (try simp only [Act.put, List.setIfInBounds_toArray, List.set_cons_zero, List.set_cons_succ])
            refine Seq.calm (i := 8) (d := some 28) (v := ?_) rfl rfl (by kernel_rfl) (by rfl) (fun w9 => ?_) ?_
            rotate_left
            · go_simp; try with_reducible rfl
            (try simp only [Act.put, List.setIfInBounds_toArray, List.set_cons_zero, List.set_cons_succ])
            refine Seq.calm (i := 9) (d := some 29) (v := ?_) rfl rfl (by kernel_rfl) (by rfl) (fun w9 => ?_) ?_
            rotate_left
            · go_simp; try with_reducible rfl
            (try simp only [Act.put, List.setIfInBounds_toArray, List.set_cons_zero, List.set_cons_succ])
            refine Seq.calm (i := 10) (d := some 30) (v := ?_) rfl rfl (by kernel_rfl) (by rfl) (fun w9 => ?_) ?_
            rotate_left
            · go_simp; try with_reducible rfl
            (try simp only [Act.put, List.setIfInBounds_toArray, List.set_cons_zero, List.set_cons_succ])
            refine Seq.calm (i := 11) (d := some 31) (v := ?_) rfl rfl (by kernel_rfl) (by rfl) (fun w9 => ?_) ?_
            rotate_left
            · go_simp; try with_reducible rfl
            (try simp only [Act.put, List.setIfInBounds_toArray, List.set_cons_zero, List.set_cons_succ])
            refine Seq.held (i := 12) (d := some 32) (v := ?_) rfl rfl (by kernel_rfl) (by kernel_rfl) (by rfl) ?_ ?_
            rotate_left
            · go_simp; try with_reducible rfl
            (try simp only [Act.put, List.setIfInBounds_toArray, List.set_cons_zero, List.set_cons_succ])
            refine Seq.calm (i := 13) (d := some 33) (v := ?_) rfl rfl (by kernel_rfl) (by rfl) (fun w9 => ?_) ?_
            rotate_left
            · go_simp; try with_reducible rfl
            (try simp only [Act.put, List.setIfInBounds_toArray, List.set_cons_zero, List.set_cons_succ])
            refine Seq.calm (i := 14) (d := some 34) (v := ?_) rfl rfl (by kernel_rfl) (by rfl) (fun w9 => ?_) ?_
            rotate_left
            · go_simp; try with_reducible rfl
            (try simp only [Act.put, List.setIfInBounds_toArray, List.set_cons_zero, List.set_cons_succ])
            refine Seq.held (i := 15) (d := some 35) (v := ?_) rfl rfl (by kernel_rfl) (by kernel_rfl) (by rfl) ?_ ?_
            rotate_left
            · go_simp; try with_reducible rfl
            (try simp only [Act.put, List.setIfInBounds_toArray, List.set_cons_zero, List.set_cons_succ])
            refine Seq.calm (i := 16) (d := some 36) (v := ?_) rfl rfl (by kernel_rfl) (by rfl) (fun w9 => ?_) ?_
            rotate_left
            · go_simp; try with_reducible rfl
            (try simp only [Act.put, List.setIfInBounds_toArray, List.set_cons_zero, List.set_cons_succ])
            refine Seq.calm (i := 17) (d := some 37) (v := ?_) rfl rfl (by kernel_rfl) (by rfl) (fun w9 => ?_) ?_
            rotate_left
            · go_simp; try with_reducible rfl
            (try simp only [Act.put, List.setIfInBounds_toArray, List.set_cons_zero, List.set_cons_succ])
            refine Seq.calm (i := 18) (d := some 38) (v := ?_) rfl rfl (by kernel_rfl) (by rfl) (fun w9 => ?_) ?_
            rotate_left
            · go_simp; try with_reducible rfl
            (try simp only [Act.put, List.setIfInBounds_toArray, List.set_cons_zero, List.set_cons_succ])
            refine Seq.held (i := 19) (d := some 39) (v := ?_) rfl rfl (by kernel_rfl) (by kernel_rfl) (by rfl) ?_ ?_
            rotate_left
            · go_simp; try with_reducible rfl
            (try simp only [Act.put, List.setIfInBounds_toArray, List.set_cons_zero, List.set_cons_succ])
            refine Seq.calm (i := 20) (d := some 40) (v := ?_) rfl rfl (by kernel_rfl) (by rfl) (fun w9 => ?_) ?_
            rotate_left
            · go_simp; try with_reducible rfl
            (try simp only [Act.put, List.setIfInBounds_toArray, List.set_cons_zero, List.set_cons_succ])
            refine Seq.calm (i := 21) (d := some 41) (v := ?_) rfl rfl (by kernel_rfl) (by rfl) (fun w9 => ?_) ?_
            rotate_left
            · go_simp; try with_reducible rfl
            (try simp only [Act.put, List.setIfInBounds_toArray, List.set_cons_zero, List.set_cons_succ])
            refine Seq.held (i := 22) (d := some 42) (v := ?_) rfl rfl (by kernel_rfl) (by kernel_rfl) (by rfl) ?_ ?_
            rotate_left
            · go_simp; try with_reducible rfl
            (try simp only [Act.put, List.setIfInBounds_toArray, List.set_cons_zero, List.set_cons_succ])
            refine Seq.drop (i := 23) rfl (by kernel_rfl) (by kernel_rfl) (by rfl) (fun K9 hK9 => ?_)
            go_simp
            (with_reducible refine (first_lt p _ _ _ _ _ _ _ (by simp [c0]) (by simp [hpl])).mono ?_)
            rintro e w2 ⟨rfl, hb2⟩
            refine hK9.out _ _ ?_
            clear hK9 K9
            (try simp only [Act.put, List.setIfInBounds_toArray, List.set_cons_zero, List.set_cons_succ])
            refine Seq.calm (i := 24) (d := some 44) (v := ?_) rfl rfl (by kernel_rfl) (by rfl) (fun w9 => ?_) ?_
            rotate_left
            · go_simp; try with_reducible rfl
            (try simp only [Act.put, List.setIfInBounds_toArray, List.set_cons_zero, List.set_cons_succ])
            refine Seq.done (by kernel_rfl) ?_
            go_wp2_with fail
            go_roundw
            case rel =>
              exact ⟨j + 1, m, rfl, by go_num, by omega, hm, (show Hid _ from by
                unfold Hid
                rw [HR.out, HR2.out, stepF_no HX.out HY.out hlt']), Hbi.out.drew.trans (hb2.mono (by simp; omega))⟩
            case measure => simp [intOf]; omega
        · have hcl' : decide ((c : Int) < (l.length : Int)) = false := by simp; omega
          have Hbi := Lib.hid hbi
          clear hbi hbo
          go_wp2_with fail
          refine Seq.start (fun _ => True) (Seq.but []) (Seq.these []) (by kernel_rfl) ?_
          refine Seq.calm (i := 0) (d := some 20) (v := ?_) rfl rfl (by kernel_rfl) (by rfl) (fun w9 => ?_) ?_
          rotate_left
          · go_simp; try with_reducible rfl
          (try simp only [Act.put, List.setIfInBounds_toArray, List.set_cons_zero, List.set_cons_succ])
          refine Seq.calm (i := 1) (d := some 21) (v := ?_) rfl rfl (by kernel_rfl) (by rfl) (fun w9 => ?_) ?_
          rotate_left
          · go_simp; try with_reducible rfl
          (try simp only [Act.put, List.setIfInBounds_toArray, List.set_cons_zero, List.set_cons_succ])
          refine Seq.calm (i := 2) (d := some 22) (v := ?_) rfl rfl (by kernel_rfl) (by rfl) (fun w9 => ?_) ?_
          rotate_left
          · go_simp; try with_reducible rfl
          (try simp only [Act.put, List.setIfInBounds_toArray, List.set_cons_zero, List.set_cons_succ])
          refine Seq.calm (i := 3) (d := some 23) (v := ?_) rfl rfl (by kernel_rfl) (by rfl) (fun w9 => ?_) ?_
          rotate_left
          · go_simp; try with_reducible rfl
          (try simp only [Act.put, List.setIfInBounds_toArray, List.set_cons_zero, List.set_cons_succ])
          refine Seq.held (i := 4) (d := some 24) (v := ?_) rfl rfl (by kernel_rfl) (by kernel_rfl) (by rfl) ?_ ?_
          rotate_left
          · go_simp; try with_reducible rfl
          (try simp only [Act.put, List.setIfInBounds_toArray, List.set_cons_zero, List.set_cons_succ])
          refine Seq.calm (i := 5) (d := some 25) (v := ?_) rfl rfl (by kernel_rfl) (by rfl) (fun w9 => ?_) ?_
          rotate_left
          · go_simp; try with_reducible rfl
          (try simp only [Act.put, List.setIfInBounds_toArray, List.set_cons_zero, List.set_cons_succ])
          refine Seq.calm (i := 6) (d := some 26) (v := ?_) rfl rfl (by kernel_rfl) (by rfl) (fun w9 => ?_) ?_
          rotate_left
          · go_simp; try with_reducible rfl
          (try simp only [Act.put, List.setIfInBounds_toArray, List.set_cons_zero, List.set_cons_succ])
          refine Seq.calm (i := 7) (d := some 27) (v := ?_) rfl rfl (by kernel_rfl) (by rfl) (fun w9 => ?_) ?_
          rotate_left
          · go_simp; try with_reducible rfl
          (try simp only [Act.put, List.setIfInBounds_toArray, List.set_cons_zero, List.set_cons_succ])
          refine Seq.no (i := 8) (d := some 28) rfl rfl (by kernel_rfl) (by rfl) ?_
          (try simp only [Act.put, List.setIfInBounds_toArray, List.set_cons_zero, List.set_cons_succ])
          refine Seq.no (i := 9) (d := some 29) rfl rfl (by kernel_rfl) (by rfl) ?_
          (try simp only [Act.put, List.setIfInBounds_toArray, List.set_cons_zero, List.set_cons_succ])
          refine Seq.no (i := 10) (d := some 30) rfl rfl (by kernel_rfl) (by rfl) ?_
          (try simp only [Act.put, List.setIfInBounds_toArray, List.set_cons_zero, List.set_cons_succ])
          refine Seq.no (i := 11) (d := some 31) rfl rfl (by kernel_rfl) (by rfl) ?_
          (try simp only [Act.put, List.setIfInBounds_toArray, List.set_cons_zero, List.set_cons_succ])
          refine Seq.no (i := 12) (d := some 32) rfl rfl (by kernel_rfl) (by rfl) ?_
          (try simp only [Act.put, List.setIfInBounds_toArray, List.set_cons_zero, List.set_cons_succ])
          refine Seq.no (i := 13) (d := some 33) rfl rfl (by kernel_rfl) (by rfl) ?_
          (try simp only [Act.put, List.setIfInBounds_toArray, List.set_cons_zero, List.set_cons_succ])
          refine Seq.no (i := 14) (d := some 34) rfl rfl (by kernel_rfl) (by rfl) ?_
          (try simp only [Act.put, List.setIfInBounds_toArray, List.set_cons_zero, List.set_cons_succ])
          refine Seq.no (i := 15) (d := some 35) rfl rfl (by kernel_rfl) (by rfl) ?_
          (try simp only [Act.put, List.setIfInBounds_toArray, List.set_cons_zero, List.set_cons_succ])
          refine Seq.no (i := 16) (d := some 36) rfl rfl (by kernel_rfl) (by rfl) ?_
          (try simp only [Act.put, List.setIfInBounds_toArray, List.set_cons_zero, List.set_cons_succ])
          refine Seq.no (i := 17) (d := some 37) rfl rfl (by kernel_rfl) (by rfl) ?_
          (try simp only [Act.put, List.setIfInBounds_toArray, List.set_cons_zero, List.set_cons_succ])
          refine Seq.no (i := 18) (d := some 38) rfl rfl (by kernel_rfl) (by rfl) ?_
          (try simp only [Act.put, List.setIfInBounds_toArray, List.set_cons_zero, List.set_cons_succ])
          refine Seq.no (i := 19) (d := some 39) rfl rfl (by kernel_rfl) (by rfl) ?_
          (try simp only [Act.put, List.setIfInBounds_toArray, List.set_cons_zero, List.set_cons_succ])
          refine Seq.no (i := 20) (d := some 40) rfl rfl (by kernel_rfl) (by rfl) ?_
          (try simp only [Act.put, List.setIfInBounds_toArray, List.set_cons_zero, List.set_cons_succ])
          refine Seq.no (i := 21) (d := some 41) rfl rfl (by kernel_rfl) (by rfl) ?_
          (try simp only [Act.put, List.setIfInBounds_toArray, List.set_cons_zero, List.set_cons_succ])
          refine Seq.no (i := 22) (d := some 42) rfl rfl (by kernel_rfl) (by rfl) ?_
          (try simp only [Act.put, List.setIfInBounds_toArray, List.set_cons_zero, List.set_cons_succ])
          refine Seq.no (i := 23) (d := some 43) rfl rfl (by kernel_rfl) (by rfl) ?_
          (try simp only [Act.put, List.setIfInBounds_toArray, List.set_cons_zero, List.set_cons_succ])
          refine Seq.calm (i := 24) (d := some 44) (v := ?_) rfl rfl (by kernel_rfl) (by rfl) (fun w9 => ?_) ?_
          rotate_left
          · go_simp; try with_reducible rfl
          (try simp only [Act.put, List.setIfInBounds_toArray, List.set_cons_zero, List.set_cons_succ])
          refine Seq.done (by kernel_rfl) ?_
          go_wp2_with fail
          go_roundw
          case rel =>
            exact ⟨j + 1, m, rfl, by go_num, by omega, hm, (show Hid _ from by
              unfold Hid
              rw [HR.out, HR2.out, stepF_out (by omega)]), Hbi.out.drew⟩
          case measure => simp [intOf]; omega
      · obtain rfl : j = 2 := by omega
        have HRm : Hid (restF ltT l' k 2 k = m) := HR
        have Hbi := Lib.hid hbi
        have hown2 := own_below Hown'.out hbo
        have hg2 := grown_trans Hg.out (grown_below (some b) hbo)
        clear hbi hbo
        by_cases hmk : m = k
        · subst hmk
          go_wp2_with fail
          refine bodyPost_ret (results_none rfl _ _ _) rfl ?_
          refine ⟨rfl, ?_, hg2⟩
          rw [HU.out, downF_stop HRm.out]
          exact hown2
        · have hml : m < l.length := by omega
          have hkm : k < m := by omega
          have hkl : k < l.length := by omega
          have hmk' : ((m : Int) == (k : Int)) = false := beq_eq_false_iff_ne.2 (by omega)
          obtain ⟨x0, x1, x2⟩ := ent_cells hown2 k (by omega)
          obtain ⟨y0, y1, y2⟩ := ent_cells hown2 m (by omega)
          obtain ⟨X, HX⟩ : ∃ X, Hid (l'.getD k (0, 0, 0) = X) := ⟨_, rfl⟩
          obtain ⟨Y, HY⟩ : ∃ Y, Hid (l'.getD m (0, 0, 0) = Y) := ⟨_, rfl⟩
          rw [HX.out] at x0 x1 x2
          rw [HY.out] at y0 y1 y2
          obtain ⟨X1, X2, X3⟩ := X
          obtain ⟨Y1, Y2, Y3⟩ := Y
          have HU2 : Hid (downF ltT (l.length + 1) l at0 = downF ltT (f - 1) ((l'.set k (Y1, Y2, Y3)).set m (X1, X2, X3)) m) := by
            unfold Hid
            rw [HU.out, downF_go hf1 HRm.out hmk HX.out HY.out]
          have fb := hown2.frozenAt
          have hbp : b ≠ p := Ne.symm hpb
          have Hg2 := Lib.hid hg2
          have Hown2 := Lib.hid hown2
          clear hg2 hown2
          go_wp2_with fail
          refine Seq.start (fun w' => w'.cell? ⟨p, 1, none⟩ = some (.slice (some ⟨b, 0, none⟩) l.length cap)) (Seq.but [25, 27]) (Seq.these []) (by kernel_rfl) ?_
          refine Seq.calm (i := 0) (d := some 50) (v := ?_) rfl rfl (by kernel_rfl) (by rfl) (fun w9 => ?_) ?_
          rotate_left
          · go_simp; try with_reducible rfl
          (try simp only [Act.put, List.setIfInBounds_toArray, List.set_cons_zero, List.set_cons_succ])
          refine Seq.calm (i := 1) (d := some 51) (v := ?_) rfl rfl (by kernel_rfl) (by rfl) (fun w9 => ?_) ?_
          rotate_left
          · go_simp; try with_reducible rfl
          (try simp only [Act.put, List.setIfInBounds_toArray, List.set_cons_zero, List.set_cons_succ])
          refine Seq.calm (i := 2) (d := some 52) (v := ?_) rfl rfl (by kernel_rfl) (by rfl) (fun w9 => ?_) ?_
          rotate_left
          · go_simp; try with_reducible rfl
          (try simp only [Act.put, List.setIfInBounds_toArray, List.set_cons_zero, List.set_cons_succ])
          refine Seq.held (i := 3) (d := some 53) (v := ?_) rfl rfl (by kernel_rfl) (by kernel_rfl) (by rfl) ?_ ?_
          rotate_left
          · go_simp; try with_reducible rfl
          (try simp only [Act.put, List.setIfInBounds_toArray, List.set_cons_zero, List.set_cons_succ])
          refine Seq.calm (i := 4) (d := some 54) (v := ?_) rfl rfl (by kernel_rfl) (by rfl) (fun w9 => ?_) ?_
          rotate_left
          · go_simp; try with_reducible rfl
          (try simp only [Act.put, List.setIfInBounds_toArray, List.set_cons_zero, List.set_cons_succ])
          refine Seq.calm (i := 5) (d := some 55) (v := ?_) rfl rfl (by kernel_rfl) (by rfl) (fun w9 => ?_) ?_
          rotate_left
          · go_simp; try with_reducible rfl
          (try simp only [Act.put, List.setIfInBounds_toArray, List.set_cons_zero, List.set_cons_succ])
          refine Seq.calm (i := 6) (d := some 56) (v := ?_) rfl rfl (by kernel_rfl) (by rfl) (fun w9 => ?_) ?_
          rotate_left
          · go_simp; try with_reducible rfl
          (try simp only [Act.put, List.setIfInBounds_toArray, List.set_cons_zero, List.set_cons_succ])
          refine Seq.calm (i := 7) (d := some 57) (v := ?_) rfl rfl (by kernel_rfl) (by rfl) (fun w9 => ?_) ?_
          rotate_left
          · go_simp; try with_reducible rfl
          (try simp only [Act.put, List.setIfInBounds_toArray, List.set_cons_zero, List.set_cons_succ])
          refine Seq.held (i := 8) (d := some 58) (v := ?_) rfl rfl (by kernel_rfl) (by kernel_rfl) (by rfl) ?_ ?_
          rotate_left
          · go_simp; try with_reducible rfl
          (try simp only [Act.put, List.setIfInBounds_toArray, List.set_cons_zero, List.set_cons_succ])
          refine Seq.calm (i := 9) (d := some 59) (v := ?_) rfl rfl (by kernel_rfl) (by rfl) (fun w9 => ?_) ?_
          rotate_left
          · go_simp; try with_reducible rfl
          (try simp only [Act.put, List.setIfInBounds_toArray, List.set_cons_zero, List.set_cons_succ])
          refine Seq.calm (i := 10) (d := some 60) (v := ?_) rfl rfl (by kernel_rfl) (by rfl) (fun w9 => ?_) ?_
          rotate_left
          · go_simp; try with_reducible rfl
          (try simp only [Act.put, List.setIfInBounds_toArray, List.set_cons_zero, List.set_cons_succ])
          refine Seq.calm (i := 11) (d := some 61) (v := ?_) rfl rfl (by kernel_rfl) (by rfl) (fun w9 => ?_) ?_
          rotate_left
          · go_simp; try with_reducible rfl
          (try simp only [Act.put, List.setIfInBounds_toArray, List.set_cons_zero, List.set_cons_succ])
          refine Seq.calm (i := 12) (d := some 62) (v := ?_) rfl rfl (by kernel_rfl) (by rfl) (fun w9 => ?_) ?_
          rotate_left
          · go_simp; try with_reducible rfl
          (try simp only [Act.put, List.setIfInBounds_toArray, List.set_cons_zero, List.set_cons_succ])
          refine Seq.held (i := 13) (d := some 63) (v := ?_) rfl rfl (by kernel_rfl) (by kernel_rfl) (by rfl) ?_ ?_
          rotate_left
          · go_simp; try with_reducible rfl
          (try simp only [Act.put, List.setIfInBounds_toArray, List.set_cons_zero, List.set_cons_succ])
          refine Seq.calm (i := 14) (d := some 64) (v := ?_) rfl rfl (by kernel_rfl) (by rfl) (fun w9 => ?_) ?_
          rotate_left
          · go_simp; try with_reducible rfl
          (try simp only [Act.put, List.setIfInBounds_toArray, List.set_cons_zero, List.set_cons_succ])
          refine Seq.calm (i := 15) (d := some 65) (v := ?_) rfl rfl (by kernel_rfl) (by rfl) (fun w9 => ?_) ?_
          rotate_left
          · go_simp; try with_reducible rfl
          (try simp only [Act.put, List.setIfInBounds_toArray, List.set_cons_zero, List.set_cons_succ])
          refine Seq.held (i := 16) (d := some 66) (v := ?_) rfl rfl (by kernel_rfl) (by kernel_rfl) (by rfl) ?_ ?_
          rotate_left
          · go_simp; try with_reducible rfl
          (try simp only [Act.put, List.setIfInBounds_toArray, List.set_cons_zero, List.set_cons_succ])
          refine Seq.calm (i := 17) (d := some 67) (v := ?_) rfl rfl (by kernel_rfl) (by rfl) (fun w9 => ?_) ?_
          rotate_left
          · go_simp; try with_reducible rfl
          (try simp only [Act.put, List.setIfInBounds_toArray, List.set_cons_zero, List.set_cons_succ])
          refine Seq.calm (i := 18) (d := some 68) (v := ?_) rfl rfl (by kernel_rfl) (by rfl) (fun w9 => ?_) ?_
          rotate_left
          · go_simp; try with_reducible rfl
          (try simp only [Act.put, List.setIfInBounds_toArray, List.set_cons_zero, List.set_cons_succ])
          refine Seq.calm (i := 19) (d := some 69) (v := ?_) rfl rfl (by kernel_rfl) (by rfl) (fun w9 => ?_) ?_
          rotate_left
          · go_simp; try with_reducible rfl
          (try simp only [Act.put, List.setIfInBounds_toArray, List.set_cons_zero, List.set_cons_succ])
          refine Seq.held (i := 20) (d := some 70) (v := ?_) rfl rfl (by kernel_rfl) (by kernel_rfl) (by rfl) ?_ ?_
          rotate_left
          · go_simp; try with_reducible rfl
          (try simp only [Act.put, List.setIfInBounds_toArray, List.set_cons_zero, List.set_cons_succ])
          refine Seq.calm (i := 21) (d := some 71) (v := ?_) rfl rfl (by kernel_rfl) (by rfl) (fun w9 => ?_) ?_
          rotate_left
          · go_simp; try with_reducible rfl
          (try simp only [Act.put, List.setIfInBounds_toArray, List.set_cons_zero, List.set_cons_succ])
          refine Seq.calm (i := 22) (d := some 72) (v := ?_) rfl rfl (by kernel_rfl) (by rfl) (fun w9 => ?_) ?_
          rotate_left
          · go_simp; try with_reducible rfl
          (try simp only [Act.put, List.setIfInBounds_toArray, List.set_cons_zero, List.set_cons_succ])
          refine Seq.held (i := 23) (d := some 73) (v := ?_) rfl rfl (by kernel_rfl) (by kernel_rfl) (by rfl) ?_ ?_
          rotate_left
          · go_simp; try with_reducible rfl
          (try simp only [Act.put, List.setIfInBounds_toArray, List.set_cons_zero, List.set_cons_succ])
          refine Seq.calm (i := 24) (d := some 74) (v := ?_) rfl rfl (by kernel_rfl) (by rfl) (fun w9 => ?_) ?_
          rotate_left
          · go_simp; try with_reducible rfl
          (try simp only [Act.put, List.setIfInBounds_toArray, List.set_cons_zero, List.set_cons_succ])
          refine Seq.drop (i := 25) rfl (by kernel_rfl) (by kernel_rfl) (by rfl) (fun K9 hK9 => ?_)
          go_simp
          refine hK9.out _ _ ?_
          clear hK9 K9
          (try simp only [Act.put, List.setIfInBounds_toArray, List.set_cons_zero, List.set_cons_succ])
          refine Seq.calm (i := 26) (d := some 75) (v := ?_) rfl rfl (by kernel_rfl) (by rfl) (fun w9 => ?_) ?_
          rotate_left
          · go_simp; try with_reducible rfl
          (try simp only [Act.put, List.setIfInBounds_toArray, List.set_cons_zero, List.set_cons_succ])
          refine Seq.drop (i := 27) rfl (by kernel_rfl) (by kernel_rfl) (by rfl) (fun K9 hK9 => ?_)
          go_simp
          refine hK9.out _ _ ?_
          clear hK9 K9
          (try simp only [Act.put, List.setIfInBounds_toArray, List.set_cons_zero, List.set_cons_succ])
          refine Seq.done (by kernel_rfl) ?_
          go_wp2_with fail
          go_roundw
          case rel =>
            have hs1 := set3 Hown2.out k (Y1, Y2, Y3) (by omega)
            have hs2 := set3 hs1.1 m (X1, X2, X3) (by simp; omega)
            dsimp only at hs1 hs2
            have ho3 : l.length + 1 ≤ (f - 1) + m := by omega
            exact ⟨m, f - 1, (l'.set k (Y1, Y2, Y3)).set m (X1, X2, X3), rfl, by omega, ho3, by omega, by simp [hl], HU2, own_drew hs2.1, grown_drew (grown_trans Hg2.out (grown_trans hs1.2 hs2.2))⟩
          case measure => simp [intOf]; omega
end Go.Proofs.Yteclijealbdhnaa
