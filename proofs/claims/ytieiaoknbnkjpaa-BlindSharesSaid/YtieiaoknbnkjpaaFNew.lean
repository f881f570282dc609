/- The field's tables as the program makes them, and products and quotients by them. -/
import Derived.Test.YtieiaoknbnkjpaaRf0
import Derived.Test.YtieiaoknbnkjpaaG
import Derived.Test.YtieiaoknbnkjpaaS
import Derived.WalkSpells
import Derived.WalkLawsBesides
import Derived.Lib.Hide
import Derived.Outline
import Derived.Laws.BitsAllLaws
namespace Go.Proofs.Ytieiaoknbnkjpaa.Rf
open Go.RowKit Go.Proofs.YtieiaoknbnkjpaaW.PrintWords

theorem bits_xor_i64 (a b : Nat) (ha : a < 1048576) (hb : b < 1048576) : bits .xor .i64 (a : Int) (b : Int) = ((a ^^^ b : Nat) : Int) := by
  have hx : a ^^^ b < 2 ^ 20 := Nat.xor_lt_two_pow (by omega) (by omega)
  have h1 : (BitVec.ofInt 64 (a : Int)).toNat = a := by
    rw [BitVec.ofInt_natCast, BitVec.toNat_ofNat]; exact Nat.mod_eq_of_lt (by omega)
  have h2 : (BitVec.ofInt 64 (b : Int)).toNat = b := by
    rw [BitVec.ofInt_natCast, BitVec.toNat_ofNat]; exact Nat.mod_eq_of_lt (by omega)
  show IntKind.i64.wrap ((BitVec.ofInt 64 (a : Int) ^^^ BitVec.ofInt 64 (b : Int)).toNat : Int) = _
  rw [BitVec.toNat_xor, h1, h2, IntKind.wrap_i64]
  omega
/-- The tables lie at block p. -/
structure Fld (w : World) (p : Nat) : Prop where
  out : ∃ cs : Array Value, w.heap[p]? = some (.cells cs 50 (0, 0)) ∧ (∀ i, i < 510 → cs[i]? = some (.int .u8 (Gf.E i : Nat))) ∧ ∀ a, a < 256 → cs[510 + a]? = some (.int .i64 (Gf.lo a : Nat))
theorem Fld.below {w w1 : World} {p : Nat} (h : Fld w p) (hb : Below w.heap.size w w1) : Fld w1 p := by
  obtain ⟨cs, h1, h2, h3⟩ := h
  exact ⟨cs, (hb.block p (blk_lt h1)).trans h1, h2, h3⟩
theorem Fld.exp {w : World} {p : Nat} (h : Fld w p) {i : Nat} (hi : i < 510) : w.cell? ⟨p, i, none⟩ = some (.int .u8 (Gf.E i : Nat)) := by
  obtain ⟨cs, h1, h2, _⟩ := h
  rw [blk_cell h1]; exact h2 i hi
theorem Fld.log {w : World} {p : Nat} (h : Fld w p) {a : Nat} (ha : a < 256) : w.cell? ⟨p, 510 + a, none⟩ = some (.int .i64 (Gf.lo a : Nat)) := by
  obtain ⟨cs, h1, _, h3⟩ := h
  rw [blk_cell h1]; exact h3 a ha

def zs50 : Array Value := (List.replicate 510 (Value.int .u8 0) ++ List.replicate 256 (Value.int .i64 0)).toArray
theorem info50 : (Try.prog.info? 50).map (·.zero) = some (some (.agg zs50)) := by kernel_rfl
theorem zv50 (w : World) : (zeroValue 50).run Try.prog w = .ok (.agg zs50) w := by
  obtain ⟨i, hi, hz⟩ := Option.map_eq_some_iff.1 info50
  simp [zeroValue, typeInfo, hi, hz]

/-- What the tables are behind k rounds. -/
def Tab (k : Nat) (cs : Array Value) : Prop := cs.size = 766 ∧ (∀ i, i < 510 → cs[i]? = some (.int .u8 (if i % 255 < k then (Gf.E i : Int) else 0))) ∧ ∀ a, a < 256 → cs[510 + a]? = some (.int .i64 (Gf.lg k a : Nat))
theorem tab_zero : Tab 0 zs50 := by
  refine ⟨by decide +kernel, fun i hi => ?_, fun a ha => ?_⟩
  · rw [if_neg (by omega), zs50, List.getElem?_toArray, List.getElem?_append_left (by rw [List.length_replicate]; exact hi), List.getElem?_replicate, if_pos hi]
  · rw [zs50, List.getElem?_toArray, List.getElem?_append_right (by rw [List.length_replicate]; omega), List.length_replicate, List.getElem?_replicate, if_pos (by omega)]; rfl
theorem tab_succ {k : Nat} {cs : Array Value} (h : Tab k cs) (hk : k < 255) :
    Tab (k + 1) (((cs.setIfInBounds k (.int .u8 (Gf.E k : Nat))).setIfInBounds (k + 255) (.int .u8 (Gf.E k : Nat))).setIfInBounds (510 + Gf.E k) (.int .i64 k)) := by
  obtain ⟨h1, h2, h3⟩ := h
  have hE := Gf.E_lt k
  have hp := Gf.E_per k
  refine ⟨by simp [h1], fun i hi => ?_, fun a ha => ?_⟩
  · have e1 : (510 + Gf.E k = i) = False := eq_false (by omega)
    by_cases c1 : i = k
    · subst c1
      simp [Array.getElem?_setIfInBounds, h1, e1, show ¬ (i + 255 = i) by omega, show i < 766 by omega, show i % 255 < i + 1 by omega]
    · by_cases c2 : i = k + 255
      · subst c2
        simp [Array.getElem?_setIfInBounds, h1, e1, show k + 255 < 766 by omega, show k % 255 < k + 1 by omega, hp]
      · have : (i % 255 < k + 1) = (i % 255 < k) := by
          apply propext; omega
        simp only [this]
        rw [← h2 i hi]
        simp [Array.getElem?_setIfInBounds, e1, show ¬ (k = i) by omega, show ¬ (k + 255 = i) by omega]
  · have hl : Gf.lg (k + 1) a = if Gf.E k = a then k else Gf.lg k a := rfl
    rw [hl]
    by_cases c : Gf.E k = a
    · rw [if_pos c, c]
      simp [Array.getElem?_setIfInBounds, h1, show 510 + a < 766 by omega]
    · rw [if_neg c, ← h3 a ha]
      simp [Array.getElem?_setIfInBounds, c, show ¬ (k + 255 = 510 + a) by omega, show ¬ (k = 510 + a) by omega]
theorem tab_fld {w : World} {p : Nat} {cs : Array Value} (h : Tab 255 cs) (hb : w.heap[p]? = some (.cells cs 50 (0, 0))) : Fld w p :=
  ⟨cs, hb, fun i hi => by rw [h.2.1 i hi, if_pos (by omega)], h.2.2⟩

set_option maxRecDepth 100000 in
set_option maxHeartbeats 1000000 in
theorem gf_New (w : World) : Calls Try.prog 9 #[] w fun e w' => ∃ p, e = .returned (.pointer (some ⟨p, 0, none⟩)) ∧ Fld w' p ∧ Below w.heap.size w w' := by
  have hz := zv50
  have HT := Lib.hid tab_zero
  go_enter Try.func9, Try.ntmps9
  go_wp2_with fail
  generalize zs50 = cs0 at *
  go_loopw [2, 6] (fun x i wr => ∃ (k : Nat) (cs : Array Value), k ≤ 255 ∧ x = .int .i64 (Gf.E k : Nat) ∧ i = .int .i64 k ∧ Hid (Tab k cs) ∧ Hid (wr.heap[w.heap.size]? = some (.cells cs 50 (0, 0))) ∧ Hid (Below w.heap.size w wr)) (fun _ i _ => 255 - (intOf i).toNat)
  case atStart => exact ⟨0, cs0, by omega, rfl, rfl, HT, Lib.hid (heap_alloc_new w _), Lib.hid ((Below.refl _ _).alloc (Nat.le_refl _) _)⟩
  case round =>
    obtain ⟨k, cs, hk, rfl, rfl, H1, H2, H3⟩ := hrel
    by_cases hlt : k < 255
    · have hE := (Gf.E_lt k).1
      obtain ⟨x, hx⟩ : ∃ x, Hid (Gf.E k = x) := ⟨_, rfl⟩
      rw [hx.out] at hE ⊢
      have h1 : wr.cell? ⟨w.heap.size, k, none⟩ = cs[k]? := blk_cell H2.out k
      have h2 : wr.cell? ⟨w.heap.size, k + 255, none⟩ = cs[k + 255]? := blk_cell H2.out _
      have h3 : wr.cell? ⟨w.heap.size, 510 + x, none⟩ = cs[510 + x]? := blk_cell H2.out _
      have s1 := H1.out.1
      have hb1 : bits .xor .i64 (x : Int) ((x : Int) * 2) = ((x ^^^ (2 * x) : Nat) : Int) := by
        rw [show (x : Int) * 2 = ((2 * x : Nat) : Int) by omega]
        exact bits_xor_i64 _ _ (by omega) (by omega)
      have hy1 : x ^^^ (2 * x) < 512 := Nat.xor_lt_two_pow (n := 9) (by omega) (by omega)
      obtain ⟨y, hy⟩ : ∃ y, Hid (x ^^^ (2 * x) = y) := ⟨_, rfl⟩
      rw [hy.out] at hb1 hy1
      have hb2 : bits .xor .i64 (y : Int) 283 = ((y ^^^ 283 : Nat) : Int) := bits_xor_i64 y 283 (by omega) (by omega)
      rw [Array.getElem?_eq_getElem (by omega)] at h1 h2 h3
      have hf : ∀ i, wr.frozen? ⟨w.heap.size, i, none⟩ = false := fun i => blk_frozen H2.out i
      go_wp2_with fail
      have i1 : (k : Int) < 510 := by omega
      have i2 : (k : Int) + 255 < 510 := by omega
      have i3 : IntKind.i64.wrap ((k : Int) + 255) = (k : Int) + 255 := IntWalk.i64_in _ (by omega)
      have i4 : IntKind.u8.wrap (x : Int) = (x : Int) := by rw [IntKind.wrap_u8']; omega
      have i5 : (0 : Int) ≤ (k : Int) + 255 := by omega
      have i6 : ((k : Int) + 255).toNat = k + 255 := by omega
      refine Seq.start (fun _ => True) (Seq.but [12, 16]) (Seq.these []) (by kernel_rfl) ?_
      refine Seq.calm (i := 0) (d := some 9) (v := ?_) rfl rfl (by kernel_rfl) (by rfl) (fun w9 => ?_) ?_
      rotate_left
      · go_simp; try with_reducible rfl
      (try simp only [Act.put, List.setIfInBounds_toArray, List.set_cons_zero, List.set_cons_succ])
      refine Seq.calm (i := 1) (d := some 10) (v := ?_) rfl rfl (by kernel_rfl) (by rfl) (fun w9 => ?_) ?_
      rotate_left
      · go_simp; try with_reducible rfl
      (try simp only [Act.put, List.setIfInBounds_toArray, List.set_cons_zero, List.set_cons_succ])
      refine Seq.calm (i := 2) (d := some 11) (v := ?_) rfl rfl (by kernel_rfl) (by rfl) (fun w9 => ?_) ?_
      rotate_left
      · go_simp; try with_reducible rfl
      (try simp only [Act.put, List.setIfInBounds_toArray, List.set_cons_zero, List.set_cons_succ])
      refine Seq.calm (i := 3) (d := some 12) (v := ?_) rfl rfl (by kernel_rfl) (by rfl) (fun w9 => ?_) ?_
      rotate_left
      · go_simp; try with_reducible rfl
      (try simp only [Act.put, List.setIfInBounds_toArray, List.set_cons_zero, List.set_cons_succ])
      refine Seq.calm (i := 4) (d := some 13) (v := ?_) rfl rfl (by kernel_rfl) (by rfl) (fun w9 => ?_) ?_
      rotate_left
      · go_simp; try with_reducible rfl
      (try simp only [Act.put, List.setIfInBounds_toArray, List.set_cons_zero, List.set_cons_succ])
      refine Seq.calm (i := 5) (d := some 14) (v := ?_) rfl rfl (by kernel_rfl) (by rfl) (fun w9 => ?_) ?_
      rotate_left
      · go_simp; try with_reducible rfl
      (try simp only [Act.put, List.setIfInBounds_toArray, List.set_cons_zero, List.set_cons_succ])
      refine Seq.calm (i := 6) (d := some 15) (v := ?_) rfl rfl (by kernel_rfl) (by rfl) (fun w9 => ?_) ?_
      rotate_left
      · go_simp; try with_reducible rfl
      (try simp only [Act.put, List.setIfInBounds_toArray, List.set_cons_zero, List.set_cons_succ])
      refine Seq.calm (i := 7) (d := some 16) (v := ?_) rfl rfl (by kernel_rfl) (by rfl) (fun w9 => ?_) ?_
      rotate_left
      · go_simp; try with_reducible rfl
      (try simp only [Act.put, List.setIfInBounds_toArray, List.set_cons_zero, List.set_cons_succ])
      refine Seq.calm (i := 8) (d := some 17) (v := ?_) rfl rfl (by kernel_rfl) (by rfl) (fun w9 => ?_) ?_
      rotate_left
      · go_simp; try with_reducible rfl
      (try simp only [Act.put, List.setIfInBounds_toArray, List.set_cons_zero, List.set_cons_succ])
      refine Seq.calm (i := 9) (d := some 18) (v := ?_) rfl rfl (by kernel_rfl) (by rfl) (fun w9 => ?_) ?_
      rotate_left
      · go_simp; try with_reducible rfl
      (try simp only [Act.put, List.setIfInBounds_toArray, List.set_cons_zero, List.set_cons_succ])
      refine Seq.calm (i := 10) (d := some 19) (v := ?_) rfl rfl (by kernel_rfl) (by rfl) (fun w9 => ?_) ?_
      rotate_left
      · go_simp; try with_reducible rfl
      (try simp only [Act.put, List.setIfInBounds_toArray, List.set_cons_zero, List.set_cons_succ])
      refine Seq.calm (i := 11) (d := some 20) (v := ?_) rfl rfl (by kernel_rfl) (by rfl) (fun w9 => ?_) ?_
      rotate_left
      · go_simp; try with_reducible rfl
      (try simp only [Act.put, List.setIfInBounds_toArray, List.set_cons_zero, List.set_cons_succ])
      refine Seq.calm (i := 13) (d := some 21) (v := ?_) rfl rfl (by kernel_rfl) (by rfl) (fun w9 => ?_) ?_
      rotate_left
      · go_simp; try with_reducible rfl
      (try simp only [Act.put, List.setIfInBounds_toArray, List.set_cons_zero, List.set_cons_succ])
      refine Seq.calm (i := 14) (d := some 22) (v := ?_) rfl rfl (by kernel_rfl) (by rfl) (fun w9 => ?_) ?_
      rotate_left
      · go_simp; try with_reducible rfl
      (try simp only [Act.put, List.setIfInBounds_toArray, List.set_cons_zero, List.set_cons_succ])
      refine Seq.drop (i := 12) rfl (by kernel_rfl) (by kernel_rfl) (by rfl) (fun K9 hK9 => ?_)
      go_simp
      refine hK9.out _ _ ?_
      clear hK9 K9
      (try simp only [Act.put, List.setIfInBounds_toArray, List.set_cons_zero, List.set_cons_succ])
      refine Seq.calm (i := 15) (d := some 23) (v := ?_) rfl rfl (by kernel_rfl) (by rfl) (fun w9 => ?_) ?_
      rotate_left
      · go_simp; try with_reducible rfl
      (try simp only [Act.put, List.setIfInBounds_toArray, List.set_cons_zero, List.set_cons_succ])
      refine Seq.drop (i := 16) rfl (by kernel_rfl) (by kernel_rfl) (by rfl) (fun K9 hK9 => ?_)
      go_simp
      refine hK9.out _ _ ?_
      clear hK9 K9
      (try simp only [Act.put, List.setIfInBounds_toArray, List.set_cons_zero, List.set_cons_succ])
      refine Seq.done (by kernel_rfl) ?_
      clear i1 i2 i3 i4 i5 i6
      go_wp2_with fail
      all_goals
        refine ⟨⟨k + 1, _, by omega, ?_, by go_num, Lib.hid (tab_succ H1.out hlt), ?_, ?_⟩, by simp [intOf]; omega⟩
        · rw [Gf.E_succ, hx.out]; unfold Gf.st; rw [hy.out]; first | (rw [if_pos (by omega)]; done) | (rw [if_neg (by omega)]; done)
        · rw [hx.out]
          exact Lib.hid (blk_set (blk_set (blk_set H2.out _ _) _ _) _ _)
        · exact Lib.hid (((H3.out.setCell (Nat.le_refl _) _).setCell (Nat.le_refl _) _).setCell (Nat.le_refl _) _).drew
    · obtain rfl : k = 255 := by omega
      go_wp2_with fail
      go_ret
      exact ⟨_, rfl, tab_fld H1.out H2.out, H3.out⟩
end Go.Proofs.Ytieiaoknbnkjpaa.Rf
