/- The fixed call answers true. -/
import Derived.Test.YtieiaoknbnkjpaaFRemap
import Derived.Test.YtieiaoknbnkjpaaFFill
import Derived.Test.YtieiaoknbnkjpaaFNew
import Derived.Test.YtieiaoknbnkjpaaRf11
import Derived.Test.YtieiaoknbnkjpaaRf12
import Derived.Lib.SlBytesConst
import Derived.Outline
namespace Go.Proofs.Ytieiaoknbnkjpaa.Rf
open Go.RowKit Go.Proofs.YtieiaoknbnkjpaaW.PrintWords
theorem aw1 (p : Nat) : blind_Remap.f 20 p [1] [2] [9] 2 [0] = some ([10], 0) := by kernel_rfl
theorem aw2 : blind_Seal.f 20 [5, 6] [1, 1] = some ([4, 7], 0) := by kernel_rfl
theorem aw3 : blind_Fill.f [97, 98] 4 = some ([2, 97, 98, 0], 0) := by kernel_rfl
theorem aw4 : shroudref01_Same.f 20 [4, 7] [4, 7] = some true := by kernel_rfl
theorem aw5 : shroudref01_Same.f 20 [2, 97, 98, 0] [2, 97, 98, 0] = some true := by kernel_rfl
theorem blk_C {W : World} {g : Nat} (xs : List Int) (h : W.heap[g]? = some (.cells (nums .u8 xs).toArray 5 (0, 0))) (hl : xs.length ≤ 1000000) : Kd.C (Kd.int .u8) W (some ⟨g, 0, none⟩) xs.length xs := by
  have h1 := own_block (base := 0) h (Nat.zero_le _) hl
  exact (Kd.R_reads' h1).2.2
theorem blk_CI {W : World} {g : Nat} (h : W.heap[g]? = some (.cells #[.int .i64 0] 3 (0, 0))) : Kd.C (Kd.int .i64) W (some ⟨g, 0, none⟩) 1 [0] := by
  have h1 : Kd.R (Kd.int .i64) 3 W 0 (fun _ => True) (.slice (some ⟨g, 0, none⟩) 1 1) [0] := by
    refine Kd.R_of_own ⟨by simp [encs], .inr ⟨g, 1, _, rfl, Nat.zero_le _, h, Nat.le_refl _, by unfold maxLen; omega, by simp, ?_⟩⟩ (fun _ _ => trivial)
    rfl
  exact (Kd.R_reads' h1).2.2
theorem sz_alloc (w : World) (o : Obj) : (w.alloc o).heap.size = w.heap.size + 1 := Array.size_push _
theorem at_new {W : World} {tt : Nat} {cs : Array Value} {g : Nat} (h : g = W.heap.size) : (W.alloc (.cells cs tt)).heap[g]? = some (.cells cs tt (0, 0)) := by
  subst h; exact heap_alloc_new W _
theorem R_cut {α : Type} {d : Kd α} {e : Nat} {w : World} {base : Nat} {ok : Nat → Prop} {v : Value} {xs : List α} {n : Nat} (h : d.R e w base ok v xs) (hn : xs.length = n) : ∃ A c, v = .slice A n c ∧ n ≤ c ∧ d.C w A n xs := by
  subst hn; exact Kd.R_reads h
theorem blk_CM {W : World} {g : Nat} {m : Nat × Nat} (k : IntKind) (tt : Nat) (xs : List Int) (h : W.heap[g]? = some (.cells (nums k xs).toArray tt m)) (hl : xs.length ≤ 1000000) : Kd.C (Kd.int k) W (some ⟨g, 0, none⟩) xs.length xs := by
  refine Kd.C_of_reads (d := 0) ⟨rfl, by omega, fun _ => ⟨_, rfl, fun j hj => ?_⟩⟩
  have h1 := cell_of_row W g j _ tt m h
  rw [show ((⟨g, 0, none⟩ : Addr).add j) = ⟨g, j, none⟩ by simp [Addr.add]; omega, h1]
  simp [nums, List.getElem?_eq_getElem hj, List.getD_eq_getElem?_getD]
def shroudlaw06_awake.f : Option Bool := some true
set_option maxRecDepth 100000 in
set_option maxHeartbeats 4000000 in
theorem shroudlaw06_awake.calls (r : Bool) (w : World) (h : shroudlaw06_awake.f = some r) :
    Calls Try.prog 7 #[] w fun e w' => e = .returned (.bool r) ∧ Below w.heap.size w w' := by
  obtain rfl : true = r := by simpa [shroudlaw06_awake.f] using h
  clear h
  have kc := fun (w : World) (C : Array Value) (n c : Nat) => Lib.run_convert_bytes_const (P := Try.prog) w 22 5 C n c Try.underlying22 Try.underlying5
  go_enter Try.func7, Try.ntmps7
  go_wp2_with (first
    | (go_at_call 14
       have c1 := blk_C (W := w.alloc (.cells #[.int .u8 5, .int .u8 6] 5)) (g := w.heap.size) [5, 6] (at_new rfl) (by decide)
       have c1' := Kd.C_below c1 ((Below.refl _ _).alloc (Nat.le_refl _) (.cells #[.int .u8 1, .int .u8 1] 5))
       have c2 := blk_C (W := (w.alloc (.cells #[.int .u8 5, .int .u8 6] 5)).alloc (.cells #[.int .u8 1, .int .u8 1] 5)) (g := w.heap.size + 1) [1, 1] (at_new (sz_alloc w _).symm) (by decide)
       have B0 := ((Below.refl w.heap.size w).alloc (Nat.le_refl _) (.cells #[.int .u8 5, .int .u8 6] 5)).alloc (by rw [sz_alloc]; omega) (.cells #[.int .u8 1, .int .u8 1] 5)
       refine (blind_Seal.calls 20 _ 2 [5, 6] _ 2 [1, 1] [4, 7] 0 _ c1' (by decide) c2 (by decide) aw2).mono ?_
       rintro e w1 ⟨v1, rfl, ho, hb⟩
       have HB1 := Aside0.mk (below_then B0 B0.size hb)
       obtain ⟨A1, n1, rfl, l1, C1⟩ := R_cut (n := 2) ho rfl
       have HC1 := Aside0.mk C1
       have HL1 := Aside0.mk l1
       clear ho hb c1 c1' c2 B0 C1 l1)
    | (go_at_call 17
       have c1 := blk_CM (W := w1.alloc (.cells #[.int .u8 97, .int .u8 98] 5 (2, 3))) (g := w1.heap.size) .u8 5 [97, 98] (heap_alloc_new w1 _) (by decide)
       have B0 := HB1.out.alloc HB1.out.size (.cells #[.int .u8 97, .int .u8 98] 5 (2, 3))
       have B1 := (Below.refl w1.heap.size w1).alloc (Nat.le_refl _) (.cells #[.int .u8 97, .int .u8 98] 5 (2, 3))
       refine (blind_Fill.calls _ 2 [97, 98] 4 [2, 97, 98, 0] 0 _ c1 (by decide) aw3).mono ?_
       rintro e w2 ⟨v2, rfl, ho, hb⟩
       have HB2 := Aside0.mk (below_then B0 B0.size hb)
       have HC12 := Aside0.mk (Kd.C_below (Kd.C_below HC1.out B1) hb)
       obtain ⟨A2, n2, rfl, l2, C2⟩ := R_cut (n := 4) ho rfl
       have HC2 := Aside0.mk C2
       have HL2 := Aside0.mk l2
       clear ho hb c1 B0 B1 C2 l2 HC1 HB1)
    | (go_at_call 9
       refine (gf_New w2).mono ?_
       rintro e w3 ⟨p, rfl, hf, hb⟩
       have HF := Aside0.mk hf
       have HB3 := Aside0.mk (below_then HB2.out HB2.out.size hb)
       have HC13 := Aside0.mk (Kd.C_below HC12.out hb)
       have HC23 := Aside0.mk (Kd.C_below HC2.out hb)
       clear hf hb HC12 HC2 HB2)
    | (go_at_call 8
       have c1 := blk_C (W := w3.alloc (.cells #[.int .u8 1] 5)) (g := w3.heap.size) [1] (at_new rfl) (by decide)
       have c1 := Kd.C_below c1 ((Below.refl _ _).alloc (Nat.le_refl _) (.cells #[.int .u8 2] 5))
       have c1 := Kd.C_below c1 ((Below.refl _ _).alloc (Nat.le_refl _) (.cells #[.int .u8 9] 5))
       have c1 := Kd.C_below c1 ((Below.refl _ _).alloc (Nat.le_refl _) (.cells #[.int .i64 0] 3))
       have c2 := blk_C (W := (w3.alloc (.cells #[.int .u8 1] 5)).alloc (.cells #[.int .u8 2] 5)) (g := w3.heap.size + 1) [2] (at_new (by simp only [sz_alloc])) (by decide)
       have c2 := Kd.C_below c2 ((Below.refl _ _).alloc (Nat.le_refl _) (.cells #[.int .u8 9] 5))
       have c2 := Kd.C_below c2 ((Below.refl _ _).alloc (Nat.le_refl _) (.cells #[.int .i64 0] 3))
       have c3 := blk_C (W := ((w3.alloc (.cells #[.int .u8 1] 5)).alloc (.cells #[.int .u8 2] 5)).alloc (.cells #[.int .u8 9] 5)) (g := w3.heap.size + 2) [9] (at_new (by simp only [sz_alloc])) (by decide)
       have c3 := Kd.C_below c3 ((Below.refl _ _).alloc (Nat.le_refl _) (.cells #[.int .i64 0] 3))
       have c4 := blk_CM (W := (((w3.alloc (.cells #[.int .u8 1] 5)).alloc (.cells #[.int .u8 2] 5)).alloc (.cells #[.int .u8 9] 5)).alloc (.cells #[.int .i64 0] 3)) (g := w3.heap.size + 3) .i64 3 [0] (at_new (by simp only [sz_alloc])) (by decide)
       have B1 := ((((Below.refl w3.heap.size w3).alloc (Nat.le_refl _) (.cells #[.int .u8 1] 5)).alloc (by simp only [sz_alloc]; omega) (.cells #[.int .u8 2] 5)).alloc (by simp only [sz_alloc]; omega) (.cells #[.int .u8 9] 5)).alloc (by simp only [sz_alloc]; omega) (.cells #[.int .i64 0] 3)
       have B0 := below_then HB3.out HB3.out.size B1
       refine (blind_Remap.calls 20 p _ 1 [1] _ 1 [2] _ 1 [9] 2 _ 1 [0] [10] 0 _ (HF.out.below B1) c1 (by decide) c2 (by decide) c3 (by decide) c4 (by decide) (aw1 p)).mono ?_
       rintro e w4 ⟨v4, rfl, ho, hb⟩
       have HB4 := Aside0.mk (below_then B0 B0.size hb)
       have HC14 := Aside0.mk (Kd.C_below (Kd.C_below HC13.out B1) hb)
       have HC24 := Aside0.mk (Kd.C_below (Kd.C_below HC23.out B1) hb)
       obtain ⟨A4, n4, rfl, l4, C4⟩ := R_cut (n := 1) ho rfl
       clear ho hb c1 c2 c3 c4 B0 B1 C4 l4 HC13 HC23 HB3 HF)
    | (go_at_call 11
       have B1 := (Below.refl w4.heap.size w4).alloc (Nat.le_refl _) (.cells #[.int .u8 4, .int .u8 7] 5)
       have B0 := below_then HB4.out HB4.out.size B1
       have c1 := blk_C (W := w4.alloc (.cells #[.int .u8 4, .int .u8 7] 5)) (g := w4.heap.size) [4, 7] (at_new rfl) (by decide)
       refine (shroudref01_Same.calls 20 _ n1 [4, 7] _ 2 [4, 7] true _ (Kd.C_below HC14.out B1) HL1.out c1 (by decide) aw4).mono ?_
       rintro e w5 ⟨rfl, ⟨m5, rfl⟩⟩
       have HB5 := Aside0.mk (pw_below_drewN B0 m5)
       have HC25 := Aside0.mk (Kd.C_drewN (Kd.C_below HC24.out B1) m5)
       generalize (w4.alloc (.cells #[.int .u8 4, .int .u8 7] 5)).drewN m5 = w5 at *
       clear c1 B0 B1 HC14 HC24 HB4)
    | (go_at_call 11
       have B1 := (Below.refl w5.heap.size w5).alloc (Nat.le_refl _) (.cells #[.int .u8 2, .int .u8 97, .int .u8 98, .int .u8 0] 5)
       have B0 := below_then HB5.out HB5.out.size B1
       have c1 := blk_C (W := w5.alloc (.cells #[.int .u8 2, .int .u8 97, .int .u8 98, .int .u8 0] 5)) (g := w5.heap.size) [2, 97, 98, 0] (at_new rfl) (by decide)
       refine (shroudref01_Same.calls 20 _ n2 [2, 97, 98, 0] _ 4 [2, 97, 98, 0] true _ (Kd.C_below HC25.out B1) HL2.out c1 (by decide) aw5).mono ?_
       rintro e w6 ⟨rfl, ⟨m6, rfl⟩⟩
       have HB6 := Aside0.mk (pw_below_drewN B0 m6)
       clear c1 B0 B1 HC25 HB5))
  go_ret
  exact ⟨rfl, HB6.out⟩
end Go.Proofs.Ytieiaoknbnkjpaa.Rf
