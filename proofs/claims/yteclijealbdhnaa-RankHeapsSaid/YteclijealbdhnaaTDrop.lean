/- Heap.Drop of things. -/
import Derived.Test.YteclijealbdhnaaTDel
namespace Go.Proofs.Yteclijealbdhnaa
open Go.RowKit

/-- From the last one on each sinks to its place. -/
def heapF (lt : Ent → Ent → Bool) (l : List Ent) : Nat → List Ent
  | 0 => l
  | k + 1 => heapF lt (downF lt (l.length + 1) l k) k
theorem heapF_length (lt : Ent → Ent → Bool) : ∀ (k : Nat) (l : List Ent), (heapF lt l k).length = l.length
  | 0, _ => rfl
  | k + 1, l => by rw [heapF, heapF_length lt k, downF_length]
theorem heapF_perm {lt : Ent → Ent → Bool} (O : Ord lt) : ∀ (k : Nat) (l : List Ent), (heapF lt l k).Perm l
  | 0, _ => .refl _
  | k + 1, l => (heapF_perm O k _).trans (downF_perm O _ _ _)
theorem heapF_heap {lt : Ent → Ent → Bool} (O : Ord lt) : ∀ (k : Nat) (l : List Ent), HeapFrom lt k l → HeapFrom lt 0 (heapF lt l k)
  | 0, _, h => h
  | k + 1, l, h => by
    refine heapF_heap O k _ (downF_heap O k _ _ _ (by omega) (by omega) (Nat.le_refl _) ⟨fun j h0 hj hs hp => ?_, fun h0 hs => ?_⟩)
    · exact h j h0 hj (by omega)
    · omega
theorem heapF_all {lt : Ent → Ent → Bool} (O : Ord lt) (l : List Ent) : HeapFrom lt 0 (heapF lt l l.length) :=
  heapF_heap O _ _ fun j h0 hj hs => by omega

abbrev pv (ob : Nat) : Value := .func (.func 26) #[] #[.pointer (some ⟨ob, 0, none⟩)]

set_option maxHeartbeats 400000 in
theorem index_nil (cb : Nat) (w : World) : Calls Try.prog 52 #[.slice none 0 0, fv cb] w fun e w' => e = .returned (.int .i64 (-1)) ∧ w' = w := by
  go_enter Try.func52, Try.ntmps52
  go_wp2_with fail
  go_loopw [5, 8] (fun _ iv wr => iv = .int .i64 0 ∧ wr = w) (fun _ iv _ => 0)
  case atStart => exact ⟨rfl, rfl⟩
  case round =>
    obtain ⟨rfl, rfl⟩ := hrel
    go_wp2_with fail
    go_ret
    exact ⟨rfl, rfl⟩
set_option maxHeartbeats 400000 in
theorem delete_nil (cb : Nat) (w : World) : Calls Try.prog 43 #[.slice none 0 0, fv cb] w fun e w' => e = .returned (.slice none 0 0) ∧ w' = w := by
  go_enter Try.func43, Try.ntmps43
  go_wp2_with fail
  refine (index_nil cb _).mono ?_
  rintro e w1 ⟨rfl, rfl⟩
  go_wp2_with fail
  go_ret
  exact ⟨rfl, rfl⟩

set_option maxHeartbeats 4000000 in
theorem drop_any {B p n ob : Nat} {a : Int} {l : List Ent} (w : World) (h : HeapAt w B p l n) (hB : B ≤ w.heap.size) (hob : w.cell? ⟨ob, 1, none⟩ = some (.int .i64 a)) (hop : ob ≠ p)
    (hov : ∀ v0 (n0 : Int), w.heap[p]? = some (.cells #[.func (.func 19) #[] #[], v0, .int .i64 n0] 76 (0, 0)) → v0.ownBlock ≠ some ob) :
    Calls Try.prog 25 #[.pointer (some ⟨p, 0, none⟩), pv ob] w fun e w' => e = .returned (.int .i64 ((l.length : Int) - (l.filter (nq a)).length)) ∧
      HeapAt w' B p (heapF ltT (l.filter (nq a)) (l.filter (nq a)).length) n ∧ Below B w w' ∧ KeepT p w w' := by
  have heq : ∀ w : World, (binOp .eql 56 (pv ob) .nilFunc).run Try.prog w = .ok (.bool false) w := fun _ => by kernel_rfl
  have hlo : ob < w.heap.size := World.block_lt_of_cell? w _ hob
  obtain ⟨⟨v, h1, h2, h3⟩, h4, h5⟩ := h
  have hpl0 := (cells3 h1).2.2.2.2
  obtain ⟨k0, k1, k2, kz, _⟩ := cells3 h1
  have hv := hov v n h1
  have bl := (Below.refl w.heap.size w).alloc (Nat.le_refl _) (.cells #[pv ob] 56)
  have hc1 := heap_alloc_new w (.cells #[pv ob] 56)
  have hA : Ask (w.alloc (.cells #[pv ob] 56)) w.heap.size ob a := ⟨by rw [cell_of_row _ _ _ _ _ _ hc1]; rfl, (bl.cell (p := ⟨ob, 1, none⟩) hlo).trans hob⟩
  have g1 := (bl.block p hpl0).trans h1
  have g2 := h2.alloc (.cells #[pv ob] 56)
  obtain ⟨c0, c1, c2, fz, hpl⟩ := cells3 g1
  have H1 := Lib.hid h1
  have HA := Lib.hid hA
  have BL := Lib.hid bl
  rcases own_form h2 with ⟨rfl, h0⟩ | ⟨g, cap, rfl, hg, hcap, hgl⟩
  · obtain rfl : l = [] := List.length_eq_zero_iff.1 h0
    have G1 := Lib.hid g1
    clear h1 h2 h3 hov hv bl hc1 hA g1 g2 h0
    go_enter Try.func25, Try.ntmps25
    go_wp2_with fail
    refine (delete_nil _ _).mono ?_
    rintro e w1 ⟨rfl, rfl⟩
    have p2 : ((w.setCell ⟨p, 1, none⟩ (.slice none 0 0)).alloc (.cells #[pv ob] 56)).heap[p]? = some (.cells #[.func (.func 19) #[] #[], .slice none 0 0, .int .i64 n] 76 (0, 0)) := by
      rw [Below.heap_alloc _ _ _ (by rw [World.size_setCell]; exact hpl0), heap_setCell_same _ p 1 _ 76 (.slice none 0 0) H1.out]; rfl
    have P2 := Lib.hid p2
    have B2 := Lib.hid (((Below.refl B w).setCell (p := ⟨p, 1, none⟩) h4 (.slice none 0 0)).alloc (by rw [World.size_setCell]; exact hB) (.cells #[pv ob] 56))
    clear p2
    go_wp2_with fail
    go_loopw [6] (fun av wr => av = .int .i64 (-1) ∧ wr = (w.setCell ⟨p, 1, none⟩ (.slice none 0 0)).alloc (.cells #[pv ob] 56)) (fun _ _ => 0)
    case atStart => exact ⟨by go_num, rfl⟩
    case round =>
      obtain ⟨rfl, rfl⟩ := hrel
      go_wp2_with fail
      go_ret
      refine ⟨rfl, ⟨⟨_, P2.out, World.ownsRow_nil _ _ _ _, by simp [Value.ownBlock]⟩, h4, by simp [heapF]⟩, B2.out, ?_⟩
      intro v0 n0 hv0
      have e0 := H1.out.symm.trans hv0
      simp only [Option.some.injEq, Obj.cells.injEq, Array.mk.injEq, List.cons.injEq, and_true, true_and] at e0
      obtain ⟨rfl, _⟩ := e0
      refine ⟨fun j hj hjp hjv => ?_, .slice none 0 0, n, P2.out, .inl rfl⟩
      rw [Below.heap_alloc _ _ _ (by rw [World.size_setCell]; exact hj), Below.heap_setCell _ _ _ _ hjp]
  · have hpg : p ≠ g := fun e => h3 (by simp [Value.ownBlock, e])
    have hog : ob ≠ g := fun e => hv (by simp [Value.ownBlock, e])
    have hcg : w.heap.size ≠ g := by omega
    have G2 := Lib.hid g2
    have G1 := Lib.hid g1
    clear h1 h2 h3 hov hv bl hc1 hA g1 g2
    go_enter Try.func25, Try.ntmps25
    go_wp2_with fail
    refine (delete_any _ HA.out hcg hog G2.out (by omega)).mono ?_
    rintro e w1 ⟨rfl, o1, gr1⟩
    obtain ⟨K, hK⟩ : ∃ K, Hid (K = l.filter (nq a)) := ⟨_, rfl⟩
    have hKl : K.length ≤ l.length := by rw [hK.out]; exact List.length_filter_le _ _
    rw [← hK.out] at o1 ⊢
    have p1 := (gr1.block p hpl (fun e => hpg (Option.some.inj e))).trans G1.out
    obtain ⟨d0, d1, d2, fz1, hpl1⟩ := cells3 p1
    obtain ⟨m, hm⟩ : ∃ m, Hid (K.length = m) := ⟨_, rfl⟩
    rw [hm.out] at o1 hKl ⊢
    have p2 : (w1.setCell ⟨p, 1, none⟩ (.slice (some ⟨g, 0, none⟩) m cap)).heap[p]? = some (.cells #[.func (.func 19) #[] #[], .slice (some ⟨g, 0, none⟩) m cap, .int .i64 n] 76 (0, 0)) := by
      rw [heap_setCell_same w1 p 1 _ 76 (.slice (some ⟨g, 0, none⟩) m cap) p1]; rfl
    have o2 := own_far o1 ⟨p, 1, none⟩ (.slice (some ⟨g, 0, none⟩) m cap) (by simp [Value.ownBlock]; exact Ne.symm hpg)
    have hs1 := gr1.size
    rw [World.size_alloc] at hs1
    have b2 : Below B w (w1.setCell ⟨p, 1, none⟩ (.slice (some ⟨g, 0, none⟩) m cap)) :=
      ((BL.out.mono hB).trans (below_grown gr1 hg (by rw [World.size_alloc]; omega))).setCell h4 _
    have k2 : ∀ j, j < w.heap.size → j ≠ p → j ≠ g → (w1.setCell ⟨p, 1, none⟩ (.slice (some ⟨g, 0, none⟩) m cap)).heap[j]? = w.heap[j]? := fun j hj hjp hjg => by
      rw [Below.heap_setCell _ _ _ _ hjp]
      exact (gr1.block j (by rw [World.size_alloc]; omega) (fun e => hjg (Option.some.inj e))).trans (BL.out.block j hj)
    have P2 := Lib.hid p2
    have O2 := Lib.hid o2
    have B2 := Lib.hid b2
    have K2 := Lib.hid k2
    have z2 : B ≤ w1.heap.size := by omega
    have zw : w.heap.size ≤ w1.heap.size := by omega
    have hpw : p < w1.heap.size := hpl1
    clear o1 gr1 p1 p2 o2 b2 k2 hs1 c0 c1 c2 fz hpl
    go_wp2_with fail
    go_loopw [6] (fun av wr => ∃ (k : Nat) (x : Int) (L : List Ent), av = .int .i64 x ∧ x = (k : Int) - 1 ∧ k ≤ m ∧ L.length = m ∧ Hid (heapF ltT K m = heapF ltT L k) ∧
        Hid (wr.heap[p]? = some (.cells #[.func (.func 19) #[] #[], .slice (some ⟨g, 0, none⟩) m cap, .int .i64 n] 76 (0, 0))) ∧ Hid (wr.ownsRow B 78 3 (.slice (some ⟨g, 0, none⟩) m cap) m (flat encT L)) ∧
        Hid ((w1.setCell ⟨p, 1, none⟩ (.slice (some ⟨g, 0, none⟩) m cap)).grownBy wr (some g))) (fun av _ => (intOf av + 1).toNat)
    case atStart => exact ⟨m, _, K, rfl, by go_num, Nat.le_refl _, hm.out, rfl, P2, O2, grown_refl _ _⟩
    case round =>
      obtain ⟨k, x, L, rfl, hx, hk, hL, hF, hP, hO, hG⟩ := hrel
      cases k with
      | zero =>
        obtain rfl : x = -1 := by omega
        clear hx
        obtain ⟨e0, e1, e2, fz2, hpl2⟩ := cells3 hP.out
        have FL : Hid (heapF ltT K m = L) := by unfold Hid; rw [hF.out]; rfl
        have hcl : Hid (m ≤ 1000000000) := by unfold Hid; omega
        go_wp2_with fail
        go_ret
        have hg2 := hG.out
        rw [← hK.out, hm.out]
        have hbf : Below B w wr := B2.out.trans (below_grown hg2 hg (by rw [World.size_setCell]; omega))
        refine ⟨rfl, ⟨⟨_, hP.out, ?_, by simp [Value.ownBlock]; exact Ne.symm hpg⟩, h4, ?_⟩, hbf, ?_⟩
        · rw [FL.out, hL]; exact hO.out
        · rw [FL.out, hL]; exact hcl.out
        · intro v0 n0 hv0
          have e0 := H1.out.symm.trans hv0
          simp only [Option.some.injEq, Obj.cells.injEq, Array.mk.injEq, List.cons.injEq, and_true, true_and] at e0
          obtain ⟨rfl, _⟩ := e0
          refine ⟨fun j hj hjp hjv => ?_, .slice (some ⟨g, 0, none⟩) m cap, n, hP.out, .inl rfl⟩
          have hjg : j ≠ g := fun e => hjv (by simp [Value.ownBlock, e])
          exact (hg2.block j (by rw [World.size_setCell]; omega) (fun e => hjg (Option.some.inj e))).trans (K2.out j hj hjp hjg)
      | succ k =>
        obtain rfl : x = (k : Int) := by omega
        clear hx
        go_wp2_with fail
        refine (down_len m p g n cap B L k _ hL (by omega) (by omega) hP.out hO.out hpg).mono ?_
        rintro e w3 ⟨rfl, o3, g3⟩
        have hpw2 : p < wr.heap.size := (cells3 hP.out).2.2.2.2
        have P3 := Lib.hid ((g3.block p hpw2 (fun e => hpg (Option.some.inj e))).trans hP.out)
        have O3 := Lib.hid o3
        have G3 := Lib.hid (grown_trans hG.out g3)
        have F3 : Hid (heapF ltT K m = heapF ltT (downF ltT (m + 1) L k) k) := by unfold Hid; rw [hF.out, heapF, hL]
        clear o3 g3
        go_wp2_with fail
        go_roundw
        case rel => exact ⟨k, _, downF ltT (m + 1) L k, rfl, by go_num, by omega, by rw [downF_length]; exact hL, F3, P3, O3, G3⟩
        case measure => simp [intOf]
end Go.Proofs.Yteclijealbdhnaa
