/- Heap.Push of a thing. -/
import Derived.Test.YteclijealbdhnaaOps
namespace Go.Proofs.Yteclijealbdhnaa
open Go.RowKit

theorem heap_alloc_at (w : World) (o : Obj) (k : Nat) (h : k = w.heap.size) : (w.alloc o).heap[k]? = some o := by subst h; exact heap_alloc_new w o
theorem Try.info78 : (Try.prog.info? 78).map (fun i => (i.zero, i.size, i.bytes)) = some (some (.agg #[.int .i64 0, .int .i64 0, .int .i64 0]), 3, 24) := by kernel_rfl

theorem upF_length (lt : Ent → Ent → Bool) : ∀ (f : Nat) (l : List Ent) (a : Nat), (upF lt f l a).length = l.length
  | 0, _, _ => rfl
  | f + 1, l, a => by
    simp only [upF]
    split
    · rfl
    · split
      · rw [upF_length lt f]; simp
      · rfl

theorem up_len (m p b n cap base : Nat) (l : List Ent) (at0 : Nat) (w : World) (hm : l.length = m) (hat : at0 < m) (hlen : m ≤ 1000000000000)
    (hp : w.heap[p]? = some (.cells #[.func (.func 19) #[] #[], .slice (some ⟨b, 0, none⟩) m cap, .int .i64 n] 76 (0, 0)))
    (hown : w.ownsRow base 78 3 (.slice (some ⟨b, 0, none⟩) m cap) m (flat encT l)) (hpb : p ≠ b) :
    Calls Try.prog 41 #[.pointer (some ⟨p, 0, none⟩), .int .i64 at0] w fun e w' => e = .returned (.tuple #[]) ∧
      w'.ownsRow base 78 3 (.slice (some ⟨b, 0, none⟩) m cap) m (flat encT (upF ltT (at0 + 1) l at0)) ∧ w.grownBy w' (some b) := by
  subst hm
  exact up_any p b n cap base l at0 w hat hlen hp hown hpb

/-- What stands behind a push: the new one last, risen to its place. -/
def pushF (l : List Ent) (x : Ent) : List Ent := upF ltT (l.length + 1) (l ++ [x]) l.length

set_option maxHeartbeats 2000000 in
theorem push_keep {B p n : Nat} {l : List Ent} (k nm : Int) (w : World) (h : HeapAt w B p l n) (hB : B ≤ w.heap.size) (hn : n ≤ 1000000000) (hl : l.length < 1000000000) :
    Calls Try.prog 20 #[.pointer (some ⟨p, 0, none⟩), thing k nm] w fun e w' => e = .returned (.tuple #[]) ∧ HeapAt w' B p (pushF l (k, nm, n)) (n + 1) ∧ Below B w w' ∧ KeepT p w w' := by
  obtain ⟨i0, hi0, hz0, hz1, hz2⟩ := info_parts Try.info78
  obtain ⟨⟨v, h1, h2, h3⟩, h4, h5⟩ := h
  obtain ⟨c0, c1, c2, fz, hpl⟩ := cells3 h1
  have Hi0 := Lib.hid hi0
  have Hp00 := Lib.hid h1
  have Hown := Lib.hid (own_drew ((h2.alloc (.cells #[.int .i64 k, .int .i64 nm] 45)).alloc (.cells #[.int .i64 k, .int .i64 nm, .int .i64 n] 78)))
  have H1 := Lib.hid (((Below.refl w.heap.size w).alloc (Nat.le_refl _) (.cells #[.int .i64 k, .int .i64 nm] 45) |>.alloc (by simp) (.cells #[.int .i64 k, .int .i64 nm, .int .i64 n] 78)).block p hpl |>.trans h1)
  have hb0 := Lib.hid (((Below.refl B w).alloc hB (.cells #[.int .i64 k, .int .i64 nm] 45)).alloc (by simp; omega) (.cells #[.int .i64 k, .int .i64 nm, .int .i64 n] 78))
  have hvlt : ∀ k, v.ownBlock = some k → B ≤ k := fun k hk => (h2.lt k hk).1
  have Hv := Lib.hid hvlt
  clear h1 h2 hvlt
  go_enter Try.func20, Try.ntmps20
  go_wp2_with fail
  refine Seq.start (fun w9 => w9.cell? ⟨p, 1, none⟩ = some v) (Seq.but [11, 12, 15]) (Seq.these [11]) (by kernel_rfl) ?_
  refine Seq.calm (i := 0) (d := some 6) (v := ?_) rfl rfl (by kernel_rfl) (by rfl) (fun w9 => ?_) ?_
  rotate_left
  · go_simp; try with_reducible rfl
  (try simp only [Act.put, List.setIfInBounds_toArray, List.set_cons_zero, List.set_cons_succ])
  refine Seq.calm (i := 1) (d := some 7) (v := ?_) rfl rfl (by kernel_rfl) (by rfl) (fun w9 => ?_) ?_
  rotate_left
  · go_simp; try with_reducible rfl
  (try simp only [Act.put, List.setIfInBounds_toArray, List.set_cons_zero, List.set_cons_succ])
  refine Seq.calm (i := 2) (d := some 8) (v := ?_) rfl rfl (by kernel_rfl) (by rfl) (fun w9 => ?_) ?_
  rotate_left
  · go_simp; try with_reducible rfl
  (try simp only [Act.put, List.setIfInBounds_toArray, List.set_cons_zero, List.set_cons_succ])
  refine Seq.calm (i := 3) (d := some 9) (v := ?_) rfl rfl (by kernel_rfl) (by rfl) (fun w9 => ?_) ?_
  rotate_left
  · go_simp; try with_reducible rfl
  (try simp only [Act.put, List.setIfInBounds_toArray, List.set_cons_zero, List.set_cons_succ])
  refine Seq.yes (i := 4) (d := some 10) (v := ?_) rfl rfl (by kernel_rfl) (by kernel_rfl) (by rfl) (fun w9 hS9 => ?_) ?_ ?_
  rotate_left
  · (try dsimp only at hS9); go_simp; try with_reducible rfl
  · (try dsimp only); simp [*, World.cell?_alloc_some, World.cell?_setCell_far]
  (try simp only [Act.put, List.setIfInBounds_toArray, List.set_cons_zero, List.set_cons_succ])
  refine Seq.held (i := 5) (d := some 11) (v := ?_) rfl rfl (by kernel_rfl) (by kernel_rfl) (by rfl) ?_ ?_
  rotate_left
  · go_simp; try with_reducible rfl
  (try simp only [Act.put, List.setIfInBounds_toArray, List.set_cons_zero, List.set_cons_succ])
  refine Seq.calm (i := 6) (d := some 12) (v := ?_) rfl rfl (by kernel_rfl) (by rfl) (fun w9 => ?_) ?_
  rotate_left
  · go_simp; try with_reducible rfl
  (try simp only [Act.put, List.setIfInBounds_toArray, List.set_cons_zero, List.set_cons_succ])
  refine Seq.calm (i := 7) (d := some 13) (v := ?_) rfl rfl (by kernel_rfl) (by rfl) (fun w9 => ?_) ?_
  rotate_left
  · go_simp; try with_reducible rfl
  (try simp only [Act.put, List.setIfInBounds_toArray, List.set_cons_zero, List.set_cons_succ])
  refine Seq.calm (i := 8) (d := some 14) (v := ?_) rfl rfl (by kernel_rfl) (by rfl) (fun w9 => ?_) ?_
  rotate_left
  · go_simp; try with_reducible rfl
  (try simp only [Act.put, List.setIfInBounds_toArray, List.set_cons_zero, List.set_cons_succ])
  refine Seq.held (i := 9) (d := some 15) (v := ?_) rfl rfl (by kernel_rfl) (by kernel_rfl) (by rfl) ?_ ?_
  rotate_left
  · go_simp; try with_reducible rfl
  (try simp only [Act.put, List.setIfInBounds_toArray, List.set_cons_zero, List.set_cons_succ])
  refine Seq.calm (i := 10) (d := some 16) (v := ?_) rfl rfl (by kernel_rfl) (by rfl) (fun w9 => ?_) ?_
  rotate_left
  · go_simp; try with_reducible rfl
  (try simp only [Act.put, List.setIfInBounds_toArray, List.set_cons_zero, List.set_cons_succ])
  refine Seq.keep (i := 11) rfl (by kernel_rfl) (by kernel_rfl) (by rfl) (fun K9 hK9 => ?_)
  go_simp
  refine hK9.out _ _ ?_ (fun hS => ?_)
  · (try dsimp only); simp [*, World.cell?_alloc_some, World.cell?_setCell_far]
  clear hK9 K9
  (try simp only [Act.put, List.setIfInBounds_toArray, List.set_cons_zero, List.set_cons_succ])
  refine Seq.drop (i := 12) rfl (by kernel_rfl) (by kernel_rfl) (by rfl) (fun K9 hK9 => ?_)
  refine wp_append_lies _ (.tmp 10) (.tmp 17) 74 rfl B 78 i0 _ 3 24 Try.underlying74 hi0 hz0 hz1 hz2 rfl (by omega) v l.length (flat encT l) rfl Hown.out ⟨w.heap.size + 1, 0, none⟩ 1 1 [.int .i64 k, .int .i64 nm, .int .i64 n] rfl rfl (World.news_of_block (heap_alloc_at _ _ _ (by simp))) (by simp [Value.oneCell']) (by omega) (by unfold maxLen; omega) (by omega) (by simp; omega) (w.heap.size + 2) (by simp) ?_
  intro g cap wa hown1 hgrow hat hlt
  have hpa : wa.heap[p]? = some (.cells #[.func (.func 19) #[] #[], v, .int .i64 n] 76 (0, 0)) := (hgrow.block p (by simp; omega) (fun e => h3 e.symm)).trans H1.out
  obtain ⟨d0, d1, d2, fz1, hpl1⟩ := cells3 hpa
  refine hK9.out _ _ ?_
  clear hK9 K9
  (try simp only [Act.put, List.setIfInBounds_toArray, List.set_cons_zero, List.set_cons_succ])
  refine Seq.calm (i := 13) (d := some 19) (v := ?_) rfl rfl (by kernel_rfl) (by rfl) (fun w9 => ?_) ?_
  rotate_left
  · go_simp; try with_reducible rfl
  (try simp only [Act.put, List.setIfInBounds_toArray, List.set_cons_zero, List.set_cons_succ])
  refine Seq.calm (i := 14) (d := some 20) (v := ?_) rfl rfl (by kernel_rfl) (by rfl) (fun w9 => ?_) ?_
  rotate_left
  · go_simp; try with_reducible rfl
  (try simp only [Act.put, List.setIfInBounds_toArray, List.set_cons_zero, List.set_cons_succ])
  refine Seq.drop (i := 15) rfl (by kernel_rfl) (by kernel_rfl) (by rfl) (fun K9 hK9 => ?_)
  go_simp
  refine hK9.out _ _ ?_
  clear hK9 K9
  (try simp only [Act.put, List.setIfInBounds_toArray, List.set_cons_zero, List.set_cons_succ])
  refine Seq.done (by kernel_rfl) ?_
  have hpg : p ≠ g := by
    rcases hat with h | h
    · exact fun e => h3 (by rw [h, e])
    · omega
  have hBg : B ≤ g := by
    rcases hat with h | h
    · exact Hv.out g h
    · omega
  have Hat := Lib.hid hat
  clear hat
  have hkw : ∀ j, j < w.heap.size → v.ownBlock ≠ some j → wa.heap[j]? = w.heap[j]? := fun j hj hv => by
    refine (hgrow.block j (by simp; omega) (fun e => hv e.symm)).trans ?_
    exact (((Below.refl w.heap.size w).alloc (Nat.le_refl _) (.cells #[.int .i64 k, .int .i64 nm] 45)).alloc (by simp) (.cells #[.int .i64 k, .int .i64 nm, .int .i64 n] 78)).block j hj
  have Hkw := Lib.hid hkw
  have Hp0 := Lib.hid Hp00.out
  clear hkw
  have hza : w.heap.size + 2 ≤ wa.heap.size := by have := hgrow.size; simp at this; omega
  have ba : Below B w wa := by
    refine hb0.out.trans ?_
    refine ⟨hgrow.os, hgrow.tape, hgrow.output, hgrow.size, fun j hj => hgrow.block j (by simp; omega) (fun e => ?_)⟩
    have := Hv.out j e.symm
    omega
  have Ba := Lib.hid ba
  have Ho := Lib.hid hown1
  have Hpa := Lib.hid hpa
  clear ba hown1 hgrow hpa c0 c1 c2 fz hpl
  go_wp2_with fail
  have n1 : ((wa.setCell ⟨p, 1, none⟩ (.slice (some ⟨g, 0, none⟩) (l.length + 1) cap)).setCell ⟨p, 2, none⟩ (.int .i64 ((n : Int) + 1))).heap[p]? = some (.cells #[.func (.func 19) #[] #[], .slice (some ⟨g, 0, none⟩) (l.length + 1) cap, .int .i64 ((n + 1 : Nat) : Int)] 76 (0, 0)) := by
    have a1 := heap_setCell_same wa p 1 _ 76 (.slice (some ⟨g, 0, none⟩) (l.length + 1) cap) Hpa.out
    have a2 := heap_setCell_same (wa.setCell ⟨p, 1, none⟩ (.slice (some ⟨g, 0, none⟩) (l.length + 1) cap)) p 2 _ 76 (.int .i64 ((n : Int) + 1)) a1
    rw [a2]; rfl
  have n2 : ((wa.setCell ⟨p, 1, none⟩ (.slice (some ⟨g, 0, none⟩) (l.length + 1) cap)).setCell ⟨p, 2, none⟩ (.int .i64 ((n : Int) + 1))).ownsRow B 78 3 (.slice (some ⟨g, 0, none⟩) (l.length + 1) cap) (l.length + 1) (flat encT (l ++ [(k, nm, (n : Int))])) := by
    rw [flat_append]
    exact own_far (own_far Ho.out _ _ (by simp [Value.ownBlock]; exact Ne.symm hpg)) _ _ (by simp [Value.ownBlock]; exact Ne.symm hpg)
  have n3 := ((Ba.out.setCell h4 (p := ⟨p, 1, none⟩) (.slice (some ⟨g, 0, none⟩) (l.length + 1) cap)).setCell h4 (p := ⟨p, 2, none⟩) (.int .i64 ((n : Int) + 1)))
  refine (up_len (l.length + 1) p g (n + 1) cap B (l ++ [(k, nm, (n : Int))]) l.length _ (by simp) (by omega) (by omega) (by exact n1) (by exact n2) hpg).mono ?_
  rintro e w3 ⟨rfl, o3, g3⟩
  have e3 := (g3.block p (by simp; omega) (fun e => hpg (Option.some.inj e))).trans n1
  have b3 := n3.trans (below_grown g3 hBg (by simp; omega))
  have kp : KeepT p w w3 := by
    intro v0 n0 hv0
    have e0 := Hp0.out.symm.trans hv0
    simp only [Option.some.injEq, Obj.cells.injEq, Array.mk.injEq, List.cons.injEq, and_true, true_and] at e0
    obtain ⟨rfl, _⟩ := e0
    refine ⟨fun j hj hjp hjv => ?_, _, _, e3, ?_⟩
    · have hjg : g ≠ j := by
        rcases Hat.out with h | h
        · exact fun e => hjv (by rw [h, e])
        · omega
      refine (g3.block j (by simp; omega) (fun e => hjg (Option.some.inj e).symm)).trans ?_
      rw [Below.heap_setCell _ _ _ _ hjp, Below.heap_setCell _ _ _ _ hjp]
      exact Hkw.out j hj hjv
    · rcases Hat.out with h | h
      · left; rw [h]; rfl
      · right; intro j hj; have := Option.some.inj hj; simp only at this; omega
  have KP := Lib.hid kp
  have E3 := Lib.hid e3
  have O3 := Lib.hid o3
  have B3 := Lib.hid b3
  clear n1 n2 n3 g3 e3 o3 b3 kp
  go_wp2_with fail
  go_end0
  refine ⟨rfl, ⟨⟨_, E3.out, ?_, by simp [Value.ownBlock]; exact Ne.symm hpg⟩, h4, ?_⟩, B3.out, KP.out⟩
  · unfold pushF; rw [upF_length]; simp only [List.length_append, List.length_singleton]
    exact O3.out
  · unfold pushF; rw [upF_length]; simp; omega

theorem push_any {B p n : Nat} {l : List Ent} (k nm : Int) (w : World) (h : HeapAt w B p l n) (hB : B ≤ w.heap.size) (hn : n ≤ 1000000000) (hl : l.length < 1000000000) :
    Calls Try.prog 20 #[.pointer (some ⟨p, 0, none⟩), thing k nm] w fun e w' => e = .returned (.tuple #[]) ∧ HeapAt w' B p (pushF l (k, nm, n)) (n + 1) ∧ Below B w w' :=
  (push_keep k nm w h hB hn hl).mono fun _ _ h => ⟨h.1, h.2.1, h.2.2.1⟩
end Go.Proofs.Yteclijealbdhnaa
