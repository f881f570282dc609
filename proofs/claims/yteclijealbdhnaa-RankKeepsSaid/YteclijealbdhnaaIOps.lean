/- The heap of ints: New, Len, Peek, Pop, Push. -/
import Derived.Test.YteclijealbdhnaaIDown
import Derived.Test.YteclijealbdhnaaPush
import Derived.Test.YteclijealbdhnaaP
namespace Go.Proofs.Yteclijealbdhnaa
open Go.RowKit

/-- A heap of ints at p, its memory from block B on. -/
structure HeapI (w : World) (B p g : Nat) (l : List Ent) (n : Nat) : Prop where
  own : ∃ v, w.heap[p]? = some (.cells #[.func (.func g) #[] #[], v, .int .i64 n] 70 (0, 0)) ∧ w.ownsRow B 72 2 v l.length (flat encI l) ∧ v.ownBlock ≠ some p
  base : B ≤ p
  size : l.length ≤ 1000000000
  fn : g = 13 ∨ g = 36

theorem HeapI.below {w w1 : World} {B p g n : Nat} {l : List Ent} (h : HeapI w B p g l n) (hb : Below w.heap.size w w1) : HeapI w1 B p g l n := by
  obtain ⟨⟨v, h1, h2, h3⟩, h4, h5, h6⟩ := h
  exact ⟨⟨v, (hb.block p (cells3 h1).2.2.2.2).trans h1, own_below h2 hb, h3⟩, h4, h5, h6⟩
theorem HeapI.lt {w : World} {B p g n : Nat} {l : List Ent} (h : HeapI w B p g l n) : p < w.heap.size := by
  obtain ⟨⟨v, h1, h2, h3⟩, h4, h5⟩ := h
  exact (cells3 h1).2.2.2.2

set_option maxHeartbeats 1000000 in
theorem newI_13 (B : Nat) (w : World) (hB : B ≤ w.heap.size) :
    Calls Try.prog 12 #[.func (.func 13) #[] #[]] w fun e w' => e = .returned (.pointer (some ⟨w.heap.size, 0, none⟩)) ∧ HeapI w' B w.heap.size 13 [] 0 ∧ Below B w w' := by
  have heq : ∀ w : World, (binOp .eql 34 (.func (.func 13) #[] #[]) .nilFunc).run Try.prog w = .ok (.bool false) w := fun _ => by kernel_rfl
  go_enter Try.func12, Try.ntmps12
  go_wp2
  go_ret
  refine ⟨rfl, ⟨⟨.slice none 0 0, heap_alloc_new w _, World.ownsRow_nil _ _ _ _, by simp [Value.ownBlock]⟩, hB, by simp, .inl rfl⟩, (Below.refl _ _).alloc hB _⟩

set_option maxHeartbeats 1000000 in
theorem newI_nil (B : Nat) (w : World) (hB : B ≤ w.heap.size) :
    Calls Try.prog 12 #[.nilFunc] w fun e w' => e = .returned (.pointer (some ⟨w.heap.size, 0, none⟩)) ∧ HeapI w' B w.heap.size 36 [] 0 ∧ Below B w w' := by
  have heq : ∀ w : World, (binOp .eql 34 .nilFunc .nilFunc).run Try.prog w = .ok (.bool true) w := fun _ => by kernel_rfl
  go_enter Try.func12, Try.ntmps12
  go_wp2
  go_ret
  refine ⟨rfl, ⟨⟨.slice none 0 0, heap_alloc_new w _, World.ownsRow_nil _ _ _ _, by simp [Value.ownBlock]⟩, hB, by simp, .inr rfl⟩, (Below.refl _ _).alloc hB _⟩

set_option maxHeartbeats 1000000 in
theorem lenI_any {B p g n : Nat} {l : List Ent} (w : World) (h : HeapI w B p g l n) :
    Calls Try.prog 17 #[.pointer (some ⟨p, 0, none⟩)] w fun e w' => e = .returned (.int .i64 l.length) ∧ w = w' := by
  obtain ⟨⟨v, h1, h2, h3⟩, h4, h5, h6⟩ := h
  obtain ⟨c0, c1, c2, fz, hpl⟩ := cells3 h1
  rcases own_form h2 with ⟨rfl, h0⟩ | ⟨cg, cap, rfl, hg, hcap, hgl⟩
  · have H1 := Lib.hid h1
    have H0 := Lib.hid h0
    clear h1 h2 h3 h0
    go_enter Try.func17, Try.ntmps17
    go_wp2
    go_ret
    exact ⟨by rw [H0.out]; rfl, rfl⟩
  · clear h1 h2 h3
    go_enter Try.func17, Try.ntmps17
    go_wp2
    go_ret
    exact ⟨rfl, rfl⟩

set_option maxHeartbeats 1000000 in
theorem peekI_none {B p g n : Nat} (w : World) (h : HeapI w B p g [] n) :
    Calls Try.prog 31 #[.pointer (some ⟨p, 0, none⟩)] w fun e w' => e = .returned (.tuple #[.int .i64 0, .bool false]) ∧ w = w' := by
  have H1 := Lib.hid h
  clear h
  go_enter Try.func31, Try.ntmps31
  go_wp2_with fail
  refine (lenI_any _ H1.out).mono ?_
  rintro e w' ⟨rfl, rfl⟩
  go_wp2_with fail
  go_ret2
  exact ⟨rfl, rfl⟩

set_option maxHeartbeats 1000000 in
theorem peekI_some {B p g n : Nat} {x : Ent} {l : List Ent} (w : World) (h : HeapI w B p g (x :: l) n) :
    Calls Try.prog 31 #[.pointer (some ⟨p, 0, none⟩)] w fun e w' => e = .returned (.tuple #[.int .i64 x.2.1, .bool true]) ∧ w = w' := by
  have H1 := Lib.hid h
  obtain ⟨⟨v, h1, h2, h3⟩, h4, h5, h6⟩ := h
  rcases own_form h2 with ⟨rfl, h0⟩ | ⟨cg, cap, rfl, hg, hcap, hgl⟩
  · simp at h0
  · obtain ⟨c0, c1, c2, fz, hpl⟩ := cells3 h1
    obtain ⟨x1, x2⟩ := entI_cells h2 0 (by simp)
    simp only [List.getD_cons_zero, Nat.zero_mul, Nat.zero_add] at x1 x2
    obtain ⟨X1, X2, X3⟩ := x
    have hne : ((l.length : Int) + 1 == 0) = false := beq_eq_false_iff_ne.2 (by omega)
    have h5' : l.length + 1 ≤ 1000000000 := by simpa using h5
    clear h1 h2 h3 h5
    go_enter Try.func31, Try.ntmps31
    go_wp2_with fail
    refine (lenI_any _ H1.out).mono ?_
    rintro e w' ⟨rfl, rfl⟩
    simp only [List.length_cons, Int.natCast_add, Int.cast_ofNat_Int] at *
    go_wp2_with fail
    go_ret2
    exact ⟨rfl, rfl⟩

theorem popG_length {lt : Ent → Ent → Bool} (l : List Ent) : (popG lt l).length = l.length - 1 := by
  unfold popG; rw [downF_length]; simp
theorem pushG_length {lt : Ent → Ent → Bool} (l : List Ent) (x : Ent) : (pushG lt l x).length = l.length + 1 := by
  unfold pushG; rw [upF_length]; simp

theorem ownI_pop {w : World} {B g cap n : Nat} {l : List Ent} (h : w.ownsRow B 72 2 (.slice (some ⟨g, 0, none⟩) (n + 1) cap) (n + 1) (flat encI l)) (hl : l.length = n + 1) :
    w.ownsRow B 72 2 (.slice (some ⟨g, 0, none⟩) n cap) n (flat encI l.dropLast) := by
  have e : l = l.dropLast ++ [l.getLast (by intro e; rw [e] at hl; simp at hl)] := (List.dropLast_concat_getLast _).symm
  rw [e, flat_append] at h
  exact ownsRow_pop (by rw [flat_length encI 2 encI_len, List.length_dropLast, hl, Nat.add_sub_cancel]) h

theorem set2_0 {w : World} {base b n cap : Nat} {l : List Ent} (h : w.ownsRow base 72 2 (.slice (some ⟨b, 0, none⟩) n cap) n (flat encI l)) (x1 x2 x3 : Int) (hk : 0 < l.length) :
    ((w.setCell ⟨b, 0, none⟩ (.int .i64 x2)).setCell ⟨b, 1, none⟩ (.int .i64 x3)).ownsRow base 72 2 (.slice (some ⟨b, 0, none⟩) n cap) n (flat encI (l.set 0 (x1, x2, x3))) := by
  have := (set2 h 0 (x1, x2, x3) hk).1
  simpa using this

theorem downI_len (m g p b n cap base : Nat) (l : List Ent) (at0 : Nat) (w : World) (hg0 : g = 13 ∨ g = 36) (hm : l.length = m) (hat : at0 ≤ 1000000000000) (hlen : m ≤ 1000000000000)
    (hp : w.heap[p]? = some (.cells #[.func (.func g) #[] #[], .slice (some ⟨b, 0, none⟩) m cap, .int .i64 n] 70 (0, 0)))
    (hown : w.ownsRow base 72 2 (.slice (some ⟨b, 0, none⟩) m cap) m (flat encI l)) (hpb : p ≠ b) :
    Calls Try.prog 39 #[.pointer (some ⟨p, 0, none⟩), .int .i64 at0] w fun e w' => e = .returned (.tuple #[]) ∧
      w'.ownsRow base 72 2 (.slice (some ⟨b, 0, none⟩) m cap) m (flat encI (downF (ltI g) (m + 1) l at0)) ∧ w.grownBy w' (some b) := by
  subst hm
  exact downI_any g hg0 p b n cap base l at0 w hat hlen hp hown hpb

/-- What a heap at p does not own stays; its row lies where it lay. -/
def Keeps (p g n : Nat) (w w' : World) : Prop := ∀ v0, w.heap[p]? = some (.cells #[.func (.func g) #[] #[], v0, .int .i64 n] 70 (0, 0)) →
  (∀ k, k < w.heap.size → k ≠ p → v0.ownBlock ≠ some k → w'.heap[k]? = w.heap[k]?) ∧ ∃ v1, w'.heap[p]? = some (.cells #[.func (.func g) #[] #[], v1, .int .i64 n] 70 (0, 0)) ∧ v1.ownBlock = v0.ownBlock

theorem popI_mem {w : World} {B p g cap n m : Nat} {l : List Ent} {f : Value} (y1 y2 y3 : Int) (hp : w.heap[p]? = some (.cells #[f, .slice (some ⟨g, 0, none⟩) (m + 1) cap, .int .i64 n] 70 (0, 0)))
    (ho : w.ownsRow B 72 2 (.slice (some ⟨g, 0, none⟩) (m + 1) cap) (m + 1) (flat encI l)) (hl : l.length = m + 1) (hpg : p ≠ g) (hBp : B ≤ p) (hBg : B ≤ g) :
    (((w.setCell ⟨g, 0, none⟩ (.int .i64 y2)).setCell ⟨g, 1, none⟩ (.int .i64 y3)).setCell ⟨p, 1, none⟩ (.slice (some ⟨g, 0, none⟩) m cap)).heap[p]? = some (.cells #[f, .slice (some ⟨g, 0, none⟩) m cap, .int .i64 n] 70 (0, 0)) ∧
    (((w.setCell ⟨g, 0, none⟩ (.int .i64 y2)).setCell ⟨g, 1, none⟩ (.int .i64 y3)).setCell ⟨p, 1, none⟩ (.slice (some ⟨g, 0, none⟩) m cap)).ownsRow B 72 2 (.slice (some ⟨g, 0, none⟩) m cap) m (flat encI (l.set 0 (y1, y2, y3)).dropLast) ∧
    Below B w (((w.setCell ⟨g, 0, none⟩ (.int .i64 y2)).setCell ⟨g, 1, none⟩ (.int .i64 y3)).setCell ⟨p, 1, none⟩ (.slice (some ⟨g, 0, none⟩) m cap)) ∧
    ∀ k, k ≠ g → k ≠ p → (((w.setCell ⟨g, 0, none⟩ (.int .i64 y2)).setCell ⟨g, 1, none⟩ (.int .i64 y3)).setCell ⟨p, 1, none⟩ (.slice (some ⟨g, 0, none⟩) m cap)).heap[k]? = w.heap[k]? := by
  have h1 := set2_0 ho y1 y2 y3 (by omega)
  have h2 := own_far (ownI_pop h1 (by simpa using hl)) ⟨p, 1, none⟩ (.slice (some ⟨g, 0, none⟩) m cap) (by simp [Value.ownBlock]; exact Ne.symm hpg)
  refine ⟨?_, h2, (((Below.refl _ _).setCell hBg _).setCell hBg _).setCell hBp _, fun k h1 h2 => by rw [Below.heap_setCell _ _ _ _ h2, Below.heap_setCell _ _ _ _ h1, Below.heap_setCell _ _ _ _ h1]⟩
  have h3 := heap_setCell_same ((w.setCell ⟨g, 0, none⟩ (.int .i64 y2)).setCell ⟨g, 1, none⟩ (.int .i64 y3)) p 1 _ 70 (.slice (some ⟨g, 0, none⟩) m cap)
    (by rw [Below.heap_setCell _ _ _ _ hpg, Below.heap_setCell _ _ _ _ hpg]; exact hp)
  rw [h3]; rfl

set_option maxHeartbeats 1000000 in
theorem popI_none {B p g n : Nat} (w : World) (h : HeapI w B p g [] n) :
    Calls Try.prog 16 #[.pointer (some ⟨p, 0, none⟩)] w fun e w' => e = .returned (.tuple #[.int .i64 0, .bool false]) ∧ w = w' := by
  have H1 := Lib.hid h
  clear h
  go_enter Try.func16, Try.ntmps16
  go_wp2_with fail
  refine (peekI_none _ H1.out).mono ?_
  rintro e w1 ⟨rfl, rfl⟩
  go_wp2_with fail
  go_ret2
  exact ⟨rfl, rfl⟩

set_option maxHeartbeats 2000000 in
theorem popI_some {B p g n : Nat} {x : Ent} {r : List Ent} (w : World) (h : HeapI w B p g (x :: r) n) (hB : B ≤ w.heap.size) :
    Calls Try.prog 16 #[.pointer (some ⟨p, 0, none⟩)] w fun e w' => e = .returned (.tuple #[.int .i64 x.2.1, .bool true]) ∧ HeapI w' B p g (popG (ltI g) (x :: r)) n ∧ Below B w w' ∧ Keeps p g n w w' := by
  have H1 := Lib.hid h
  have hpw := h.lt
  obtain ⟨⟨v, h1, h2, h3⟩, h4, h5, h6⟩ := h
  rcases own_form h2 with ⟨rfl, h0⟩ | ⟨cg, cap, rfl, hg, hcap, hgl⟩
  · simp at h0
  have hpg : p ≠ cg := fun e => h3 (by simp [Value.ownBlock, e])
  have h5' : r.length + 1 ≤ 1000000000 := by simpa using h5
  obtain ⟨l, hl⟩ : ∃ l, l = x :: r := ⟨_, rfl⟩
  have hll : l.length = r.length + 1 := by rw [hl]; rfl
  rw [← hl] at h1 h2 H1
  have Hl := Lib.hid hl
  have Hll := Lib.hid hll
  have hcap' : r.length + 1 ≤ cap := by omega
  rw [hll] at h1 h2
  obtain ⟨c0, c1, c2, fz, hpl⟩ := cells3 h1
  obtain ⟨y1, y2⟩ := entI_cells h2 r.length (by omega)
  obtain ⟨Y, HY⟩ : ∃ Y, Hid (l.getD r.length (0, 0, 0) = Y) := ⟨_, rfl⟩
  rw [HY.out] at y1 y2
  obtain ⟨Y1, Y2, Y3⟩ := Y
  obtain ⟨x1, x2⟩ := entI_cells h2 0 (by omega)
  simp only [Nat.zero_mul, Nat.zero_add] at x1 x2
  have fb := h2.frozenAt
  have Hown1 := Lib.hid h2
  have Hpw1 := Lib.hid h1
  obtain ⟨X1, X2, X3⟩ := x
  have i1 : (r.length : Int) < (r.length : Int) + 1 := by omega
  have i2 : (0 : Int) < (r.length : Int) + 1 := by omega
  have hrc : r.length ≤ cap := by omega
  clear hl hll h1 h2 h3 h5 hcap
  go_enter Try.func16, Try.ntmps16
  go_wp2_with fail
  refine (peekI_some (x := (X1, X2, X3)) (l := r) _ (by rw [← Hl.out]; exact H1.out)).mono ?_
  rintro e w1 ⟨rfl, rfl⟩
  go_wp2_with fail
  refine Seq.start (fun _ => True) (Seq.but [12]) (Seq.these []) (by kernel_rfl) ?_
  refine Seq.calm (i := 0) (d := some 19) (v := ?_) rfl rfl (by kernel_rfl) (by rfl) (fun w9 => ?_) ?_
  rotate_left
  · go_simp; try with_reducible rfl
  (try simp only [Act.put, List.setIfInBounds_toArray, List.set_cons_zero, List.set_cons_succ])
  refine Seq.calm (i := 1) (d := some 20) (v := ?_) rfl rfl (by kernel_rfl) (by rfl) (fun w9 => ?_) ?_
  rotate_left
  · go_simp; try with_reducible rfl
  (try simp only [Act.put, List.setIfInBounds_toArray, List.set_cons_zero, List.set_cons_succ])
  refine Seq.calm (i := 2) (d := some 21) (v := ?_) rfl rfl (by kernel_rfl) (by rfl) (fun w9 => ?_) ?_
  rotate_left
  · go_simp; try with_reducible rfl
  (try simp only [Act.put, List.setIfInBounds_toArray, List.set_cons_zero, List.set_cons_succ])
  refine Seq.held (i := 3) (d := some 22) (v := ?_) rfl rfl (by kernel_rfl) (by kernel_rfl) (by rfl) ?_ ?_
  rotate_left
  · go_simp; try with_reducible rfl
  (try simp only [Act.put, List.setIfInBounds_toArray, List.set_cons_zero, List.set_cons_succ])
  refine Seq.calm (i := 4) (d := some 23) (v := ?_) rfl rfl (by kernel_rfl) (by rfl) (fun w9 => ?_) ?_
  rotate_left
  · go_simp; try with_reducible rfl
  (try simp only [Act.put, List.setIfInBounds_toArray, List.set_cons_zero, List.set_cons_succ])
  refine Seq.calm (i := 5) (d := some 24) (v := ?_) rfl rfl (by kernel_rfl) (by rfl) (fun w9 => ?_) ?_
  rotate_left
  · go_simp; try with_reducible rfl
  (try simp only [Act.put, List.setIfInBounds_toArray, List.set_cons_zero, List.set_cons_succ])
  refine Seq.calm (i := 6) (d := some 25) (v := ?_) rfl rfl (by kernel_rfl) (by rfl) (fun w9 => ?_) ?_
  rotate_left
  · go_simp; try with_reducible rfl
  (try simp only [Act.put, List.setIfInBounds_toArray, List.set_cons_zero, List.set_cons_succ])
  refine Seq.held (i := 7) (d := some 26) (v := ?_) rfl rfl (by kernel_rfl) (by kernel_rfl) (by rfl) ?_ ?_
  rotate_left
  · go_simp; try with_reducible rfl
  (try simp only [Act.put, List.setIfInBounds_toArray, List.set_cons_zero, List.set_cons_succ])
  refine Seq.calm (i := 8) (d := some 27) (v := ?_) rfl rfl (by kernel_rfl) (by rfl) (fun w9 => ?_) ?_
  rotate_left
  · go_simp; try with_reducible rfl
  (try simp only [Act.put, List.setIfInBounds_toArray, List.set_cons_zero, List.set_cons_succ])
  refine Seq.calm (i := 9) (d := some 28) (v := ?_) rfl rfl (by kernel_rfl) (by rfl) (fun w9 => ?_) ?_
  rotate_left
  · go_simp; try with_reducible rfl
  (try simp only [Act.put, List.setIfInBounds_toArray, List.set_cons_zero, List.set_cons_succ])
  refine Seq.held (i := 10) (d := some 29) (v := ?_) rfl rfl (by kernel_rfl) (by kernel_rfl) (by rfl) ?_ ?_
  rotate_left
  · go_simp; try with_reducible rfl
  (try simp only [Act.put, List.setIfInBounds_toArray, List.set_cons_zero, List.set_cons_succ])
  refine Seq.calm (i := 11) (d := some 30) (v := ?_) rfl rfl (by kernel_rfl) (by rfl) (fun w9 => ?_) ?_
  rotate_left
  · go_simp; try with_reducible rfl
  (try simp only [Act.put, List.setIfInBounds_toArray, List.set_cons_zero, List.set_cons_succ])
  refine Seq.drop (i := 12) rfl (by kernel_rfl) (by kernel_rfl) (by rfl) (fun K9 hK9 => ?_)
  go_simp
  refine hK9.out _ _ ?_
  clear hK9 K9
  (try simp only [Act.put, List.setIfInBounds_toArray, List.set_cons_zero, List.set_cons_succ])
  refine Seq.done (by kernel_rfl) ?_
  go_wp2_with fail
  obtain ⟨m1, m2, m3, mk⟩ := popI_mem Y1 Y2 Y3 Hpw1.out Hown1.out Hll.out hpg h4 hg
  have ml : ((l.set 0 (Y1, Y2, Y3)).dropLast).length = r.length := by simp [Hll.out]
  have M3 := Lib.hid m3
  have hsz2 : w.heap.size = (((w.setCell ⟨cg, 0, none⟩ (.int .i64 Y2)).setCell ⟨cg, 1, none⟩ (.int .i64 Y3)).setCell ⟨p, 1, none⟩ (.slice (some ⟨cg, 0, none⟩) r.length cap)).heap.size := by simp
  have HSZ := Lib.hid hsz2
  have MK := Lib.hid mk
  clear m3 hsz2 mk
  generalize (((w.setCell ⟨cg, 0, none⟩ (.int .i64 Y2)).setCell ⟨cg, 1, none⟩ (.int .i64 Y3)).setCell ⟨p, 1, none⟩ (.slice (some ⟨cg, 0, none⟩) r.length cap)) = w2 at *
  refine (downI_len r.length g p cg n cap B ((l.set 0 (Y1, Y2, Y3)).dropLast) 0 _ h6 ml (by omega) (by omega) (by exact m1) (by exact own_drew m2) hpg).mono ?_
  rintro e w3 ⟨rfl, o3, g3⟩
  have e3 : w3.heap[p]? = some (.cells #[.func (.func g) #[] #[], .slice (some ⟨cg, 0, none⟩) r.length cap, .int .i64 n] 70 (0, 0)) := (g3.block p (by rw [World.size_drew, ← HSZ.out]; omega) (fun e => hpg (Option.some.inj e))).trans m1
  have b3 : Below B w w3 := M3.out.drew.trans (below_grown g3 hg (by rw [World.size_drew, ← HSZ.out]; omega))
  have kp : Keeps p g n w w3 := by
    intro v0 hv0
    have e0 := Hpw1.out.symm.trans hv0
    simp only [Option.some.injEq, Obj.cells.injEq, Array.mk.injEq, List.cons.injEq, and_true, true_and] at e0
    obtain ⟨rfl⟩ := e0
    refine ⟨fun k hk hkp hkv => ?_, _, e3, rfl⟩
    have hkc : k ≠ cg := fun e => hkv (by simp [Value.ownBlock, e])
    exact (g3.block k (by rw [World.size_drew, ← HSZ.out]; exact hk) (fun e => hkc (Option.some.inj e))).trans (MK.out k hkc hkp)
  have KP := Lib.hid kp
  clear kp
  have E3 := Lib.hid e3
  have O3 := Lib.hid o3
  have B3 := Lib.hid b3
  have hlp : popG (ltI g) l = downF (ltI g) (r.length + 1) (l.set 0 (Y1, Y2, Y3)).dropLast 0 := by
    unfold popG
    rw [show l.length - 1 = r.length by rw [Hll.out]; rfl, HY.out, ml]
  have HLP := Lib.hid hlp
  clear e3 o3 b3 g3 hlp x1 x2 y1 y2 fb c0 c1 c2 fz m1 m2
  go_wp2_with fail
  go_ret2
  refine ⟨rfl, ⟨⟨.slice (some ⟨cg, 0, none⟩) r.length cap, E3.out, ?_, by simp [Value.ownBlock]; exact Ne.symm hpg⟩, h4, ?_, h6⟩, B3.out, KP.out⟩
  · rw [← Hl.out, HLP.out, downF_length, ml]
    exact O3.out
  · rw [← Hl.out, HLP.out, downF_length, ml]; omega

theorem Try.info72 : (Try.prog.info? 72).map (fun i => (i.zero, i.size, i.bytes)) = some (some (.agg #[.int .i64 0, .int .i64 0]), 2, 16) := by kernel_rfl

theorem upI_len (m g p b n cap base : Nat) (l : List Ent) (at0 : Nat) (w : World) (hg0 : g = 13 ∨ g = 36) (hm : l.length = m) (hat : at0 < m) (hlen : m ≤ 1000000000000)
    (hp : w.heap[p]? = some (.cells #[.func (.func g) #[] #[], .slice (some ⟨b, 0, none⟩) m cap, .int .i64 n] 70 (0, 0)))
    (hown : w.ownsRow base 72 2 (.slice (some ⟨b, 0, none⟩) m cap) m (flat encI l)) (hpb : p ≠ b) :
    Calls Try.prog 37 #[.pointer (some ⟨p, 0, none⟩), .int .i64 at0] w fun e w' => e = .returned (.tuple #[]) ∧
      w'.ownsRow base 72 2 (.slice (some ⟨b, 0, none⟩) m cap) m (flat encI (upF (ltI g) (at0 + 1) l at0)) ∧ w.grownBy w' (some b) := by
  subst hm
  exact upI_any g hg0 p b n cap base l at0 w hat hlen hp hown hpb

set_option maxHeartbeats 2000000 in
theorem pushI_any {B p g n : Nat} {l : List Ent} (x : Int) (w : World) (h : HeapI w B p g l n) (hB : B ≤ w.heap.size) (hn : n ≤ 1000000000) (hl : l.length < 1000000000) :
    Calls Try.prog 14 #[.pointer (some ⟨p, 0, none⟩), .int .i64 x] w fun e w' => e = .returned (.tuple #[]) ∧ HeapI w' B p g (pushG (ltI g) l (0, x, n)) (n + 1) ∧ Below B w w' := by
  obtain ⟨i0, hi0, hz0, hz1, hz2⟩ := info_parts Try.info72
  obtain ⟨⟨v, h1, h2, h3⟩, h4, h5, h6⟩ := h
  obtain ⟨c0, c1, c2, fz, hpl⟩ := cells3 h1
  have Hi0 := Lib.hid hi0
  have Hown := Lib.hid (own_drew (h2.alloc (.cells #[.int .i64 x, .int .i64 n] 72)))
  have H1 := Lib.hid (((Below.refl w.heap.size w).alloc (Nat.le_refl _) (.cells #[.int .i64 x, .int .i64 n] 72)).block p hpl |>.trans h1)
  have hb0 := Lib.hid ((Below.refl B w).alloc hB (.cells #[.int .i64 x, .int .i64 n] 72))
  have hvlt : ∀ k, v.ownBlock = some k → B ≤ k := fun k hk => (h2.lt k hk).1
  have Hv := Lib.hid hvlt
  clear h1 h2 hvlt
  go_enter Try.func14, Try.ntmps14
  go_wp2_with fail
  refine Seq.start (fun w9 => w9.cell? ⟨p, 1, none⟩ = some v) (Seq.but [11, 12, 15]) (Seq.these [11]) (by kernel_rfl) ?_
  refine Seq.calm (i := 0) (d := some 6) (v := ?_) rfl rfl (by kernel_rfl) (by rfl) (fun w9 => ?_) ?_
  rotate_left
  · go_simp; try with_reducible rfl
  (try simp only [Act.put, List.setIfInBounds_toArray, List.set_cons_zero, List.set_cons_succ])
  refine Seq.calm (i := 1) (d := some 7) (v := ?_) rfl rfl (by kernel_rfl) (by rfl) (fun w9 => ?_) ?_
  rotate_left
  · go_simp; try with_reducible rfl
  (try simp only [Act.put, List.setIfInBounds_toArray, List.set_cons_zero, List.set_cons_succ])
  refine Seq.calm (i := 2) (d := some 8) (v := ?_) rfl rfl (by kernel_rfl) (by rfl) (fun w9 => ?_) ?_
  rotate_left
  · go_simp; try with_reducible rfl
  (try simp only [Act.put, List.setIfInBounds_toArray, List.set_cons_zero, List.set_cons_succ])
  refine Seq.calm (i := 3) (d := some 9) (v := ?_) rfl rfl (by kernel_rfl) (by rfl) (fun w9 => ?_) ?_
  rotate_left
  · go_simp; try with_reducible rfl
  (try simp only [Act.put, List.setIfInBounds_toArray, List.set_cons_zero, List.set_cons_succ])
  refine Seq.yes (i := 4) (d := some 10) (v := ?_) rfl rfl (by kernel_rfl) (by kernel_rfl) (by rfl) (fun w9 hS9 => ?_) ?_ ?_
  rotate_left
  · (try dsimp only at hS9); go_simp; try with_reducible rfl
  · (try dsimp only); simp [*, World.cell?_alloc_some, World.cell?_setCell_far]
  (try simp only [Act.put, List.setIfInBounds_toArray, List.set_cons_zero, List.set_cons_succ])
  refine Seq.calm (i := 5) (d := some 11) (v := ?_) rfl rfl (by kernel_rfl) (by rfl) (fun w9 => ?_) ?_
  rotate_left
  · go_simp; try with_reducible rfl
  (try simp only [Act.put, List.setIfInBounds_toArray, List.set_cons_zero, List.set_cons_succ])
  refine Seq.calm (i := 6) (d := some 12) (v := ?_) rfl rfl (by kernel_rfl) (by rfl) (fun w9 => ?_) ?_
  rotate_left
  · go_simp; try with_reducible rfl
  (try simp only [Act.put, List.setIfInBounds_toArray, List.set_cons_zero, List.set_cons_succ])
  refine Seq.calm (i := 7) (d := some 13) (v := ?_) rfl rfl (by kernel_rfl) (by rfl) (fun w9 => ?_) ?_
  rotate_left
  · go_simp; try with_reducible rfl
  (try simp only [Act.put, List.setIfInBounds_toArray, List.set_cons_zero, List.set_cons_succ])
  refine Seq.calm (i := 8) (d := some 14) (v := ?_) rfl rfl (by kernel_rfl) (by rfl) (fun w9 => ?_) ?_
  rotate_left
  · go_simp; try with_reducible rfl
  (try simp only [Act.put, List.setIfInBounds_toArray, List.set_cons_zero, List.set_cons_succ])
  refine Seq.held (i := 9) (d := some 15) (v := ?_) rfl rfl (by kernel_rfl) (by kernel_rfl) (by rfl) ?_ ?_
  rotate_left
  · go_simp; try with_reducible rfl
  (try simp only [Act.put, List.setIfInBounds_toArray, List.set_cons_zero, List.set_cons_succ])
  refine Seq.calm (i := 10) (d := some 16) (v := ?_) rfl rfl (by kernel_rfl) (by rfl) (fun w9 => ?_) ?_
  rotate_left
  · go_simp; try with_reducible rfl
  (try simp only [Act.put, List.setIfInBounds_toArray, List.set_cons_zero, List.set_cons_succ])
  refine Seq.keep (i := 11) rfl (by kernel_rfl) (by kernel_rfl) (by rfl) (fun K9 hK9 => ?_)
  go_simp
  refine hK9.out _ _ ?_ (fun hS => ?_)
  · (try dsimp only); simp [*, World.cell?_alloc_some, World.cell?_setCell_far]
  clear hK9 K9
  (try simp only [Act.put, List.setIfInBounds_toArray, List.set_cons_zero, List.set_cons_succ])
  refine Seq.drop (i := 12) rfl (by kernel_rfl) (by kernel_rfl) (by rfl) (fun K9 hK9 => ?_)
  refine wp_append_lies _ (.tmp 10) (.tmp 17) 68 rfl B 72 i0 _ 2 16 Try.underlying68 hi0 hz0 hz1 hz2 rfl (by omega) v l.length (flat encI l) rfl Hown.out ⟨w.heap.size, 0, none⟩ 1 1 [.int .i64 x, .int .i64 n] rfl rfl (World.news_of_block (heap_alloc_at _ _ _ (by simp))) (by simp [Value.oneCell']) (by omega) (by unfold maxLen; omega) (by omega) (by simp; omega) (w.heap.size + 1) (by simp) ?_
  intro cg cap wa hown1 hgrow hat hlt
  have hpa : wa.heap[p]? = some (.cells #[.func (.func g) #[] #[], v, .int .i64 n] 70 (0, 0)) := (hgrow.block p (by simp; omega) (fun e => h3 e.symm)).trans H1.out
  obtain ⟨d0, d1, d2, fz1, hpl1⟩ := cells3 hpa
  refine hK9.out _ _ ?_
  clear hK9 K9
  (try simp only [Act.put, List.setIfInBounds_toArray, List.set_cons_zero, List.set_cons_succ])
  refine Seq.calm (i := 13) (d := some 19) (v := ?_) rfl rfl (by kernel_rfl) (by rfl) (fun w9 => ?_) ?_
  rotate_left
  · go_simp; try with_reducible rfl
  (try simp only [Act.put, List.setIfInBounds_toArray, List.set_cons_zero, List.set_cons_succ])
  refine Seq.calm (i := 14) (d := some 20) (v := ?_) rfl rfl (by kernel_rfl) (by rfl) (fun w9 => ?_) ?_
  rotate_left
  · go_simp; try with_reducible rfl
  (try simp only [Act.put, List.setIfInBounds_toArray, List.set_cons_zero, List.set_cons_succ])
  refine Seq.drop (i := 15) rfl (by kernel_rfl) (by kernel_rfl) (by rfl) (fun K9 hK9 => ?_)
  go_simp
  refine hK9.out _ _ ?_
  clear hK9 K9
  (try simp only [Act.put, List.setIfInBounds_toArray, List.set_cons_zero, List.set_cons_succ])
  refine Seq.done (by kernel_rfl) ?_
  have hpg : p ≠ cg := by
    rcases hat with h | h
    · exact fun e => h3 (by rw [h, e])
    · omega
  have hBg : B ≤ cg := by
    rcases hat with h | h
    · exact Hv.out cg h
    · omega
  have Hat := Lib.hid hat
  clear hat
  have hza : w.heap.size + 1 ≤ wa.heap.size := by have := hgrow.size; simp at this; omega
  have ba : Below B w wa := by
    refine hb0.out.trans ?_
    refine ⟨hgrow.os, hgrow.tape, hgrow.output, hgrow.size, fun j hj => hgrow.block j (by simp; omega) (fun e => ?_)⟩
    have := Hv.out j e.symm
    omega
  have Ba := Lib.hid ba
  have Ho := Lib.hid hown1
  have Hpa := Lib.hid hpa
  clear ba hown1 hgrow hpa c0 c1 c2 fz hpl
  go_wp2_with fail
  have n1 : ((wa.setCell ⟨p, 1, none⟩ (.slice (some ⟨cg, 0, none⟩) (l.length + 1) cap)).setCell ⟨p, 2, none⟩ (.int .i64 ((n : Int) + 1))).heap[p]? = some (.cells #[.func (.func g) #[] #[], .slice (some ⟨cg, 0, none⟩) (l.length + 1) cap, .int .i64 ((n + 1 : Nat) : Int)] 70 (0, 0)) := by
    have a1 := heap_setCell_same wa p 1 _ 70 (.slice (some ⟨cg, 0, none⟩) (l.length + 1) cap) Hpa.out
    have a2 := heap_setCell_same (wa.setCell ⟨p, 1, none⟩ (.slice (some ⟨cg, 0, none⟩) (l.length + 1) cap)) p 2 _ 70 (.int .i64 ((n : Int) + 1)) a1
    rw [a2]; rfl
  have n2 : ((wa.setCell ⟨p, 1, none⟩ (.slice (some ⟨cg, 0, none⟩) (l.length + 1) cap)).setCell ⟨p, 2, none⟩ (.int .i64 ((n : Int) + 1))).ownsRow B 72 2 (.slice (some ⟨cg, 0, none⟩) (l.length + 1) cap) (l.length + 1) (flat encI (l ++ [(0, x, (n : Int))])) := by
    rw [flat_append]
    exact own_far (own_far Ho.out _ _ (by simp [Value.ownBlock]; exact Ne.symm hpg)) _ _ (by simp [Value.ownBlock]; exact Ne.symm hpg)
  have n3 := ((Ba.out.setCell h4 (p := ⟨p, 1, none⟩) (.slice (some ⟨cg, 0, none⟩) (l.length + 1) cap)).setCell h4 (p := ⟨p, 2, none⟩) (.int .i64 ((n : Int) + 1)))
  refine (upI_len (l.length + 1) g p cg (n + 1) cap B (l ++ [(0, x, (n : Int))]) l.length _ h6 (by simp) (by omega) (by omega) (by exact n1) (by exact n2) hpg).mono ?_
  rintro e w3 ⟨rfl, o3, g3⟩
  have e3 := (g3.block p (by simp; omega) (fun e => hpg (Option.some.inj e))).trans n1
  have b3 := n3.trans (below_grown g3 hBg (by simp; omega))
  have E3 := Lib.hid e3
  have O3 := Lib.hid o3
  have B3 := Lib.hid b3
  clear n1 n2 n3 g3 e3 o3 b3
  go_wp2_with fail
  go_end0
  refine ⟨rfl, ⟨⟨_, E3.out, ?_, by simp [Value.ownBlock]; exact Ne.symm hpg⟩, h4, ?_, h6⟩, B3.out⟩
  · unfold pushG; rw [upF_length]; simp only [List.length_append, List.length_singleton]
    exact O3.out
  · unfold pushG; rw [upF_length]; simp; omega
end Go.Proofs.Yteclijealbdhnaa
