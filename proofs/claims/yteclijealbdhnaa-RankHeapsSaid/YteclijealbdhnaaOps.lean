/- The heap of things: New, Len, Peek, Pop, Push. -/
import Derived.Test.YteclijealbdhnaaDown
import Derived.Laws.EntriesVeiled
import Derived.Deep.AppendLies
namespace Go.Proofs.Yteclijealbdhnaa
open Go.RowKit

/-- A heap of things at p, its memory from block B on. -/
structure HeapAt (w : World) (B p : Nat) (l : List Ent) (n : Nat) : Prop where
  own : ∃ v, w.heap[p]? = some (.cells #[.func (.func 19) #[] #[], v, .int .i64 n] 76 (0, 0)) ∧ w.ownsRow B 78 3 v l.length (flat encT l) ∧ v.ownBlock ≠ some p
  base : B ≤ p
  size : l.length ≤ 1000000000

theorem HeapAt.below {w w1 : World} {B p n : Nat} {l : List Ent} (h : HeapAt w B p l n) (hb : Below w.heap.size w w1) : HeapAt w1 B p l n := by
  obtain ⟨⟨v, h1, h2, h3⟩, h4, h5⟩ := h
  exact ⟨⟨v, (hb.block p (cells3 h1).2.2.2.2).trans h1, own_below h2 hb, h3⟩, h4, h5⟩
theorem HeapAt.lt {w : World} {B p n : Nat} {l : List Ent} (h : HeapAt w B p l n) : p < w.heap.size := by
  obtain ⟨⟨v, h1, h2, h3⟩, h4, h5⟩ := h
  exact (cells3 h1).2.2.2.2

/-- What the value of a row reads as. -/
theorem own_form {w : World} {B n : Nat} {e : TypeId} {size : Nat} {v : Value} {xs : List Value} (h : w.ownsRow B e size v n xs) : (v = .slice none 0 0 ∧ n = 0) ∨ ∃ g cap, v = .slice (some ⟨g, 0, none⟩) n cap ∧ B ≤ g ∧ n ≤ cap ∧ g < w.heap.size := by
  rcases h.2 with h | ⟨g, cap, cur, h1, h2, h3, h4, h5, h6, h7⟩
  · exact .inl h
  · exact .inr ⟨g, cap, h1, h2, h4, (Array.getElem?_eq_some_iff.1 h3).1⟩

set_option maxHeartbeats 1000000 in
theorem new_any (B : Nat) (w : World) (hB : B ≤ w.heap.size) :
    Calls Try.prog 18 #[.func (.func 19) #[] #[]] w fun e w' => e = .returned (.pointer (some ⟨w.heap.size, 0, none⟩)) ∧ HeapAt w' B w.heap.size [] 0 ∧ Below B w w' := by
  have heq : ∀ w : World, (binOp .eql 46 (.func (.func 19) #[] #[]) .nilFunc).run Try.prog w = .ok (.bool false) w := fun _ => by kernel_rfl
  go_enter Try.func18, Try.ntmps18
  go_wp2
  go_ret
  refine ⟨rfl, ⟨⟨.slice none 0 0, heap_alloc_new w _, World.ownsRow_nil _ _ _ _, by simp [Value.ownBlock]⟩, hB, by simp⟩, (Below.refl _ _).alloc hB _⟩

set_option maxHeartbeats 1000000 in
theorem len_any {B p n : Nat} {l : List Ent} (w : World) (h : HeapAt w B p l n) :
    Calls Try.prog 27 #[.pointer (some ⟨p, 0, none⟩)] w fun e w' => e = .returned (.int .i64 l.length) ∧ w = w' := by
  obtain ⟨⟨v, h1, h2, h3⟩, h4, h5⟩ := h
  obtain ⟨c0, c1, c2, fz, hpl⟩ := cells3 h1
  rcases own_form h2 with ⟨rfl, h0⟩ | ⟨g, cap, rfl, hg, hcap, hgl⟩
  · have H1 := Lib.hid h1
    have H0 := Lib.hid h0
    clear h1 h2 h3 h0
    go_enter Try.func27, Try.ntmps27
    go_wp2
    go_ret
    exact ⟨by rw [H0.out]; rfl, rfl⟩
  · clear h1 h2 h3
    go_enter Try.func27, Try.ntmps27
    go_wp2
    go_ret
    exact ⟨rfl, rfl⟩

set_option maxHeartbeats 1000000 in
theorem peek_none {B p n : Nat} (w : World) (h : HeapAt w B p [] n) :
    Calls Try.prog 22 #[.pointer (some ⟨p, 0, none⟩)] w fun e w' => e = .returned (.tuple #[thing 0 0, .bool false]) ∧ Below w.heap.size w w' := by
  have hl := fun wx (hx : HeapAt wx B p [] n) => len_any wx hx
  have h1 := h.below ((Below.refl _ _).alloc (Nat.le_refl _) (.cells #[.int .i64 0, .int .i64 0] 45))
  have HL := Lib.hid hl
  have H1 := Lib.hid h1
  clear h hl h1
  go_enter Try.func22, Try.ntmps22
  go_wp2_with fail
  refine (HL.out _ H1.out).mono ?_
  rintro e w' ⟨rfl, rfl⟩
  go_wp2_with fail
  refine bodyPost_ret (v := .tuple #[thing 0 0, .bool false]) (by simp [results, Try.results22, go_sem]) rfl ⟨rfl, ?_⟩
  repeat (first | exact Below.refl _ _ | refine Below.alloc ?_ (by simp) _ | refine Below.setCell ?_ (by simp) _)

set_option maxHeartbeats 1000000 in
theorem peek_some {B p n : Nat} {x : Ent} {l : List Ent} (w : World) (h : HeapAt w B p (x :: l) n) :
    Calls Try.prog 22 #[.pointer (some ⟨p, 0, none⟩)] w fun e w' => e = .returned (.tuple #[thing x.1 x.2.1, .bool true]) ∧ Below w.heap.size w w' := by
  have hb : Below w.heap.size w (w.alloc (.cells #[.int .i64 0, .int .i64 0] 45)) := (Below.refl _ _).alloc (Nat.le_refl _) _
  have H1 := Lib.hid (h.below hb)
  obtain ⟨⟨v, h1, h2, h3⟩, h4, h5⟩ := h
  rcases own_form h2 with ⟨rfl, h0⟩ | ⟨g, cap, rfl, hg, hcap, hgl⟩
  · simp at h0
  · obtain ⟨c0, c1, c2, fz, hpl⟩ := cells3 ((hb.block p (cells3 h1).2.2.2.2).trans h1)
    obtain ⟨x0, x1, x2⟩ := ent_cells (own_below h2 hb) 0 (by simp)
    simp only [List.getD_cons_zero, Nat.zero_mul, Nat.zero_add] at x0 x1 x2
    obtain ⟨X1, X2, X3⟩ := x
    have hne : ((l.length : Int) + 1 == 0) = false := beq_eq_false_iff_ne.2 (by omega)
    have h5' : l.length + 1 ≤ 1000000000 := by simpa using h5
    clear h1 h2 h3 h5 hb
    go_enter Try.func22, Try.ntmps22
    go_wp2_with fail
    refine (len_any _ H1.out).mono ?_
    rintro e w' ⟨rfl, rfl⟩
    simp only [List.length_cons, Int.natCast_add, Int.cast_ofNat_Int] at *
    go_wp2_with fail
    refine bodyPost_ret (v := .tuple #[thing X1 X2, .bool true]) (by simp [results, Try.results22, go_sem]) rfl ⟨rfl, ?_⟩
    repeat (first | exact Below.refl _ _ | refine Below.alloc ?_ (by simp) _ | refine Below.setCell ?_ (by simp) _)

/-- What stands behind a pop: the last one at the head, sunk to its place. -/
def popF (l : List Ent) : List Ent := downF ltT ((l.set 0 (l.getD (l.length - 1) (0, 0, 0))).dropLast.length + 1) (l.set 0 (l.getD (l.length - 1) (0, 0, 0))).dropLast 0

theorem downF_length (lt : Ent → Ent → Bool) : ∀ (f : Nat) (l : List Ent) (a : Nat), (downF lt f l a).length = l.length
  | 0, _, _ => rfl
  | f + 1, l, a => by
    simp only [downF]
    split
    · rfl
    · rw [downF_length lt f]; simp

theorem own_pop {w : World} {B g cap n : Nat} {l : List Ent} (h : w.ownsRow B 78 3 (.slice (some ⟨g, 0, none⟩) (n + 1) cap) (n + 1) (flat encT l)) (hl : l.length = n + 1) :
    w.ownsRow B 78 3 (.slice (some ⟨g, 0, none⟩) n cap) n (flat encT l.dropLast) := by
  have e : l = l.dropLast ++ [l.getLast (by intro e; rw [e] at hl; simp at hl)] := (List.dropLast_concat_getLast _).symm
  rw [e, flat_append] at h
  exact ownsRow_pop (by rw [flat_length encT 3 encT_len, List.length_dropLast, hl, Nat.add_sub_cancel]) h

theorem set3_0 {w : World} {base b n cap : Nat} {l : List Ent} (h : w.ownsRow base 78 3 (.slice (some ⟨b, 0, none⟩) n cap) n (flat encT l)) (x1 x2 x3 : Int) (hk : 0 < l.length) :
    (((w.setCell ⟨b, 0, none⟩ (.int .i64 x1)).setCell ⟨b, 1, none⟩ (.int .i64 x2)).setCell ⟨b, 2, none⟩ (.int .i64 x3)).ownsRow base 78 3 (.slice (some ⟨b, 0, none⟩) n cap) n (flat encT (l.set 0 (x1, x2, x3))) := by
  have := (set3 h 0 (x1, x2, x3) hk).1
  simpa using this

theorem own_far {w : World} {base : Nat} {e : TypeId} {size : Nat} {v : Value} {n : Nat} {xs : List Value} (h : w.ownsRow base e size v n xs) (a : Addr) (u : Value) (ha : v.ownBlock ≠ some a.block) : (w.setCell a u).ownsRow base e size v n xs := by
  refine ⟨h.1, ?_⟩
  rcases h.2 with h2 | ⟨g, cap, cur, hv, hg, hh, r⟩
  · exact Or.inl h2
  · refine Or.inr ⟨g, cap, cur, hv, hg, ?_, r⟩
    subst hv
    rw [Below.heap_setCell _ _ _ _ (fun e => ha (by rw [e]; rfl))]
    exact hh

theorem down_len (m p b n cap base : Nat) (l : List Ent) (at0 : Nat) (w : World) (hm : l.length = m) (hat : at0 ≤ 1000000000000) (hlen : m ≤ 1000000000000)
    (hp : w.heap[p]? = some (.cells #[.func (.func 19) #[] #[], .slice (some ⟨b, 0, none⟩) m cap, .int .i64 n] 76 (0, 0)))
    (hown : w.ownsRow base 78 3 (.slice (some ⟨b, 0, none⟩) m cap) m (flat encT l)) (hpb : p ≠ b) :
    Calls Try.prog 42 #[.pointer (some ⟨p, 0, none⟩), .int .i64 at0] w fun e w' => e = .returned (.tuple #[]) ∧
      w'.ownsRow base 78 3 (.slice (some ⟨b, 0, none⟩) m cap) m (flat encT (downF ltT (m + 1) l at0)) ∧ w.grownBy w' (some b) := by
  subst hm
  exact down_any p b n cap base l at0 w hat hlen hp hown hpb

theorem pop_mem {w : World} {B p g cap n m : Nat} {l : List Ent} {f : Value} (y1 y2 y3 : Int) (hp : w.heap[p]? = some (.cells #[f, .slice (some ⟨g, 0, none⟩) (m + 1) cap, .int .i64 n] 76 (0, 0)))
    (ho : w.ownsRow B 78 3 (.slice (some ⟨g, 0, none⟩) (m + 1) cap) (m + 1) (flat encT l)) (hl : l.length = m + 1) (hpg : p ≠ g) (hBp : B ≤ p) (hBg : B ≤ g) :
    ((((w.setCell ⟨g, 0, none⟩ (.int .i64 y1)).setCell ⟨g, 1, none⟩ (.int .i64 y2)).setCell ⟨g, 2, none⟩ (.int .i64 y3)).setCell ⟨p, 1, none⟩ (.slice (some ⟨g, 0, none⟩) m cap)).heap[p]? = some (.cells #[f, .slice (some ⟨g, 0, none⟩) m cap, .int .i64 n] 76 (0, 0)) ∧
    ((((w.setCell ⟨g, 0, none⟩ (.int .i64 y1)).setCell ⟨g, 1, none⟩ (.int .i64 y2)).setCell ⟨g, 2, none⟩ (.int .i64 y3)).setCell ⟨p, 1, none⟩ (.slice (some ⟨g, 0, none⟩) m cap)).ownsRow B 78 3 (.slice (some ⟨g, 0, none⟩) m cap) m (flat encT (l.set 0 (y1, y2, y3)).dropLast) ∧
    Below B w ((((w.setCell ⟨g, 0, none⟩ (.int .i64 y1)).setCell ⟨g, 1, none⟩ (.int .i64 y2)).setCell ⟨g, 2, none⟩ (.int .i64 y3)).setCell ⟨p, 1, none⟩ (.slice (some ⟨g, 0, none⟩) m cap)) ∧
    ∀ k, k ≠ g → k ≠ p → ((((w.setCell ⟨g, 0, none⟩ (.int .i64 y1)).setCell ⟨g, 1, none⟩ (.int .i64 y2)).setCell ⟨g, 2, none⟩ (.int .i64 y3)).setCell ⟨p, 1, none⟩ (.slice (some ⟨g, 0, none⟩) m cap)).heap[k]? = w.heap[k]? := by
  have h1 := set3_0 ho y1 y2 y3 (by omega)
  have h2 := own_far (own_pop h1 (by simpa using hl)) ⟨p, 1, none⟩ (.slice (some ⟨g, 0, none⟩) m cap) (by simp [Value.ownBlock]; exact Ne.symm hpg)
  refine ⟨?_, h2, ((((Below.refl _ _).setCell hBg _).setCell hBg _).setCell hBg _).setCell hBp _, fun k h1 h2 => by rw [Below.heap_setCell _ _ _ _ h2, Below.heap_setCell _ _ _ _ h1, Below.heap_setCell _ _ _ _ h1, Below.heap_setCell _ _ _ _ h1]⟩
  have h3 := heap_setCell_same (((w.setCell ⟨g, 0, none⟩ (.int .i64 y1)).setCell ⟨g, 1, none⟩ (.int .i64 y2)).setCell ⟨g, 2, none⟩ (.int .i64 y3)) p 1 _ 76 (.slice (some ⟨g, 0, none⟩) m cap)
    (by rw [Below.heap_setCell _ _ _ _ hpg, Below.heap_setCell _ _ _ _ hpg, Below.heap_setCell _ _ _ _ hpg]; exact hp)
  rw [h3]; rfl

set_option maxHeartbeats 1000000 in
theorem pop_none {B p n : Nat} (w : World) (h : HeapAt w B p [] n) :
    Calls Try.prog 23 #[.pointer (some ⟨p, 0, none⟩)] w fun e w' => e = .returned (.tuple #[thing 0 0, .bool false]) ∧ Below w.heap.size w w' := by
  have hb0 : Below w.heap.size w (w.alloc (.cells #[.int .i64 0, .int .i64 0] 45)) := (Below.refl _ _).alloc (Nat.le_refl _) _
  have H1 := Lib.hid (h.below hb0)
  clear h
  go_enter Try.func23, Try.ntmps23
  go_wp2_with fail
  refine (peek_none _ H1.out).mono ?_
  rintro e w1 ⟨rfl, hb⟩
  have hb1 : Below w.heap.size w w1 := hb0.trans (hb.mono (by simp))
  have hc0 : w1.cell? ⟨w.heap.size, 0, none⟩ = some (.int .i64 0) := (hb.cell (by simp)).trans (by simp)
  have hc1 : w1.cell? ⟨w.heap.size, 1, none⟩ = some (.int .i64 0) := (hb.cell (by simp)).trans (by simp)
  have hf0 : w1.frozen? ⟨w.heap.size, 0, none⟩ = false := (hb.frozen (by simp)).trans (by simp)
  have hf1 : w1.frozen? ⟨w.heap.size, 1, none⟩ = false := (hb.frozen (by simp)).trans (by simp)
  have hz : w.heap.size < w1.heap.size := by have := hb.size; simp at this; omega
  have Hb1 := Lib.hid hb1
  clear hb hb0 hb1
  go_wp2_with fail
  refine bodyPost_ret (v := .tuple #[thing 0 0, .bool false]) (by simp [results, Try.results23, go_sem, hc0, hc1, hf0, hf1, hz]) rfl ⟨rfl, ?_⟩
  repeat (first | exact Hb1.out | refine Below.alloc ?_ (by simp <;> omega) _ | refine Below.setCell ?_ (by simp) _)

/-- What a heap at p does not own stays; its row lies where it lay, or in a new block. -/
def KeepT (p : Nat) (w w' : World) : Prop := ∀ v0 (n0 : Int), w.heap[p]? = some (.cells #[.func (.func 19) #[] #[], v0, .int .i64 n0] 76 (0, 0)) →
  (∀ k, k < w.heap.size → k ≠ p → v0.ownBlock ≠ some k → w'.heap[k]? = w.heap[k]?) ∧ ∃ v1 n1, w'.heap[p]? = some (.cells #[.func (.func 19) #[] #[], v1, .int .i64 n1] 76 (0, 0)) ∧ (v1.ownBlock = v0.ownBlock ∨ ∀ j, v1.ownBlock = some j → w.heap.size ≤ j)

set_option maxHeartbeats 2000000 in
theorem pop_keep {B p n : Nat} {x : Ent} {r : List Ent} (w : World) (h : HeapAt w B p (x :: r) n) (hB : B ≤ w.heap.size) :
    Calls Try.prog 23 #[.pointer (some ⟨p, 0, none⟩)] w fun e w' => e = .returned (.tuple #[thing x.1 x.2.1, .bool true]) ∧ HeapAt w' B p (popF (x :: r)) n ∧ Below B w w' ∧ KeepT p w w' := by
  have hb0 : Below w.heap.size w (w.alloc (.cells #[.int .i64 0, .int .i64 0] 45)) := (Below.refl _ _).alloc (Nat.le_refl _) _
  have H1 := Lib.hid (h.below hb0)
  have hpw := h.lt
  obtain ⟨⟨v, h1, h2, h3⟩, h4, h5⟩ := h
  rcases own_form h2 with ⟨rfl, h0⟩ | ⟨g, cap, rfl, hg, hcap, hgl⟩
  · simp at h0
  have hpg : p ≠ g := fun e => h3 (by simp [Value.ownBlock, e])
  have h5' : r.length + 1 ≤ 1000000000 := by simpa using h5
  obtain ⟨l, hl⟩ : ∃ l, l = x :: r := ⟨_, rfl⟩
  have hll : l.length = r.length + 1 := by rw [hl]; rfl
  rw [← hl] at h1 h2 H1
  have hcap' : r.length + 1 ≤ cap := by omega
  clear hcap
  have Hl := Lib.hid hl
  have Hll := Lib.hid hll
  have H1' := Lib.hid h1
  have H2' := Lib.hid h2
  clear hl hll h1 h2 h3 h5
  go_enter Try.func23, Try.ntmps23
  go_wp2_with fail
  refine (peek_some (x := x) (l := r) _ (by rw [← Hl.out]; exact H1.out)).mono ?_
  rintro e w1 ⟨rfl, hb⟩
  have hb1 : Below w.heap.size w w1 := hb0.trans (hb.mono (by simp))
  have hc0 : w1.cell? ⟨w.heap.size, 0, none⟩ = some (.int .i64 0) := (hb.cell (by simp)).trans (by simp)
  have hc1 : w1.cell? ⟨w.heap.size, 1, none⟩ = some (.int .i64 0) := (hb.cell (by simp)).trans (by simp)
  have hf0 : w1.frozen? ⟨w.heap.size, 0, none⟩ = false := (hb.frozen (by simp)).trans (by simp)
  have hf1 : w1.frozen? ⟨w.heap.size, 1, none⟩ = false := (hb.frozen (by simp)).trans (by simp)
  have hz : w.heap.size < w1.heap.size := by have := hb.size; simp at this; omega
  have hpw1 := (hb1.block p hpw).trans H1'.out
  rw [Hll.out] at hpw1
  obtain ⟨c0, c1, c2, fz, hpl⟩ := cells3 hpw1
  have hown1 := own_below H2'.out hb1
  have hg0 : g ≠ w.heap.size := by omega
  have hgl1 : g < w1.heap.size := by omega
  have hrc : r.length ≤ cap := by omega
  have hp0 : p ≠ w.heap.size := by omega
  have Hb1 := Lib.hid hb1
  clear hb hb0 hb1
  obtain ⟨y0, y1, y2⟩ := ent_cells hown1 r.length (by rw [Hll.out]; omega)
  obtain ⟨Y, HY⟩ : ∃ Y, Hid (l.getD r.length (0, 0, 0) = Y) := ⟨_, rfl⟩
  rw [HY.out] at y0 y1 y2
  obtain ⟨Y1, Y2, Y3⟩ := Y
  obtain ⟨x0, x1, x2⟩ := ent_cells hown1 0 (by rw [Hll.out]; omega)
  simp only [Nat.zero_mul, Nat.zero_add] at x0 x1 x2
  have fb := hown1.frozenAt
  have Hown1 := Lib.hid hown1
  have Hpw1 := Lib.hid hpw1
  clear hown1 hpw1
  obtain ⟨X1, X2, X3⟩ := x
  have i1 : (r.length : Int) < (r.length : Int) + 1 := by omega
  have i2 : (0 : Int) < (r.length : Int) + 1 := by omega
  go_wp2_with fail
  refine Seq.start (fun _ => True) (Seq.but [12]) (Seq.these []) (by kernel_rfl) ?_
  refine Seq.calm (i := 0) (d := some 19) (v := ?_) rfl rfl (by kernel_rfl) (by rfl) (fun w9 => ?_) ?_
  rotate_left
  · go_simp; try with_reducible rfl
  (try simp only [Act.put, List.setIfInBounds_toArray, List.set_cons_zero, List.set_cons_succ])
  refine Seq.calm (i := 1) (d := some 20) (v := ?_) rfl rfl (by kernel_rfl) (by rfl) (fun w9 => ?_) ?_
  rotate_left
  · go_simp; try with_reducible rfl
  (try simp only [Act.put, List.setIfInBounds_toArray, List.set_cons_zero, List.set_cons_succ])
  refine Seq.calm (i := 2) (d := some 21) (v := ?_) rfl rfl (by kernel_rfl) (by rfl) (fun w9 => ?_) ?_
  rotate_left
  · go_simp; try with_reducible rfl
  (try simp only [Act.put, List.setIfInBounds_toArray, List.set_cons_zero, List.set_cons_succ])
  refine Seq.held (i := 3) (d := some 22) (v := ?_) rfl rfl (by kernel_rfl) (by kernel_rfl) (by rfl) ?_ ?_
  rotate_left
  · go_simp; try with_reducible rfl
  (try simp only [Act.put, List.setIfInBounds_toArray, List.set_cons_zero, List.set_cons_succ])
  refine Seq.calm (i := 4) (d := some 23) (v := ?_) rfl rfl (by kernel_rfl) (by rfl) (fun w9 => ?_) ?_
  rotate_left
  · go_simp; try with_reducible rfl
  (try simp only [Act.put, List.setIfInBounds_toArray, List.set_cons_zero, List.set_cons_succ])
  refine Seq.calm (i := 5) (d := some 24) (v := ?_) rfl rfl (by kernel_rfl) (by rfl) (fun w9 => ?_) ?_
  rotate_left
  · go_simp; try with_reducible rfl
  (try simp only [Act.put, List.setIfInBounds_toArray, List.set_cons_zero, List.set_cons_succ])
  refine Seq.calm (i := 6) (d := some 25) (v := ?_) rfl rfl (by kernel_rfl) (by rfl) (fun w9 => ?_) ?_
  rotate_left
  · go_simp; try with_reducible rfl
  (try simp only [Act.put, List.setIfInBounds_toArray, List.set_cons_zero, List.set_cons_succ])
  refine Seq.held (i := 7) (d := some 26) (v := ?_) rfl rfl (by kernel_rfl) (by kernel_rfl) (by rfl) ?_ ?_
  rotate_left
  · go_simp; try with_reducible rfl
  (try simp only [Act.put, List.setIfInBounds_toArray, List.set_cons_zero, List.set_cons_succ])
  refine Seq.calm (i := 8) (d := some 27) (v := ?_) rfl rfl (by kernel_rfl) (by rfl) (fun w9 => ?_) ?_
  rotate_left
  · go_simp; try with_reducible rfl
  (try simp only [Act.put, List.setIfInBounds_toArray, List.set_cons_zero, List.set_cons_succ])
  refine Seq.calm (i := 9) (d := some 28) (v := ?_) rfl rfl (by kernel_rfl) (by rfl) (fun w9 => ?_) ?_
  rotate_left
  · go_simp; try with_reducible rfl
  (try simp only [Act.put, List.setIfInBounds_toArray, List.set_cons_zero, List.set_cons_succ])
  refine Seq.held (i := 10) (d := some 29) (v := ?_) rfl rfl (by kernel_rfl) (by kernel_rfl) (by rfl) ?_ ?_
  rotate_left
  · go_simp; try with_reducible rfl
  (try simp only [Act.put, List.setIfInBounds_toArray, List.set_cons_zero, List.set_cons_succ])
  refine Seq.calm (i := 11) (d := some 30) (v := ?_) rfl rfl (by kernel_rfl) (by rfl) (fun w9 => ?_) ?_
  rotate_left
  · go_simp; try with_reducible rfl
  (try simp only [Act.put, List.setIfInBounds_toArray, List.set_cons_zero, List.set_cons_succ])
  refine Seq.drop (i := 12) rfl (by kernel_rfl) (by kernel_rfl) (by rfl) (fun K9 hK9 => ?_)
  go_simp
  refine hK9.out _ _ ?_
  clear hK9 K9
  (try simp only [Act.put, List.setIfInBounds_toArray, List.set_cons_zero, List.set_cons_succ])
  refine Seq.done (by kernel_rfl) ?_
  go_wp2_with fail
  obtain ⟨m1, m2, m3, mk⟩ := pop_mem Y1 Y2 Y3 Hpw1.out (by rw [← Hll.out]; exact Hown1.out) Hll.out hpg h4 hg
  have m3' := Below.trans ((Hb1.out).mono (B' := B) hB) m3
  have ml : ((l.set 0 (Y1, Y2, Y3)).dropLast).length = r.length := by simp [Hll.out]
  have m4 := World.ownsRow.alloc m2 (.cells #[.int .i64 X1, .int .i64 X2] 45)
  have m5 := (Below.refl (w1.heap.size) _).alloc (by simp) (.cells #[.int .i64 X1, .int .i64 X2] 45) |>.block p hpl |>.trans m1
  have M3 := Lib.hid m3'
  have M1 := Lib.hid m1
  have MK := Lib.hid (mk w.heap.size (Ne.symm hg0) (Ne.symm hp0))
  have MKK := Lib.hid mk
  have hsz2 : w1.heap.size = ((((w1.setCell ⟨g, 0, none⟩ (.int .i64 Y1)).setCell ⟨g, 1, none⟩ (.int .i64 Y2)).setCell ⟨g, 2, none⟩ (.int .i64 Y3)).setCell ⟨p, 1, none⟩ (.slice (some ⟨g, 0, none⟩) r.length cap)).heap.size := by simp
  have HSZ := Lib.hid hsz2
  clear m1 m2 m3 m3' mk hsz2
  generalize ((((w1.setCell ⟨g, 0, none⟩ (.int .i64 Y1)).setCell ⟨g, 1, none⟩ (.int .i64 Y2)).setCell ⟨g, 2, none⟩ (.int .i64 Y3)).setCell ⟨p, 1, none⟩ (.slice (some ⟨g, 0, none⟩) r.length cap)) = w2 at *
  refine (down_len r.length p g n cap B ((l.set 0 (Y1, Y2, Y3)).dropLast) 0 _ ml (by omega) (by omega) (by exact m5) (by exact own_drew m4) hpg).mono ?_
  rintro e w3 ⟨rfl, o3, g3⟩
  have hz3 : w1.heap.size + 1 ≤ w3.heap.size := by have := g3.size; rw [HSZ.out]; simpa using this
  have e1 : w3.heap[w.heap.size]? = w1.heap[w.heap.size]? := (g3.block w.heap.size (by rw [World.size_drew, World.size_alloc, ← HSZ.out]; omega) (fun e => hg0 (Option.some.inj e).symm)).trans
    ((Below.heap_alloc _ _ _ (by rw [← HSZ.out]; omega)).trans MK.out)
  have e2 : w3.heap[w1.heap.size]? = some (.cells #[.int .i64 X1, .int .i64 X2] 45) := (g3.block w1.heap.size (by rw [World.size_drew, World.size_alloc, ← HSZ.out]; omega) (fun e => by have := Option.some.inj e; omega)).trans
    (by rw [HSZ.out]; exact heap_alloc_new w2 _)
  have e3 : w3.heap[p]? = some (.cells #[.func (.func 19) #[] #[], .slice (some ⟨g, 0, none⟩) r.length cap, .int .i64 n] 76 (0, 0)) := (g3.block p (by rw [World.size_drew, World.size_alloc, ← HSZ.out]; omega) (fun e => hpg (Option.some.inj e))).trans m5
  have q0 : w3.cell? ⟨w.heap.size, 0, none⟩ = some (.int .i64 0) := (World.cell?_of_block (a := ⟨w.heap.size, 0, none⟩) e1).trans hc0
  have q1 : w3.cell? ⟨w.heap.size, 1, none⟩ = some (.int .i64 0) := (World.cell?_of_block (a := ⟨w.heap.size, 1, none⟩) e1).trans hc1
  have r0 : w3.frozen? ⟨w.heap.size, 0, none⟩ = false := (World.frozen?_of_block (a := ⟨w.heap.size, 0, none⟩) e1).trans hf0
  have r1 : w3.frozen? ⟨w.heap.size, 1, none⟩ = false := (World.frozen?_of_block (a := ⟨w.heap.size, 1, none⟩) e1).trans hf1
  have q2 : w3.cell? ⟨w1.heap.size, 0, none⟩ = some (.int .i64 X1) := by rw [cell_of_row _ _ _ _ _ _ e2]; rfl
  have q3 : w3.cell? ⟨w1.heap.size, 1, none⟩ = some (.int .i64 X2) := by rw [cell_of_row _ _ _ _ _ _ e2]; rfl
  have b3 : Below B w w3 := (M3.out.trans ((Below.refl _ _).alloc (by rw [← HSZ.out]; omega) _)).drew.trans (below_grown g3 hg (by rw [World.size_drew, World.size_alloc, ← HSZ.out]; omega))
  have hzw : w.heap.size < w3.heap.size := by omega
  have kb : ∀ k, k < w.heap.size → k ≠ p → k ≠ g → w3.heap[k]? = w.heap[k]? := fun k hk hkp hkg => by
    refine (g3.block k (by rw [World.size_drew, World.size_alloc, ← HSZ.out]; omega) (fun e => hkg (Option.some.inj e))).trans ?_
    refine (Below.heap_alloc _ _ _ (by rw [← HSZ.out]; omega)).trans ?_
    exact (MKK.out k hkg hkp).trans (Hb1.out.block k hk)
  have KB := Lib.hid kb
  have E3 := Lib.hid e3
  have O3 := Lib.hid o3
  have B3 := Lib.hid b3
  have hlp : popF l = downF ltT (r.length + 1) (l.set 0 (Y1, Y2, Y3)).dropLast 0 := by
    unfold popF
    rw [show l.length - 1 = r.length by rw [Hll.out]; rfl, HY.out, ml]
  have HLP := Lib.hid hlp
  clear kb e1 e2 e3 o3 b3 g3 hlp hc0 hc1 hf0 hf1 x0 x1 x2 y0 y1 y2 fb c0 c1 c2 fz m4 m5
  go_wp2_with fail
  refine bodyPost_ret (v := .tuple #[thing X1 X2, .bool true]) (by simp [results, Try.results23, go_sem, q0, q1, r0, r1, hzw]) rfl ⟨rfl, ?_, ?_, ?_⟩
  · refine ⟨⟨.slice (some ⟨g, 0, none⟩) r.length cap, ?_, ?_, by simp [Value.ownBlock]; exact Ne.symm hpg⟩, h4, ?_⟩
    · rw [Below.heap_setCell _ _ _ _ hp0, Below.heap_setCell _ _ _ _ hp0]; exact E3.out
    · rw [← Hl.out, HLP.out, downF_length, ml]
      exact own_far (own_far O3.out _ _ (by simp [Value.ownBlock]; exact hg0)) _ _ (by simp [Value.ownBlock]; exact hg0)
    · rw [← Hl.out, HLP.out, downF_length, ml]; omega
  · exact (B3.out.setCell (by simpa using hB) _).setCell (by simpa using hB) _
  · intro v0 n0 hv0
    have e0 := H1'.out.symm.trans hv0
    simp only [Option.some.injEq, Obj.cells.injEq, Array.mk.injEq, List.cons.injEq, and_true, true_and] at e0
    obtain ⟨rfl, _⟩ := e0
    refine ⟨fun k hk hkp hkv => ?_, .slice (some ⟨g, 0, none⟩) r.length cap, n, (by rw [Below.heap_setCell _ _ _ _ hp0, Below.heap_setCell _ _ _ _ hp0]; exact E3.out), .inl rfl⟩
    have hks : k ≠ w.heap.size := by omega
    rw [Below.heap_setCell _ _ _ _ hks, Below.heap_setCell _ _ _ _ hks]
    exact KB.out k hk hkp (fun e => hkv (by simp [Value.ownBlock, e]))

theorem pop_some {B p n : Nat} {x : Ent} {r : List Ent} (w : World) (h : HeapAt w B p (x :: r) n) (hB : B ≤ w.heap.size) :
    Calls Try.prog 23 #[.pointer (some ⟨p, 0, none⟩)] w fun e w' => e = .returned (.tuple #[thing x.1 x.2.1, .bool true]) ∧ HeapAt w' B p (popF (x :: r)) n ∧ Below B w w' :=
  (pop_keep w h hB).mono fun _ _ h => ⟨h.1, h.2.1, h.2.2.1⟩
end Go.Proofs.Yteclijealbdhnaa
