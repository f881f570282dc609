/- All of a heap of things, in order. -/
import Derived.Test.YteclijealbdhnaaPush
import Derived.Test.YteclijealbdhnaaP
namespace Go.Proofs.Yteclijealbdhnaa
open Go.RowKit

theorem flatT_one (l : List Ent) : ∀ u ∈ flat encT l, u.oneCell' = true := by
  induction l with
  | nil => intro u hu; simp [flat] at hu
  | cons x l ih =>
    intro u hu
    rw [flat, List.mem_append] at hu
    rcases hu with h | h
    · simp only [encT, List.mem_cons, List.not_mem_nil, or_false] at h
      rcases h with rfl | rfl | rfl <;> rfl
    · exact ih u h

set_option maxHeartbeats 1000000 in
theorem clone_any {B : Nat} {v : Value} {l : List Ent} (w : World) (h : w.ownsRow B 78 3 v l.length (flat encT l)) (hl : l.length ≤ 1000000000) :
    Calls Try.prog 45 #[v] w fun e w' => ∃ a m c, e = .returned (.slice a m c) ∧ w'.ownsRow w.heap.size 78 3 (.slice a m c) l.length (flat encT l) ∧ Below w.heap.size w w' := by
  obtain ⟨i0, hi0, hz0, hz1, hz2⟩ := info_parts Try.info78
  rcases own_form h with ⟨rfl, h0⟩ | ⟨g, cap, rfl, hg, hcap, hgl⟩
  · have fin : Hid (∀ w' : World, w'.ownsRow w.heap.size 78 3 (.slice none 0 0) l.length (flat encT l)) := fun w' => by
      rw [List.length_eq_zero_iff.1 h0]; exact World.ownsRow_nil _ _ _ _
    have heq := fun wx => Lib.run_eql_slice_nil (P := Try.prog) wx 74 78 none 0 0 0 0 Try.underlying74
    clear h h0
    go_enter Try.func45, Try.ntmps45
    go_wp2
    go_ret
    exact ⟨_, _, _, rfl, fin.out _, Below.refl _ _⟩
  · have heq := fun wx => Lib.run_eql_slice_nil (P := Try.prog) wx 74 78 (some ⟨g, 0, none⟩) l.length cap 0 0 Try.underlying74
    have Hown := Lib.hid (h.alloc (.cells #[] 78))
    have HD := Lib.hid (World.ownsRow_lit (base := w.heap.size) (e := 78) (size := 3) w #[] 0 (Nat.le_refl _) (by unfold maxLen; omega) (by simp))
    have HN := Lib.hid ((h.alloc (.cells #[] 78)).cells (g := g) rfl)
    have hlen : (flat encT l).length = l.length * 3 := flat_length encT 3 encT_len l
    have Hlen := Lib.hid hlen
    clear h hlen
    go_enter Try.func45, Try.ntmps45
    go_wp2_with (at_builtin; refine wpList_append_own _ rfl (.tmp 5) (.tmp 6) 74 rfl w.heap.size 78 i0 _ 3 24 Try.underlying74 hi0 hz0 hz1 hz2 rfl (by omega) _ 0 [] rfl HD.out ⟨g, 0, none⟩ l.length cap (flat encT l) rfl Hlen.out HN.out (flatT_one l) (by unfold maxLen; omega) (by omega) (by simp) ?_; intro v' w1 hown1 hgrow hnil)
    obtain ⟨a', m', c', rfl⟩ : ∃ a m c, v' = .slice a m c := by
      rcases own_form hown1 with ⟨h, _⟩ | ⟨g', cap', h, _⟩
      · exact ⟨_, _, _, h⟩
      · exact ⟨_, _, _, h⟩
    go_ret
    refine ⟨a', m', c', rfl, ?_, ?_⟩
    · simpa using hown1
    · have b0 : Below w.heap.size w (w.alloc (.cells #[] 78)) := (Below.refl _ _).alloc (Nat.le_refl _) _
      exact b0.trans ⟨hgrow.os, hgrow.tape, hgrow.output, hgrow.size, fun k hk => hgrow.block k (by simp; omega) (fun e => by have := (show k = w.heap.size from Option.some.inj e); omega)⟩

theorem Try.info45 : (Try.prog.info? 45).map (fun i => (i.zero, i.size, i.bytes)) = some (some (.agg #[.int .i64 0, .int .i64 0]), 2, 16) := by kernel_rfl

/-- A thing. -/
abbrev Th := Int × Int
@[reducible] def encK (x : Th) : List Value := [.int .i64 x.1, .int .i64 x.2]
theorem encK_len (x : Th) : (encK x).length = 2 := rfl
def thOf (x : Ent) : Th := (x.1, x.2.1)

theorem popF_length (x : Ent) (r : List Ent) : (popF (x :: r)).length = r.length := by
  unfold popF; rw [downF_length]; simp

/-- All that come out, in order. -/
def allT (l : List Ent) : List Th := (drainG ltT l.length l).map thOf
theorem allT_nil : allT [] = [] := rfl
theorem allT_cons (x : Ent) (r : List Ent) : allT (x :: r) = thOf x :: allT (popF (x :: r)) := by
  unfold allT
  rw [popF_length]
  rfl
theorem allT_length : ∀ (k : Nat) (l : List Ent), l.length = k → (allT l).length = k
  | 0, l, h => by rw [List.length_eq_zero_iff.1 h]; rfl
  | k + 1, [], h => by simp at h
  | k + 1, x :: r, h => by
    rw [allT_cons, List.length_cons, allT_length k _ (by rw [popF_length]; simpa using h)]

/-- What is still to come: what was taken out, and all behind it. -/
def restT (b : Bool) (y : Th) (R : List Ent) : List Th := if b then y :: allT R else []
def cntT (b : Bool) (R : List Ent) : Nat := if b then R.length + 1 else 0
theorem below_keep {B p n : Nat} {l : List Ent} {w w' : World} (h : HeapAt w B p l n) (hb : Below w.heap.size w w') : KeepT p w w' := by
  intro v0 n0 h0
  exact ⟨fun k hk _ _ => hb.block k hk, v0, n0, (hb.block p h.lt).trans h0, .inl rfl⟩
theorem pop_any {B p n : Nat} (l : List Ent) (w : World) (h : HeapAt w B p l n) (hB : B ≤ w.heap.size) :
    Calls Try.prog 23 #[.pointer (some ⟨p, 0, none⟩)] w fun e w' => ∃ y1 y2 b R, e = .returned (.tuple #[thing y1 y2, .bool b]) ∧ HeapAt w' B p R n ∧ Below B w w' ∧ KeepT p w w' ∧ allT l = restT b (y1, y2) R ∧ cntT b R = l.length := by
  cases l with
  | nil =>
    refine (pop_none w h).mono ?_
    rintro e w' ⟨rfl, hb⟩
    exact ⟨0, 0, false, [], rfl, h.below hb, hb.mono hB, below_keep h hb, rfl, rfl⟩
  | cons x r =>
    refine (pop_keep w h hB).mono ?_
    rintro e w' ⟨rfl, h1, h2, h3⟩
    exact ⟨x.1, x.2.1, true, popF (x :: r), rfl, h1, h2, h3, allT_cons x r, by simp [cntT, popF_length]⟩

theorem HeapAt.grown {w w1 : World} {B p n : Nat} {l : List Ent} {r : Option Nat} (h : HeapAt w B p l n) (hg : w.grownBy w1 r) (hp : some p ≠ r)
    (hv : ∀ v0, w.heap[p]? = some (.cells #[.func (.func 19) #[] #[], v0, .int .i64 n] 76 (0, 0)) → v0.ownBlock = none ∨ v0.ownBlock ≠ r) : HeapAt w1 B p l n := by
  obtain ⟨⟨v, h1, h2, h3⟩, h4, h5⟩ := h
  exact ⟨⟨v, (hg.block p (cells3 h1).2.2.2.2 hp).trans h1, h2.kept hg (hv v h1), h3⟩, h4, h5⟩

/-- A heap stays where a cell is set that is not its own. -/
theorem HeapAt.far {w : World} {B p n : Nat} {l : List Ent} (h : HeapAt w B p l n) (a : Addr) (u : Value) (hp : p ≠ a.block)
    (hv : ∀ v0, w.heap[p]? = some (.cells #[.func (.func 19) #[] #[], v0, .int .i64 n] 76 (0, 0)) → v0.ownBlock ≠ some a.block) : HeapAt (w.setCell a u) B p l n := by
  obtain ⟨⟨v, h1, h2, h3⟩, h4, h5⟩ := h
  exact ⟨⟨v, (Below.heap_setCell _ _ _ _ hp).trans h1, own_far h2 a u (hv v h1), h3⟩, h4, h5⟩

set_option maxHeartbeats 4000000 in
theorem all_any {B p n : Nat} {l : List Ent} (w : World) (h : HeapAt w B p l n) (hl : l.length ≤ 1000000) :
    Calls Try.prog 29 #[.pointer (some ⟨p, 0, none⟩)] w fun e w' => ∃ v, e = .returned v ∧ w'.ownsRow w.heap.size 45 2 v (allT l).length (flat encK (allT l)) ∧ Below w.heap.size w w' := by
  obtain ⟨i3, hi3, hy0, hy1, hy2⟩ := info_parts Try.info45
  obtain ⟨⟨v, h1, h2, h3⟩, h4, h5⟩ := h
  obtain ⟨c0, c1, c2, fz, hpl⟩ := cells3 h1
  have Hown := Lib.hid h2
  have H1 := Lib.hid h1
  obtain ⟨B0, HB0⟩ : ∃ B0, Hid (B0 = w.heap.size) := ⟨_, rfl⟩
  rw [← HB0.out]
  clear h1 h2 h3
  go_enter Try.func29, Try.ntmps29
  go_wp2_with fail
  refine Seq.start (fun w9 => w9.cell? ⟨p, 0, none⟩ = some (.func (.func 19) #[] #[])) (Seq.but [8, 10]) (Seq.these [8]) (by kernel_rfl) ?_
  refine Seq.calm (i := 0) (d := some 9) (v := ?_) rfl rfl (by kernel_rfl) (by rfl) (fun w9 => ?_) ?_
  rotate_left
  · go_simp; try with_reducible rfl
  (try simp only [Act.put, List.setIfInBounds_toArray, List.set_cons_zero, List.set_cons_succ])
  refine Seq.calm (i := 1) (d := some 10) (v := ?_) rfl rfl (by kernel_rfl) (by rfl) (fun w9 => ?_) ?_
  rotate_left
  · go_simp; try with_reducible rfl
  (try simp only [Act.put, List.setIfInBounds_toArray, List.set_cons_zero, List.set_cons_succ])
  refine Seq.calm (i := 2) (d := some 11) (v := ?_) rfl rfl (by kernel_rfl) (by rfl) (fun w9 => ?_) ?_
  rotate_left
  · go_simp; try with_reducible rfl
  (try simp only [Act.put, List.setIfInBounds_toArray, List.set_cons_zero, List.set_cons_succ])
  refine Seq.yes (i := 3) (d := some 12) (v := ?_) rfl rfl (by kernel_rfl) (by kernel_rfl) (by rfl) (fun w9 hS9 => ?_) ?_ ?_
  rotate_left
  · (try dsimp only at hS9); go_simp; try with_reducible rfl
  · (try dsimp only); simp [*]
  (try simp only [Act.put, List.setIfInBounds_toArray, List.set_cons_zero, List.set_cons_succ])
  refine Seq.calm (i := 4) (d := some 13) (v := ?_) rfl rfl (by kernel_rfl) (by rfl) (fun w9 => ?_) ?_
  rotate_left
  · go_simp; try with_reducible rfl
  (try simp only [Act.put, List.setIfInBounds_toArray, List.set_cons_zero, List.set_cons_succ])
  refine Seq.calm (i := 5) (d := some 14) (v := ?_) rfl rfl (by kernel_rfl) (by rfl) (fun w9 => ?_) ?_
  rotate_left
  · go_simp; try with_reducible rfl
  (try simp only [Act.put, List.setIfInBounds_toArray, List.set_cons_zero, List.set_cons_succ])
  refine Seq.calm (i := 6) (d := some 15) (v := ?_) rfl rfl (by kernel_rfl) (by rfl) (fun w9 => ?_) ?_
  rotate_left
  · go_simp; try with_reducible rfl
  (try simp only [Act.put, List.setIfInBounds_toArray, List.set_cons_zero, List.set_cons_succ])
  refine Seq.held (i := 7) (d := some 16) (v := ?_) rfl rfl (by kernel_rfl) (by kernel_rfl) (by rfl) ?_ ?_
  rotate_left
  · go_simp; try with_reducible rfl
  (try simp only [Act.put, List.setIfInBounds_toArray, List.set_cons_zero, List.set_cons_succ])
  refine Seq.keep (i := 8) rfl (by kernel_rfl) (by kernel_rfl) (by rfl) (fun K9 hK9 => ?_)
  go_simp
  (with_reducible refine (clone_any (B := B) (l := l) _ (by exact own_drew Hown.out) (by omega)).mono ?_)
  rintro e w2 ⟨ca, cm, cc, rfl, oc, bc⟩
  have c0 : w2.cell? ⟨p, 0, none⟩ = some (.func (.func 19) #[] #[]) := (bc.cell (by simpa using hpl)).trans c0
  refine hK9.out _ _ ?_ (fun hS => ?_)
  · (try dsimp only); simp [*]
  clear hK9 K9
  (try simp only [Act.put, List.setIfInBounds_toArray, List.set_cons_zero, List.set_cons_succ])
  refine Seq.calm (i := 9) (d := some 18) (v := ?_) rfl rfl (by kernel_rfl) (by rfl) (fun w9 => ?_) ?_
  rotate_left
  · go_simp; try with_reducible rfl
  (try simp only [Act.put, List.setIfInBounds_toArray, List.set_cons_zero, List.set_cons_succ])
  refine Seq.drop (i := 10) rfl (by kernel_rfl) (by kernel_rfl) (by rfl) (fun K9 hK9 => ?_)
  go_simp
  refine hK9.out _ _ ?_
  clear hK9 K9
  (try simp only [Act.put, List.setIfInBounds_toArray, List.set_cons_zero, List.set_cons_succ])
  refine Seq.calm (i := 11) (d := some 3) (v := ?_) rfl rfl (by kernel_rfl) (by rfl) (fun w9 => ?_) ?_
  rotate_left
  · go_simp; try with_reducible rfl
  (try simp only [Act.put, List.setIfInBounds_toArray, List.set_cons_zero, List.set_cons_succ])
  refine Seq.done (by kernel_rfl) ?_
  have oc' : w2.ownsRow B0 78 3 (.slice ca cm cc) l.length (flat encT l) := by rw [HB0.out]; exact oc
  have bc' : Below B0 w w2 := (Below.refl B0 w).drew.trans (bc.mono (by rw [HB0.out]; exact Nat.le_refl _))
  have z2 : B0 ≤ w2.heap.size := by have := bc.size; rw [HB0.out]; exact this
  have hcv : (Value.slice ca cm cc).ownBlock ≠ some w2.heap.size := fun e => by have := (oc'.lt _ e).2; omega
  have hp2 : (w2.alloc (.cells #[.func (.func 19) #[] #[], .slice ca cm cc, .int .i64 0] 76)).heap[w2.heap.size]? = some (.cells #[.func (.func 19) #[] #[], .slice ca cm cc, .int .i64 ((0 : Nat) : Int)] 76 (0, 0)) := heap_alloc_new w2 _
  have hi : HeapAt (w2.alloc (.cells #[.func (.func 19) #[] #[], .slice ca cm cc, .int .i64 0] 76)) B0 w2.heap.size l 0 := ⟨⟨_, hp2, oc'.alloc _, hcv⟩, z2, by omega⟩
  have bi : Below B0 w (w2.alloc (.cells #[.func (.func 19) #[] #[], .slice ca cm cc, .int .i64 0] 76)) := bc'.alloc z2 _
  have Hi := Lib.hid hi
  have Bi := Lib.hid bi
  have Hp2 := Lib.hid hp2
  have zi : B0 ≤ (w2.alloc (.cells #[.func (.func 19) #[] #[], .slice ca cm cc, .int .i64 0] 76)).heap.size := by simp; omega
  clear oc oc' bc bc' hi bi hp2 hcv c1 c2 fz hpl h4 h5
  go_wp2_with fail
  generalize w2.heap.size = q at *
  generalize w2.alloc (.cells #[.func (.func 19) #[] #[], .slice ca cm cc, .int .i64 0] 76) = w3 at *
  refine (pop_any l _ Hi.out zi).mono ?_
  rintro e w4 ⟨y0, y0', b0, R0, rfl, hi4, bi4, kp4, ha4, hc4⟩
  obtain ⟨_, v4, n4, hv4, hb4⟩ := kp4 _ _ Hp2.out
  have hall := allT_length l.length l rfl
  have Hlen := Lib.hid hall
  have Hi4 := Lib.hid hi4
  have Bi4 := Lib.hid (Bi.out.trans bi4)
  have Ha4 := Lib.hid ha4
  have Hc4 := Lib.hid hc4
  have z4 : B0 ≤ w4.heap.size := by have := bi4.size; omega
  obtain rfl : n4 = 0 := by
    obtain ⟨⟨v0, g1, _⟩, _⟩ := hi4
    have e0 := g1.symm.trans hv4
    simp only [Option.some.injEq, Obj.cells.injEq, Array.mk.injEq, List.cons.injEq, and_true, true_and, Value.int.injEq] at e0
    exact e0.2.symm
  have hq4 : q < w4.heap.size := (cells3 hv4).2.2.2.2
  have hx4 : Hid (v4.ownBlock ≠ some w4.heap.size) := fun e => by
    obtain ⟨⟨v0, g1, g2, _⟩, _⟩ := hi4
    have e0 := g1.symm.trans hv4
    simp only [Option.some.injEq, Obj.cells.injEq, Array.mk.injEq, List.cons.injEq, and_true, true_and] at e0
    obtain ⟨rfl, _⟩ := e0
    have := (g2.lt _ e).2
    omega
  have A4 := Lib.hid (heap_alloc_new w4 (.cells #[.int .i64 y0, .int .i64 y0'] 45))
  have Bl4 := (Below.refl w4.heap.size w4).alloc (Nat.le_refl _) (.cells #[.int .i64 y0, .int .i64 y0'] 45)
  have Hi5 := Lib.hid (hi4.below Bl4)
  have Hv5 := Lib.hid ((Bl4.block q hq4).trans hv4)
  have Bi5 := Lib.hid (Bi4.out.trans (Bl4.mono z4))
  clear hi4 bi4 ha4 hc4 hv4 hb4 kp4 hall Hi Bi Hp2 Hown H1 Hi4 Bi4 Bl4
  go_wp2_with fail
  go_loopg [4, 5, 6] (l.length + 1) (fun gg ov xv okv wr => ∃ (os : List Th) (R : List Ent) (y1 y2 : Int) (b : Bool) (v1 : Value) (xb : Nat), xv = .pointer (some ⟨xb, 0, none⟩) ∧ okv = .bool b ∧ Hid (allT l = os ++ restT b (y1, y2) R) ∧ cntT b R < gg ∧
      Hid (HeapAt wr B0 q R 0) ∧ Hid (wr.ownsRow B0 45 2 ov os.length (flat encK os)) ∧ Hid (Below B0 w wr) ∧ Hid (wr.heap[q]? = some (.cells #[.func (.func 19) #[] #[], v1, .int .i64 (0 : Int)] 76 (0, 0))) ∧
      Hid (ov.ownBlock = none ∨ ov.ownBlock ≠ v1.ownBlock) ∧ Hid (ov.ownBlock ≠ some q) ∧ B0 ≤ wr.heap.size ∧ Hid (wr.heap[xb]? = some (.cells #[.int .i64 y1, .int .i64 y2] 45 (0, 0))) ∧ Hid (xb ≠ q ∧ B0 ≤ xb ∧ v1.ownBlock ≠ some xb ∧ ov.ownBlock ≠ some xb))
  case atStart => exact ⟨[], R0, y0, y0', b0, v4, w4.heap.size, rfl, rfl, Ha4.out, by rw [Hc4.out]; omega, Hi5, World.ownsRow_nil _ _ _ _, Bi5, Hv5, .inl rfl, (by show _ ≠ _; simp [Value.ownBlock]), by simp; omega, A4, ⟨by omega, z4, hx4.out, by simp [Value.ownBlock]⟩⟩
  case round =>
    obtain ⟨os, R, y1, y2, b, v1, xb, rfl, rfl, hA, hgg, hH, hO, hB, hv, hd, hq, hz, hx, hxs⟩ := hrel
    cases b with
    | false =>
      go_wp2_with fail
      go_ret
      refine ⟨_, rfl, ?_, hB.out⟩
      have e : allT l = os := by rw [hA.out]; simp [restT]
      rw [e]
      exact hO.out
    | true =>
      have hol : os.length < 1000000 := by
        have h1 := congrArg List.length hA.out
        rw [Hlen.out] at h1
        simp [restT] at h1
        omega
      have hxc0 : wr.cell? ⟨xb, 0, none⟩ = some (.int .i64 y1) := by rw [cell_of_row _ _ _ _ _ _ hx.out]; rfl
      have hxc1 : wr.cell? ⟨xb, 1, none⟩ = some (.int .i64 y2) := by rw [cell_of_row _ _ _ _ _ _ hx.out]; rfl
      have hxl : xb < wr.heap.size := (Array.getElem?_eq_some_iff.1 hx.out).1
      go_wp2_with (at_builtin; refine wpList_append_lies _ rfl (.tmp 31) (.tmp 33) 47 rfl B0 45 i3 _ 2 16 Try.underlying47 hi3 hy0 hy1 hy2 rfl (by omega) u4 os.length (flat encK os) rfl (hO.out.alloc _) ⟨wr.heap.size, 0, none⟩ 1 1 [.int .i64 y1, .int .i64 y2] rfl rfl (World.news_of_block (heap_alloc_at _ _ _ rfl)) (by simp [Value.oneCell']) (by omega) (by unfold maxLen; omega) (by omega) (by simp; omega) (wr.heap.size + 1) (by simp) ?_; intro og oc wa hown1 hgrow hat hlt; have hxa : wa.heap[xb]? = some (.cells #[.int .i64 y1, .int .i64 y2] 45 (0, 0)) := (hgrow.block xb (by simp; omega) (fun e => hxs.out.2.2.2 e.symm)).trans ((Below.heap_alloc _ _ _ hxl).trans hx.out); have hxa0 : wa.cell? ⟨xb, 0, none⟩ = some (.int .i64 y1) := by { rw [cell_of_row _ _ _ _ _ _ hxa]; rfl }; have hxa1 : wa.cell? ⟨xb, 1, none⟩ = some (.int .i64 y2) := by { rw [cell_of_row _ _ _ _ _ _ hxa]; rfl })
      have hwo : ∀ k, u4.ownBlock = some k → B0 ≤ k ∧ k < wr.heap.size := fun k hk => hO.out.lt k hk
      have hog : B0 ≤ og := by
        rcases hat with h | h
        · exact (hwo og h).1
        · omega
      have hv' := hv.out
      have hql : q < wr.heap.size := (cells3 hv').2.2.2.2
      have b1 : Below B0 wr wa := by
        refine ((Below.refl B0 wr).alloc hz (.cells #[.int .i64 y1, .int .i64 y2] 45)).trans ⟨hgrow.os, hgrow.tape, hgrow.output, hgrow.size, fun k hk => hgrow.block k (by simp; omega) (fun e => ?_)⟩
        have := (hwo k e.symm).1
        omega
      have hgq : wa.heap[q]? = wr.heap[q]? := (hgrow.block q (by simp; omega) (fun e => hq.out e.symm)).trans (Below.heap_alloc _ _ _ hql)
      have hH2 : HeapAt wa B0 q R 0 := (hH.out.below ((Below.refl wr.heap.size wr).alloc (Nat.le_refl _) (.cells #[.int .i64 y1, .int .i64 y2] 45))).grown hgrow (fun e => hq.out e.symm) (fun v0 h0 => by
        rw [Below.heap_alloc _ _ _ hql, hv'] at h0
        simp only [Option.some.injEq, Obj.cells.injEq, Array.mk.injEq, List.cons.injEq, and_true, true_and] at h0
        obtain ⟨rfl, _⟩ := h0
        rcases hd.out with h | h
        · rw [h]
          cases hb : v1.ownBlock with
          | none => exact .inl rfl
          | some k => exact .inr (by simp)
        · exact .inr (Ne.symm h))
      have hz2 : wr.heap.size + 1 ≤ wa.heap.size := by have := hgrow.size; simpa using this
      have za : B0 ≤ wa.heap.size := by omega
      have hog1 : og ≠ q := by
        rcases hat with h | h
        · exact fun e => hq.out (by rw [h, e])
        · omega
      have hv1l : ∀ j, v1.ownBlock = some j → j < wr.heap.size := fun j e => by
        obtain ⟨⟨v0, g1, g2, g3⟩, _⟩ := hH.out
        have e0 := hv'.symm.trans g1
        simp only [Option.some.injEq, Obj.cells.injEq, Array.mk.injEq, List.cons.injEq, and_true, true_and] at e0
        obtain ⟨rfl, _⟩ := e0
        exact (g2.lt j e).2
      have hv1b : v1.ownBlock ≠ some og := by
        rcases hat with h | h
        · rcases hd.out with h2 | h2
          · rw [h] at h2; cases h2
          · rw [← h]; exact Ne.symm h2
        · intro e
          have := hv1l og e
          omega
      -- the copy for the next round
      have Bla := (Below.refl wa.heap.size wa).alloc (Nat.le_refl _) (.cells #[.int .i64 y1, .int .i64 y2] 45)
      have hqa : q < wa.heap.size := by omega
      have hH3 := hH2.below Bla
      have hV3 := (Bla.block q hqa).trans (hgq.trans hv')
      have hO3 := hown1.alloc (.cells #[.int .i64 y1, .int .i64 y2] 45)
      have zb : B0 ≤ (wa.alloc (.cells #[.int .i64 y1, .int .i64 y2] 45)).heap.size := by simp; omega
      have hB3 := (hB.out.trans b1).trans (Bla.mono za)
      have hX3 := heap_alloc_new wa (.cells #[.int .i64 y1, .int .i64 y2] 45)
      have HH3 := Lib.hid hH3
      have HB3 := Lib.hid hB3
      have HV3 := Lib.hid hV3
      have HO3 := Lib.hid hO3
      have HX3 := Lib.hid hX3
      have Hog := Lib.hid hog
      have hvx : Hid (v1.ownBlock ≠ some wa.heap.size) := fun e => by have := hv1l _ e; omega
      clear hH2 b1 hgq hown1 hgrow hat hwo hv' hH hO hB hv hd hq hx hxs hxa hxa0 hxa1 hxc0 hxc1 hH3 hB3 hV3 hO3 hX3 Bla hv1l
      go_wp2_with fail
      refine (pop_any R _ HH3.out zb).mono ?_
      rintro e w5 ⟨y5, y5', b5, R5, rfl, hi5, bi5, kp5, ha5, hc5⟩
      obtain ⟨kp, v5, n5, hv5, hb5⟩ := kp5 _ _ HV3.out
      have kog := kp og (by simp; omega) hog1 hv1b
      have kx := kp wa.heap.size (by simp) (by omega) hvx.out
      have hX5 := kx.trans HX3.out
      have hO5 : w5.ownsRow B0 45 2 (.slice (some ⟨og, 0, none⟩) (os.length + 1) oc) (os.length + 1) (flat encK os ++ [.int .i64 y1, .int .i64 y2]) := by
        obtain ⟨o1, o2⟩ := HO3.out
        refine ⟨o1, ?_⟩
        rcases o2 with ⟨o2, _⟩ | ⟨gg', cap', cur, e1, e2, e3, r⟩
        · cases o2
        · refine .inr ⟨gg', cap', cur, e1, e2, ?_, r⟩
          simp only [Value.slice.injEq, Option.some.injEq, Addr.mk.injEq, and_true, true_and] at e1
          obtain ⟨rfl, _⟩ := e1
          rw [kog]
          exact e3
      have hx50 : w5.cell? ⟨wa.heap.size, 0, none⟩ = some (.int .i64 y1) := by rw [cell_of_row _ _ _ _ _ _ hX5]; rfl
      have hx51 : w5.cell? ⟨wa.heap.size, 1, none⟩ = some (.int .i64 y2) := by rw [cell_of_row _ _ _ _ _ _ hX5]; rfl
      have fx5 := frozen_of_row _ _ 0 _ _ hX5
      have fx6 := frozen_of_row _ _ 1 _ _ hX5
      have hX6 : ((w5.setCell ⟨wa.heap.size, 0, none⟩ (.int .i64 y5)).setCell ⟨wa.heap.size, 1, none⟩ (.int .i64 y5')).heap[wa.heap.size]? = some (.cells #[.int .i64 y5, .int .i64 y5'] 45 (0, 0)) := by
        have a1 := heap_setCell_same w5 wa.heap.size 0 _ 45 (.int .i64 y5) hX5
        have a2 := heap_setCell_same (w5.setCell ⟨wa.heap.size, 0, none⟩ (.int .i64 y5)) wa.heap.size 1 _ 45 (.int .i64 y5') a1
        rw [a2]; rfl
      have hqn : q ≠ wa.heap.size := by omega
      have hl5 : wa.heap.size < w5.heap.size := (Array.getElem?_eq_some_iff.1 hX5).1
      have hv5n : v5.ownBlock ≠ some wa.heap.size := by
        rcases hb5 with h | h
        · rw [h]; exact hvx.out
        · intro e; have h2 := h _ e; rw [World.size_alloc] at h2; omega
      have hv5o : v5.ownBlock ≠ some og := by
        rcases hb5 with h | h
        · rw [h]; exact hv1b
        · intro e; have h2 := h _ e; rw [World.size_alloc] at h2; omega
      have hV6 : ((w5.setCell ⟨wa.heap.size, 0, none⟩ (.int .i64 y5)).setCell ⟨wa.heap.size, 1, none⟩ (.int .i64 y5')).heap[q]? = some (.cells #[.func (.func 19) #[] #[], v5, .int .i64 n5] 76 (0, 0)) := by
        rw [Below.heap_setCell _ _ _ _ hqn, Below.heap_setCell _ _ _ _ hqn]; exact hv5
      have hvv : ∀ (wx : World), wx.heap[q]? = some (.cells #[.func (.func 19) #[] #[], v5, .int .i64 n5] 76 (0, 0)) → ∀ v0, wx.heap[q]? = some (.cells #[.func (.func 19) #[] #[], v0, .int .i64 ((0 : Nat) : Int)] 76 (0, 0)) → v0.ownBlock ≠ some wa.heap.size := fun wx h1 v0 h2 => by
        have e0 := h1.symm.trans h2
        simp only [Option.some.injEq, Obj.cells.injEq, Array.mk.injEq, List.cons.injEq, and_true, true_and] at e0
        rw [← e0.1]; exact hv5n
      have hi6 := (hi5.far ⟨wa.heap.size, 0, none⟩ (.int .i64 y5) hqn (hvv _ hv5)).far ⟨wa.heap.size, 1, none⟩ (.int .i64 y5') hqn (hvv _ (by rw [Below.heap_setCell _ _ _ _ hqn]; exact hv5))
      have hogn : (Value.slice (some ⟨og, 0, none⟩) (os.length + 1) oc).ownBlock ≠ some wa.heap.size := fun e => by have := Option.some.inj e; simp only at this; omega
      have hO6 := own_far (own_far hO5 ⟨wa.heap.size, 0, none⟩ (.int .i64 y5) hogn) ⟨wa.heap.size, 1, none⟩ (.int .i64 y5') hogn
      have bi6 := (bi5.setCell (p := ⟨wa.heap.size, 0, none⟩) za (.int .i64 y5)).setCell (p := ⟨wa.heap.size, 1, none⟩) za (.int .i64 y5')
      obtain rfl : n5 = 0 := by
        obtain ⟨⟨v0, g1, _⟩, _⟩ := hi5
        have e0 := g1.symm.trans hv5
        simp only [Option.some.injEq, Obj.cells.injEq, Array.mk.injEq, List.cons.injEq, and_true, true_and, Value.int.injEq] at e0
        exact e0.2.symm
      have H6 := Lib.hid hi6
      have B6 := Lib.hid (HB3.out.trans bi6)
      have O6 := Lib.hid hO6
      have V6 := Lib.hid hV6
      have X6 := Lib.hid hX6
      have D6 : Hid (((Value.slice (some ⟨og, 0, none⟩) (os.length + 1) oc).ownBlock = none) ∨ (Value.slice (some ⟨og, 0, none⟩) (os.length + 1) oc).ownBlock ≠ v5.ownBlock) := .inr (Ne.symm hv5o)
      have Q6 : Hid ((Value.slice (some ⟨og, 0, none⟩) (os.length + 1) oc).ownBlock ≠ some q) := fun e => hog1 (Option.some.inj e)
      have A6 : Hid (allT l = (os ++ [(y1, y2)]) ++ restT b5 (y5, y5') R5) := by
        unfold Hid
        rw [hA.out, ← ha5]
        simp [restT]
      have S6 : Hid (wa.heap.size ≠ q ∧ B0 ≤ wa.heap.size ∧ v5.ownBlock ≠ some wa.heap.size ∧ (Value.slice (some ⟨og, 0, none⟩) (os.length + 1) oc).ownBlock ≠ some wa.heap.size) := ⟨Ne.symm hqn, za, hv5n, hogn⟩
      have z6 : B0 ≤ ((w5.setCell ⟨wa.heap.size, 0, none⟩ (.int .i64 y5)).setCell ⟨wa.heap.size, 1, none⟩ (.int .i64 y5')).heap.size := by simp; omega
      have HC5 := Lib.hid hc5
      have e5 : Hid ((flat encK os ++ [.int .i64 y1, .int .i64 y2]) = flat encK (os ++ [(y1, y2)])) := by unfold Hid; rw [flat_append]; rfl
      have l5 : Hid (os.length + 1 = (os ++ [(y1, y2)]).length) := by simp [Hid]
      clear hi5 bi5 kp5 ha5 hc5 hv5 hb5 kp hO5 hA hog1 hv1b HH3 HB3 HV3 HO3 HX3 hX5 hX6 hV6 hvv hi6 hO6 bi6 kog kx hv5n hv5o hogn
      go_wp2_with fail
      go_roundg (cntT b5 R5 + 1)
      case measure => rw [HC5.out]; exact hgg
      case rel => exact ⟨os ++ [(y1, y2)], R5, y5, y5', b5, v5, wa.heap.size, rfl, rfl, A6, Nat.lt_succ_self _, H6, (by show World.ownsRow _ _ _ _ _ _ _; rw [← e5.out, ← l5.out]; exact O6.out), B6, V6, D6, Q6, z6, X6, S6⟩
end Go.Proofs.Yteclijealbdhnaa
