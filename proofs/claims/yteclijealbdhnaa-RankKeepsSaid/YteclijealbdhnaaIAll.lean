/- All of a heap of ints, in order. -/
import Derived.Test.YteclijealbdhnaaIOps
namespace Go.Proofs.Yteclijealbdhnaa
open Go.RowKit

theorem flatI_one (l : List Ent) : ∀ u ∈ flat encI l, u.oneCell' = true := by
  induction l with
  | nil => intro u hu; simp [flat] at hu
  | cons x l ih =>
    intro u hu
    rw [flat, List.mem_append] at hu
    rcases hu with h | h
    · simp only [encI, List.mem_cons, List.not_mem_nil, or_false] at h
      rcases h with rfl | rfl <;> rfl
    · exact ih u h

set_option maxHeartbeats 1000000 in
theorem cloneI_any {B : Nat} {v : Value} {l : List Ent} (w : World) (h : w.ownsRow B 72 2 v l.length (flat encI l)) (hl : l.length ≤ 1000000000) :
    Calls Try.prog 38 #[v] w fun e w' => ∃ a m c, e = .returned (.slice a m c) ∧ w'.ownsRow w.heap.size 72 2 (.slice a m c) l.length (flat encI l) ∧ Below w.heap.size w w' := by
  obtain ⟨i0, hi0, hz0, hz1, hz2⟩ := info_parts Try.info72
  rcases own_form h with ⟨rfl, h0⟩ | ⟨g, cap, rfl, hg, hcap, hgl⟩
  · have fin : Hid (∀ w' : World, w'.ownsRow w.heap.size 72 2 (.slice none 0 0) l.length (flat encI l)) := fun w' => by
      rw [List.length_eq_zero_iff.1 h0]; exact World.ownsRow_nil _ _ _ _
    have heq := fun wx => Lib.run_eql_slice_nil (P := Try.prog) wx 68 72 none 0 0 0 0 Try.underlying68
    clear h h0
    go_enter Try.func38, Try.ntmps38
    go_wp2
    go_ret
    exact ⟨_, _, _, rfl, fin.out _, Below.refl _ _⟩
  · have heq := fun wx => Lib.run_eql_slice_nil (P := Try.prog) wx 68 72 (some ⟨g, 0, none⟩) l.length cap 0 0 Try.underlying68
    have Hown := Lib.hid (h.alloc (.cells #[] 72))
    have HD := Lib.hid (World.ownsRow_lit (base := w.heap.size) (e := 72) (size := 2) w #[] 0 (Nat.le_refl _) (by unfold maxLen; omega) (by simp))
    have HN := Lib.hid ((h.alloc (.cells #[] 72)).cells (g := g) rfl)
    have hlen : (flat encI l).length = l.length * 2 := flat_length encI 2 encI_len l
    have Hlen := Lib.hid hlen
    clear h hlen
    go_enter Try.func38, Try.ntmps38
    go_wp2_with (at_builtin; refine wpList_append_own _ rfl (.tmp 5) (.tmp 6) 68 rfl w.heap.size 72 i0 _ 2 16 Try.underlying68 hi0 hz0 hz1 hz2 rfl (by omega) _ 0 [] rfl HD.out ⟨g, 0, none⟩ l.length cap (flat encI l) rfl Hlen.out HN.out (flatI_one l) (by unfold maxLen; omega) (by omega) (by simp) ?_; intro v' w1 hown1 hgrow hnil)
    obtain ⟨a', m', c', rfl⟩ : ∃ a m c, v' = .slice a m c := by
      rcases own_form hown1 with ⟨h, _⟩ | ⟨g', cap', h, _⟩
      · exact ⟨_, _, _, h⟩
      · exact ⟨_, _, _, h⟩
    go_ret
    refine ⟨a', m', c', rfl, ?_, ?_⟩
    · simpa using hown1
    · have b0 : Below w.heap.size w (w.alloc (.cells #[] 72)) := (Below.refl _ _).alloc (Nat.le_refl _) _
      exact b0.trans ⟨hgrow.os, hgrow.tape, hgrow.output, hgrow.size, fun k hk => hgrow.block k (by simp; omega) (fun e => by have := (show k = w.heap.size from Option.some.inj e); omega)⟩

/-- The numbers, as they come. -/
def valsI (l : List Ent) : List Int := l.map (·.2.1)
theorem Try.info3 : (Try.prog.info? 3).map (fun i => (i.zero, i.size, i.bytes)) = some (some (.int .i64 0), 1, 8) := by kernel_rfl


theorem HeapI.grown {w w1 : World} {B p g n : Nat} {l : List Ent} {r : Option Nat} (h : HeapI w B p g l n) (hg : w.grownBy w1 r) (hp : some p ≠ r)
    (hv : ∀ v0, w.heap[p]? = some (.cells #[.func (.func g) #[] #[], v0, .int .i64 n] 70 (0, 0)) → v0.ownBlock = none ∨ v0.ownBlock ≠ r) : HeapI w1 B p g l n := by
  obtain ⟨⟨v, h1, h2, h3⟩, h4, h5, h6⟩ := h
  exact ⟨⟨v, (hg.block p (cells3 h1).2.2.2.2 hp).trans h1, h2.kept hg (hv v h1), h3⟩, h4, h5, h6⟩

/-- All that come out, as numbers. -/
def allI (g : Nat) (l : List Ent) : List Int := valsI (drainG (ltI g) l.length l)
theorem allI_nil (g : Nat) : allI g [] = [] := rfl
theorem allI_cons (g : Nat) (x : Ent) (r : List Ent) : allI g (x :: r) = x.2.1 :: allI g (popG (ltI g) (x :: r)) := by
  unfold allI
  rw [popG_length]
  rfl

theorem ints_one (l : List Int) : ∀ u ∈ l.map (Value.int .i64), u.oneCell' = true := by
  intro u hu
  obtain ⟨x, _, rfl⟩ := List.mem_map.1 hu
  rfl

theorem allI_length (g : Nat) : ∀ (k : Nat) (l : List Ent), l.length = k → (allI g l).length = k
  | 0, l, h => by rw [List.length_eq_zero_iff.1 h]; rfl
  | k + 1, [], h => by simp at h
  | k + 1, x :: r, h => by
    rw [allI_cons, List.length_cons, allI_length g k _ (by rw [popG_length]; simpa using h)]

/-- What is still to come: what was taken out, and all behind it. -/
def restI (g : Nat) (b : Bool) (y : Int) (R : List Ent) : List Int := if b then y :: allI g R else []
def cntI (b : Bool) (R : List Ent) : Nat := if b then R.length + 1 else 0
theorem popI_any {B p g n : Nat} (l : List Ent) (w : World) (h : HeapI w B p g l n) (hB : B ≤ w.heap.size) :
    Calls Try.prog 16 #[.pointer (some ⟨p, 0, none⟩)] w fun e w' => ∃ y b R, e = .returned (.tuple #[.int .i64 y, .bool b]) ∧ HeapI w' B p g R n ∧ Below B w w' ∧ Keeps p g n w w' ∧ allI g l = restI g b y R ∧ cntI b R = l.length := by
  cases l with
  | nil =>
    refine (popI_none w h).mono ?_
    rintro e w' ⟨rfl, rfl⟩
    exact ⟨0, false, [], rfl, h, Below.refl _ _, fun v0 h0 => ⟨fun _ _ _ _ => rfl, v0, h0, rfl⟩, rfl, rfl⟩
  | cons x r =>
    refine (popI_some w h hB).mono ?_
    rintro e w' ⟨rfl, h1, h2, h3⟩
    exact ⟨x.2.1, true, popG (ltI g) (x :: r), rfl, h1, h2, h3, allI_cons g x r, by simp [cntI, popG_length]⟩

set_option maxHeartbeats 4000000 in
theorem allI_any {B p g n : Nat} {l : List Ent} (w : World) (h : HeapI w B p g l n) (hl : l.length ≤ 1000000) :
    Calls Try.prog 15 #[.pointer (some ⟨p, 0, none⟩)] w fun e w' => ∃ v, e = .returned v ∧ w'.ownsRow w.heap.size 3 1 v (allI g l).length ((allI g l).map (Value.int .i64)) ∧ Below w.heap.size w w' := by
  obtain ⟨i3, hi3, hy0, hy1, hy2⟩ := info_parts Try.info3
  obtain ⟨⟨v, h1, h2, h3⟩, h4, h5, h6⟩ := h
  obtain ⟨c0, c1, c2, fz, hpl⟩ := cells3 h1
  have Hown := Lib.hid h2
  have H1 := Lib.hid h1
  obtain ⟨B0, HB0⟩ : ∃ B0, Hid (B0 = w.heap.size) := ⟨_, rfl⟩
  rw [← HB0.out]
  clear h1 h2 h3
  go_enter Try.func15, Try.ntmps15
  go_wp2_with fail
  refine Seq.start (fun w9 => w9.cell? ⟨p, 0, none⟩ = some (.func (.func g) #[] #[])) (Seq.but [8, 10]) (Seq.these [8]) (by kernel_rfl) ?_
  refine Seq.calm (i := 0) (d := some 9) (v := ?_) rfl rfl (by kernel_rfl) (by rfl) (fun w9 => ?_) ?_
  rotate_left
  · go_simp; try with_reducible rfl
  (try simp only [Act.put, List.setIfInBounds_toArray, List.set_cons_zero, List.set_cons_succ])
  refine Seq.calm (i := 1) (d := some 10) (v := ?_) rfl rfl (by kernel_rfl) (by rfl) (fun w9 => ?_) ?_
  rotate_left
  · go_simp; try with_reducible rfl
  (try simp only [Act.put, List.setIfInBounds_toArray, List.set_cons_zero, List.set_cons_succ])
  refine Seq.calm (i := 2) (d := some 11) (v := ?_) rfl rfl (by kernel_rfl) (by rfl) (fun w9 => ?_) ?_
  rotate_left
  · go_simp; try with_reducible rfl
  (try simp only [Act.put, List.setIfInBounds_toArray, List.set_cons_zero, List.set_cons_succ])
  refine Seq.yes (i := 3) (d := some 12) (v := ?_) rfl rfl (by kernel_rfl) (by kernel_rfl) (by rfl) (fun w9 hS9 => ?_) ?_ ?_
  rotate_left
  · (try dsimp only at hS9); go_simp; try with_reducible rfl
  · (try dsimp only); simp [*]
  (try simp only [Act.put, List.setIfInBounds_toArray, List.set_cons_zero, List.set_cons_succ])
  refine Seq.calm (i := 4) (d := some 13) (v := ?_) rfl rfl (by kernel_rfl) (by rfl) (fun w9 => ?_) ?_
  rotate_left
  · go_simp; try with_reducible rfl
  (try simp only [Act.put, List.setIfInBounds_toArray, List.set_cons_zero, List.set_cons_succ])
  refine Seq.calm (i := 5) (d := some 14) (v := ?_) rfl rfl (by kernel_rfl) (by rfl) (fun w9 => ?_) ?_
  rotate_left
  · go_simp; try with_reducible rfl
  (try simp only [Act.put, List.setIfInBounds_toArray, List.set_cons_zero, List.set_cons_succ])
  refine Seq.calm (i := 6) (d := some 15) (v := ?_) rfl rfl (by kernel_rfl) (by rfl) (fun w9 => ?_) ?_
  rotate_left
  · go_simp; try with_reducible rfl
  (try simp only [Act.put, List.setIfInBounds_toArray, List.set_cons_zero, List.set_cons_succ])
  refine Seq.held (i := 7) (d := some 16) (v := ?_) rfl rfl (by kernel_rfl) (by kernel_rfl) (by rfl) ?_ ?_
  rotate_left
  · go_simp; try with_reducible rfl
  (try simp only [Act.put, List.setIfInBounds_toArray, List.set_cons_zero, List.set_cons_succ])
  refine Seq.keep (i := 8) rfl (by kernel_rfl) (by kernel_rfl) (by rfl) (fun K9 hK9 => ?_)
  go_simp
  (with_reducible refine (cloneI_any (B := B) (l := l) _ (by exact own_drew Hown.out) (by omega)).mono ?_)
  rintro e w2 ⟨ca, cm, cc, rfl, oc, bc⟩
  have c0 : w2.cell? ⟨p, 0, none⟩ = some (.func (.func g) #[] #[]) := (bc.cell (by simpa using hpl)).trans c0
  refine hK9.out _ _ ?_ (fun hS => ?_)
  · (try dsimp only); simp [*]
  clear hK9 K9
  (try simp only [Act.put, List.setIfInBounds_toArray, List.set_cons_zero, List.set_cons_succ])
  refine Seq.calm (i := 9) (d := some 18) (v := ?_) rfl rfl (by kernel_rfl) (by rfl) (fun w9 => ?_) ?_
  rotate_left
  · go_simp; try with_reducible rfl
  (try simp only [Act.put, List.setIfInBounds_toArray, List.set_cons_zero, List.set_cons_succ])
  refine Seq.drop (i := 10) rfl (by kernel_rfl) (by kernel_rfl) (by rfl) (fun K9 hK9 => ?_)
  go_simp
  refine hK9.out _ _ ?_
  clear hK9 K9
  (try simp only [Act.put, List.setIfInBounds_toArray, List.set_cons_zero, List.set_cons_succ])
  refine Seq.calm (i := 11) (d := some 3) (v := ?_) rfl rfl (by kernel_rfl) (by rfl) (fun w9 => ?_) ?_
  rotate_left
  · go_simp; try with_reducible rfl
  (try simp only [Act.put, List.setIfInBounds_toArray, List.set_cons_zero, List.set_cons_succ])
  refine Seq.done (by kernel_rfl) ?_
  have oc' : w2.ownsRow B0 72 2 (.slice ca cm cc) l.length (flat encI l) := by rw [HB0.out]; exact oc
  have bc' : Below B0 w w2 := (Below.refl B0 w).drew.trans (bc.mono (by rw [HB0.out]; exact Nat.le_refl _))
  have z2 : B0 ≤ w2.heap.size := by have := bc.size; rw [HB0.out]; exact this
  have hcv : (Value.slice ca cm cc).ownBlock ≠ some w2.heap.size := fun e => by have := (oc'.lt _ e).2; omega
  have hp2 : (w2.alloc (.cells #[.func (.func g) #[] #[], .slice ca cm cc, .int .i64 0] 70)).heap[w2.heap.size]? = some (.cells #[.func (.func g) #[] #[], .slice ca cm cc, .int .i64 ((0 : Nat) : Int)] 70 (0, 0)) := heap_alloc_new w2 _
  have hi : HeapI (w2.alloc (.cells #[.func (.func g) #[] #[], .slice ca cm cc, .int .i64 0] 70)) B0 w2.heap.size g l 0 := ⟨⟨_, hp2, oc'.alloc _, hcv⟩, z2, by omega, h6⟩
  have bi : Below B0 w (w2.alloc (.cells #[.func (.func g) #[] #[], .slice ca cm cc, .int .i64 0] 70)) := bc'.alloc z2 _
  have Hi := Lib.hid hi
  have Bi := Lib.hid bi
  have Hp2 := Lib.hid hp2
  have zi : B0 ≤ (w2.alloc (.cells #[.func (.func g) #[] #[], .slice ca cm cc, .int .i64 0] 70)).heap.size := by simp; omega
  clear oc oc' bc bc' hi bi hp2 hcv c1 c2 fz hpl h4 h5
  go_wp2_with fail
  generalize w2.heap.size = q at *
  generalize w2.alloc (.cells #[.func (.func g) #[] #[], .slice ca cm cc, .int .i64 0] 70) = w3 at *
  refine (popI_any l _ Hi.out zi).mono ?_
  rintro e w4 ⟨y0, b0, R0, rfl, hi4, bi4, kp4, ha4, hc4⟩
  obtain ⟨_, v4, hv4, hb4⟩ := kp4 _ Hp2.out
  have hall := allI_length g l.length l rfl
  have Hlen := Lib.hid hall
  have Hi4 := Lib.hid hi4
  have Bi4 := Lib.hid (Bi.out.trans bi4)
  have Ha4 := Lib.hid ha4
  have Hc4 := Lib.hid hc4
  have Hv4 := Lib.hid hv4
  have z4 : B0 ≤ w4.heap.size := by have := bi4.size; omega
  clear hi4 bi4 ha4 hc4 hv4 hb4 kp4 hall Hi Bi Hp2 Hown H1
  go_wp2_with fail
  go_loopg [4, 5, 6] (l.length + 1) (fun gg ov xv okv wr => ∃ (os : List Int) (R : List Ent) (y : Int) (b : Bool) (v1 : Value), xv = .int .i64 y ∧ okv = .bool b ∧ Hid (allI g l = os ++ restI g b y R) ∧ cntI b R < gg ∧
      Hid (HeapI wr B0 q g R 0) ∧ Hid (wr.ownsRow B0 3 1 ov os.length (os.map (Value.int .i64))) ∧ Hid (Below B0 w wr) ∧ Hid (wr.heap[q]? = some (.cells #[.func (.func g) #[] #[], v1, .int .i64 ((0 : Nat) : Int)] 70 (0, 0))) ∧
      Hid (ov.ownBlock = none ∨ ov.ownBlock ≠ v1.ownBlock) ∧ Hid (ov.ownBlock ≠ some q) ∧ B0 ≤ wr.heap.size)
  case atStart => exact ⟨[], R0, y0, b0, v4, rfl, rfl, Ha4.out, by rw [Hc4.out]; omega, Hi4, World.ownsRow_nil _ _ _ _, Bi4, Hv4, .inl rfl, (by show _ ≠ _; simp [Value.ownBlock]), z4⟩
  case round =>
    obtain ⟨os, R, y, b, v1, rfl, rfl, hA, hgg, hH, hO, hB, hv, hd, hq, hz⟩ := hrel
    cases b with
    | false =>
      go_wp2_with fail
      go_ret
      refine ⟨_, rfl, ?_, hB.out⟩
      have e : allI g l = os := by rw [hA.out]; simp [restI]
      rw [e]
      exact hO.out
    | true =>
      have hol : os.length < 1000000 := by
        have h1 := congrArg List.length hA.out
        rw [Hlen.out] at h1
        simp [restI] at h1
        omega
      go_wp2_with (at_builtin; refine wpList_append_lies _ rfl (.tmp 31) (.tmp 33) 31 rfl B0 3 i3 _ 1 8 Try.underlying31 hi3 hy0 hy1 hy2 rfl (by omega) u4 os.length (os.map (Value.int .i64)) rfl (hO.out.alloc _) ⟨wr.heap.size, 0, none⟩ 1 1 [.int .i64 y] rfl rfl (World.news_of_block (heap_alloc_at _ _ _ rfl)) (by simp [Value.oneCell']) (by omega) (by unfold maxLen; omega) (by omega) (by simp; omega) (wr.heap.size + 1) (by simp) ?_; intro og oc wa hown1 hgrow hat hlt)
      have hwo : ∀ k, u4.ownBlock = some k → B0 ≤ k ∧ k < wr.heap.size := fun k hk => hO.out.lt k hk
      have hog : B0 ≤ og := by
        rcases hat with h | h
        · exact (hwo og h).1
        · omega
      have hv' := hv.out
      have hql : q < wr.heap.size := (cells3 hv').2.2.2.2
      have b1 : Below B0 wr wa := by
        refine ((Below.refl B0 wr).alloc hz (.cells #[.int .i64 y] 3)).trans ⟨hgrow.os, hgrow.tape, hgrow.output, hgrow.size, fun k hk => hgrow.block k (by simp; omega) (fun e => ?_)⟩
        have := (hwo k e.symm).1
        omega
      have hgq : wa.heap[q]? = wr.heap[q]? := (hgrow.block q (by simp; omega) (fun e => hq.out e.symm)).trans (Below.heap_alloc _ _ _ hql)
      have hH2 : HeapI wa B0 q g R 0 := (hH.out.below ((Below.refl wr.heap.size wr).alloc (Nat.le_refl _) (.cells #[.int .i64 y] 3))).grown hgrow (fun e => hq.out e.symm) (fun v0 h0 => by
        rw [Below.heap_alloc _ _ _ hql, hv'] at h0
        simp only [Option.some.injEq, Obj.cells.injEq, Array.mk.injEq, List.cons.injEq, and_true, true_and] at h0
        obtain ⟨rfl⟩ := h0
        rcases hd.out with h | h
        · rw [h]
          cases hb : v1.ownBlock with
          | none => exact .inl rfl
          | some k => exact .inr (by simp)
        · exact .inr (Ne.symm h))
      have hz2 : wr.heap.size + 1 ≤ wa.heap.size := by have := hgrow.size; simpa using this
      have za : B0 ≤ wa.heap.size := by omega
      have hog1 : og ≠ q := by
        rcases hat with h | h
        · exact fun e => hq.out (by rw [h, e])
        · omega
      have hv1b : v1.ownBlock ≠ some og := by
        rcases hat with h | h
        · rcases hd.out with h2 | h2
          · rw [h] at h2; cases h2
          · rw [← h]; exact Ne.symm h2
        · intro e
          have hqw := hH.out.own
          obtain ⟨v0, g1, g2, g3⟩ := hqw
          have e0 := hv'.symm.trans g1
          simp only [Option.some.injEq, Obj.cells.injEq, Array.mk.injEq, List.cons.injEq, and_true, true_and] at e0
          obtain ⟨rfl⟩ := e0
          have := (g2.lt og e).2
          omega
      have HH2 := Lib.hid hH2
      have HB2 := Lib.hid (hB.out.trans b1)
      have HV2 := Lib.hid (hgq.trans hv')
      have HO2 := Lib.hid hown1
      have Hog := Lib.hid hog
      clear hH2 b1 hgq hown1 hgrow hat hwo hv' hH hO hB hv hd hq
      go_wp2_with fail
      refine (popI_any R _ HH2.out za).mono ?_
      rintro e w5 ⟨y5, b5, R5, rfl, hi5, bi5, kp5, ha5, hc5⟩
      obtain ⟨kp, v5, hv5, hb5⟩ := kp5 _ HV2.out
      have hO5 : w5.ownsRow B0 3 1 (.slice (some ⟨og, 0, none⟩) (os.length + 1) oc) (os.length + 1) (os.map (Value.int .i64) ++ [.int .i64 y]) := by
        obtain ⟨o1, o2⟩ := HO2.out
        refine ⟨o1, ?_⟩
        rcases o2 with ⟨o2, _⟩ | ⟨gg', cap', cur, e1, e2, e3, r⟩
        · cases o2
        · refine .inr ⟨gg', cap', cur, e1, e2, ?_, r⟩
          simp only [Value.slice.injEq, Option.some.injEq, Addr.mk.injEq, and_true, true_and] at e1
          obtain ⟨rfl, _⟩ := e1
          rw [kp og hlt hog1 hv1b]
          exact e3
      have H5 := Lib.hid hi5
      have B5 := Lib.hid (HB2.out.trans bi5)
      have O5 := Lib.hid hO5
      have V5 := Lib.hid hv5
      have D5 : Hid (((Value.slice (some ⟨og, 0, none⟩) (os.length + 1) oc).ownBlock = none) ∨ (Value.slice (some ⟨og, 0, none⟩) (os.length + 1) oc).ownBlock ≠ v5.ownBlock) := .inr (by rw [hb5]; exact Ne.symm hv1b)
      have Q5 : Hid ((Value.slice (some ⟨og, 0, none⟩) (os.length + 1) oc).ownBlock ≠ some q) := fun e => hog1 (Option.some.inj e)
      have A5 : Hid (allI g l = (os ++ [y]) ++ restI g b5 y5 R5) := by
        unfold Hid
        rw [hA.out, ← ha5]
        simp [restI]
      have z5 : B0 ≤ w5.heap.size := by have := bi5.size; omega
      have HC5 := Lib.hid hc5
      have e5 : Hid ((os.map (Value.int .i64) ++ [.int .i64 y]) = (os ++ [y]).map (Value.int .i64)) := by simp [Hid]
      have l5 : Hid (os.length + 1 = (os ++ [y]).length) := by simp [Hid]
      clear hi5 bi5 kp5 ha5 hc5 hv5 hb5 kp hO5 hA hog1 hv1b HH2 HB2 HV2 HO2
      go_wp2_with fail
      go_roundg (cntI b5 R5 + 1)
      case measure => rw [HC5.out]; exact hgg
      case rel => exact ⟨os ++ [y], R5, y5, b5, v5, rfl, rfl, A5, Nat.lt_succ_self _, H5, (by show World.ownsRow _ _ _ _ _ _ _; rw [← e5.out, ← l5.out]; exact O5.out), B5, V5, D5, Q5, z5⟩

end Go.Proofs.Yteclijealbdhnaa
