/- slices.DeleteFunc of entries. -/
import Derived.Test.YteclijealbdhnaaTAsk
import Derived.Lib.SliceRun
namespace Go.Proofs.Yteclijealbdhnaa
open Go.RowKit

theorem run_clear_row {P : Program} (w : World) (t e ty : TypeId) (z : Value) (L : List Value) (ht : P.underlying t = some (.slice e)) (hv : ∀ w, (zeroValue e).run P w = .ok z w) (b o n c : Nat) (hL : (Builtin.zeroCells z.cells n).toList = L) (h1 : ∀ v ∈ L, v.oneCell' = true) (hn : 0 < n)
    (hc : ∀ j, j < L.length → (w.cell? ⟨b, o + j, none⟩).isSome = true) (hf : ∀ j, j < L.length → w.frozen? ⟨b, o + j, none⟩ = false) :
    (Builtin.clear_ #[t] ty #[.slice (some ⟨b, o, none⟩) n c]).run P w = .ok (.tuple #[]) (w.setCells b o L) := by
  have hst := run_storeCells_cells (P := P) b o L 0 w (by simpa using hc) (by simpa using hf) h1
  simp only [Nat.add_zero] at hst
  obtain ⟨m, rfl⟩ : ∃ m, n = m + 1 := ⟨n - 1, by omega⟩
  simp [Builtin.clear_, run_underlying ht, hv, hL, hst]

theorem own_setCells {base : Nat} {e : TypeId} {size g cap n : Nat} : ∀ (L : List Value) (o : Nat) (w : World) (xs : List Value), w.ownsRow base e size (.slice (some ⟨g, 0, none⟩) n cap) n xs →
    ∃ xs', (w.setCells g o L).ownsRow base e size (.slice (some ⟨g, 0, none⟩) n cap) n xs' ∧ w.grownBy (w.setCells g o L) (some g) ∧ xs'.take o = xs.take o
  | [], o, w, xs, h => ⟨xs, h, grown_refl w _, rfl⟩
  | v :: r, o, w, xs, h => by
    obtain ⟨h1, h2⟩ := h.stored o v
    obtain ⟨xs', h3, h4, h5⟩ := own_setCells r (o + 1) _ _ h1
    refine ⟨xs', h3, grown_trans h2 h4, ?_⟩
    have h6 := congrArg (List.take o) h5
    rw [List.take_take, List.take_take, Nat.min_eq_left (by omega)] at h6
    rw [h6, List.take_set_of_le (Nat.le_refl _)]

theorem own_cut {w : World} {base : Nat} {e : TypeId} {size g cap n m : Nat} {xs : List Value} (h : w.ownsRow base e size (.slice (some ⟨g, 0, none⟩) n cap) n xs) (hm : m ≤ n) :
    w.ownsRow base e size (.slice (some ⟨g, 0, none⟩) m cap) m (xs.take (m * size)) := by
  obtain ⟨hl, h2⟩ := h
  rcases h2 with ⟨h0, _⟩ | ⟨g', cap', cur, hv, hg, hh, hn, hcap, hsz, htake⟩
  · cases h0
  · cases hv
    have hmn : m * size ≤ n * size := Nat.mul_le_mul_right _ hm
    refine ⟨by rw [List.length_take, hl, Nat.min_eq_left hmn], .inr ⟨g, cap, cur, rfl, hg, hh, by omega, hcap, hsz, ?_⟩⟩
    have h3 : (cur.toList.take (n * size)).take (m * size) = xs.take (m * size) := by rw [htake]
    rw [List.take_take, Nat.min_eq_left hmn] at h3
    exact h3

theorem zeros78 (n : Nat) : ∀ v ∈ (Builtin.zeroCells (Value.agg #[.int .i64 0, .int .i64 0, .int .i64 0]).cells n).toList, v = .int .i64 0 := by
  intro v hv
  simp only [Builtin.zeroCells, Array.toList_map, List.mem_map] at hv
  obtain ⟨i, _, rfl⟩ := hv
  have hs : (Value.agg #[Value.int .i64 0, .int .i64 0, .int .i64 0]).cells = #[.int .i64 0, .int .i64 0, .int .i64 0] := rfl
  rw [hs]
  have : i % 3 = 0 ∨ i % 3 = 1 ∨ i % 3 = 2 := by omega
  rcases this with h | h | h <;> simp [h]
theorem zero78 : ∀ w, (zeroValue 78).run Try.prog w = .ok (.agg #[.int .i64 0, .int .i64 0, .int .i64 0]) w := fun _ => by kernel_rfl

theorem cut_at (w : World) (g n c i : Nat) (hi : i < n) (hc : n ≤ c) :
    (Instr.slice 74 (.slice (some ⟨g, 0, none⟩) n c) (some (.int .i64 i)) none none).run Try.prog w = .ok (.slice (some ⟨g, i * 3, none⟩) (n - i) (c - i)) w := by
  obtain ⟨i0, hi0, _, hz1, _⟩ := info_parts Try.info78
  have hel : Try.prog.elem 74 = 78 := by simp [Program.elem, Try.underlying74]
  have hu : Try.prog.underlying 74 = some (.slice (Try.prog.elem 74)) := by rw [hel]; exact Try.underlying74
  rw [run_slice_l w 74 _ n c hu .i64 i (by omega) (by omega), hel]
  have hne : ¬ c = i := by omega
  simp [sizeOf, typeInfo, hi0, hz1, sliced, Result.andThen, hne, Addr.add]
  exact fun h => h.symm

theorem flat_take (L : List Ent) : ∀ (i : Nat), (flat encT L).take (i * 3) = flat encT (L.take i) := by
  induction L with
  | nil => intro i; simp [flat]
  | cons x L ih =>
    intro i
    cases i with
    | zero => simp [flat]
    | succ i =>
      rw [List.take_succ_cons, flat, flat, List.take_append, encT_len, show (i + 1) * 3 - 3 = i * 3 by omega, ih, List.take_of_length_le (by rw [encT_len]; omega)]

theorem set_take_filter {a : Int} {l L : List Ent} {i j : Nat} {X : Ent} (hij : i < j) (hL : L.length = l.length) (hx : l[j]? = some X) (h1 : L.take i = (l.take j).filter (nq a)) (h2 : L.drop j = l.drop j) (hq : nq a X = true) :
    (L.set i X).take (i + 1) = (l.take (j + 1)).filter (nq a) ∧ (L.set i X).drop (j + 1) = l.drop (j + 1) := by
  obtain ⟨hj, rfl⟩ := List.getElem?_eq_some_iff.1 hx
  constructor
  · rw [List.take_succ_eq_append_getElem (by simp; omega), List.take_set_of_le (Nat.le_refl _), h1, List.take_succ_eq_append_getElem hj, List.filter_append]
    simp [hq]
  · rw [List.drop_set_of_lt (by omega)]
    have := congrArg (List.drop 1) h2
    simpa [List.drop_drop] using this
theorem skip_take_filter {a : Int} {l L : List Ent} {i j : Nat} {X : Ent} (hx : l[j]? = some X) (h1 : L.take i = (l.take j).filter (nq a)) (h2 : L.drop j = l.drop j) (hq : nq a X = false) :
    L.take i = (l.take (j + 1)).filter (nq a) ∧ L.drop (j + 1) = l.drop (j + 1) := by
  obtain ⟨hj, rfl⟩ := List.getElem?_eq_some_iff.1 hx
  constructor
  · rw [h1, List.take_succ_eq_append_getElem hj, List.filter_append]
    simp [hq]
  · have := congrArg (List.drop 1) h2
    simpa [List.drop_drop] using this

set_option maxHeartbeats 4000000 in
theorem delete_any {cb ob : Nat} {a : Int} {B g cap : Nat} {l : List Ent} (w : World) (h : Ask w cb ob a) (hcg : cb ≠ g) (hog : ob ≠ g) (ho : w.ownsRow B 78 3 (.slice (some ⟨g, 0, none⟩) l.length cap) l.length (flat encT l)) (hl : l.length ≤ 1000000000) :
    Calls Try.prog 43 #[.slice (some ⟨g, 0, none⟩) l.length cap, fv cb] w fun e w' => e = .returned (.slice (some ⟨g, 0, none⟩) (l.filter (nq a)).length cap) ∧
      w'.ownsRow B 78 3 (.slice (some ⟨g, 0, none⟩) (l.filter (nq a)).length cap) (l.filter (nq a)).length (flat encT (l.filter (nq a))) ∧ w.grownBy w' (some g) := by
  rcases idxOf_range (a := a) l 0 with h0 | ⟨i0, hi0, h0⟩
  · have fin : Hid (l.filter (nq a) = l) := idxOf_none l 0 h0
    have H := Lib.hid h
    have HO := Lib.hid ho
    clear h ho
    go_enter Try.func43, Try.ntmps43
    go_wp2_with fail
    refine (index_any _ H.out HO.out hl).mono ?_
    rintro e w1 ⟨rfl, b1⟩
    rw [h0]
    have O1 := Lib.hid (own_below HO.out b1)
    have G1 := Lib.hid (grown_below (some g) b1)
    clear b1
    go_wp2_with fail
    go_ret
    rw [fin.out]
    exact ⟨rfl, O1.out, G1.out⟩
  · rw [Nat.zero_add] at h0
    obtain ⟨_, ht0⟩ := idxOf_some (a := a) l 0 i0 (by rw [Nat.zero_add]; exact h0)
    have hne : ((i0 : Int) == -1) = false := beq_eq_false_iff_ne.2 (by omega)
    have H := Lib.hid h
    have HO := Lib.hid ho
    clear h ho
    go_enter Try.func43, Try.ntmps43
    go_wp2_with fail
    refine (index_any _ H.out HO.out hl).mono ?_
    rintro e w1 ⟨rfl, b1⟩
    rw [h0]
    have O1 := Lib.hid (own_below HO.out b1)
    have G1 := Lib.hid (grown_below (some g) b1)
    have HT0 := Lib.hid ht0
    clear b1 ht0
    go_wp2_with fail
    go_loopw [5, 6] (fun iv jv wr => ∃ (i j : Nat) (L : List Ent), iv = .int .i64 i ∧ jv = .int .i64 j ∧ i < j ∧ j ≤ l.length ∧ L.length = l.length ∧ Hid (L.take i = (l.take j).filter (nq a) ∧ L.drop j = l.drop j) ∧
        Hid (wr.ownsRow B 78 3 (.slice (some ⟨g, 0, none⟩) l.length cap) l.length (flat encT L)) ∧ Hid (w.grownBy wr (some g))) (fun _ jv _ => l.length - (intOf jv).toNat)
    case atStart => exact ⟨i0, i0 + 1, l, rfl, by go_num, by omega, by omega, rfl, ⟨HT0.out.symm, rfl⟩, O1, G1⟩
    case round =>
      obtain ⟨i, j, L, rfl, rfl, hij, hj, hL, hTD, hO, hG⟩ := hrel
      by_cases hlt : j < l.length
      · obtain ⟨x0, x1, x2⟩ := ent_cells hO.out j (by omega)
        obtain ⟨X, HX⟩ : ∃ X, Hid (l[j]? = some X) := ⟨l[j], List.getElem?_eq_getElem hlt⟩
        have hX : L.getD j (0, 0, 0) = X := by
          have e1 : (L.drop j)[0]? = (l.drop j)[0]? := by rw [hTD.out.2]
          rw [List.getElem?_drop, List.getElem?_drop, Nat.add_zero, HX.out] at e1
          rw [List.getD_eq_getElem?_getD, e1]; rfl
        rw [hX] at x0 x1 x2
        obtain ⟨X1, X2, X3⟩ := X
        have hA : Ask wr cb ob a := by
          obtain ⟨l1, l2⟩ := H.out.lt
          exact H.out.of (hG.out.block cb l1 (fun e => hcg (Option.some.inj e))) (hG.out.block ob l2 (fun e => hog (Option.some.inj e)))
        have bl := (Below.refl wr.heap.size wr).alloc (Nat.le_refl _) (.cells #[.int .i64 X1, .int .i64 X2, .int .i64 X3] 78)
        have HA := Lib.hid (hA.below bl)
        have HB := Lib.hid bl
        clear hX hA bl
        cases hq : qF a X1 with
        | true =>
          have hnq : nq a (X1, X2, X3) = false := by simp [nq, hq]
          have Hq := Lib.hid hq
          have HN := Lib.hid (skip_take_filter HX.out hTD.out.1 hTD.out.2 hnq)
          clear hq hnq
          go_wp2_with fail
          refine (ask_any X1 X2 X3 _ HA.out).mono ?_
          rintro e w2 ⟨rfl, b2⟩
          have b3 := HB.out.trans (b2.mono (by simp))
          have O2 := Lib.hid (own_below hO.out b3)
          have G2 := Lib.hid (grown_trans hG.out (grown_below (some g) b3))
          rw [Hq.out]
          clear b2 b3
          go_wp2_with fail
          go_roundw
          case rel => exact ⟨i, j + 1, L, rfl, by go_num, by omega, by omega, hL, HN, O2, G2⟩
          case measure => simp [intOf]; omega
        | false =>
          have hnq : nq a (X1, X2, X3) = true := by simp [nq, hq]
          have Hq := Lib.hid hq
          have HN := Lib.hid (set_take_filter hij hL HX.out hTD.out.1 hTD.out.2 hnq)
          clear hq hnq
          go_wp2_with fail
          refine (ask_any X1 X2 X3 _ HA.out).mono ?_
          rintro e w2 ⟨rfl, b2⟩
          have b3 := HB.out.trans (b2.mono (by simp))
          have o2 := own_below hO.out b3
          have fb := o2.frozenAt
          have hz2 : wr.heap.size < w2.heap.size := by have := b2.size; simp at this; omega
          have y0 : w2.cell? ⟨wr.heap.size, 0, none⟩ = some (.int .i64 X1) := (b2.cell (by simp)).trans (by simp)
          have y1 : w2.cell? ⟨wr.heap.size, 1, none⟩ = some (.int .i64 X2) := (b2.cell (by simp)).trans (by simp)
          have y2 : w2.cell? ⟨wr.heap.size, 2, none⟩ = some (.int .i64 X3) := (b2.cell (by simp)).trans (by simp)
          obtain ⟨z0, z1, z2⟩ := ent_cells o2 i (by omega)
          have hs := set3 o2 i (X1, X2, X3) (by omega)
          have O2 := Lib.hid hs.1
          have G2 := Lib.hid (grown_trans (grown_trans hG.out (grown_below (some g) b3)) hs.2)
          rw [Hq.out]
          clear b2 b3 o2 hs
          go_wp2_with fail
          go_roundw
          case rel => exact ⟨i + 1, j + 1, L.set i (X1, X2, X3), by go_num, by go_num, by omega, by omega, by simp [hL], HN, O2, G2⟩
          case measure => simp [intOf]; omega
      · obtain rfl : j = l.length := by omega
        have hil : (i : Int) ≤ (cap : Int) := by
          rcases own_form hO.out with ⟨h, _⟩ | ⟨g', cap', e, h1, h2, h3⟩
          · cases h
          · cases e; omega
        have hin : i < l.length := by omega
        have hcap : l.length ≤ cap := by
          rcases own_form hO.out with ⟨h, _⟩ | ⟨g', cap', e, h1, h2, h3⟩
          · cases h
          · cases e; omega
        have hcut := fun wx => cut_at wx g l.length cap i hin hcap
        obtain ⟨Lz, hLz⟩ : ∃ Lz, Hid ((Builtin.zeroCells (Value.agg #[.int .i64 0, .int .i64 0, .int .i64 0]).cells (l.length - i)).toList = Lz) := ⟨_, rfl⟩
        have hz0 : ∀ v ∈ Lz, v = .int .i64 0 := by rw [← hLz.out]; exact zeros78 _
        have hzl : Lz.length = (l.length - i) * 3 := by rw [← hLz.out]; simp [Builtin.zeroCells, Value.cells]
        have fl : (flat encT L).length = l.length * 3 := by rw [flat_length encT 3 encT_len, hL]
        have hclr := fun ty => run_clear_row (P := Try.prog) wr 74 78 ty _ Lz Try.underlying74 zero78 g (i * 3) (l.length - i) (cap - i) hLz.out (fun v hv => by rw [hz0 v hv]; rfl) (by omega)
          (fun j hj => by rw [hO.out.cellAt (i * 3 + j) (by rw [hzl] at hj; omega), List.getElem?_eq_getElem (by rw [hzl] at hj; rw [fl]; omega)]; rfl) (fun j hj => hO.out.frozenAt _)
        obtain ⟨xs', o1, g1, t1⟩ := own_setCells Lz (i * 3) wr _ hO.out
        have hfil : L.take i = l.filter (nq a) := by have := hTD.out.1; rwa [List.take_length] at this
        have hfl : (l.filter (nq a)).length = i := by rw [← hfil, List.length_take]; omega
        have hti : xs'.take (i * 3) = flat encT (l.filter (nq a)) := by
          rw [t1, ← hfil, flat_take]
        have O1' := own_cut (m := i) o1 (by omega)
        rw [hti] at O1'
        have OF := Lib.hid O1'
        have GF := Lib.hid (grown_trans hG.out g1)
        have HFL := Lib.hid hfl
        clear hO hG o1 g1 t1 O1' hfl hfil hti hz0 hzl fl hTD
        go_wp2_with fail
        go_ret
        rw [HFL.out]
        exact ⟨rfl, OF.out, GF.out⟩
end Go.Proofs.Yteclijealbdhnaa
