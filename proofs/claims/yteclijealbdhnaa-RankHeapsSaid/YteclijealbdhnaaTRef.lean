/- The document's Put, Drop and Same, of things. -/
import Derived.Test.YteclijealbdhnaaTDrop
import Derived.Laws.AppendOwnNone
import Derived.Maps.AppendAt
namespace Go.Proofs.Yteclijealbdhnaa
open Go.RowKit

/-- A row of things that is there to be read. -/
def RowK (w : World) (a : Option Addr) (len cap : Nat) (l : List Th) : Prop :=
  (a = none ∧ len = 0 ∧ cap = 0 ∧ l = []) ∨
  ∃ g off, a = some ⟨g, off, none⟩ ∧ l.length = len ∧ len ≤ cap ∧ g < w.heap.size ∧ ∀ i, i < len → w.cell? ⟨g, off + i * 2, none⟩ = some (.int .i64 (l.getD i (0, 0)).1) ∧ w.cell? ⟨g, off + i * 2 + 1, none⟩ = some (.int .i64 (l.getD i (0, 0)).2)
theorem RowK.len {w : World} {a : Option Addr} {len cap : Nat} {l : List Th} (h : RowK w a len cap l) : l.length = len := by
  rcases h with ⟨_, rfl, _, rfl⟩ | ⟨_, _, _, h, _⟩
  · rfl
  · exact h
theorem RowK.cap {w : World} {a : Option Addr} {len cap : Nat} {l : List Th} (h : RowK w a len cap l) : len ≤ cap := by
  rcases h with ⟨_, rfl, rfl, _⟩ | ⟨_, _, _, _, h, _⟩
  · exact Nat.le_refl _
  · exact h
/-- It stays where its block stays. -/
theorem RowK.of {w w' : World} {a : Option Addr} {len cap : Nat} {l : List Th} (h : RowK w a len cap l) (hz : w.heap.size ≤ w'.heap.size) (hb : ∀ g off, a = some ⟨g, off, none⟩ → g < w.heap.size → w'.heap[g]? = w.heap[g]?) : RowK w' a len cap l := by
  rcases h with h | ⟨g, off, rfl, h1, h2, h3, h4⟩
  · exact .inl h
  · have e := hb g off rfl h3
    refine .inr ⟨g, off, rfl, h1, h2, by omega, fun i hi => ⟨?_, ?_⟩⟩
    · exact (World.cell?_of_block (a := ⟨g, off + i * 2, none⟩) e).trans (h4 i hi).1
    · exact (World.cell?_of_block (a := ⟨g, off + i * 2 + 1, none⟩) e).trans (h4 i hi).2
theorem RowK.below {w w' : World} {a : Option Addr} {len cap : Nat} {l : List Th} (h : RowK w a len cap l) (hb : Below w.heap.size w w') : RowK w' a len cap l :=
  h.of hb.size fun _ _ _ hg => hb.block _ hg
theorem RowK.at {w : World} {a : Option Addr} {len cap : Nat} {l : List Th} (h : RowK w a len cap l) (i : Nat) (hi : i < len) :
    ∃ g off, a = some ⟨g, off, none⟩ ∧ w.cell? ⟨g, off + i * 2, none⟩ = some (.int .i64 (l.getD i (0, 0)).1) ∧ w.cell? ⟨g, off + i * 2 + 1, none⟩ = some (.int .i64 (l.getD i (0, 0)).2) := by
  rcases h with ⟨_, rfl, _, _⟩ | ⟨g, off, rfl, _, _, _, h4⟩
  · omega
  · exact ⟨g, off, rfl, (h4 i hi).1, (h4 i hi).2⟩
/-- What a call owns can be read. -/
theorem RowK.own {w : World} {B : Nat} {v : Value} {l : List Th} (h : w.ownsRow B 45 2 v l.length (flat encK l)) : ∃ a cap, v = .slice a l.length cap ∧ RowK w a l.length cap l ∧ ∀ g off, a = some ⟨g, off, none⟩ → B ≤ g := by
  rcases own_form h with ⟨rfl, h0⟩ | ⟨g, cap, rfl, hg, hcap, hgl⟩
  · obtain rfl := List.length_eq_zero_iff.1 h0
    exact ⟨none, 0, rfl, .inl ⟨rfl, rfl, rfl, rfl⟩, fun _ _ e => by cases e⟩
  · refine ⟨_, cap, rfl, .inr ⟨g, 0, rfl, rfl, hcap, hgl, fun i hi => ?_⟩, fun g' off e => by cases e; exact hg⟩
    have e := fun j (hj : j < 2) => h.cellAt (i * 2 + j) (by omega)
    have f := fun j (hj : j < 2) => flat_get encK 2 encK_len l i j l[i] (List.getElem?_eq_getElem hi) hj
    have hd : l.getD i (0, 0) = l[i] := by rw [List.getD_eq_getElem?_getD, List.getElem?_eq_getElem hi]; rfl
    rw [hd, Nat.zero_add]
    refine ⟨?_, ?_⟩
    · have := e 0 (by omega); rw [f 0 (by omega)] at this; simpa using this
    · have := e 1 (by omega); rw [f 1 (by omega)] at this; simpa using this
theorem RowK.read {w : World} {g off len cap : Nat} {l : List Th} (h : RowK w (some ⟨g, off, none⟩) len cap l) : ∀ j u, (flat encK l)[j]? = some u → w.cell? ((⟨g, off, none⟩ : Addr).add j) = some u := by
  intro j u hu
  have hj : j < (flat encK l).length := (List.getElem?_eq_some_iff.1 hu).1
  rw [flat_length encK 2 encK_len, h.len] at hj
  have hi : j / 2 < len := by omega
  obtain ⟨g', off', e, c0, c1⟩ := h.at (j / 2) hi
  cases e
  have hil : j / 2 < l.length := by rw [h.len]; exact hi
  have hd : l.getD (j / 2) (0, 0) = l[j / 2] := by rw [List.getD_eq_getElem?_getD, List.getElem?_eq_getElem hil]; rfl
  rw [hd] at c0 c1
  have ha : (⟨g, off, none⟩ : Addr).add j = ⟨g, off + j, none⟩ := by unfold Addr.add; split <;> simp_all
  rw [ha]
  have f := fun k (hk : k < 2) => flat_get encK 2 encK_len l (j / 2) k l[j / 2] (List.getElem?_eq_getElem hil) hk
  rcases (by omega : j = j / 2 * 2 + 0 ∨ j = j / 2 * 2 + 1) with e | e
  · have := f 0 (by omega); rw [← e, hu] at this
    rw [show off + j = off + j / 2 * 2 by omega, c0]; simpa using this.symm
  · have := f 1 (by omega); rw [← e, hu] at this
    rw [show off + j = off + j / 2 * 2 + 1 by omega, c1]; simpa using this.symm
theorem flatK_one (l : List Th) : ∀ u ∈ flat encK l, u.oneCell' = true := by
  induction l with
  | nil => intro u hu; simp [flat] at hu
  | cons x l ih =>
    intro u hu
    rw [flat, List.mem_append] at hu
    rcases hu with h | h
    · simp only [encK, List.mem_cons, List.not_mem_nil, or_false] at h
      rcases h with rfl | rfl <;> rfl
    · exact ih u h

theorem row_append {ops : Array Oper} {rest : List Oper} {o : Oper} {a : Act} {w : World} {Q : Exit → Act → World → Prop} (hgd : o.guard = none) (s x : Operand)
    (ho : o.op = .call { callee := .builtin .append, args := #[s, x], argTypes := #[47, 47] })
    (base : Nat) (v : Value) (xs : List Th) (hs : a.eval s = v) (hown : w.ownsRow base 45 2 v xs.length (flat encK xs))
    (A : Option Addr) (m c : Nat) (news : List Th) (hx : a.eval x = .slice A m c) (hr : RowK w A m c news)
    (h63 : xs.length + m ≤ 1000000) (hbase : base ≤ w.heap.size)
    (h : ∀ (A' : Option Addr) (m' c' : Nat) w', w'.ownsRow base 45 2 (.slice A' m' c') (xs ++ news).length (flat encK (xs ++ news)) → w.grownBy w' v.ownBlock → ((Value.slice A' m' c').ownBlock = v.ownBlock ∨ (Value.slice A' m' c').ownBlock = some w.heap.size) → wpList Try.prog ops Q rest (a.put o.dst (.slice A' m' c')) w') :
    wpList Try.prog ops Q (o :: rest) a w := by
  obtain ⟨i3, hi3, hy0, hy1, hy2⟩ := info_parts Try.info45
  have hlen := hr.len
  have hsl : ∀ (u : Value) (wx : World) (n : Nat) (ys : List Value), wx.ownsRow base 45 2 u n ys → ∃ A' m' c', u = .slice A' m' c' := fun u wx n ys ho => by
    rcases own_form ho with ⟨h, _⟩ | ⟨g', cap', h, _⟩
    · exact ⟨_, _, _, h⟩
    · exact ⟨_, _, _, h⟩
  cases A with
  | none =>
    rcases hr with ⟨_, rfl, rfl, rfl⟩ | ⟨_, _, e, _⟩
    · refine wpList_append_own_none hgd s x 47 ho base 45 i3 2 Try.underlying47 hi3 v xs.length _ hs hown hx ?_
      obtain ⟨A', m', c', rfl⟩ := hsl _ _ _ _ hown
      refine h A' m' c' w ?_ (grown_refl _ _) (.inl rfl)
      rw [List.append_nil]; exact hown
    · cases e
  | some ad =>
    obtain ⟨g, off, rfl⟩ : ∃ g off, ad = ⟨g, off, none⟩ := by
      rcases hr with ⟨e, _⟩ | ⟨g, off, e, _⟩
      · cases e
      · exact ⟨g, off, Option.some.inj e⟩
    refine wpList_append_own_at w hgd s x 47 ho base 45 i3 _ 2 16 Try.underlying47 hi3 hy0 hy1 hy2 rfl (by omega) v xs.length _ hs hown ⟨g, off, none⟩ m c (flat encK news) hx (by rw [flat_length encK 2 encK_len, hlen]) hr.read (flatK_one _) (by unfold maxLen; omega) (by omega) hbase ?_
    intro v' w' h1 h2 _ h4
    obtain ⟨A', m', c', rfl⟩ := hsl _ _ _ _ h1
    exact h A' m' c' w' (by rw [List.length_append, hlen, flat_append]; exact h1) h2 h4

/-- Where a thing goes. -/
def putAt (l : List Th) (k : Int) : Nat → Nat
  | 0 => 0
  | n + 1 => if k < (l.getD n (0, 0)).1 then putAt l k n else n + 1
theorem putAt_le (l : List Th) (k : Int) : ∀ n, putAt l k n ≤ n
  | 0 => Nat.le_refl _
  | n + 1 => by
    rw [putAt]
    split
    · exact Nat.le_succ_of_le (putAt_le l k n)
    · exact Nat.le_refl _
def putL (l : List Th) (x : Th) : List Th := (l.take (putAt l x.1 l.length) ++ [x]) ++ l.drop (putAt l x.1 l.length)

theorem RowK.take {w : World} {a : Option Addr} {len cap : Nat} {l : List Th} (h : RowK w a len cap l) (m : Nat) (hm : m ≤ len) : RowK w a m cap (l.take m) := by
  rcases h with ⟨rfl, rfl, rfl, rfl⟩ | ⟨g, off, rfl, h1, h2, h3, h4⟩
  · obtain rfl : m = 0 := by omega
    exact .inl ⟨rfl, rfl, rfl, rfl⟩
  · refine .inr ⟨g, off, rfl, by rw [List.length_take]; omega, by omega, h3, fun i hi => ?_⟩
    have e : (l.take m).getD i (0, 0) = l.getD i (0, 0) := by rw [List.getD_eq_getElem?_getD, List.getD_eq_getElem?_getD, List.getElem?_take, if_pos hi]
    rw [e]
    exact h4 i (by omega)
theorem RowK.drop {w : World} {a : Option Addr} {len cap : Nat} {l : List Th} (h : RowK w a len cap l) (m : Nat) (hm : m ≤ len) : RowK w (if cap = m then a else a.map (·.add (m * 2))) (len - m) (cap - m) (l.drop m) := by
  rcases h with ⟨rfl, rfl, rfl, rfl⟩ | ⟨g, off, rfl, h1, h2, h3, h4⟩
  · obtain rfl : m = 0 := by omega
    exact .inl ⟨rfl, rfl, rfl, rfl⟩
  · by_cases hc : cap = m
    · rw [if_pos hc]
      exact .inr ⟨g, off, rfl, by rw [List.length_drop]; omega, by omega, h3, fun i hi => by omega⟩
    · rw [if_neg hc]
      refine .inr ⟨g, off + m * 2, ?_, by rw [List.length_drop]; omega, by omega, h3, fun i hi => ?_⟩
      · simp only [Option.map_some, Addr.add]
        split <;> simp_all
      · have e : (l.drop m).getD i (0, 0) = l.getD (m + i) (0, 0) := by rw [List.getD_eq_getElem?_getD, List.getD_eq_getElem?_getD, List.getElem?_drop]
        rw [e, show off + m * 2 + i * 2 = off + (m + i) * 2 by omega]
        exact h4 (m + i) (by omega)
theorem cutK (a : Option Addr) (n c m : Nat) (hm : m ≤ n) (w : World) : (Instr.slice 47 (.slice a n c) (some (.int .i64 m)) none none).run Try.prog w = .ok (.slice (if c = m then a else a.map (·.add (m * 2))) (n - m) (c - m)) w := by
  obtain ⟨i0, hi0, _, hz1, _⟩ := info_parts Try.info45
  have hel : Try.prog.elem 47 = 45 := by simp [Program.elem, Try.underlying47]
  have hu : Try.prog.underlying 47 = some (.slice (Try.prog.elem 47)) := by rw [hel]; exact Try.underlying47
  rw [run_slice_l w 47 _ n c hu .i64 m (by omega) (by omega), hel]
  simp [sizeOf, typeInfo, hi0, hz1, sliced, Result.andThen]

set_option maxHeartbeats 8000000 in
theorem put_any (a : Option Addr) (len cap : Nat) (l : List Th) (k nm : Int) (w : World) (h : RowK w a len cap l) (hl : len ≤ 100000) :
    Calls Try.prog 21 #[.slice a len cap, thing k nm] w fun e w' => ∃ v, e = .returned v ∧ w'.ownsRow w.heap.size 45 2 v (putL l (k, nm)).length (flat encK (putL l (k, nm))) ∧ Below w.heap.size w w' := by
  obtain ⟨B0, HB0⟩ : ∃ B0, Hid (B0 = w.heap.size) := ⟨_, rfl⟩
  rw [← HB0.out]
  have hll := h.len
  have hlc := h.cap
  have bl := (Below.refl w.heap.size w).alloc (Nat.le_refl _) (.cells #[.int .i64 k, .int .i64 nm] 45)
  have HR := Lib.hid (h.below bl)
  have BL := Lib.hid bl
  have HL := Lib.hid hll
  clear h bl hll
  go_enter Try.func21, Try.ntmps21
  go_wp2_with fail
  obtain ⟨w1, hw1⟩ : ∃ w1, Hid (w1 = w.alloc (.cells #[.int .i64 k, .int .i64 nm] 45)) := ⟨_, rfl⟩
  have hx0 : w1.heap[w.heap.size]? = some (.cells #[.int .i64 k, .int .i64 nm] 45 (0, 0)) := by rw [hw1.out]; exact heap_alloc_new w _
  have hz1 : B0 < w1.heap.size := by rw [hw1.out, HB0.out]; simp
  have BL1 : Hid (Below B0 w w1) := by unfold Hid; rw [hw1.out, HB0.out]; exact BL.out
  have HR1 : Hid (RowK w1 a len cap l) := by unfold Hid; rw [hw1.out]; exact HR.out
  rw [← hw1.out] at *
  rw [← HB0.out] at *
  clear BL HR
  go_loopw [5] (fun pv wr => ∃ n : Nat, pv = .int .i64 n ∧ n ≤ len ∧ Hid (putAt l k len = putAt l k n) ∧ Hid (wr.heap = w1.heap) ∧ Hid (Below B0 w wr)) (fun pv _ => (intOf pv).toNat)
  case atStart => exact ⟨len, rfl, Nat.le_refl _, rfl, rfl, BL1⟩
  case round =>
    obtain ⟨n, rfl, hn, hP, hW, hBW⟩ := hrel
    have hx0' : wr.heap[B0]? = some (.cells #[.int .i64 k, .int .i64 nm] 45 (0, 0)) := by rw [hW.out]; exact hx0
    have y0 : wr.cell? ⟨B0, 0, none⟩ = some (.int .i64 k) := by rw [cell_of_row _ _ _ _ _ _ hx0']; rfl
    have y1 : wr.cell? ⟨B0, 1, none⟩ = some (.int .i64 nm) := by rw [cell_of_row _ _ _ _ _ _ hx0']; rfl
    have hRr : RowK wr a len cap l := HR1.out.of (by rw [hW.out]; exact Nat.le_refl _) (fun _ _ _ _ => by rw [hW.out])
    have zr : B0 < wr.heap.size := by rw [hW.out]; exact hz1
    by_cases hgo : 0 < n ∧ k < (l.getD (n - 1) (0, 0)).1
    · obtain ⟨m, rfl⟩ : ∃ m, n = m + 1 := ⟨n - 1, by omega⟩
      obtain ⟨g, off, rfl, c0, c1⟩ := hRr.at m (by omega)
      obtain ⟨x, hx⟩ : ∃ x, Hid ((l.getD m (0, 0)).1 = x) := ⟨_, rfl⟩
      have hlt : k < x := by rw [← hx.out]; exact hgo.2
      have hP2 : Hid (putAt l k len = putAt l k m) := by unfold Hid; rw [hP.out, putAt, if_pos (by rw [hx.out]; exact hlt)]
      rw [hx.out] at c0
      have hmn : (0 : Int) < (m : Int) + 1 := by omega
      have hmm : (m : Int) < (len : Int) := by omega
      have hm1 : (m : Int) + 1 - 1 = (m : Int) := by omega
      have hwm : IntKind.i64.wrap (m : Int) = (m : Int) := by rw [IntKind.wrap_i64]; omega
      clear hgo hRr c1 hx0'
      go_wp2_with fail
      refine Seq.start (fun _ => True) (Seq.but []) (Seq.these []) (by kernel_rfl) ?_
      refine Seq.calm (i := 0) (d := some 9) (v := ?_) rfl rfl (by kernel_rfl) (by rfl) (fun w9 => ?_) ?_
      rotate_left
      · go_simp; try with_reducible rfl
      (try simp only [Act.put, List.setIfInBounds_toArray, List.set_cons_zero, List.set_cons_succ])
      refine Seq.calm (i := 1) (d := some 10) (v := ?_) rfl rfl (by kernel_rfl) (by rfl) (fun w9 => ?_) ?_
      rotate_left
      · go_simp; try with_reducible rfl
      (try simp only [Act.put, List.setIfInBounds_toArray, List.set_cons_zero, List.set_cons_succ])
      refine Seq.calm (i := 2) (d := some 11) (v := ?_) rfl rfl (by kernel_rfl) (by rfl) (fun w9 => ?_) ?_
      rotate_left
      · go_simp; try with_reducible rfl
      (try simp only [Act.put, List.setIfInBounds_toArray, List.set_cons_zero, List.set_cons_succ])
      refine Seq.calm (i := 3) (d := some 12) (v := ?_) rfl rfl (by kernel_rfl) (by rfl) (fun w9 => ?_) ?_
      rotate_left
      · go_simp; try with_reducible rfl
      (try simp only [Act.put, List.setIfInBounds_toArray, List.set_cons_zero, List.set_cons_succ])
      refine Seq.held (i := 4) (d := some 13) (v := ?_) rfl rfl (by kernel_rfl) (by kernel_rfl) (by rfl) ?_ ?_
      rotate_left
      · go_simp; try with_reducible rfl
      (try simp only [Act.put, List.setIfInBounds_toArray, List.set_cons_zero, List.set_cons_succ])
      refine Seq.calm (i := 5) (d := some 14) (v := ?_) rfl rfl (by kernel_rfl) (by rfl) (fun w9 => ?_) ?_
      rotate_left
      · go_simp; try with_reducible rfl
      (try simp only [Act.put, List.setIfInBounds_toArray, List.set_cons_zero, List.set_cons_succ])
      refine Seq.calm (i := 6) (d := some 15) (v := ?_) rfl rfl (by kernel_rfl) (by rfl) (fun w9 => ?_) ?_
      rotate_left
      · go_simp; try with_reducible rfl
      (try simp only [Act.put, List.setIfInBounds_toArray, List.set_cons_zero, List.set_cons_succ])
      refine Seq.calm (i := 7) (d := some 16) (v := ?_) rfl rfl (by kernel_rfl) (by rfl) (fun w9 => ?_) ?_
      rotate_left
      · go_simp; try with_reducible rfl
      (try simp only [Act.put, List.setIfInBounds_toArray, List.set_cons_zero, List.set_cons_succ])
      refine Seq.calm (i := 8) (d := some 17) (v := ?_) rfl rfl (by kernel_rfl) (by rfl) (fun w9 => ?_) ?_
      rotate_left
      · go_simp; try with_reducible rfl
      (try simp only [Act.put, List.setIfInBounds_toArray, List.set_cons_zero, List.set_cons_succ])
      refine Seq.calm (i := 9) (d := some 18) (v := ?_) rfl rfl (by kernel_rfl) (by rfl) (fun w9 => ?_) ?_
      rotate_left
      · go_simp; try with_reducible rfl
      (try simp only [Act.put, List.setIfInBounds_toArray, List.set_cons_zero, List.set_cons_succ])
      refine Seq.held (i := 10) (d := some 19) (v := ?_) rfl rfl (by kernel_rfl) (by kernel_rfl) (by rfl) ?_ ?_
      rotate_left
      · go_simp; try with_reducible rfl
      (try simp only [Act.put, List.setIfInBounds_toArray, List.set_cons_zero, List.set_cons_succ])
      refine Seq.calm (i := 11) (d := some 20) (v := ?_) rfl rfl (by kernel_rfl) (by rfl) (fun w9 => ?_) ?_
      rotate_left
      · go_simp; try with_reducible rfl
      (try simp only [Act.put, List.setIfInBounds_toArray, List.set_cons_zero, List.set_cons_succ])
      refine Seq.calm (i := 12) (d := some 21) (v := ?_) rfl rfl (by kernel_rfl) (by rfl) (fun w9 => ?_) ?_
      rotate_left
      · go_simp; try with_reducible rfl
      (try simp only [Act.put, List.setIfInBounds_toArray, List.set_cons_zero, List.set_cons_succ])
      refine Seq.done (by kernel_rfl) ?_
      go_wp2_with fail
      go_roundw
      case rel => exact ⟨m, by go_num, by omega, hP2, hW, Lib.hid hBW.out.drew⟩
      case measure => simp [intOf]
    · have HX0 := Lib.hid hx0'
      have hRd := hRr
      have hpn : Hid (putAt l k l.length = n) := by
        unfold Hid
        rw [HL.out, hP.out]
        cases n with
        | zero => rfl
        | succ m => rw [putAt, if_neg (fun h => hgo ⟨by omega, by simpa using h⟩)]
      have HTK := Lib.hid (hRd.take n hn)
      have HDR := Lib.hid (hRd.drop n hn)
      have hcut := cutK a len cap n hn
      obtain ⟨A2, hA2⟩ : ∃ A2, Hid ((if cap = n then a else a.map (·.add (n * 2))) = A2) := ⟨_, rfl⟩
      rw [hA2.out] at HDR hcut
      obtain ⟨L1, hL1⟩ : ∃ L1, Hid (l.take n = L1) := ⟨_, rfl⟩
      obtain ⟨L2, hL2⟩ : ∃ L2, Hid (l.drop n = L2) := ⟨_, rfl⟩
      have hl1 : L1.length = n := by rw [← hL1.out, List.length_take, HL.out]; omega
      have hl2 : L2.length = len - n := by rw [← hL2.out, List.length_drop, HL.out]
      rw [hL1.out] at HTK
      rw [hL2.out] at HDR
      have hpl : Hid (putL l (k, nm) = (L1 ++ [(k, nm)]) ++ L2) := by unfold Hid putL; rw [hpn.out, hL1.out, hL2.out]
      have hnl : (n : Int) ≤ (len : Int) := by omega
      have hnc : (n : Int) ≤ (cap : Int) := by omega
      have Hl1 := Lib.hid hl1
      have Hl2 := Lib.hid hl2
      clear hl1 hl2
      by_cases h0 : 0 < n
      · obtain ⟨m, hm⟩ : ∃ m, n = m + 1 := ⟨n - 1, by omega⟩
        obtain ⟨g, off, hag, c0, c1⟩ := hRr.at m (by omega)
        obtain ⟨x, hx⟩ : ∃ x, Hid ((l.getD m (0, 0)).1 = x) := ⟨_, rfl⟩
        have hlt : ¬ k < x := by
          rw [← hx.out]; exact fun h => hgo ⟨by omega, by rw [hm]; simpa using h⟩
        rw [hx.out] at c0
        have hmn : (0 : Int) < (n : Int) := by omega
        have hmm : (m : Int) < (len : Int) := by omega
        have hm1 : (n : Int) - 1 = (m : Int) := by omega
        have hwm : IntKind.i64.wrap (m : Int) = (m : Int) := by rw [IntKind.wrap_i64]; omega
        subst hag
        clear hgo c1 hRd hRr hx0' hm
        go_wp2_with fail
        refine Seq.start (fun _ => True) (Seq.but []) (Seq.these []) (by kernel_rfl) ?_
        refine Seq.calm (i := 0) (d := some 9) (v := ?_) rfl rfl (by kernel_rfl) (by rfl) (fun w9 => ?_) ?_
        rotate_left
        · go_simp; try with_reducible rfl
        (try simp only [Act.put, List.setIfInBounds_toArray, List.set_cons_zero, List.set_cons_succ])
        refine Seq.calm (i := 1) (d := some 10) (v := ?_) rfl rfl (by kernel_rfl) (by rfl) (fun w9 => ?_) ?_
        rotate_left
        · go_simp; try with_reducible rfl
        (try simp only [Act.put, List.setIfInBounds_toArray, List.set_cons_zero, List.set_cons_succ])
        refine Seq.calm (i := 2) (d := some 11) (v := ?_) rfl rfl (by kernel_rfl) (by rfl) (fun w9 => ?_) ?_
        rotate_left
        · go_simp; try with_reducible rfl
        (try simp only [Act.put, List.setIfInBounds_toArray, List.set_cons_zero, List.set_cons_succ])
        refine Seq.calm (i := 3) (d := some 12) (v := ?_) rfl rfl (by kernel_rfl) (by rfl) (fun w9 => ?_) ?_
        rotate_left
        · go_simp; try with_reducible rfl
        (try simp only [Act.put, List.setIfInBounds_toArray, List.set_cons_zero, List.set_cons_succ])
        refine Seq.held (i := 4) (d := some 13) (v := ?_) rfl rfl (by kernel_rfl) (by kernel_rfl) (by rfl) ?_ ?_
        rotate_left
        · go_simp; try with_reducible rfl
        (try simp only [Act.put, List.setIfInBounds_toArray, List.set_cons_zero, List.set_cons_succ])
        refine Seq.calm (i := 5) (d := some 14) (v := ?_) rfl rfl (by kernel_rfl) (by rfl) (fun w9 => ?_) ?_
        rotate_left
        · go_simp; try with_reducible rfl
        (try simp only [Act.put, List.setIfInBounds_toArray, List.set_cons_zero, List.set_cons_succ])
        refine Seq.calm (i := 6) (d := some 15) (v := ?_) rfl rfl (by kernel_rfl) (by rfl) (fun w9 => ?_) ?_
        rotate_left
        · go_simp; try with_reducible rfl
        (try simp only [Act.put, List.setIfInBounds_toArray, List.set_cons_zero, List.set_cons_succ])
        refine Seq.calm (i := 7) (d := some 16) (v := ?_) rfl rfl (by kernel_rfl) (by rfl) (fun w9 => ?_) ?_
        rotate_left
        · go_simp; try with_reducible rfl
        (try simp only [Act.put, List.setIfInBounds_toArray, List.set_cons_zero, List.set_cons_succ])
        refine Seq.calm (i := 8) (d := some 17) (v := ?_) rfl rfl (by kernel_rfl) (by rfl) (fun w9 => ?_) ?_
        rotate_left
        · go_simp; try with_reducible rfl
        (try simp only [Act.put, List.setIfInBounds_toArray, List.set_cons_zero, List.set_cons_succ])
        refine Seq.calm (i := 9) (d := some 18) (v := ?_) rfl rfl (by kernel_rfl) (by rfl) (fun w9 => ?_) ?_
        rotate_left
        · go_simp; try with_reducible rfl
        (try simp only [Act.put, List.setIfInBounds_toArray, List.set_cons_zero, List.set_cons_succ])
        refine Seq.held (i := 10) (d := some 19) (v := ?_) rfl rfl (by kernel_rfl) (by kernel_rfl) (by rfl) ?_ ?_
        rotate_left
        · go_simp; try with_reducible rfl
        (try simp only [Act.put, List.setIfInBounds_toArray, List.set_cons_zero, List.set_cons_succ])
        refine Seq.calm (i := 11) (d := some 20) (v := ?_) rfl rfl (by kernel_rfl) (by rfl) (fun w9 => ?_) ?_
        rotate_left
        · go_simp; try with_reducible rfl
        (try simp only [Act.put, List.setIfInBounds_toArray, List.set_cons_zero, List.set_cons_succ])
        refine Seq.calm (i := 12) (d := some 21) (v := ?_) rfl rfl (by kernel_rfl) (by rfl) (fun w9 => ?_) ?_
        rotate_left
        · go_simp; try with_reducible rfl
        (try simp only [Act.put, List.setIfInBounds_toArray, List.set_cons_zero, List.set_cons_succ])
        refine Seq.done (by kernel_rfl) ?_
        go_wp2_with (first
          | (at_builtin
             refine row_append rfl (.tmp 24) (.tmp 27) rfl B0 (.slice none 0 0) [] rfl (World.ownsRow_nil _ _ _ _) (some ⟨g, off, none⟩) n cap L1 rfl (by exact HTK.out) (by simp; omega) (by exact Nat.le_of_lt zr) ?_
             intro va1 vm1 vc1 w2 o1 g1 at1
             have hx2 : w2.heap[B0]? = some (.cells #[.int .i64 k, .int .i64 nm] 45 (0, 0)) := (g1.block B0 (by exact zr) (by simp [Value.ownBlock])).trans (by exact HX0.out)
             have yy0 : w2.cell? ⟨B0, 0, none⟩ = some (.int .i64 k) := by { rw [cell_of_row _ _ _ _ _ _ hx2]; rfl }
             have yy1 : w2.cell? ⟨B0, 1, none⟩ = some (.int .i64 nm) := by { rw [cell_of_row _ _ _ _ _ _ hx2]; rfl }
             have zr2 : B0 < w2.heap.size := (Array.getElem?_eq_some_iff.1 hx2).1
             rw [List.nil_append] at o1
             have zz2 : wr.heap.size ≤ w2.heap.size := by have := g1.size; simpa using this
             have k1 : ∀ j, j < wr.heap.size → w2.heap[j]? = wr.heap[j]? := fun j hj => g1.block j (by exact hj) (by simp [Value.ownBlock])
             have b1 : Below B0 wr w2 := ⟨g1.os, g1.tape, g1.output, g1.size, fun j hj => k1 j (by omega)⟩
             have HV : Hid (∀ j, (Value.slice va1 vm1 vc1).ownBlock = some j → wr.heap.size ≤ j) := fun j hj => by
               rcases at1 with h | h
               · rw [h] at hj; simp [Value.ownBlock] at hj
               · have := Option.some.inj (h.symm.trans hj)
                 simp at this
                 omega
             have O1 := Lib.hid (o1.alloc (.cells #[.int .i64 k, .int .i64 nm] 45))
             have B3 := Lib.hid ((hBW.out.trans b1).trans ((Below.refl B0 w2).alloc (by omega) (.cells #[.int .i64 k, .int .i64 nm] 45)))
             have hn3 := heap_alloc_new w2 (.cells #[.int .i64 k, .int .i64 nm] 45)
             have R3 : Hid (RowK (w2.alloc (.cells #[.int .i64 k, .int .i64 nm] 45)) (some ⟨w2.heap.size, 0, none⟩) 1 1 [(k, nm)]) := .inr ⟨_, 0, rfl, rfl, Nat.le_refl _, by simp, fun i hi => by
               obtain rfl : i = 0 := by omega
               refine ⟨?_, ?_⟩ <;> rw [cell_of_row _ _ _ _ _ _ hn3] <;> rfl⟩
             have K1 := Lib.hid k1
             clear o1 g1 b1 at1 hn3 hx2 k1)
          | (at_builtin
             refine row_append rfl (.tmp 29) (.tmp 31) rfl B0 (.slice va1 vm1 vc1) L1 rfl (by exact O1.out) (some ⟨w2.heap.size, 0, none⟩) 1 1 [(k, nm)] rfl (by exact R3.out) (by rw [Hl1.out]; omega) (by simp; omega) ?_
             intro va2 vm2 vc2 w4 o2 g2 at2
             have k2 : ∀ j, j < wr.heap.size → w4.heap[j]? = wr.heap[j]? := fun j hj =>
               (g2.block j (by simp; omega) (fun e => by have := HV.out j e.symm; omega)).trans ((Below.heap_alloc _ _ _ (by omega)).trans (K1.out j hj))
             have zz4 : w2.heap.size + 1 ≤ w4.heap.size := by have := g2.size; simpa using this
             have HDR4 : Hid (RowK w4 A2 (len - n) (cap - n) L2) := HDR.out.of (by omega) (fun g' _ _ hg => k2 g' hg)
             have b2 : Below B0 w w4 := B3.out.trans ⟨g2.os, g2.tape, g2.output, g2.size, fun j hj => g2.block j (by simp; omega) (fun e => by have := HV.out j e.symm; omega)⟩
             have B4 := Lib.hid b2
             have HV2 : Hid (∀ j, (Value.slice va2 vm2 vc2).ownBlock = some j → wr.heap.size ≤ j) := fun j hj => by
               rcases at2 with h | h
               · exact HV.out j (h ▸ hj)
               · have := Option.some.inj (h.symm.trans hj)
                 simp at this
                 omega
             have O2 := Lib.hid o2
             have zb4 : B0 ≤ w4.heap.size := by omega
             have e12 : Hid ((L1 ++ [(k, nm)]).length = n + 1) := by unfold Hid; rw [List.length_append, Hl1.out]; rfl
             clear o2 g2 at2 k2 b2 yy0 yy1)
          | (at_builtin
             refine row_append rfl (.tmp 33) (.tmp 36) rfl B0 (.slice va2 vm2 vc2) (L1 ++ [(k, nm)]) rfl (by exact O2.out) A2 (len - n) (cap - n) L2 rfl (by exact HDR4.out) (by rw [e12.out]; omega) (by exact zb4) ?_
             intro va3 vm3 vc3 w5 o3 g3 at3
             have b3 : Below B0 w w5 := B4.out.trans ⟨g3.os, g3.tape, g3.output, g3.size, fun j hj => g3.block j (by omega) (fun e => by have := HV2.out j e.symm; omega)⟩
             have B5 := Lib.hid b3
             have O3 := Lib.hid o3
             clear b3 o3 g3 at3))
        go_ret
        refine ⟨_, rfl, ?_, B5.out⟩
        rw [hpl.out]
        exact O3.out
      · have hmn : decide ((0 : Int) < (n : Int)) = false := by simp; omega
        have hmn2 : decide (0 < n) = false := by simpa using h0
        clear hgo hRd hRr hx0' h0
        go_wp2_with fail
        refine Seq.start (fun _ => True) (Seq.but []) (Seq.these []) (by kernel_rfl) ?_
        refine Seq.calm (i := 0) (d := some 9) (v := ?_) rfl rfl (by kernel_rfl) (by rfl) (fun w9 => ?_) ?_
        rotate_left
        · go_simp; try with_reducible rfl
        (try simp only [Act.put, List.setIfInBounds_toArray, List.set_cons_zero, List.set_cons_succ])
        refine Seq.calm (i := 1) (d := some 10) (v := ?_) rfl rfl (by kernel_rfl) (by rfl) (fun w9 => ?_) ?_
        rotate_left
        · go_simp; try with_reducible rfl
        (try simp only [Act.put, List.setIfInBounds_toArray, List.set_cons_zero, List.set_cons_succ])
        refine Seq.calm (i := 2) (d := some 11) (v := ?_) rfl rfl (by kernel_rfl) (by rfl) (fun w9 => ?_) ?_
        rotate_left
        · go_simp; try with_reducible rfl
        (try simp only [Act.put, List.setIfInBounds_toArray, List.set_cons_zero, List.set_cons_succ])
        refine Seq.no (i := 3) (d := some 12) rfl rfl (by kernel_rfl) (by rfl) ?_
        (try simp only [Act.put, List.setIfInBounds_toArray, List.set_cons_zero, List.set_cons_succ])
        refine Seq.no (i := 4) (d := some 13) rfl rfl (by kernel_rfl) (by rfl) ?_
        (try simp only [Act.put, List.setIfInBounds_toArray, List.set_cons_zero, List.set_cons_succ])
        refine Seq.no (i := 5) (d := some 14) rfl rfl (by kernel_rfl) (by rfl) ?_
        (try simp only [Act.put, List.setIfInBounds_toArray, List.set_cons_zero, List.set_cons_succ])
        refine Seq.no (i := 6) (d := some 15) rfl rfl (by kernel_rfl) (by rfl) ?_
        (try simp only [Act.put, List.setIfInBounds_toArray, List.set_cons_zero, List.set_cons_succ])
        refine Seq.no (i := 7) (d := some 16) rfl rfl (by kernel_rfl) (by rfl) ?_
        (try simp only [Act.put, List.setIfInBounds_toArray, List.set_cons_zero, List.set_cons_succ])
        refine Seq.no (i := 8) (d := some 17) rfl rfl (by kernel_rfl) (by rfl) ?_
        (try simp only [Act.put, List.setIfInBounds_toArray, List.set_cons_zero, List.set_cons_succ])
        refine Seq.no (i := 9) (d := some 18) rfl rfl (by kernel_rfl) (by rfl) ?_
        (try simp only [Act.put, List.setIfInBounds_toArray, List.set_cons_zero, List.set_cons_succ])
        refine Seq.no (i := 10) (d := some 19) rfl rfl (by kernel_rfl) (by rfl) ?_
        (try simp only [Act.put, List.setIfInBounds_toArray, List.set_cons_zero, List.set_cons_succ])
        refine Seq.no (i := 11) (d := some 20) rfl rfl (by kernel_rfl) (by rfl) ?_
        (try simp only [Act.put, List.setIfInBounds_toArray, List.set_cons_zero, List.set_cons_succ])
        refine Seq.calm (i := 12) (d := some 21) (v := ?_) rfl rfl (by kernel_rfl) (by rfl) (fun w9 => ?_) ?_
        rotate_left
        · go_simp; try with_reducible rfl
        (try simp only [Act.put, List.setIfInBounds_toArray, List.set_cons_zero, List.set_cons_succ])
        refine Seq.done (by kernel_rfl) ?_
        go_wp2_with (first
          | (at_builtin
             refine row_append rfl (.tmp 24) (.tmp 27) rfl B0 (.slice none 0 0) [] rfl (World.ownsRow_nil _ _ _ _) a n cap L1 rfl (by exact HTK.out) (by simp; omega) (by exact Nat.le_of_lt zr) ?_
             intro va1 vm1 vc1 w2 o1 g1 at1
             have hx2 : w2.heap[B0]? = some (.cells #[.int .i64 k, .int .i64 nm] 45 (0, 0)) := (g1.block B0 (by exact zr) (by simp [Value.ownBlock])).trans (by exact HX0.out)
             have yy0 : w2.cell? ⟨B0, 0, none⟩ = some (.int .i64 k) := by { rw [cell_of_row _ _ _ _ _ _ hx2]; rfl }
             have yy1 : w2.cell? ⟨B0, 1, none⟩ = some (.int .i64 nm) := by { rw [cell_of_row _ _ _ _ _ _ hx2]; rfl }
             have zr2 : B0 < w2.heap.size := (Array.getElem?_eq_some_iff.1 hx2).1
             rw [List.nil_append] at o1
             have zz2 : wr.heap.size ≤ w2.heap.size := by have := g1.size; simpa using this
             have k1 : ∀ j, j < wr.heap.size → w2.heap[j]? = wr.heap[j]? := fun j hj => g1.block j (by exact hj) (by simp [Value.ownBlock])
             have b1 : Below B0 wr w2 := ⟨g1.os, g1.tape, g1.output, g1.size, fun j hj => k1 j (by omega)⟩
             have HV : Hid (∀ j, (Value.slice va1 vm1 vc1).ownBlock = some j → wr.heap.size ≤ j) := fun j hj => by
               rcases at1 with h | h
               · rw [h] at hj; simp [Value.ownBlock] at hj
               · have := Option.some.inj (h.symm.trans hj)
                 simp at this
                 omega
             have O1 := Lib.hid (o1.alloc (.cells #[.int .i64 k, .int .i64 nm] 45))
             have B3 := Lib.hid ((hBW.out.trans b1).trans ((Below.refl B0 w2).alloc (by omega) (.cells #[.int .i64 k, .int .i64 nm] 45)))
             have hn3 := heap_alloc_new w2 (.cells #[.int .i64 k, .int .i64 nm] 45)
             have R3 : Hid (RowK (w2.alloc (.cells #[.int .i64 k, .int .i64 nm] 45)) (some ⟨w2.heap.size, 0, none⟩) 1 1 [(k, nm)]) := .inr ⟨_, 0, rfl, rfl, Nat.le_refl _, by simp, fun i hi => by
               obtain rfl : i = 0 := by omega
               refine ⟨?_, ?_⟩ <;> rw [cell_of_row _ _ _ _ _ _ hn3] <;> rfl⟩
             have K1 := Lib.hid k1
             clear o1 g1 b1 at1 hn3 hx2 k1)
          | (at_builtin
             refine row_append rfl (.tmp 29) (.tmp 31) rfl B0 (.slice va1 vm1 vc1) L1 rfl (by exact O1.out) (some ⟨w2.heap.size, 0, none⟩) 1 1 [(k, nm)] rfl (by exact R3.out) (by rw [Hl1.out]; omega) (by simp; omega) ?_
             intro va2 vm2 vc2 w4 o2 g2 at2
             have k2 : ∀ j, j < wr.heap.size → w4.heap[j]? = wr.heap[j]? := fun j hj =>
               (g2.block j (by simp; omega) (fun e => by have := HV.out j e.symm; omega)).trans ((Below.heap_alloc _ _ _ (by omega)).trans (K1.out j hj))
             have zz4 : w2.heap.size + 1 ≤ w4.heap.size := by have := g2.size; simpa using this
             have HDR4 : Hid (RowK w4 A2 (len - n) (cap - n) L2) := HDR.out.of (by omega) (fun g off e hg => k2 g hg)
             have b2 : Below B0 w w4 := B3.out.trans ⟨g2.os, g2.tape, g2.output, g2.size, fun j hj => g2.block j (by simp; omega) (fun e => by have := HV.out j e.symm; omega)⟩
             have B4 := Lib.hid b2
             have HV2 : Hid (∀ j, (Value.slice va2 vm2 vc2).ownBlock = some j → wr.heap.size ≤ j) := fun j hj => by
               rcases at2 with h | h
               · exact HV.out j (h ▸ hj)
               · have := Option.some.inj (h.symm.trans hj)
                 simp at this
                 omega
             have O2 := Lib.hid o2
             have zb4 : B0 ≤ w4.heap.size := by omega
             have e12 : Hid ((L1 ++ [(k, nm)]).length = n + 1) := by unfold Hid; rw [List.length_append, Hl1.out]; rfl
             clear o2 g2 at2 k2 b2 yy0 yy1)
          | (at_builtin
             refine row_append rfl (.tmp 33) (.tmp 36) rfl B0 (.slice va2 vm2 vc2) (L1 ++ [(k, nm)]) rfl (by exact O2.out) A2 (len - n) (cap - n) L2 rfl (by exact HDR4.out) (by rw [e12.out]; omega) (by exact zb4) ?_
             intro va3 vm3 vc3 w5 o3 g3 at3
             have b3 : Below B0 w w5 := B4.out.trans ⟨g3.os, g3.tape, g3.output, g3.size, fun j hj => g3.block j (by omega) (fun e => by have := HV2.out j e.symm; omega)⟩
             have B5 := Lib.hid b3
             have O3 := Lib.hid o3
             clear b3 o3 g3 at3))
        go_ret
        refine ⟨_, rfl, ?_, B5.out⟩
        rw [hpl.out]
        exact O3.out
end Go.Proofs.Yteclijealbdhnaa
