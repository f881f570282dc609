/- slices.Backward over bytes as a range, and a polynomial's value by it. -/
import Derived.Test.YtieiaoknbnkjpaaFU
import Derived.RangeFuncFrom
import Derived.RangeFuncNested
import Derived.RangeFuncBound
import Derived.RangeFuncCalls
import Derived.RangeFuncLeaves
import Derived.Shelf.Abstract
import Derived.Shelf.RegionOpen
import Derived.WalkKit
import Derived.OwnWalkIn
import Derived.TacticsInMore
import Derived.LoopNIn
import Derived.LoopIn
import Derived.Outline
namespace Go.Proofs.Ytieiaoknbnkjpaa.Rf
open Go.RowKit Go.Shelf Go.Proofs.YtieiaoknbnkjpaaW.PrintWords
attribute [local go_sem] Oper.semAt_some

/-- What has come when k rounds are over: from the end, with the places. -/
def bkl (l : List UInt8) (k : Nat) : List (Int × UInt8) := (List.range k).map fun j => (((l.length - 1 - j : Nat) : Int), l.getD (l.length - 1 - j) 0)
theorem bkl_succ (l : List UInt8) (k : Nat) : bkl l (k + 1) = bkl l k ++ [(((l.length - 1 - k : Nat) : Int), l.getD (l.length - 1 - k) 0)] := by simp [bkl, List.range_succ]
theorem bkl_length (l : List UInt8) (k : Nat) : (bkl l k).length = k := by simp [bkl]
def KpB (Bs n₀ : Nat) (W W' : World) : Prop := Below n₀ W W' ∧ ∀ cs t fr, W.heap[Bs]? = some (.cells cs t fr) → W'.heap[Bs]? = some (.cells cs t fr)
theorem kpB_t {Bs n₀ : Nat} {A B C : World} (h : KpB Bs n₀ A B) (k : KpB Bs n₀ B C) : KpB Bs n₀ A C := ⟨h.1.trans k.1, fun cs t fr hc => k.2 cs t fr (h.2 cs t fr hc)⟩
theorem kpB_b {Bs n₀ : Nat} {w : World} (hn : n₀ ≤ w.heap.size) (W : World) (l : Nat) (o o' : Obj) (hl : w.heap.size ≤ l) (h : W.heap[l]? = some o) (hc : o.isCells = false) (hw : o.isWalk = false) : KpB Bs n₀ W (W.putObj l o') :=
  ⟨belowK_b hn W l o o' hl h hc hw, fun cs t fr hb => by
    have hne : Bs ≠ l := by
      rintro rfl
      rw [h] at hb
      obtain rfl := Option.some.inj hb
      cases hc
    exact ((grownBy_putObj' W l o').block Bs (blk_lt hb) (fun e => hne (Option.some.inj e))).trans hb⟩

set_option maxRecDepth 100000 in
set_option maxHeartbeats 2000000 in
theorem back1_in (n : Nat) (hn : 1 ≤ n) (lp Bs n₀ : Nat) (A : Option Addr) (c : Nat) (l : List UInt8) (w0 : World) (hn0 : n₀ = w0.heap.size) (hC : Kd.C (Kd.int .u8) w0 A l.length (bs l)) (J Jx : List (Int × UInt8) → World → Prop)
    (hY : ∀ pre x W, J pre W → pre.length < l.length → YieldAt Fence.wide (n - 1) Try.prog lp #[.int .i64 x.1, .int .u8 (uI x.2)] W fun e W' =>
      (e = .returned (.bool true) ∧ J (pre ++ [x]) W' ∧ KpB Bs n₀ W W') ∨ (e = .returned (.bool false) ∧ Jx (pre ++ [x]) W'))
    (W : World) (hw : Below n₀ w0 W) (hBs : W.heap[Bs]? = some (.cells #[.slice A l.length c] 22 (0, 0))) (h0 : J [] W) :
    CallsIn Fence.wide n Try.prog 40 #[.func (.yield lp) #[] #[], .pointer (some ⟨Bs, 0, none⟩)] W fun e W' => (∃ v, e = .returned v) ∧
      ((∃ ys, ys = bkl l l.length ∧ J ys W') ∨ (∃ pre, (∃ k, k ≤ l.length ∧ pre = bkl l k) ∧ Jx pre W')) := by
  have hm : l.length ≤ 9223372036854775807 := hC.2.1
  have hb0 : W.cell? ⟨Bs, 0, none⟩ = some (.slice A l.length c) := blk_cell hBs 0
  have HC := Aside0.mk hC
  have HW := Aside0.mk hw
  have H0 := Aside0.mk h0
  have HBS := Aside0.mk hBs
  have HN := Aside0.mk hn0
  have HY := Aside0.mk hY
  clear hC hw h0 hn0 hBs hY
  refine callsIn_of_wp Try.func40 rfl trivial ?_ rfl
  simp only [Try.ntmps40, List.size_toArray, List.length_cons, List.length_nil, Nat.reduceAdd, Nat.reduceSub, Array.replicate_succ, Array.replicate_zero, List.push_toArray, List.append_toArray, List.nil_append, List.cons_append]
  gi_wp2
  clear hb0
  gi_loopw [3] (fun i wr => ∃ (k : Nat) (z : Int), Aside0 (z = (l.length : Int) - 1 - k) ∧ k ≤ l.length ∧ i = .int .i64 z ∧ Aside0 (J (bkl l k) wr) ∧ Aside0 (Below n₀ w0 wr) ∧ Aside0 (wr.heap[Bs]? = some (.cells #[.slice A l.length c] 22 (0, 0))))
    (fun i _ => (intOf i + 1).toNat)
  case atStart => exact ⟨0, _, ⟨by simp⟩, Nat.zero_le _, rfl, H0, HW, HBS⟩
  case round =>
    obtain ⟨k, z, hz, hk, rfl, hJ, hB, hS⟩ := hrel
    by_cases hlt : k < l.length
    · obtain ⟨m, rfl⟩ : ∃ m : Nat, z = (m : Int) := ⟨z.toNat, by have := hz.out; omega⟩
      have hml : (m : Int) < (l.length : Int) := by have := hz.out; omega
      have hmz : (0 : Int) ≤ (m : Int) := by omega
      have hme : m = l.length - 1 - k := by have := hz.out; omega
      obtain ⟨ad, rfl, hc0⟩ := Kd.at_int HC.out (m : Int) hmz hml
      have hc1 : wr.cell? (ad.add m) = some (.int .u8 (uI (l.getD m 0))) := by
        rw [rd_bs] at hc0
        simp only [Int.toNat_natCast] at hc0
        have hlt' := World.block_lt_of_cell? w0 _ hc0
        exact (hB.out.cell (by rw [HN.out]; exact hlt')).trans hc0
      have hb1 : wr.cell? ⟨Bs, 0, none⟩ = some (.slice (some ad) l.length c) := blk_cell hS.out 0
      obtain ⟨u, hu⟩ : ∃ u, Aside0 (l.getD m 0 = u) := ⟨_, ⟨rfl⟩⟩
      rw [hu.out] at hc1
      obtain ⟨fn, tmps, assign, body, hy, hR⟩ := HY.out _ ((m : Int), u) wr hJ.out (by rw [bkl_length]; exact hlt)
      dsimp only at hy
      have HME := Aside0.mk hme
      clear hc0 hme hmz
      gi_wp2
      refine hR.mono ?_
      rintro e W3 (⟨rfl, hJ3, hk3⟩ | ⟨rfl, hJx3⟩)
      · gi_wp2
        go_roundw
        case rel => exact ⟨k + 1, _, ⟨by have := hz.out; omega⟩, by omega, rfl, ⟨by rw [bkl_succ, ← HME.out, hu.out]; exact hJ3⟩, ⟨hB.out.trans hk3.1⟩, ⟨hk3.2 _ _ _ hS.out⟩⟩
        case measure => simp [intOf]
      · gi_wp2
        refine bodyPost_ret (results_none rfl _ _ _) rfl ?_
        exact ⟨⟨_, rfl⟩, .inr ⟨_, ⟨k + 1, by omega, by rw [bkl_succ, ← HME.out, hu.out]⟩, hJx3⟩⟩
    · have hzn : z < 0 := by have := hz.out; omega
      obtain rfl : k = l.length := by omega
      gi_wp2
      go_end0
      exact ⟨⟨_, rfl⟩, .inl ⟨_, rfl, hJ.out⟩⟩

theorem back_in (A : Option Addr) (len c : Nat) (w : World) :
    Calls Try.prog 34 #[.slice A len c] w fun e w' => e = .returned (.func (.func 40) #[] #[.pointer (some ⟨w.heap.size, 0, none⟩)]) ∧ w' = w.alloc (.cells #[.slice A len c] 22) := by
  go_enter Try.func34, Try.ntmps34
  go_wp2
  go_ret
  exact ⟨rfl, rfl⟩

theorem back_stops (n : Nat) (hn : 1 ≤ n) (Bs n₀ : Nat) (A : Option Addr) (c : Nat) (l : List UInt8) (w0 w : World) (hn0 : n₀ = w0.heap.size) (hC : Kd.C (Kd.int .u8) w0 A l.length (bs l)) (hw : Below n₀ w0 w) (hBs : w.heap[Bs]? = some (.cells #[.slice A l.length c] 22 (0, 0))) :
    SeqStopsK Fence.wide n Try.prog 40 #[.pointer (some ⟨Bs, 0, none⟩)] (fun x : Int × UInt8 => #[Value.int .i64 x.1, Value.int .u8 (uI x.2)]) (KpB Bs n₀) (fun ys => ys = bkl l l.length)
      (fun pre => ∃ k, k ≤ l.length ∧ pre = bkl l k) l.length w := fun lp J Jx W hW _ _ hY h0 =>
  back1_in n hn lp Bs n₀ A c l w0 hn0 hC J Jx hY W (hw.trans (hW.mono (by rw [hn0]; exact hn0 ▸ hw.size))) ((hW.block Bs (blk_lt hBs)).trans hBs) h0

theorem cell_new_l (W : World) (v : Value) (t : TypeId) : (W.alloc (.cells #[v] t)).cell? ⟨W.heap.size, 0, none⟩ = some v ∧ (W.alloc (.cells #[v] t)).frozen? ⟨W.heap.size, 0, none⟩ = false :=
  ⟨(blk_cell (heap_alloc_new W _) 0).trans rfl, blk_frozen (heap_alloc_new W _) 0⟩
theorem cell_alloc_l {W : World} {a : Addr} {v : Value} (o : Obj) (h : W.cell? a = some v) : (W.alloc o).cell? a = some v := Go.cell_kept h (World.grownBy_alloc W o none) (fun r e => by cases e)
theorem frozen_alloc_l {W : World} {a : Addr} {v : Value} (o : Obj) (h : W.cell? a = some v) (hf : W.frozen? a = false) : (W.alloc o).frozen? a = false := (Go.frozen_kept h (World.grownBy_alloc W o none) (fun r e => by cases e)).trans hf
/-- What has been reckoned behind these rounds. -/
def hor (x : UInt8) (pre : List (Int × UInt8)) : UInt8 := pre.foldl (fun a y => Gf.mul a x ^^^ y.2) 0
theorem hor_snoc (x : UInt8) (pre : List (Int × UInt8)) (y : Int × UInt8) : hor x (pre ++ [y]) = Gf.mul (hor x pre) x ^^^ y.2 := by simp [hor]
theorem bkl_map (l : List UInt8) : (bkl l l.length).map (·.2) = l.reverse := by
  apply List.ext_getElem
  · simp [bkl]
  · intro i h1 h2
    simp [bkl] at h1 h2 ⊢
    rw [List.getElem?_eq_getElem (by omega)]
    rfl
theorem hor_bkl (x : UInt8) (l : List UInt8) : hor x (bkl l l.length) = Gf.ev l x := by
  have h1 : ∀ pre : List (Int × UInt8), hor x pre = (pre.map (·.2)).foldl (fun a y => Gf.mul a x ^^^ y) 0 := fun pre => by simp [hor, List.foldl_map]
  rw [h1, bkl_map, List.foldl_reverse]
  clear h1
  induction l with
  | nil => rfl
  | cons c l ih => rw [List.foldr_cons, ih]; rfl

set_option maxRecDepth 100000 in
set_option maxHeartbeats 4000000 in
theorem eval_u (p : Nat) (A : Option Addr) (c : Nat) (l : List UInt8) (x : UInt8) (w : World) (hF : Fld w p) (hC : Kd.C (Kd.int .u8) w A l.length (bs l)) :
    Calls Try.prog 29 #[.pointer (some ⟨p, 0, none⟩), .slice A l.length c, .int .u8 (uI x)] w fun e w' => e = .returned (.int .u8 (uI (Gf.ev l x))) ∧ Below w.heap.size w w' := by
  obtain ⟨xv, hxv⟩ : ∃ xv, Aside0 (uI x = xv) := ⟨_, ⟨rfl⟩⟩
  rw [hxv.out]
  have HF := Aside0.mk hF
  have HC := Aside0.mk hC
  clear hF hC
  refine (callsIn_wide (n := 3)).1 ?_
  refine callsIn_of_wp_marks Try.func29 rfl trivial ?_ rfl
  simp only [Try.ntmps29, List.size_toArray, List.length_cons, List.length_nil, Nat.reduceAdd, Nat.reduceSub, Array.replicate_succ, Array.replicate_zero, List.push_toArray, List.append_toArray, List.nil_append, List.cons_append]
  gi_wp2_with (refine ⟨trivial, ?_⟩; gi_at_call 34; refine (callsIn_wide.2 (back_in _ _ _ _)).mono ?_; rintro e w' ⟨rfl, rfl⟩)
  have b0 := cell_new_l w (.pointer (some ⟨p, 0, none⟩)) 28
  have b1 := cell_new_l (w.alloc (.cells #[.pointer (some ⟨p, 0, none⟩)] 28)) (.int .u8 xv) 5
  have b2 := cell_new_l ((w.alloc (.cells #[.pointer (some ⟨p, 0, none⟩)] 28)).alloc (.cells #[.int .u8 xv] 5)) (.int .u8 0) 5
  have b3 := heap_alloc_new (((w.alloc (.cells #[.pointer (some ⟨p, 0, none⟩)] 28)).alloc (.cells #[.int .u8 xv] 5)).alloc (.cells #[.int .u8 0] 5)) (.cells #[.slice A l.length c] 22)
  have e1 : (w.alloc (.cells #[.pointer (some ⟨p, 0, none⟩)] 28)).heap.size = w.heap.size + 1 := World.size_alloc _ _
  have e2 : ((w.alloc (.cells #[.pointer (some ⟨p, 0, none⟩)] 28)).alloc (.cells #[.int .u8 xv] 5)).heap.size = w.heap.size + 2 := by rw [World.size_alloc, e1]
  have e3 : (((w.alloc (.cells #[.pointer (some ⟨p, 0, none⟩)] 28)).alloc (.cells #[.int .u8 xv] 5)).alloc (.cells #[.int .u8 0] 5)).heap.size = w.heap.size + 3 := by rw [World.size_alloc, e2]
  rw [e1] at b1
  rw [e2] at b2
  rw [e3] at b3
  have hB0 : Below w.heap.size w ((((w.alloc (.cells #[.pointer (some ⟨p, 0, none⟩)] 28)).alloc (.cells #[.int .u8 xv] 5)).alloc (.cells #[.int .u8 0] 5)).alloc (.cells #[.slice A l.length c] 22)) :=
    ((((Below.refl _ w).alloc (Nat.le_refl _) _).alloc (by simp) _).alloc (by simp; omega) _).alloc (by simp; omega) _
  have e4 : ((((w.alloc (.cells #[.pointer (some ⟨p, 0, none⟩)] 28)).alloc (.cells #[.int .u8 xv] 5)).alloc (.cells #[.int .u8 0] 5)).alloc (.cells #[.slice A l.length c] 22)).heap.size = w.heap.size + 4 := by rw [World.size_alloc, e3]
  have c0 := cell_alloc_l (.cells #[.slice A l.length c] 22) (cell_alloc_l (.cells #[.int .u8 0] 5) (cell_alloc_l (.cells #[.int .u8 xv] 5) b0.1))
  have c1 := cell_alloc_l (.cells #[.slice A l.length c] 22) (cell_alloc_l (.cells #[.int .u8 0] 5) b1.1)
  have c2 := cell_alloc_l (.cells #[.slice A l.length c] 22) b2.1
  have f2 := frozen_alloc_l (.cells #[.slice A l.length c] 22) b2.1 b2.2
  clear b0 b1 b2 e1 e2 e3
  refine wpIn_rangeFunc_ownF rfl (by omega) (gf := 40) (lb := #[.pointer (some ⟨w.heap.size + 3, 0, none⟩)]) rfl trivial (enters_of Try.func40 (by kernel_rfl) rfl)
    (back_stops _ (by omega) (w.heap.size + 3) w.heap.size A c l w _ rfl HC.out hB0 b3) kpB_t (kpB_b (by omega)) (Below.refl _ _) (fun _ => rfl)
    (fun pre W => (W.cell? ⟨w.heap.size, 0, none⟩ = some (.pointer (some ⟨p, 0, none⟩)) ∧ W.cell? ⟨w.heap.size + 1, 0, none⟩ = some (.int .u8 xv) ∧ W.cell? ⟨w.heap.size + 2, 0, none⟩ = some (.int .u8 (uI (hor x pre))) ∧ W.frozen? ⟨w.heap.size + 2, 0, none⟩ = false) ∧ Below w.heap.size w W)
    (fun _ _ _ => False)
    (OwnFrom.and (Own.from (fun s A B row hs hg hr => ⟨Go.cell_kept hs.1 hg hr, Go.cell_kept hs.2.1 hg hr, Go.cell_kept hs.2.2.1 hg hr, (Go.frozen_kept hs.2.2.1 hg hr).trans hs.2.2.2⟩) _) (ownFrom_below (Nat.le_refl _) (by omega)))
    (fun _ _ _ _ _ hs _ _ => hs)
    ⟨⟨c0, c1, c2, f2⟩, hB0⟩
    (fun y => { tmps := #[.pointer (some ⟨p, 0, none⟩), .slice A l.length c, .int .u8 xv, .pointer (some ⟨w.heap.size, 0, none⟩), undef, .pointer (some ⟨w.heap.size + 1, 0, none⟩), .int .u8 0, .pointer (some ⟨w.heap.size + 2, 0, none⟩), undef, .int .u8 (uI y.2), .slice A l.length c, .func (.func 40) #[] #[.pointer (some ⟨w.heap.size + 3, 0, none⟩)], .int .i64 y.1, .int .u8 (uI y.2), undef, undef, undef, undef, undef, undef, undef], defers := [] }) ?assign ?body ?done ?stop
  case assign =>
    intro lp y W K hK
    gi_wp2
    exact hK
  case body =>
    clear c0 c1 c2 f2 b3
    rintro lp pre y W ⟨⟨h0, h1, h2, hf⟩, hB⟩ _
    have hM := Aside0.mk (fun W0 (hb : Below w.heap.size w W0) => gf_Mul.calls p (uI (hor x pre)) xv _ W0 (HF.out.below hb) (by rw [← hxv.out]; exact gf_Mul_u p (hor x pre) x))
    have hA := Aside0.mk (fun W0 => gf_Add.calls (uI (Gf.mul (hor x pre) x)) (uI y.2) _ W0 (gf_Add_u _ _))
    have HH := Aside0.mk (hor_snoc x pre y)
    have HBx := Aside0.mk hB
    clear hB
    obtain ⟨u, hu⟩ : ∃ u, Aside0 (u = uI (hor x pre)) := ⟨_, ⟨rfl⟩⟩
    obtain ⟨v, hv⟩ : ∃ v, Aside0 (v = uI (Gf.mul (hor x pre) x)) := ⟨_, ⟨rfl⟩⟩
    obtain ⟨z, hz⟩ : ∃ z, Aside0 (z = uI (Gf.mul (hor x pre) x ^^^ y.2)) := ⟨_, ⟨rfl⟩⟩
    obtain ⟨yv, hyv⟩ : ∃ yv, Aside0 (yv = uI y.2) := ⟨_, ⟨rfl⟩⟩
    rw [← hu.out, ← hv.out] at hM
    rw [← hv.out, ← hz.out, ← hyv.out] at hA
    rw [← hu.out] at h2
    rw [← hyv.out]
    gi_wp2_with (first | (refine ⟨trivial, ?_⟩; gi_at_call 22; refine (CallsIn.inRound lp (callsIn_wide.2 (hM.out _ HBx.out))).mono ?_; rintro e w' ⟨rfl, ⟨nd, rfl⟩⟩) | (refine ⟨trivial, ?_⟩; gi_at_call 21; refine (CallsIn.inRound lp (callsIn_wide.2 (hA.out _))).mono ?_; rintro e w' ⟨rfl, ⟨nd2, rfl⟩⟩))
    have d1 : KeepsOthers W ((W.drewN nd).drewN nd2) := ⟨Nat.le_refl _, fun _ _ h _ => h⟩
    have d2 : Below w.heap.size W ((W.drewN nd).drewN nd2) := pw_below_drewN (pw_below_drewN (Below.refl _ _) _) _
    have h0' : ((W.drewN nd).drewN nd2).cell? ⟨w.heap.size, 0, none⟩ = some (.pointer (some ⟨p, 0, none⟩)) := h0
    have h1' : ((W.drewN nd).drewN nd2).cell? ⟨w.heap.size + 1, 0, none⟩ = some (.int .u8 xv) := h1
    have h2' : ((W.drewN nd).drewN nd2).cell? ⟨w.heap.size + 2, 0, none⟩ = some (.int .u8 u) := h2
    have hf' : ((W.drewN nd).drewN nd2).frozen? ⟨w.heap.size + 2, 0, none⟩ = false := hf
    have hs' : ((W.drewN nd).drewN nd2).heap = W.heap := rfl
    rw [World.drewN_drewN] at *
    generalize W.drewN (nd + nd2) = W2 at *
    have hx := (Below.refl (w.heap.size + 2) W2).setCell (p := ⟨w.heap.size + 2, 0, none⟩) (Nat.le_refl _) (.int .u8 z)
    refine ⟨d1.trans (KeepsOthers.setCell _ _ _), ⟨d2.setCell (by simp) _, fun cs t fr hc => ?_⟩, ⟨?_, ?_, ?_, ?_⟩, ?_⟩
    · rw [Below.heap_setCell _ _ _ _ (by simp), hs']; exact hc
    · exact (hx.cell (p := ⟨w.heap.size, 0, none⟩) (by simp)).trans h0'
    · exact (hx.cell (p := ⟨w.heap.size + 1, 0, none⟩) (by simp)).trans h1'
    · rw [HH.out, ← hz.out]; exact World.cell?_setCell_same' _ _ _ (by rw [h2']; rfl)
    · rw [World.frozen?_setCell]; exact hf'
    · exact HBx.out.trans (d2.setCell (by simp) _)
  case done =>
    rintro D ys W hD rfl ⟨⟨_, _, h2, _⟩, hB⟩ hK
    gi_wp2
    refine ⟨by simp, .inl ⟨_, _, rfl, run_takeDeferred hK, ?_⟩⟩
    exact ⟨_, results_tmp rfl _ _ _, by rw [hor_bkl]; rfl, hB.trans (belowK_b (w := w) (Nat.le_refl _) W D _ _ (by omega) hK rfl rfl)⟩
  case stop =>
    rintro D c pre W _ _ h _
    exact h.elim

def poly_Eval.f (_p : Nat) (l : List Int) (x : Int) : Option Int := if Bytes l ∧ (0 ≤ x ∧ x < 256) then some (uI (Gf.ev (toU l) (UInt8.ofNat x.toNat))) else none
theorem poly_Eval.calls (a0 : Nat) (A1 : Option Addr) (c1 : Nat) (l1 : List Int) (a2 : Int) (r : Int) (w : World) (hF0 : Fld w a0) (hr1 : Kd.C (Kd.int .u8) w A1 l1.length l1) (hc1 : l1.length ≤ c1) (h : poly_Eval.f a0 l1 a2 = some r) :
    Calls Try.prog 29 #[.pointer (some ⟨a0, 0, none⟩), .slice A1 l1.length c1, .int .u8 a2] w fun e w' => e = .returned (.int .u8 r) ∧ Below w.heap.size w w' := by
  unfold poly_Eval.f at h
  split at h
  · rename_i hc
    obtain rfl := Option.some.inj h
    have h1 := eval_u a0 A1 c1 (toU l1) (UInt8.ofNat a2.toNat) w hF0 (by rw [bs_toU hc.1, toU_length]; exact hr1)
    rw [uI_of hc.2, toU_length] at h1
    exact h1
  · cases h
theorem poly_Eval_u (p : Nat) (l : List UInt8) (x : UInt8) : poly_Eval.f p (bs l) (uI x) = some (uI (Gf.ev l x)) := by
  unfold poly_Eval.f
  rw [if_pos ⟨bytes_bs l, uI_bd x⟩, toU_bs]
  have : UInt8.ofNat (uI x).toNat = x := by
    apply UInt8.toNat_inj.1
    rw [UInt8.toNat_ofNat']
    have := x.toNat_lt
    unfold uI
    omega
  rw [this]
end Go.Proofs.Ytieiaoknbnkjpaa.Rf
