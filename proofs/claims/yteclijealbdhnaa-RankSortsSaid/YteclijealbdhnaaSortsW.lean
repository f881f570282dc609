/- RankSorts: the walk. -/
import Derived.Test.YteclijealbdhnaaW
import Derived.Test.YteclijealbdhnaaQ
namespace Go.Proofs.Yteclijealbdhnaa
open Go.RowKit

/-- The one that came before place n. -/
def lastI (l : List Int) : Nat → Int
  | 0 => 0
  | n + 1 => l.getD n 0
theorem lastI_succ (l : List Int) (n : Nat) : lastI l (n + 1) = l.getD n 0 := rfl
theorem last_le {l : List Int} (h : l.Pairwise fun x y => x ≤ y) (n : Nat) (h0 : 0 < n) (hn : n < l.length) : lastI l n ≤ l.getD n 0 := by
  obtain ⟨m, rfl⟩ : ∃ m, n = m + 1 := ⟨n - 1, by omega⟩
  rw [lastI, List.getD_eq_getElem?_getD, List.getD_eq_getElem?_getD, List.getElem?_eq_getElem hn, List.getElem?_eq_getElem (by omega)]
  exact List.pairwise_iff_getElem.1 h m (m + 1) (by omega) hn (by omega)

set_option maxHeartbeats 16000000 in
theorem sorts_walk (a0 : Option Addr) (len cap : Nat) (ks : List Int) (w : World) (hl : ks.length = len) (hm : len ≤ 9223372036854775807)
    (hc : len = 0 ∨ ∃ b off, a0 = some ⟨b, off, none⟩ ∧ ∀ i, i < len → w.cell? ⟨b, off + i, none⟩ = some (.int .i64 (ks.getD i 0))) :
    Calls Try.prog 6 #[.slice a0 len cap] w fun e w' => e = .returned (.bool true) ∧ Below w.heap.size w w' := by
  obtain ⟨B, HB⟩ : ∃ B, Hid (B = w.heap.size) := ⟨_, rfl⟩
  have Hc := Lib.hid hc
  have Hl := Lib.hid hl
  clear hc hl
  rw [← HB.out]
  by_cases hbig : 200 < len
  · have h200 : decide ((200 : Int) < (len : Int)) = true := by simp; omega
    go_enter Try.func6, Try.ntmps6
    go_wp2_with fail
    refine (awake_any _).mono ?_
    rintro e w1 ⟨rfl, d1⟩
    rw [← HB.out] at d1
    have z1 : B ≤ w1.heap.size := by have := d1.size; rw [HB.out]; exact this
    have D1 := Lib.hid d1
    clear d1
    go_wp2_with fail
    refine (awake_any _).mono ?_
    rintro e w2 ⟨rfl, d2⟩
    have D2 := Lib.hid (D1.out.trans (d2.mono z1))
    clear d2
    go_wp2_with fail
    go_ret
    exact ⟨rfl, D2.out⟩
  · have h200 : decide ((200 : Int) < (len : Int)) = false := by simp; omega
    have hl200 : len ≤ 200 := by omega
    go_enter Try.func6, Try.ntmps6
    go_wp2_with fail
    refine (awake_any _).mono ?_
    rintro e w1 ⟨rfl, d1⟩
    rw [← HB.out] at d1
    have z1 : B ≤ w1.heap.size := by have := d1.size; rw [HB.out]; exact this
    have D1 := Lib.hid d1
    clear d1
    go_wp2_with fail
    refine (newI_13 B _ z1).mono ?_
    rintro e w2 ⟨rfl, h2, d2⟩
    have H2 := Lib.hid h2
    have D2 := Lib.hid (D1.out.trans d2)
    have z2 : B ≤ w2.heap.size := by have := d2.size; omega
    clear h2 d2 D1
    generalize w1.heap.size = q at *
    go_wp2_with fail
    go_loopw [4, 6, 23] (fun sv _ iv wr => ∃ k : Nat, iv = .int .i64 k ∧ k ≤ len ∧ sv = .int .i64 (xorN ks k) ∧ Hid (HeapI wr B q 13 (heapN 13 ks k) k) ∧ Hid (Below B w wr) ∧ B ≤ wr.heap.size) (fun _ _ iv _ => len - (intOf iv).toNat)
    case atStart => exact ⟨0, rfl, Nat.zero_le _, rfl, H2, D2, z2⟩
    case round =>
      obtain ⟨k, rfl, hk, rfl, hH, hD, hz⟩ := hrel
      by_cases hlt : k < len
      · rcases Hc.out with h0 | ⟨b, off, rfl, hcell⟩
        · omega
        have hck : wr.cell? ⟨b, off + k, none⟩ = some (.int .i64 (ks.getD k 0)) := by
          have h1 := hcell k hlt
          rw [hD.out.cell (by rw [HB.out]; exact World.block_lt_of_cell? w _ h1)]
          exact h1
        obtain ⟨x, hx⟩ : ∃ x, Hid (ks.getD k 0 = x) := ⟨_, rfl⟩
        rw [hx.out] at hck
        have Hcell := Lib.hid hcell
        clear hcell
        have hkl : (heapN 13 ks k).length = k := heapN_length 13 ks k
        have HKL := Lib.hid hkl
        clear hkl
        go_wp2_with fail
        refine (pushI_any x _ hH.out hz (by omega) (by rw [HKL.out]; omega)).mono ?_
        rintro e w3 ⟨rfl, h3, d3⟩
        have H3 := Lib.hid (show HeapI w3 B q 13 (heapN 13 ks (k + 1)) (k + 1) by rw [heapN, hx.out]; exact h3)
        have D3 := Lib.hid (hD.out.trans d3)
        have z3 : B ≤ w3.heap.size := by have := d3.size; omega
        have hck3 : w3.cell? ⟨b, off + k, none⟩ = some (.int .i64 x) := by
          rw [d3.cell (by rw [HB.out]; exact World.block_lt_of_cell? w _ (Hcell.out k hlt))]
          exact hck
        clear h3 d3 hck
        go_wp2_with fail
        go_roundw
        case rel => exact ⟨k + 1, by go_num, by omega, (by rw [xorN_succ ks k (by rw [Hl.out]; exact hlt), hx.out]; rfl), H3, D3, z3⟩
        case measure => simp [intOf]; omega
      · obtain rfl : k = len := by omega
        have hkl : (heapN 13 ks k).length = k := heapN_length 13 ks k
        have HKL := Lib.hid hkl
        clear hkl
        go_wp2_with fail
        refine (allI_any _ hH.out (by rw [HKL.out]; omega)).mono ?_
        rintro e w4 ⟨av, rfl, oa, da⟩
        obtain ⟨al, hal⟩ : ∃ al, Hid (al = allI 13 (heapN 13 ks k)) := ⟨_, rfl⟩
        rw [← hal.out] at oa
        have HAL : Hid (al.length = k) := by unfold Hid; rw [hal.out, allI_length 13 k _ HKL.out]
        rw [HAL.out] at oa
        have HALE : Hid (al.Pairwise fun x y => x ≤ y) := by unfold Hid; rw [hal.out]; exact all13_le _ (heapN_heap ord13 ks k)
        have HXX : Hid (xorN al k = xorN ks k) := by
          unfold Hid
          rw [hal.out, ← Hl.out]
          exact xor_all ks
        obtain ⟨v0, hv0⟩ : ∃ v0, wr.heap[q]? = some (.cells #[.func (.func 13) #[] #[], v0, .int .i64 (k : Int)] 70 (0, 0)) ∧ ∀ j, v0.ownBlock = some j → j < wr.heap.size := by
          obtain ⟨⟨v0, g1, g2, g3⟩, _⟩ := hH.out
          exact ⟨v0, g1, fun j hj => (g2.lt j hj).2⟩
        have hql : q < wr.heap.size := (cells3 hv0.1).2.2.2.2
        obtain ⟨wall, hwall⟩ : ∃ x, x = wr.heap.size := ⟨_, rfl⟩
        rw [← hwall] at oa
        have HWQ : Hid (q < wall) := by unfold Hid; omega
        have HVB : Hid (∀ j, v0.ownBlock = some j → j < wall) := by unfold Hid; rw [hwall]; exact hv0.2
        have HV4 : Hid (w4.heap[q]? = some (.cells #[.func (.func 13) #[] #[], v0, .int .i64 (k : Int)] 70 (0, 0))) := (da.block q hql).trans hv0.1
        have HH4 := Lib.hid (hH.out.below da)
        have HD4 := Lib.hid (hD.out.trans (da.mono hz))
        have z4 : B ≤ w4.heap.size := by have := da.size; omega
        have HAL0 : Hid (allI 13 (heapN 13 ks k) = al.drop 0) := by unfold Hid; rw [List.drop_zero, hal.out]
        have HR0 : Hid ((heapN 13 ks k).length + 0 = k) := HKL.out
        have HO4 := Lib.hid oa
        have oform := own_form oa
        have HWL := Lib.hid hwall
        clear da hv0 hql hwall hH hD hz oa
        rcases oform with ⟨rfl, h00⟩ | ⟨og, oc, rfl, hogw, hoc, hogl0⟩
        · obtain rfl : k = 0 := h00
          go_wp2_with fail
          go_loopw [5, 8, 9] (fun gv lv nv wi => ∃ (n : Nat) (R : List Ent) (v1 : Value), nv = .int .i64 n ∧ n ≤ 0 ∧ gv = .int .i64 (xorN al n) ∧ lv = .int .i64 (lastI al n) ∧ Hid (HeapI wi B q 13 R 0) ∧ Hid (allI 13 R = al.drop n) ∧ Hid (R.length + n = 0) ∧
              Hid (Below B w wi) ∧ B ≤ wi.heap.size ∧ Hid (wi.heap[q]? = some (.cells #[.func (.func 13) #[] #[], v1, .int .i64 ((0 : Nat) : Int)] 70 (0, 0))) ∧ Hid (∀ j, v1.ownBlock = some j → j < wall) ∧ Hid (wi.ownsRow wall 3 1 (.slice none 0 0) 0 (al.map (Value.int .i64)))) (fun _ _ nv _ => 0 + 1 - (intOf nv).toNat)
          case atStart => exact ⟨0, heapN 13 ks 0, v0, rfl, Nat.zero_le _, rfl, rfl, HH4, HAL0, HR0, HD4, z4, HV4, HVB, HO4⟩
          case round =>
            obtain ⟨n, R, v1, rfl, hn, rfl, rfl, hH, hA, hR, hD, hz, hv, hvb, hO⟩ := hrel
            obtain ⟨wi, rfl⟩ : ∃ wi : World, wi = wr := ⟨_, rfl⟩
            by_cases hnk : n < 0
            · omega
            · obtain rfl : n = 0 := by omega
              have hR0 : R = [] := List.length_eq_zero_iff.1 (by have := hR.out; omega)
              have H0 := Lib.hid (hR0 ▸ hH.out)
              have hxx : (xorN ks 0 == xorN al 0) = true := by simp [HXX.out]
              clear hH hA hR hO hv hvb hR0
              go_wp2_with fail
              refine (popI_none _ H0.out).mono ?_
              rintro e w5 ⟨rfl, rfl⟩
              go_wp2_with fail
              refine (lenI_any _ H0.out).mono ?_
              rintro e w6 ⟨rfl, rfl⟩
              go_wp2_with fail
              go_ret
              exact ⟨rfl, hD.out⟩
        · clear hogl0
          go_wp2_with fail
          go_loopw [5, 8, 9] (fun gv lv nv wi => ∃ (n : Nat) (R : List Ent) (v1 : Value), nv = .int .i64 n ∧ n ≤ k ∧ gv = .int .i64 (xorN al n) ∧ lv = .int .i64 (lastI al n) ∧ Hid (HeapI wi B q 13 R k) ∧ Hid (allI 13 R = al.drop n) ∧ Hid (R.length + n = k) ∧
              Hid (Below B w wi) ∧ B ≤ wi.heap.size ∧ Hid (wi.heap[q]? = some (.cells #[.func (.func 13) #[] #[], v1, .int .i64 (k : Int)] 70 (0, 0))) ∧ Hid (∀ j, v1.ownBlock = some j → j < wall) ∧ Hid (wi.ownsRow wall 3 1 (.slice (some ⟨og, 0, none⟩) k oc) k (al.map (Value.int .i64)))) (fun _ _ nv _ => k + 1 - (intOf nv).toNat)
          case atStart => exact ⟨0, heapN 13 ks k, v0, rfl, Nat.zero_le _, rfl, rfl, HH4, HAL0, HR0, HD4, z4, HV4, HVB, HO4⟩
          case round =>
            obtain ⟨n, R, v1, rfl, hn, rfl, rfl, hH, hA, hR, hD, hz, hv, hvb, hO⟩ := hrel
            obtain ⟨wi, rfl⟩ : ∃ wi : World, wi = wr := ⟨_, rfl⟩
            by_cases hnk : n < k
            · cases R with
              | nil => exfalso; have := hR.out; simp at this; omega
              | cons x r =>
                have e1 := hA.out
                rw [allI_cons] at e1
                have hxn : al.getD n 0 = x.2.1 := by
                  have h2 := congrArg (fun l => l.getD 0 0) e1
                  simp only [List.getD_cons_zero, List.getD_eq_getElem?_getD, List.getElem?_drop, Nat.add_zero] at h2
                  rw [List.getD_eq_getElem?_getD]
                  exact h2.symm
                have e2 : allI 13 (popG (ltI 13) (x :: r)) = al.drop (n + 1) := by
                  have h2 := congrArg List.tail e1
                  rw [List.tail_cons, List.tail_drop] at h2
                  exact h2
                have hlast : n = 0 ∨ lastI al n ≤ x.2.1 := by
                  by_cases h0 : n = 0
                  · exact .inl h0
                  · right; rw [← hxn]; exact last_le HALE.out n (by omega) (by rw [HAL.out]; exact hnk)
                obtain ⟨X1, X2, X3⟩ := x
                have hcn : wi.cell? ⟨og, n, none⟩ = some (.int .i64 X2) := by
                  rw [hO.out.cellAt n (by omega), List.getElem?_map]
                  rw [List.getD_eq_getElem?_getD] at hxn
                  have : al[n]? = some (al[n]'(by rw [HAL.out]; exact hnk)) := List.getElem?_eq_getElem _
                  rw [this] at hxn ⊢
                  simp at hxn
                  simp [hxn]
                have E2 := Lib.hid e2
                have HXN := Lib.hid hxn
                have hRr : Hid ((popG (ltI 13) ((X1, X2, X3) :: r)).length + (n + 1) = k) := by
                  have := hR.out
                  unfold Hid
                  rw [popG_length]; simp at this ⊢; omega
                have HLA := Lib.hid hlast
                clear e1 e2 hxn hlast
                go_wp2_with fail
                refine (popI_some (x := (X1, X2, X3)) (r := r) _ hH.out hz).mono ?_
                rintro e w5 ⟨rfl, h5, d5, kp5⟩
                obtain ⟨kp, v5, hv5, hb5⟩ := kp5 _ hv.out
                have hql : q < wi.heap.size := (cells3 hv.out).2.2.2.2
                have hogl := (hO.out.lt og rfl)
                have hogq : og ≠ q := by have := HWQ.out; omega
                have hov : v1.ownBlock ≠ some og := fun e => by have := hvb.out og e; omega
                have hcn5 : w5.cell? ⟨og, n, none⟩ = some (.int .i64 X2) := (World.cell?_of_block (kp og hogl.2 hogq hov)).trans hcn
                have H5 := Lib.hid h5
                have D5 := Lib.hid (hD.out.trans d5)
                have z5 : B ≤ w5.heap.size := by have := d5.size; omega
                have V5 := Lib.hid hv5
                have VB5 : Hid (∀ j, v5.ownBlock = some j → j < wall) := fun j hj => hvb.out j (by rw [← hb5]; exact hj)
                have O5 : Hid (w5.ownsRow wall 3 1 (.slice (some ⟨og, 0, none⟩) k oc) k (al.map (Value.int .i64))) := by
                  obtain ⟨o1, o2⟩ := hO.out
                  refine ⟨o1, ?_⟩
                  rcases o2 with ⟨o2, _⟩ | ⟨gg', cap', cur, e1, e2, e3, rr⟩
                  · cases o2
                  · refine .inr ⟨gg', cap', cur, e1, e2, ?_, rr⟩
                    simp only [Value.slice.injEq, Option.some.injEq, Addr.mk.injEq, and_true, true_and] at e1
                    obtain ⟨rfl, _⟩ := e1
                    rw [kp og hogl.2 hogq hov]
                    exact e3
                clear h5 d5 kp5 kp hv5 hb5 hcn hH hA hR hD hv hvb hO
                have hnk' : (n : Int) < (k : Int) := by omega
                by_cases h0 : n = 0
                · subst h0
                  go_wp2_with fail
                  go_roundw
                  case rel => exact ⟨1, _, v5, rfl, by omega, (by rw [show (1 : Nat) = 0 + 1 from rfl, xorN_succ al 0 (by rw [HAL.out]; exact hnk), HXN.out, xorI]), (by rw [lastI_succ al 0, HXN.out]), H5, E2, hRr, D5, z5, V5, VB5, O5⟩
                  case measure => simp [intOf] <;> omega
                · have hlt' : decide (X2 < lastI al n) = false := by
                    have := HLA.out.resolve_left h0
                    simpa using this
                  have hn0 : (0 : Int) < (n : Int) := by omega
                  go_wp2_with fail
                  go_roundw
                  case rel => exact ⟨n + 1, _, v5, by go_num, by omega, (by rw [xorN_succ al n (by rw [HAL.out]; exact hnk), HXN.out, xorI]), (by rw [lastI_succ al n, HXN.out]), H5, E2, hRr, D5, z5, V5, VB5, O5⟩
                  case measure => simp [intOf] <;> omega
            · obtain rfl : n = k := by omega
              have hR0 : R = [] := List.length_eq_zero_iff.1 (by have := hR.out; omega)
              have H0 := Lib.hid (hR0 ▸ hH.out)
              have hxx : (xorN ks n == xorN al n) = true := by simp [HXX.out]
              clear hH hA hR hO hv hvb hR0
              go_wp2_with fail
              refine (popI_none _ H0.out).mono ?_
              rintro e w5 ⟨rfl, rfl⟩
              go_wp2_with fail
              refine (lenI_any _ H0.out).mono ?_
              rintro e w6 ⟨rfl, rfl⟩
              go_wp2_with fail
              go_ret
              exact ⟨rfl, hD.out⟩
end Go.Proofs.Yteclijealbdhnaa
