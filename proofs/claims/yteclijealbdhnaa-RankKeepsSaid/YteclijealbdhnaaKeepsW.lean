/- RankKeeps: the walk. -/
import Derived.Test.YteclijealbdhnaaNilI
namespace Go.Proofs.Yteclijealbdhnaa
open Go.RowKit

/-- What lies behind a heap that is nil: the last lines. -/
def tailOf (_ : Unit) : Prop := True

set_option maxHeartbeats 16000000 in
theorem keeps_walk (a0 : Option Addr) (len cap : Nat) (ks : List Int) (x0 : Int) (w : World) (hl : ks.length = len) (hm : len ≤ 9223372036854775807)
    (hc : len = 0 ∨ ∃ b off, a0 = some ⟨b, off, none⟩ ∧ ∀ i, i < len → w.cell? ⟨b, off + i, none⟩ = some (.int .i64 (ks.getD i 0))) :
    Calls Try.prog 8 #[.slice a0 len cap, .int .i64 x0] w fun e w' => e = .returned (.bool true) ∧ Below w.heap.size w w' := by
  obtain ⟨B, HB⟩ : ∃ B, Hid (B = w.heap.size) := ⟨_, rfl⟩
  have Hc := Lib.hid hc
  have Hl := Lib.hid hl
  clear hc hl
  rw [← HB.out]
  by_cases hbig : 200 < len
  · have h200 : decide ((200 : Int) < (len : Int)) = true := by simp; omega
    go_enter Try.func8, Try.ntmps8
    go_wp2_with fail
    refine (awake_any _).mono ?_
    rintro e w1 ⟨rfl, d1⟩
    rw [← HB.out] at d1
    have z1 : B ≤ w1.heap.size := by have := d1.size; rw [HB.out]; exact this
    have D1 := Lib.hid d1
    clear d1
    go_wp2_with fail
    refine (awake_any _).mono ?_
    rintro e w2 ⟨rfl, d2⟩
    have D2 := Lib.hid (D1.out.trans (d2.mono z1))
    clear d2
    go_wp2_with fail
    go_ret
    exact ⟨rfl, D2.out⟩
  · have h200 : decide ((200 : Int) < (len : Int)) = false := by simp; omega
    have hl200 : len ≤ 200 := by omega
    go_enter Try.func8, Try.ntmps8
    go_wp2_with fail
    refine (awake_any _).mono ?_
    rintro e w1 ⟨rfl, d1⟩
    rw [← HB.out] at d1
    have z1 : B ≤ w1.heap.size := by have := d1.size; rw [HB.out]; exact this
    have D1 := Lib.hid d1
    clear d1
    go_wp2_with fail
    refine (newI_nil B _ z1).mono ?_
    rintro e w2 ⟨rfl, h2, d2⟩
    have H2 := Lib.hid h2
    have D2 := Lib.hid (D1.out.trans d2)
    have z2 : B ≤ w2.heap.size := by have := d2.size; omega
    clear h2 d2 D1
    generalize w1.heap.size = q at *
    go_wp2_with fail
    go_loopw [6, 28] (fun _ iv wr => ∃ k : Nat, iv = .int .i64 k ∧ k ≤ len ∧ Hid (HeapI wr B q 36 (heapN 36 ks k) k) ∧ Hid (Below B w wr) ∧ B ≤ wr.heap.size) (fun _ iv _ => len - (intOf iv).toNat)
    case atStart => exact ⟨0, rfl, Nat.zero_le _, H2, D2, z2⟩
    case round =>
      obtain ⟨k, rfl, hk, hH, hD, hz⟩ := hrel
      by_cases hlt : k < len
      · rcases Hc.out with h0 | ⟨b, off, rfl, hcell⟩
        · omega
        have hck : wr.cell? ⟨b, off + k, none⟩ = some (.int .i64 (ks.getD k 0)) := by
          have h1 := hcell k hlt
          rw [hD.out.cell (by rw [HB.out]; exact World.block_lt_of_cell? w _ h1)]
          exact h1
        obtain ⟨x, hx⟩ : ∃ x, Hid (ks.getD k 0 = x) := ⟨_, rfl⟩
        rw [hx.out] at hck
        have Hcell := Lib.hid hcell
        clear hcell
        have hkl : (heapN 36 ks k).length = k := heapN_length 36 ks k
        have HKL := Lib.hid hkl
        clear hkl
        go_wp2_with fail
        refine (pushI_any x _ hH.out hz (by omega) (by rw [HKL.out]; omega)).mono ?_
        rintro e w3 ⟨rfl, h3, d3⟩
        have H3 := Lib.hid (show HeapI w3 B q 36 (heapN 36 ks (k + 1)) (k + 1) by rw [heapN, hx.out]; exact h3)
        have D3 := Lib.hid (hD.out.trans d3)
        have z3 : B ≤ w3.heap.size := by have := d3.size; omega
        clear h3 d3 hck
        go_wp2_with fail
        go_roundw
        case rel => exact ⟨k + 1, by go_num, by omega, H3, D3, z3⟩
        case measure => simp [intOf]; omega
      · obtain rfl : k = len := by omega
        have hkl : (heapN 36 ks k).length = k := heapN_length 36 ks k
        have HKL := Lib.hid hkl
        clear hkl
        have hal : allI 36 (heapN 36 ks k) = ks := by rw [← Hl.out]; exact all36 ks
        have Hal := Lib.hid hal
        clear hal
        go_wp2_with fail
        refine (allI_any _ hH.out (by rw [HKL.out]; omega)).mono ?_
        rintro e w4 ⟨av, rfl, oa, da⟩
        rw [Hal.out, Hl.out] at oa
        obtain ⟨W, HW⟩ : ∃ x, Hid (x = wr.heap.size) := ⟨_, rfl⟩
        rw [← HW.out] at oa da
        have HQ : Hid (HeapI wr B q 36 (heapN 36 ks k) k) := hH
        have HBW : Hid (Below B w wr) := hD
        have hBW : B ≤ W := by rw [HW.out]; exact hz
        have z4 : W ≤ w4.heap.size := by have := da.size; rw [HW.out]; exact this
        have HDA := Lib.hid da
        have HOA := Lib.hid oa
        have oform := own_form oa
        clear da oa hH hD hz
        -- what comes behind the writes
        have rest : ∀ wz : World, Hid (Below W wr wz) → W ≤ wz.heap.size → Hid (HeapI wz B q 36 (heapN 36 ks k) k ∧ Below B w wz ∧ B ≤ wz.heap.size) := by
          intro wz h1 h2
          have := h1.out
          rw [HW.out] at this
          exact ⟨HQ.out.below this, HBW.out.trans (h1.out.mono hBW), by omega⟩
        have REST := Lib.hid rest
        clear rest
        obtain ⟨aa, oc, rfl, HA⟩ : ∃ aa oc, av = .slice aa k oc ∧ Hid (k = 0 ∨ ∃ og, aa = some ⟨og, 0, none⟩ ∧ W ≤ og ∧ w4.ownsRow W 3 1 (.slice (some ⟨og, 0, none⟩) k oc) k (ks.map (Value.int .i64))) := by
          rcases oform with ⟨rfl, h00⟩ | ⟨og, oc, rfl, hogw, hoc, hogl0⟩
          · rw [h00]; exact ⟨none, 0, rfl, .inl rfl⟩
          · exact ⟨_, oc, rfl, .inr ⟨og, rfl, hogw, HOA.out⟩⟩
        clear oform HOA
        go_wp2_with fail
        go_loopw [8, 42] (fun _ iv wi => ∃ (n : Nat) (L : List Value), iv = .int .i64 n ∧ n ≤ k ∧ Hid (Below W wr wi) ∧ W ≤ wi.heap.size ∧ L.length = k ∧ Hid (k = 0 ∨ ∃ og, aa = some ⟨og, 0, none⟩ ∧ W ≤ og ∧ wi.ownsRow W 3 1 (.slice (some ⟨og, 0, none⟩) k oc) k L)) (fun _ iv _ => k - (intOf iv).toNat)
        case atStart => exact ⟨0, ks.map (Value.int .i64), rfl, Nat.zero_le _, HDA, z4, by simp [Hl.out], HA⟩
        case round =>
          obtain ⟨n, L, rfl, hn, hD, hz, hL, hO⟩ := hrel
          by_cases hnk : n < k
          · rcases hO.out with h0 | ⟨og, rfl, hog, own⟩
            · omega
            clear hO
            have hcn := own.cellAt n (by omega)
            rw [List.getElem?_eq_getElem (by omega)] at hcn
            have hfz := own.frozenAt
            have hst := own.stored n (.int .i64 x0)
            have Hst := Lib.hid hst
            clear own hst
            go_wp2_with fail
            go_roundw
            case rel => exact ⟨n + 1, L.set n (.int .i64 x0), by go_num, by omega, Lib.hid (hD.out.trans (below_grown Hst.out.2 hog hz)), by simp; exact hz, by simp [hL], Lib.hid (.inr ⟨og, rfl, hog, Hst.out.1⟩)⟩
            case measure => simp [intOf]; omega
          · obtain rfl : n = k := by omega
            obtain ⟨hH5, hD5, hz5⟩ := (REST.out _ hD hz).out
            have H5 := Lib.hid hH5
            have D5 := Lib.hid hD5
            clear hH5 hD5 REST HQ HBW hD hO HA HDA
            go_wp2_with fail
            refine (dropI_nofn q _).mono ?_
            rintro e w5 ⟨rfl, d5⟩
            have H6 := Lib.hid (H5.out.below d5)
            have D6 := Lib.hid (D5.out.trans (d5.mono hz5))
            have z6 : B ≤ w5.heap.size := by have := d5.size; omega
            clear d5
            go_wp2_with fail
            refine (allI_any _ H6.out (by rw [HKL.out]; omega)).mono ?_
            rintro e w6 ⟨bv, rfl, ob, db⟩
            rw [Hal.out, Hl.out] at ob
            have D7 := Lib.hid (D6.out.trans (db.mono z6))
            have z7 : B ≤ w6.heap.size := by have := db.size; omega
            obtain ⟨ba, bc, rfl, HBO⟩ : ∃ ba bc, bv = .slice ba n bc ∧ Hid (n = 0 ∨ ∃ og, ba = some ⟨og, 0, none⟩ ∧ ∀ i, i < n → w6.cell? ⟨og, i, none⟩ = some (.int .i64 (ks.getD i 0))) := by
              rcases own_form ob with ⟨rfl, h00⟩ | ⟨og, oc, rfl, hogw, hoc, hogl0⟩
              · rw [h00]; exact ⟨none, 0, rfl, .inl rfl⟩
              · refine ⟨_, oc, rfl, .inr ⟨og, rfl, fun i hi => ?_⟩⟩
                rw [ob.cellAt i (by omega), List.getElem?_map, List.getD_eq_getElem?_getD, List.getElem?_eq_getElem (by rw [Hl.out]; exact hi)]
                rfl
            clear ob db D6 H6
            go_wp2_with fail
            go_loopw [11, 65] (fun _ iv wi => ∃ (m : Nat), iv = .int .i64 m ∧ m ≤ n ∧ Hid (wi.heap = w6.heap) ∧ Hid (Below B w wi) ∧ B ≤ wi.heap.size) (fun _ iv _ => n - (intOf iv).toNat)
            case atStart => exact ⟨0, rfl, Nat.zero_le _, rfl, D7, z7⟩
            case round =>
              obtain ⟨m, rfl, hm7, hE, hD, hz7⟩ := hrel
              by_cases hmn : m < n
              · rcases Hc.out with h0 | ⟨b, off, rfl, hcell⟩
                · omega
                rcases HBO.out with h0 | ⟨og, rfl, hbc⟩
                · omega
                have hcm : ∀ wx : World, wx.heap = w6.heap → wx.cell? ⟨b, off + m, none⟩ = some (.int .i64 (ks.getD m 0)) := fun wx hx => by
                  have h1 := hcell m hmn
                  have h2 : w6.cell? ⟨b, off + m, none⟩ = some (.int .i64 (ks.getD m 0)) := by
                    rw [D7.out.cell (by rw [HB.out]; exact World.block_lt_of_cell? w _ h1)]
                    exact h1
                  unfold World.cell? at h2 ⊢
                  rw [hx]; exact h2
                have hbm : ∀ wx : World, wx.heap = w6.heap → wx.cell? ⟨og, m, none⟩ = some (.int .i64 (ks.getD m 0)) := fun wx hx => by
                  have h2 := hbc m hmn
                  unfold World.cell? at h2 ⊢
                  rw [hx]; exact h2
                have hc1 := hcm _ hE.out
                have hb1 := hbm _ hE.out
                have hc2 := hcm wr.drew hE.out
                have hb2 := hbm wr.drew hE.out
                obtain ⟨x, hx⟩ : ∃ x, Hid (ks.getD m 0 = x) := ⟨_, rfl⟩
                rw [hx.out] at hc1 hb1 hc2 hb2
                clear hcell hbc hcm hbm
                clear HBO
                go_wp2_with fail
                refine Seq.start (fun _ => True) (Seq.but []) (Seq.these []) (by kernel_rfl) ?_
                refine Seq.calm (i := 0) (d := some 68) (v := ?_) rfl rfl (by kernel_rfl) (by rfl) (fun w9 => ?_) ?_
                rotate_left
                · go_simp; try with_reducible rfl
                (try simp only [Act.put, List.setIfInBounds_toArray, List.set_cons_zero, List.set_cons_succ])
                refine Seq.calm (i := 1) (d := some 69) (v := ?_) rfl rfl (by kernel_rfl) (by rfl) (fun w9 => ?_) ?_
                rotate_left
                · go_simp; try with_reducible rfl
                (try simp only [Act.put, List.setIfInBounds_toArray, List.set_cons_zero, List.set_cons_succ])
                refine Seq.calm (i := 2) (d := some 70) (v := ?_) rfl rfl (by kernel_rfl) (by rfl) (fun w9 => ?_) ?_
                rotate_left
                · go_simp; try with_reducible rfl
                (try simp only [Act.put, List.setIfInBounds_toArray, List.set_cons_zero, List.set_cons_succ])
                refine Seq.held (i := 3) (d := some 71) (v := ?_) rfl rfl (by kernel_rfl) (by kernel_rfl) (by rfl) ?_ ?_
                rotate_left
                · go_simp; try with_reducible rfl
                (try simp only [Act.put, List.setIfInBounds_toArray, List.set_cons_zero, List.set_cons_succ])
                refine Seq.calm (i := 4) (d := some 72) (v := ?_) rfl rfl (by kernel_rfl) (by rfl) (fun w9 => ?_) ?_
                rotate_left
                · go_simp; try with_reducible rfl
                (try simp only [Act.put, List.setIfInBounds_toArray, List.set_cons_zero, List.set_cons_succ])
                refine Seq.calm (i := 5) (d := some 73) (v := ?_) rfl rfl (by kernel_rfl) (by rfl) (fun w9 => ?_) ?_
                rotate_left
                · go_simp; try with_reducible rfl
                (try simp only [Act.put, List.setIfInBounds_toArray, List.set_cons_zero, List.set_cons_succ])
                refine Seq.calm (i := 6) (d := some 74) (v := ?_) rfl rfl (by kernel_rfl) (by rfl) (fun w9 => ?_) ?_
                rotate_left
                · go_simp; try with_reducible rfl
                (try simp only [Act.put, List.setIfInBounds_toArray, List.set_cons_zero, List.set_cons_succ])
                refine Seq.held (i := 7) (d := some 75) (v := ?_) rfl rfl (by kernel_rfl) (by kernel_rfl) (by rfl) ?_ ?_
                rotate_left
                · go_simp; try with_reducible rfl
                (try simp only [Act.put, List.setIfInBounds_toArray, List.set_cons_zero, List.set_cons_succ])
                refine Seq.calm (i := 8) (d := some 76) (v := ?_) rfl rfl (by kernel_rfl) (by rfl) (fun w9 => ?_) ?_
                rotate_left
                · go_simp; try with_reducible rfl
                (try simp only [Act.put, List.setIfInBounds_toArray, List.set_cons_zero, List.set_cons_succ])
                refine Seq.done (by kernel_rfl) ?_
                go_wp2_with fail
                go_roundw
                case rel => exact ⟨m + 1, by go_num, by omega, hE, Lib.hid hD.out.drew, (by exact hz7)⟩
                case measure => simp [intOf]; omega
              · obtain rfl : m = n := by omega
                clear H5 D5 HBO D7 hE
                go_wp2_with fail
                refine (pushI_nil _ _).mono ?_
                rintro e w8 ⟨rfl, rfl⟩
                go_wp2_with fail
                refine (popI_nil _).mono ?_
                rintro e w9 ⟨rfl, rfl⟩
                go_wp2_with fail
                refine (peekI_nil _).mono ?_
                rintro e wa ⟨rfl, rfl⟩
                go_wp2_with fail
                refine (lenI_nil _).mono ?_
                rintro e wb ⟨rfl, rfl⟩
                go_wp2_with fail
                refine (allI_nilp _).mono ?_
                rintro e wc ⟨rfl, rfl⟩
                go_wp2_with fail
                refine (dropI_nil 32 _).mono ?_
                rintro e wd ⟨rfl, dd⟩
                have DD := Lib.hid (hD.out.trans (dd.mono hz7))
                clear dd
                go_wp2_with fail
                go_ret
                exact ⟨rfl, DD.out⟩
end Go.Proofs.Yteclijealbdhnaa
