/- RankHeaps: the walk. -/
import Derived.Test.YteclijealbdhnaaTSt
namespace Go.Proofs.Yteclijealbdhnaa
open Go.RowKit

set_option maxRecDepth 20000 in
set_option maxHeartbeats 32000000 in
theorem heaps_walk (a0 : Option Addr) (len cap : Nat) (ops : List Th) (w : World) (hm : len ≤ 9223372036854775807) (hc : len = 0 ∨ RowK w a0 len cap ops) :
    Calls Try.prog 7 #[.slice a0 len cap] w fun e w' => e = .returned (.bool true) ∧ Below w.heap.size w w' := by
  obtain ⟨B, HB⟩ : ∃ B, Hid (B = w.heap.size) := ⟨_, rfl⟩
  have Hc := Lib.hid hc
  clear hc
  rw [← HB.out]
  by_cases hbig : 200 < len
  · have h200 : decide ((200 : Int) < (len : Int)) = true := by simp; omega
    go_enter Try.func7, Try.ntmps7
    go_wp2_with fail
    refine (awake_any _).mono ?_
    rintro e w1 ⟨rfl, d1⟩
    rw [← HB.out] at d1
    have z1 : B ≤ w1.heap.size := by have := d1.size; rw [HB.out]; exact this
    have D1 := Lib.hid d1
    clear d1
    go_wp2_with fail
    refine (awake_any _).mono ?_
    rintro e w2 ⟨rfl, d2⟩
    have D2 := Lib.hid (D1.out.trans (d2.mono z1))
    clear d2
    go_wp2_with fail
    go_ret
    exact ⟨rfl, D2.out⟩
  · have h200 : decide ((200 : Int) < (len : Int)) = false := by simp; omega
    have hl200 : len ≤ 200 := by omega
    go_enter Try.func7, Try.ntmps7
    go_wp2_with fail
    refine (awake_any _).mono ?_
    rintro e w1 ⟨rfl, d1⟩
    rw [← HB.out] at d1
    have z1 : B ≤ w1.heap.size := by have := d1.size; rw [HB.out]; exact this
    have D1 := Lib.hid d1
    clear d1
    go_wp2_with fail
    refine (new_any B _ z1).mono ?_
    rintro e w2 ⟨rfl, h2, d2⟩
    have hst : St w w2 B w1.heap.size [] [] 0 none 0 := ⟨h2, inv_nil, .inl ⟨rfl, rfl, rfl, rfl⟩, (fun _ _ e => by cases e), D1.out.trans d2, by have := d2.size; omega⟩
    have HST := Lib.hid hst
    clear h2 d2 D1 hst
    generalize w1.heap.size = q at *
    go_wp2_with fail
    go_loopw [4, 5, 22] (fun wv _ iv wr => ∃ (k : Nat) (W : List Th) (l : List Ent) (n : Nat) (wa : Option Addr) (wc : Nat), iv = .int .i64 k ∧ wv = .slice wa W.length wc ∧ k ≤ len ∧ n ≤ k ∧ W.length ≤ k ∧ Hid (St w wr B q l W n wa wc)) (fun _ _ iv _ => len - (intOf iv).toNat)
    case atStart => exact ⟨0, [], [], 0, none, 0, rfl, rfl, Nat.zero_le _, Nat.le_refl _, Nat.le_refl _, HST⟩
    case round =>
      obtain ⟨k, W, l, n, wa, wc, rfl, rfl, hk, hnk, hWk, hST⟩ := hrel
      by_cases hlt : k < len
      · have hRo : RowK wr a0 len cap ops := (Hc.out.resolve_left (by omega)).of (by have := hST.out.2.2.2.2.1.size; omega) (fun g off e hg => hST.out.2.2.2.2.1.block g (by rw [HB.out]; exact hg))
        obtain ⟨g, off, rfl, c0, c1⟩ := hRo.at k hlt
        obtain ⟨o, ho⟩ : ∃ o, Hid (ops.getD k (0, 0) = o) := ⟨_, rfl⟩
        rw [ho.out] at c0 c1
        obtain ⟨K, A⟩ := o
        have bl := (Below.refl wr.heap.size wr).alloc (Nat.le_refl _) (.cells #[.int .i64 K, .int .i64 A] 49)
        have HS1 := Lib.hid (hST.out.below bl)
        have HO1 := Lib.hid (heap_alloc_new wr (.cells #[.int .i64 K, .int .i64 A] 49))
        clear hRo bl
        by_cases K1 : K = 1
        · subst K1
          have bl2 := (Below.refl (wr.alloc (.cells #[.int .i64 1, .int .i64 A] 49)).heap.size (wr.alloc (.cells #[.int .i64 1, .int .i64 A] 49))).alloc (Nat.le_refl _) (.cells #[.int .i64 A, .int .i64 k] 45)
          have HS2 := Lib.hid (HS1.out.below bl2)
          have hlw0 := hST.out.2.1.len
          have Hlw0 := Lib.hid hlw0
          clear bl2 hlw0
          go_wp2_with fail
          refine (push_keep A k _ HS2.out.1 HS2.out.2.2.2.2.2 (by omega) (by rw [Hlw0.out]; omega)).mono ?_
          rintro e w3 ⟨rfl, h3, d3, k3⟩
          have z3 : (wr.alloc (.cells #[.int .i64 1, .int .i64 A] 49)).heap.size + 1 ≤ w3.heap.size := by have := d3.size; simpa using this
          rw [World.size_alloc] at z3
          obtain ⟨r3, a3⟩ := keep_row HS2.out.1 HS2.out.2.2.1 HS2.out.2.2.2.1 k3 (by simp; omega)
          have H3 := Lib.hid h3
          have R3 := Lib.hid r3
          have D3 := Lib.hid (HS2.out.2.2.2.2.1.trans d3)
          have HI3 := Lib.hid (inv_push hST.out.2.1 A k)
          have zB : B ≤ w3.heap.size := by have := hST.out.2.2.2.2.2; omega
          have hx2 := heap_alloc_new (wr.alloc (.cells #[.int .i64 1, .int .i64 A] 49)) (.cells #[.int .i64 A, .int .i64 k] 45)
          rw [World.size_alloc] at hx2
          have hx3 : w3.heap[wr.heap.size + 1]? = some (.cells #[.int .i64 A, .int .i64 k] 45 (0, 0)) := by
            have hh := HS2.out.1
            obtain ⟨⟨v, g1, g2, g3⟩, _⟩ := hh
            have hqw := hST.out.1.lt
            refine (k3 v n g1).1 (wr.heap.size + 1) (by simp) (by omega) (fun e => ?_) |>.trans hx2
            exact hST.out.row_ne v n (by
              have b1 := (Below.refl wr.heap.size wr).alloc (Nat.le_refl _) (.cells #[.int .i64 1, .int .i64 A] 49)
              have b2 := b1.alloc (by simp) (.cells #[.int .i64 A, .int .i64 k] 45)
              rw [← b2.block q hqw]; exact g1) _ (by omega) e
          have x0 : w3.cell? ⟨wr.heap.size + 1, 0, none⟩ = some (.int .i64 A) := by rw [cell_of_row _ _ _ _ _ _ hx3]; rfl
          have x1 : w3.cell? ⟨wr.heap.size + 1, 1, none⟩ = some (.int .i64 k) := by rw [cell_of_row _ _ _ _ _ _ hx3]; rfl
          clear h3 d3 k3 r3 a3 hx2 hx3
          go_wp2_with fail
          refine (put_any wa W.length wc W A k _ R3.out (by omega)).mono ?_
          rintro e w4 ⟨v4, rfl, o4, b4⟩
          have hpl : (putL W (A, (k : Int))).length = W.length + 1 := by
            unfold putL
            have := putAt_le W A W.length
            simp only [List.length_append, List.length_take, List.length_drop, List.length_singleton]; omega
          obtain ⟨W4, hW4⟩ : ∃ W4, Hid (putL W (A, (k : Int)) = W4) := ⟨_, rfl⟩
          obtain ⟨l4, hl4⟩ : ∃ l4, Hid (pushF l (A, (k : Int), (n : Int)) = l4) := ⟨_, rfl⟩
          rw [hW4.out] at o4 hpl HI3
          rw [hl4.out] at H3 HI3
          obtain ⟨wa4, wc4, rfl, r4, g4⟩ := RowK.own o4
          have hst4 : St w w4 B q l4 W4 (n + 1) wa4 wc4 := ⟨H3.out.below b4, HI3.out, r4, new_apart H3.out zB b4 g4, D3.out.trans (b4.mono zB), by have := b4.size; omega⟩
          have HST := Lib.hid hst4
          have hn1 : n + 1 ≤ k + 1 := by omega
          have hW1 : W4.length ≤ k + 1 := by omega
          clear o4 b4 r4 g4 hst4 HS1 hST HS2 H3 R3 D3 HI3 x0 x1 hW4 hl4 hpl
          have hlw : l4.length = W4.length := HST.out.2.1.len
          have Hlw := Lib.hid hlw
          clear hlw
          go_wp2_with fail
          refine (len_any _ HST.out.1).mono ?_
          rintro e wL ⟨rfl, rfl⟩
          rw [Hlw.out]
          go_wp2_with fail
          refine (all_any _ HST.out.1 (by rw [Hlw.out]; have h9 := hW1; (try simp only [List.length_cons] at h9 ⊢); omega)).mono ?_
          rintro e wA ⟨va, rfl, oa, ba⟩
          have hall := inv_all HST.out.2.1
          rw [hall] at oa
          obtain ⟨aa, ac, rfl, ra, _⟩ := RowK.own oa
          have HSA := Lib.hid (HST.out.below ba)
          have RA := Lib.hid ra
          clear oa ba ra hall
          go_wp2_with fail
          refine (same_any aa wa4 W4.length ac wc4 W4 _ RA.out HSA.out.2.2.1 (by have h9 := hW1; (try simp only [List.length_cons] at h9 ⊢); omega)).mono ?_
          rintro e wS ⟨rfl, bs⟩
          have HSS := Lib.hid (HSA.out.below bs)
          clear bs
          go_wp2_with fail
          go_roundw
          case rel => exact ⟨k + 1, W4, l4, n+1, wa4, wc4, by go_num, rfl, by omega, hn1, hW1, HSS⟩
          case measure => simp [intOf]; omega
        · have e1 : (K == 1) = false := by simp [K1]
          by_cases K2 : K = 2
          · subst K2
            clear K1
            cases l with
            | nil =>
              obtain rfl : W = [] := List.length_eq_zero_iff.1 hST.out.2.1.len.symm
              go_wp2_with fail
              refine (peek_none _ HS1.out.1).mono ?_
              rintro e w3 ⟨rfl, b3⟩
              have ho3 := (b3.block wr.heap.size (by simp)).trans HO1.out
              have oc0 : w3.cell? ⟨wr.heap.size, 0, none⟩ = some (.int .i64 2) := by rw [cell_of_row _ _ _ _ _ _ ho3]; rfl
              have zo : wr.heap.size < w3.heap.size := by have := b3.size; simp at this; omega
              have bl5 := (Below.refl _ w3).alloc (Nat.le_refl _) (.cells #[.int .i64 0, .int .i64 0] 45)
              have HS3 := Lib.hid (HS1.out.below b3)
              have HS5 := Lib.hid (HS3.out.below bl5)
              have HX5 := Lib.hid (heap_alloc_new w3 (.cells #[.int .i64 0, .int .i64 0] 45))
              have HO5 := Lib.hid ((bl5.block _ zo).trans ho3)
              clear b3 ho3 HS1 hST bl5
              go_wp2_with fail
              refine (pop_none _ HS5.out.1).mono ?_
              rintro e w4 ⟨rfl, b4⟩
              have hx4 := (b4.block w3.heap.size (by simp)).trans HX5.out
              have ho4 := (b4.block wr.heap.size (by simp; omega)).trans HO5.out
              have x40 : w4.cell? ⟨w3.heap.size, 0, none⟩ = some (.int .i64 0) := by rw [cell_of_row _ _ _ _ _ _ hx4]; rfl
              have x41 : w4.cell? ⟨w3.heap.size, 1, none⟩ = some (.int .i64 0) := by rw [cell_of_row _ _ _ _ _ _ hx4]; rfl
              have f40 := frozen_of_row _ _ 0 _ _ hx4
              have f41 := frozen_of_row _ _ 1 _ _ hx4
              have oc4 : w4.cell? ⟨wr.heap.size, 0, none⟩ = some (.int .i64 2) := by rw [cell_of_row _ _ _ _ _ _ ho4]; rfl
              have zo4 : w3.heap.size < w4.heap.size := by have := b4.size; simp at this; omega
              have hne : wr.heap.size ≠ w3.heap.size := by omega
              have HS4 := Lib.hid (HS5.out.below b4)
              have hqn : q ≠ w3.heap.size := by have := HS3.out.1.lt; omega
              have hzb : B ≤ w3.heap.size := HS3.out.2.2.2.2.2
              have hvn : ∀ (wx : World), (∀ j, wx.heap[q]? = w3.heap[q]? → j = 0 → True) := fun _ _ _ _ => trivial
              have hq4 : w4.heap[q]? = w3.heap[q]? := by
                have hq3 := HS3.out.1.lt
                exact (b4.block q (by simp; omega)).trans (((Below.refl _ w3).alloc (Nat.le_refl _) (.cells #[.int .i64 0, .int .i64 0] 45)).block q hq3)
              have hv4 : ∀ v0 (n0 : Int), w4.heap[q]? = some (.cells #[.func (.func 19) #[] #[], v0, .int .i64 n0] 76 (0, 0)) → v0.ownBlock ≠ some w3.heap.size := fun v0 n0 h0 => HS3.out.row_ne v0 n0 (by rw [← hq4]; exact h0) _ (Nat.le_refl _)
              have hw4 : ∀ g off, wa = some ⟨g, off, none⟩ → g ≠ w3.heap.size := fun g off e => by have := HS3.out.wa_lt g off e; omega
              have hs6 := (HS4.out.far ⟨w3.heap.size, 0, none⟩ (.int .i64 0) hqn hzb hv4 hw4).far ⟨w3.heap.size, 1, none⟩ (.int .i64 0) hqn hzb (fun v0 n0 h0 => hv4 v0 n0 (by rw [Below.heap_setCell _ _ _ _ hqn] at h0; exact h0)) hw4
              have HST := Lib.hid (hs6.below (Below.refl _ _).drew)
              have hn1 : n ≤ k + 1 := by omega
              have hW1 : ([] : List Th).length ≤ k + 1 := by simp
              clear hx4 ho4 b4 HX5 HO5 hq4 hv4 hw4 hs6 HS3 HS4 HS5 hvn
              go_wp2_with fail
              refine Seq.start (fun _ => True) (Seq.but []) (Seq.these []) (by kernel_rfl) ?_
              refine Seq.calm (i := 0) (d := some 59) (v := ?_) rfl rfl (by kernel_rfl) (by rfl) (fun w9 => ?_) ?_
              rotate_left
              · go_simp; try with_reducible rfl
              (try simp only [Act.put, List.setIfInBounds_toArray, List.set_cons_zero, List.set_cons_succ])
              refine Seq.calm (i := 1) (d := some 60) (v := ?_) rfl rfl (by kernel_rfl) (by rfl) (fun w9 => ?_) ?_
              rotate_left
              · go_simp; try with_reducible rfl
              (try simp only [Act.put, List.setIfInBounds_toArray, List.set_cons_zero, List.set_cons_succ])
              refine Seq.calm (i := 2) (d := some 61) (v := ?_) rfl rfl (by kernel_rfl) (by rfl) (fun w9 => ?_) ?_
              rotate_left
              · go_simp; try with_reducible rfl
              (try simp only [Act.put, List.setIfInBounds_toArray, List.set_cons_zero, List.set_cons_succ])
              refine Seq.calm (i := 3) (d := some 62) (v := ?_) rfl rfl (by kernel_rfl) (by rfl) (fun w9 => ?_) ?_
              rotate_left
              · go_simp; try with_reducible rfl
              (try simp only [Act.put, List.setIfInBounds_toArray, List.set_cons_zero, List.set_cons_succ])
              refine Seq.calm (i := 4) (d := some 63) (v := ?_) rfl rfl (by kernel_rfl) (by rfl) (fun w9 => ?_) ?_
              rotate_left
              · go_simp; try with_reducible rfl
              (try simp only [Act.put, List.setIfInBounds_toArray, List.set_cons_zero, List.set_cons_succ])
              refine Seq.calm (i := 5) (d := some 64) (v := ?_) rfl rfl (by kernel_rfl) (by rfl) (fun w9 => ?_) ?_
              rotate_left
              · go_simp; try with_reducible rfl
              (try simp only [Act.put, List.setIfInBounds_toArray, List.set_cons_zero, List.set_cons_succ])
              refine Seq.calm (i := 6) (d := some 65) (v := ?_) rfl rfl (by kernel_rfl) (by rfl) (fun w9 => ?_) ?_
              rotate_left
              · go_simp; try with_reducible rfl
              (try simp only [Act.put, List.setIfInBounds_toArray, List.set_cons_zero, List.set_cons_succ])
              refine Seq.calm (i := 7) (d := some 66) (v := ?_) rfl rfl (by kernel_rfl) (by rfl) (fun w9 => ?_) ?_
              rotate_left
              · go_simp; try with_reducible rfl
              (try simp only [Act.put, List.setIfInBounds_toArray, List.set_cons_zero, List.set_cons_succ])
              refine Seq.no (i := 8) (d := some 67) rfl rfl (by kernel_rfl) (by rfl) ?_
              (try simp only [Act.put, List.setIfInBounds_toArray, List.set_cons_zero, List.set_cons_succ])
              refine Seq.no (i := 9) (d := some 68) rfl rfl (by kernel_rfl) (by rfl) ?_
              (try simp only [Act.put, List.setIfInBounds_toArray, List.set_cons_zero, List.set_cons_succ])
              refine Seq.no (i := 10) (d := some 69) rfl rfl (by kernel_rfl) (by rfl) ?_
              (try simp only [Act.put, List.setIfInBounds_toArray, List.set_cons_zero, List.set_cons_succ])
              refine Seq.no (i := 11) (d := some 70) rfl rfl (by kernel_rfl) (by rfl) ?_
              (try simp only [Act.put, List.setIfInBounds_toArray, List.set_cons_zero, List.set_cons_succ])
              refine Seq.no (i := 12) (d := some 71) rfl rfl (by kernel_rfl) (by rfl) ?_
              (try simp only [Act.put, List.setIfInBounds_toArray, List.set_cons_zero, List.set_cons_succ])
              refine Seq.calm (i := 13) (d := some 72) (v := ?_) rfl rfl (by kernel_rfl) (by rfl) (fun w9 => ?_) ?_
              rotate_left
              · go_simp; try with_reducible rfl
              (try simp only [Act.put, List.setIfInBounds_toArray, List.set_cons_zero, List.set_cons_succ])
              refine Seq.calm (i := 14) (d := some 73) (v := ?_) rfl rfl (by kernel_rfl) (by rfl) (fun w9 => ?_) ?_
              rotate_left
              · go_simp; try with_reducible rfl
              (try simp only [Act.put, List.setIfInBounds_toArray, List.set_cons_zero, List.set_cons_succ])
              refine Seq.calm (i := 15) (d := some 74) (v := ?_) rfl rfl (by kernel_rfl) (by rfl) (fun w9 => ?_) ?_
              rotate_left
              · go_simp; try with_reducible rfl
              (try simp only [Act.put, List.setIfInBounds_toArray, List.set_cons_zero, List.set_cons_succ])
              refine Seq.calm (i := 16) (d := some 75) (v := ?_) rfl rfl (by kernel_rfl) (by rfl) (fun w9 => ?_) ?_
              rotate_left
              · go_simp; try with_reducible rfl
              (try simp only [Act.put, List.setIfInBounds_toArray, List.set_cons_zero, List.set_cons_succ])
              refine Seq.calm (i := 17) (d := some 76) (v := ?_) rfl rfl (by kernel_rfl) (by rfl) (fun w9 => ?_) ?_
              rotate_left
              · go_simp; try with_reducible rfl
              (try simp only [Act.put, List.setIfInBounds_toArray, List.set_cons_zero, List.set_cons_succ])
              refine Seq.calm (i := 18) (d := some 77) (v := ?_) rfl rfl (by kernel_rfl) (by rfl) (fun w9 => ?_) ?_
              rotate_left
              · go_simp; try with_reducible rfl
              (try simp only [Act.put, List.setIfInBounds_toArray, List.set_cons_zero, List.set_cons_succ])
              refine Seq.held (i := 19) (d := some 78) (v := ?_) rfl rfl (by kernel_rfl) (by kernel_rfl) (by rfl) ?_ ?_
              rotate_left
              · go_simp; try with_reducible rfl
              (try simp only [Act.put, List.setIfInBounds_toArray, List.set_cons_zero, List.set_cons_succ])
              refine Seq.calm (i := 20) (d := some 79) (v := ?_) rfl rfl (by kernel_rfl) (by rfl) (fun w9 => ?_) ?_
              rotate_left
              · go_simp; try with_reducible rfl
              (try simp only [Act.put, List.setIfInBounds_toArray, List.set_cons_zero, List.set_cons_succ])
              refine Seq.calm (i := 21) (d := some 80) (v := ?_) rfl rfl (by kernel_rfl) (by rfl) (fun w9 => ?_) ?_
              rotate_left
              · go_simp; try with_reducible rfl
              (try simp only [Act.put, List.setIfInBounds_toArray, List.set_cons_zero, List.set_cons_succ])
              refine Seq.calm (i := 22) (d := some 81) (v := ?_) rfl rfl (by kernel_rfl) (by rfl) (fun w9 => ?_) ?_
              rotate_left
              · go_simp; try with_reducible rfl
              (try simp only [Act.put, List.setIfInBounds_toArray, List.set_cons_zero, List.set_cons_succ])
              refine Seq.calm (i := 23) (d := some 82) (v := ?_) rfl rfl (by kernel_rfl) (by rfl) (fun w9 => ?_) ?_
              rotate_left
              · go_simp; try with_reducible rfl
              (try simp only [Act.put, List.setIfInBounds_toArray, List.set_cons_zero, List.set_cons_succ])
              refine Seq.done (by kernel_rfl) ?_
              have hlw : [].length = [].length := HST.out.2.1.len
              have Hlw := Lib.hid hlw
              clear hlw
              go_wp2_with fail
              refine (len_any _ HST.out.1).mono ?_
              rintro e wL ⟨rfl, rfl⟩
              rw [Hlw.out]
              go_wp2_with fail
              refine (all_any _ HST.out.1 (by rw [Hlw.out]; have h9 := hW1; (try simp only [List.length_cons] at h9 ⊢); omega)).mono ?_
              rintro e wA ⟨va, rfl, oa, ba⟩
              have hall := inv_all HST.out.2.1
              rw [hall] at oa
              obtain ⟨aa, ac, rfl, ra, _⟩ := RowK.own oa
              have HSA := Lib.hid (HST.out.below ba)
              have RA := Lib.hid ra
              clear oa ba ra hall
              go_wp2_with fail
              refine (same_any aa wa [].length ac wc [] _ RA.out HSA.out.2.2.1 (by have h9 := hW1; (try simp only [List.length_cons] at h9 ⊢); omega)).mono ?_
              rintro e wS ⟨rfl, bs⟩
              have HSS := Lib.hid (HSA.out.below bs)
              clear bs
              go_wp2_with fail
              go_roundw
              case rel => exact ⟨k + 1, [], [], n, wa, wc, by go_num, rfl, by omega, hn1, hW1, HSS⟩
              case measure => simp [intOf]; omega
            | cons X r =>
              obtain ⟨W', rfl, hI'⟩ := inv_head hST.out.2.1
              obtain ⟨X1, X2, X3⟩ := X
              go_wp2_with fail
              refine (peek_some (x := (X1, X2, X3)) (l := r) _ HS1.out.1).mono ?_
              rintro e w3 ⟨rfl, b3⟩
              have ho3 := (b3.block wr.heap.size (by simp)).trans HO1.out
              have oc0 : w3.cell? ⟨wr.heap.size, 0, none⟩ = some (.int .i64 2) := by rw [cell_of_row _ _ _ _ _ _ ho3]; rfl
              have zo : wr.heap.size < w3.heap.size := by have := b3.size; simp at this; omega
              have bl5 := (Below.refl _ w3).alloc (Nat.le_refl _) (.cells #[.int .i64 X1, .int .i64 X2] 45)
              have HS3 := Lib.hid (HS1.out.below b3)
              have HS5 := Lib.hid (HS3.out.below bl5)
              have HX5 := Lib.hid (heap_alloc_new w3 (.cells #[.int .i64 X1, .int .i64 X2] 45))
              have HO5 := Lib.hid ((bl5.block _ zo).trans ho3)
              have HI' := Lib.hid hI'
              have hror := hST.out.row_ne
              have hror3 := HS3.out.row_ne
              have hq0 := hST.out.1.lt
              have hq3 : w3.heap[q]? = wr.heap[q]? := (b3.block q (by simp; omega)).trans (((Below.refl _ wr).alloc (Nat.le_refl _) (.cells #[.int .i64 2, .int .i64 A] 49)).block q hq0)
              have hq5 : (w3.alloc (.cells #[.int .i64 X1, .int .i64 X2] 45)).heap[q]? = w3.heap[q]? := bl5.block q HS3.out.1.lt
              have Hq3 := Lib.hid hq3
              have Hq5 := Lib.hid hq5
              have Hror := Lib.hid hror
              have Hror3 := Lib.hid hror3
              clear b3 ho3 HS1 bl5 hI' hror hror3 hq3 hq5
              go_wp2_with fail
              refine (pop_keep (x := (X1, X2, X3)) (r := r) _ HS5.out.1 HS5.out.2.2.2.2.2).mono ?_
              rintro e w4 ⟨rfl, h4, d4, k4⟩
              have hkb : ∀ j, j < w3.heap.size + 1 → j ≠ q → wr.heap.size ≤ j → w4.heap[j]? = (w3.alloc (.cells #[.int .i64 X1, .int .i64 X2] 45)).heap[j]? := fun j hj hjq hjw => by
                obtain ⟨⟨v, g1, g2, g3⟩, _⟩ := HS5.out.1
                exact (k4 v n g1).1 j (by simp; omega) hjq (Hror.out v n (by rw [← Hq3.out, ← Hq5.out]; exact g1) j hjw)
              have hx4 := (hkb w3.heap.size (by omega) (by omega) (by omega)).trans HX5.out
              have ho4 := (hkb wr.heap.size (by omega) (by omega) (by omega)).trans HO5.out
              obtain ⟨r4, a4⟩ := keep_row HS5.out.1 HS5.out.2.2.1 HS5.out.2.2.2.1 k4 d4.size
              obtain ⟨gw, ow, rfl, y0, y1⟩ := r4.at 0 (by simp)
              simp only [Nat.zero_mul, Nat.add_zero, List.getD_cons_zero, thOf] at y0 y1
              have zgw : gw < w3.heap.size := HS3.out.wa_lt gw ow rfl
              have x40 : w4.cell? ⟨w3.heap.size, 0, none⟩ = some (.int .i64 X1) := by rw [cell_of_row _ _ _ _ _ _ hx4]; rfl
              have x41 : w4.cell? ⟨w3.heap.size, 1, none⟩ = some (.int .i64 X2) := by rw [cell_of_row _ _ _ _ _ _ hx4]; rfl
              have f40 := frozen_of_row _ _ 0 _ _ hx4
              have f41 := frozen_of_row _ _ 1 _ _ hx4
              have oc4 : w4.cell? ⟨wr.heap.size, 0, none⟩ = some (.int .i64 2) := by rw [cell_of_row _ _ _ _ _ _ ho4]; rfl
              have zo4 : w3.heap.size < w4.heap.size := by have := d4.size; simp at this; omega
              have hne : wr.heap.size ≠ w3.heap.size := by omega
              have hgn : gw ≠ w3.heap.size := by omega
              have hqn : q ≠ w3.heap.size := by have := HS3.out.1.lt; omega
              have hzb : B ≤ w3.heap.size := HS3.out.2.2.2.2.2
              have hv4 : ∀ v0 (n0 : Int), w4.heap[q]? = some (.cells #[.func (.func 19) #[] #[], v0, .int .i64 n0] 76 (0, 0)) → v0.ownBlock ≠ some w3.heap.size := fun v0 n0 h0 => by
                obtain ⟨⟨v, g1, g2, g3⟩, _⟩ := HS5.out.1
                obtain ⟨_, v1, n1, k5, k6⟩ := k4 v n g1
                have e0 := k5.symm.trans h0
                simp only [Option.some.injEq, Obj.cells.injEq, Array.mk.injEq, List.cons.injEq, and_true, true_and] at e0
                obtain ⟨rfl, _⟩ := e0
                rcases k6 with h | h
                · rw [h]; exact Hror3.out v n (by rw [← Hq5.out]; exact g1) _ (Nat.le_refl _)
                · intro e; have := h _ e; rw [World.size_alloc] at this; omega
              have hrd := r4.drop 1 (by simp)
              obtain ⟨A2, hA2⟩ : ∃ A2, Hid ((if wc = 1 then some ⟨gw, ow, none⟩ else (some (⟨gw, ow, none⟩ : Addr)).map (·.add (1 * 2))) = A2) := ⟨_, rfl⟩
              have hcut : ∀ wx, (Instr.slice 47 (.slice (some ⟨gw, ow, none⟩) (W'.length + 1) wc) (some (.int .i64 1)) none none).run Try.prog wx = .ok (.slice A2 W'.length (wc - 1)) wx := fun wx => by
                have := cutK (some ⟨gw, ow, none⟩) (W'.length + 1) wc 1 (by omega) wx
                rw [hA2.out] at this
                exact this
              rw [hA2.out] at hrd
              have hA2g : ∀ g off, A2 = some ⟨g, off, none⟩ → g = gw := fun g off e => by
                rw [← hA2.out] at e
                split at e
                · cases e; rfl
                · simp only [Option.map_some, Addr.add] at e
                  split at e <;> (cases e; rfl)
              have hst4 : St w w4 B q (popF ((X1, X2, X3) :: r)) W' n A2 (wc - 1) := ⟨h4, HI'.out, by simpa using hrd, fun g off e => by have := a4 gw ow rfl; rw [hA2g g off e]; exact this, HS5.out.2.2.2.2.1.trans d4, by omega⟩
              have hw4 : ∀ g off, A2 = some ⟨g, off, none⟩ → g ≠ w3.heap.size := fun g off e => by rw [hA2g g off e]; exact hgn
              have hs6 := (hst4.far ⟨w3.heap.size, 0, none⟩ (.int .i64 X1) hqn hzb hv4 hw4).far ⟨w3.heap.size, 1, none⟩ (.int .i64 X2) hqn hzb (fun v0 n0 h0 => hv4 v0 n0 (by rw [Below.heap_setCell _ _ _ _ hqn] at h0; exact h0)) hw4
              have HST := Lib.hid (hs6.below (Below.refl _ _).drew)
              have hn1 : n ≤ k + 1 := by omega
              have hW1 : W'.length ≤ k + 1 := by simp at hWk; omega
              have hpos : (0 : Int) < (W'.length : Int) + 1 := by omega
              have hwc : (1 : Int) ≤ (W'.length : Int) + 1 := by omega
              obtain ⟨l4, hl4⟩ : ∃ l4, Hid (popF ((X1, X2, X3) :: r) = l4) := ⟨_, rfl⟩
              rw [hl4.out] at HST
              clear hkb hx4 ho4 r4 a4 h4 d4 k4 HX5 HO5 hv4 hw4 hs6 hst4 HS3 HS5 hrd hA2g hST Hror Hror3 Hq3 Hq5 HI' hl4 hA2
              simp only [List.length_cons, Int.natCast_add, Int.cast_ofNat_Int] at *
              go_wp2_with fail
              refine Seq.start (fun _ => True) (Seq.but []) (Seq.these []) (by kernel_rfl) ?_
              refine Seq.calm (i := 0) (d := some 59) (v := ?_) rfl rfl (by kernel_rfl) (by rfl) (fun w9 => ?_) ?_
              rotate_left
              · go_simp; try with_reducible rfl
              (try simp only [Act.put, List.setIfInBounds_toArray, List.set_cons_zero, List.set_cons_succ])
              refine Seq.calm (i := 1) (d := some 60) (v := ?_) rfl rfl (by kernel_rfl) (by rfl) (fun w9 => ?_) ?_
              rotate_left
              · go_simp; try with_reducible rfl
              (try simp only [Act.put, List.setIfInBounds_toArray, List.set_cons_zero, List.set_cons_succ])
              refine Seq.calm (i := 2) (d := some 61) (v := ?_) rfl rfl (by kernel_rfl) (by rfl) (fun w9 => ?_) ?_
              rotate_left
              · go_simp; try with_reducible rfl
              (try simp only [Act.put, List.setIfInBounds_toArray, List.set_cons_zero, List.set_cons_succ])
              refine Seq.calm (i := 3) (d := some 62) (v := ?_) rfl rfl (by kernel_rfl) (by rfl) (fun w9 => ?_) ?_
              rotate_left
              · go_simp; try with_reducible rfl
              (try simp only [Act.put, List.setIfInBounds_toArray, List.set_cons_zero, List.set_cons_succ])
              refine Seq.calm (i := 4) (d := some 63) (v := ?_) rfl rfl (by kernel_rfl) (by rfl) (fun w9 => ?_) ?_
              rotate_left
              · go_simp; try with_reducible rfl
              (try simp only [Act.put, List.setIfInBounds_toArray, List.set_cons_zero, List.set_cons_succ])
              refine Seq.calm (i := 5) (d := some 64) (v := ?_) rfl rfl (by kernel_rfl) (by rfl) (fun w9 => ?_) ?_
              rotate_left
              · go_simp; try with_reducible rfl
              (try simp only [Act.put, List.setIfInBounds_toArray, List.set_cons_zero, List.set_cons_succ])
              refine Seq.calm (i := 6) (d := some 65) (v := ?_) rfl rfl (by kernel_rfl) (by rfl) (fun w9 => ?_) ?_
              rotate_left
              · go_simp; try with_reducible rfl
              (try simp only [Act.put, List.setIfInBounds_toArray, List.set_cons_zero, List.set_cons_succ])
              refine Seq.calm (i := 7) (d := some 66) (v := ?_) rfl rfl (by kernel_rfl) (by rfl) (fun w9 => ?_) ?_
              rotate_left
              · go_simp; try with_reducible rfl
              (try simp only [Act.put, List.setIfInBounds_toArray, List.set_cons_zero, List.set_cons_succ])
              refine Seq.held (i := 8) (d := some 67) (v := ?_) rfl rfl (by kernel_rfl) (by kernel_rfl) (by rfl) ?_ ?_
              rotate_left
              · go_simp; try with_reducible rfl
              (try simp only [Act.put, List.setIfInBounds_toArray, List.set_cons_zero, List.set_cons_succ])
              refine Seq.calm (i := 9) (d := some 68) (v := ?_) rfl rfl (by kernel_rfl) (by rfl) (fun w9 => ?_) ?_
              rotate_left
              · go_simp; try with_reducible rfl
              (try simp only [Act.put, List.setIfInBounds_toArray, List.set_cons_zero, List.set_cons_succ])
              refine Seq.calm (i := 10) (d := some 69) (v := ?_) rfl rfl (by kernel_rfl) (by rfl) (fun w9 => ?_) ?_
              rotate_left
              · go_simp; try with_reducible rfl
              (try simp only [Act.put, List.setIfInBounds_toArray, List.set_cons_zero, List.set_cons_succ])
              refine Seq.held (i := 11) (d := some 70) (v := ?_) rfl rfl (by kernel_rfl) (by kernel_rfl) (by rfl) ?_ ?_
              rotate_left
              · go_simp; try with_reducible rfl
              (try simp only [Act.put, List.setIfInBounds_toArray, List.set_cons_zero, List.set_cons_succ])
              refine Seq.calm (i := 12) (d := some 71) (v := ?_) rfl rfl (by kernel_rfl) (by rfl) (fun w9 => ?_) ?_
              rotate_left
              · go_simp; try with_reducible rfl
              (try simp only [Act.put, List.setIfInBounds_toArray, List.set_cons_zero, List.set_cons_succ])
              refine Seq.calm (i := 13) (d := some 72) (v := ?_) rfl rfl (by kernel_rfl) (by rfl) (fun w9 => ?_) ?_
              rotate_left
              · go_simp; try with_reducible rfl
              (try simp only [Act.put, List.setIfInBounds_toArray, List.set_cons_zero, List.set_cons_succ])
              refine Seq.calm (i := 14) (d := some 73) (v := ?_) rfl rfl (by kernel_rfl) (by rfl) (fun w9 => ?_) ?_
              rotate_left
              · go_simp; try with_reducible rfl
              (try simp only [Act.put, List.setIfInBounds_toArray, List.set_cons_zero, List.set_cons_succ])
              refine Seq.calm (i := 15) (d := some 74) (v := ?_) rfl rfl (by kernel_rfl) (by rfl) (fun w9 => ?_) ?_
              rotate_left
              · go_simp; try with_reducible rfl
              (try simp only [Act.put, List.setIfInBounds_toArray, List.set_cons_zero, List.set_cons_succ])
              refine Seq.calm (i := 16) (d := some 75) (v := ?_) rfl rfl (by kernel_rfl) (by rfl) (fun w9 => ?_) ?_
              rotate_left
              · go_simp; try with_reducible rfl
              (try simp only [Act.put, List.setIfInBounds_toArray, List.set_cons_zero, List.set_cons_succ])
              refine Seq.calm (i := 17) (d := some 76) (v := ?_) rfl rfl (by kernel_rfl) (by rfl) (fun w9 => ?_) ?_
              rotate_left
              · go_simp; try with_reducible rfl
              (try simp only [Act.put, List.setIfInBounds_toArray, List.set_cons_zero, List.set_cons_succ])
              refine Seq.calm (i := 18) (d := some 77) (v := ?_) rfl rfl (by kernel_rfl) (by rfl) (fun w9 => ?_) ?_
              rotate_left
              · go_simp; try with_reducible rfl
              (try simp only [Act.put, List.setIfInBounds_toArray, List.set_cons_zero, List.set_cons_succ])
              refine Seq.no (i := 19) (d := some 78) rfl rfl (by kernel_rfl) (by rfl) ?_
              (try simp only [Act.put, List.setIfInBounds_toArray, List.set_cons_zero, List.set_cons_succ])
              refine Seq.no (i := 20) (d := some 79) rfl rfl (by kernel_rfl) (by rfl) ?_
              (try simp only [Act.put, List.setIfInBounds_toArray, List.set_cons_zero, List.set_cons_succ])
              refine Seq.no (i := 21) (d := some 80) rfl rfl (by kernel_rfl) (by rfl) ?_
              (try simp only [Act.put, List.setIfInBounds_toArray, List.set_cons_zero, List.set_cons_succ])
              refine Seq.calm (i := 22) (d := some 81) (v := ?_) rfl rfl (by kernel_rfl) (by rfl) (fun w9 => ?_) ?_
              rotate_left
              · go_simp; try with_reducible rfl
              (try simp only [Act.put, List.setIfInBounds_toArray, List.set_cons_zero, List.set_cons_succ])
              refine Seq.calm (i := 23) (d := some 82) (v := ?_) rfl rfl (by kernel_rfl) (by rfl) (fun w9 => ?_) ?_
              rotate_left
              · go_simp; try with_reducible rfl
              (try simp only [Act.put, List.setIfInBounds_toArray, List.set_cons_zero, List.set_cons_succ])
              refine Seq.done (by kernel_rfl) ?_
              have hlw : l4.length = W'.length := HST.out.2.1.len
              have Hlw := Lib.hid hlw
              clear hlw
              go_wp2_with fail
              refine (len_any _ HST.out.1).mono ?_
              rintro e wL ⟨rfl, rfl⟩
              rw [Hlw.out]
              go_wp2_with fail
              refine (all_any _ HST.out.1 (by rw [Hlw.out]; have h9 := hW1; (try simp only [List.length_cons] at h9 ⊢); omega)).mono ?_
              rintro e wA ⟨va, rfl, oa, ba⟩
              have hall := inv_all HST.out.2.1
              rw [hall] at oa
              obtain ⟨aa, ac, rfl, ra, _⟩ := RowK.own oa
              have HSA := Lib.hid (HST.out.below ba)
              have RA := Lib.hid ra
              clear oa ba ra hall
              go_wp2_with fail
              refine (same_any aa A2 W'.length ac (wc - 1) W' _ RA.out HSA.out.2.2.1 (by have h9 := hW1; (try simp only [List.length_cons] at h9 ⊢); omega)).mono ?_
              rintro e wS ⟨rfl, bs⟩
              have HSS := Lib.hid (HSA.out.below bs)
              clear bs
              go_wp2_with fail
              go_roundw
              case rel => exact ⟨k + 1, W', l4, n, A2, (wc - 1), by go_num, rfl, by omega, hn1, hW1, HSS⟩
              case measure => simp [intOf]; omega
          · have e2 : (K == 2) = false := by simp [K2]
            by_cases K4 : K = 4
            · subst K4
              clear K1 K2
              cases l with
              | nil =>
                obtain rfl : W = [] := List.length_eq_zero_iff.1 hST.out.2.1.len.symm
                go_wp2_with fail
                refine (peek_none _ HS1.out.1).mono ?_
                rintro e w3 ⟨rfl, b3⟩
                have ho3 := (b3.block wr.heap.size (by simp)).trans HO1.out
                have oc0 : w3.cell? ⟨wr.heap.size, 0, none⟩ = some (.int .i64 4) := by rw [cell_of_row _ _ _ _ _ _ ho3]; rfl
                have zo : wr.heap.size < w3.heap.size := by have := b3.size; simp at this; omega
                have HST := Lib.hid ((HS1.out.below b3).below ((Below.refl _ w3).alloc (Nat.le_refl _) (.cells #[.int .i64 0, .int .i64 0] 45)).drew)
                have hn1 : n ≤ k + 1 := by omega
                have hW1 : ([] : List Th).length ≤ k + 1 := by simp
                clear b3 ho3 HS1 hST
                go_wp2_with fail
                refine Seq.start (fun _ => True) (Seq.but []) (Seq.these []) (by kernel_rfl) ?_
                refine Seq.calm (i := 0) (d := some 59) (v := ?_) rfl rfl (by kernel_rfl) (by rfl) (fun w9 => ?_) ?_
                rotate_left
                · go_simp; try with_reducible rfl
                (try simp only [Act.put, List.setIfInBounds_toArray, List.set_cons_zero, List.set_cons_succ])
                refine Seq.calm (i := 1) (d := some 60) (v := ?_) rfl rfl (by kernel_rfl) (by rfl) (fun w9 => ?_) ?_
                rotate_left
                · go_simp; try with_reducible rfl
                (try simp only [Act.put, List.setIfInBounds_toArray, List.set_cons_zero, List.set_cons_succ])
                refine Seq.calm (i := 2) (d := some 61) (v := ?_) rfl rfl (by kernel_rfl) (by rfl) (fun w9 => ?_) ?_
                rotate_left
                · go_simp; try with_reducible rfl
                (try simp only [Act.put, List.setIfInBounds_toArray, List.set_cons_zero, List.set_cons_succ])
                refine Seq.calm (i := 3) (d := some 62) (v := ?_) rfl rfl (by kernel_rfl) (by rfl) (fun w9 => ?_) ?_
                rotate_left
                · go_simp; try with_reducible rfl
                (try simp only [Act.put, List.setIfInBounds_toArray, List.set_cons_zero, List.set_cons_succ])
                refine Seq.calm (i := 4) (d := some 63) (v := ?_) rfl rfl (by kernel_rfl) (by rfl) (fun w9 => ?_) ?_
                rotate_left
                · go_simp; try with_reducible rfl
                (try simp only [Act.put, List.setIfInBounds_toArray, List.set_cons_zero, List.set_cons_succ])
                refine Seq.calm (i := 5) (d := some 64) (v := ?_) rfl rfl (by kernel_rfl) (by rfl) (fun w9 => ?_) ?_
                rotate_left
                · go_simp; try with_reducible rfl
                (try simp only [Act.put, List.setIfInBounds_toArray, List.set_cons_zero, List.set_cons_succ])
                refine Seq.calm (i := 6) (d := some 65) (v := ?_) rfl rfl (by kernel_rfl) (by rfl) (fun w9 => ?_) ?_
                rotate_left
                · go_simp; try with_reducible rfl
                (try simp only [Act.put, List.setIfInBounds_toArray, List.set_cons_zero, List.set_cons_succ])
                refine Seq.calm (i := 7) (d := some 66) (v := ?_) rfl rfl (by kernel_rfl) (by rfl) (fun w9 => ?_) ?_
                rotate_left
                · go_simp; try with_reducible rfl
                (try simp only [Act.put, List.setIfInBounds_toArray, List.set_cons_zero, List.set_cons_succ])
                refine Seq.no (i := 8) (d := some 67) rfl rfl (by kernel_rfl) (by rfl) ?_
                (try simp only [Act.put, List.setIfInBounds_toArray, List.set_cons_zero, List.set_cons_succ])
                refine Seq.no (i := 9) (d := some 68) rfl rfl (by kernel_rfl) (by rfl) ?_
                (try simp only [Act.put, List.setIfInBounds_toArray, List.set_cons_zero, List.set_cons_succ])
                refine Seq.no (i := 10) (d := some 69) rfl rfl (by kernel_rfl) (by rfl) ?_
                (try simp only [Act.put, List.setIfInBounds_toArray, List.set_cons_zero, List.set_cons_succ])
                refine Seq.no (i := 11) (d := some 70) rfl rfl (by kernel_rfl) (by rfl) ?_
                (try simp only [Act.put, List.setIfInBounds_toArray, List.set_cons_zero, List.set_cons_succ])
                refine Seq.no (i := 12) (d := some 71) rfl rfl (by kernel_rfl) (by rfl) ?_
                (try simp only [Act.put, List.setIfInBounds_toArray, List.set_cons_zero, List.set_cons_succ])
                refine Seq.calm (i := 13) (d := some 72) (v := ?_) rfl rfl (by kernel_rfl) (by rfl) (fun w9 => ?_) ?_
                rotate_left
                · go_simp; try with_reducible rfl
                (try simp only [Act.put, List.setIfInBounds_toArray, List.set_cons_zero, List.set_cons_succ])
                refine Seq.calm (i := 14) (d := some 73) (v := ?_) rfl rfl (by kernel_rfl) (by rfl) (fun w9 => ?_) ?_
                rotate_left
                · go_simp; try with_reducible rfl
                (try simp only [Act.put, List.setIfInBounds_toArray, List.set_cons_zero, List.set_cons_succ])
                refine Seq.calm (i := 15) (d := some 74) (v := ?_) rfl rfl (by kernel_rfl) (by rfl) (fun w9 => ?_) ?_
                rotate_left
                · go_simp; try with_reducible rfl
                (try simp only [Act.put, List.setIfInBounds_toArray, List.set_cons_zero, List.set_cons_succ])
                refine Seq.calm (i := 16) (d := some 75) (v := ?_) rfl rfl (by kernel_rfl) (by rfl) (fun w9 => ?_) ?_
                rotate_left
                · go_simp; try with_reducible rfl
                (try simp only [Act.put, List.setIfInBounds_toArray, List.set_cons_zero, List.set_cons_succ])
                refine Seq.calm (i := 17) (d := some 76) (v := ?_) rfl rfl (by kernel_rfl) (by rfl) (fun w9 => ?_) ?_
                rotate_left
                · go_simp; try with_reducible rfl
                (try simp only [Act.put, List.setIfInBounds_toArray, List.set_cons_zero, List.set_cons_succ])
                refine Seq.calm (i := 18) (d := some 77) (v := ?_) rfl rfl (by kernel_rfl) (by rfl) (fun w9 => ?_) ?_
                rotate_left
                · go_simp; try with_reducible rfl
                (try simp only [Act.put, List.setIfInBounds_toArray, List.set_cons_zero, List.set_cons_succ])
                refine Seq.held (i := 19) (d := some 78) (v := ?_) rfl rfl (by kernel_rfl) (by kernel_rfl) (by rfl) ?_ ?_
                rotate_left
                · go_simp; try with_reducible rfl
                (try simp only [Act.put, List.setIfInBounds_toArray, List.set_cons_zero, List.set_cons_succ])
                refine Seq.calm (i := 20) (d := some 79) (v := ?_) rfl rfl (by kernel_rfl) (by rfl) (fun w9 => ?_) ?_
                rotate_left
                · go_simp; try with_reducible rfl
                (try simp only [Act.put, List.setIfInBounds_toArray, List.set_cons_zero, List.set_cons_succ])
                refine Seq.calm (i := 21) (d := some 80) (v := ?_) rfl rfl (by kernel_rfl) (by rfl) (fun w9 => ?_) ?_
                rotate_left
                · go_simp; try with_reducible rfl
                (try simp only [Act.put, List.setIfInBounds_toArray, List.set_cons_zero, List.set_cons_succ])
                refine Seq.calm (i := 22) (d := some 81) (v := ?_) rfl rfl (by kernel_rfl) (by rfl) (fun w9 => ?_) ?_
                rotate_left
                · go_simp; try with_reducible rfl
                (try simp only [Act.put, List.setIfInBounds_toArray, List.set_cons_zero, List.set_cons_succ])
                refine Seq.calm (i := 23) (d := some 82) (v := ?_) rfl rfl (by kernel_rfl) (by rfl) (fun w9 => ?_) ?_
                rotate_left
                · go_simp; try with_reducible rfl
                (try simp only [Act.put, List.setIfInBounds_toArray, List.set_cons_zero, List.set_cons_succ])
                refine Seq.done (by kernel_rfl) ?_
                have hlw : [].length = [].length := HST.out.2.1.len
                have Hlw := Lib.hid hlw
                clear hlw
                go_wp2_with fail
                refine (len_any _ HST.out.1).mono ?_
                rintro e wL ⟨rfl, rfl⟩
                rw [Hlw.out]
                go_wp2_with fail
                refine (all_any _ HST.out.1 (by rw [Hlw.out]; have h9 := hW1; (try simp only [List.length_cons] at h9 ⊢); omega)).mono ?_
                rintro e wA ⟨va, rfl, oa, ba⟩
                have hall := inv_all HST.out.2.1
                rw [hall] at oa
                obtain ⟨aa, ac, rfl, ra, _⟩ := RowK.own oa
                have HSA := Lib.hid (HST.out.below ba)
                have RA := Lib.hid ra
                clear oa ba ra hall
                go_wp2_with fail
                refine (same_any aa wa [].length ac wc [] _ RA.out HSA.out.2.2.1 (by have h9 := hW1; (try simp only [List.length_cons] at h9 ⊢); omega)).mono ?_
                rintro e wS ⟨rfl, bs⟩
                have HSS := Lib.hid (HSA.out.below bs)
                clear bs
                go_wp2_with fail
                go_roundw
                case rel => exact ⟨k + 1, [], [], n, wa, wc, by go_num, rfl, by omega, hn1, hW1, HSS⟩
                case measure => simp [intOf]; omega
              | cons X r =>
                obtain ⟨W', rfl, hI'⟩ := inv_head hST.out.2.1
                obtain ⟨X1, X2, X3⟩ := X
                have hrw := HS1.out.2.2.1
                go_wp2_with fail
                refine (peek_some (x := (X1, X2, X3)) (l := r) _ HS1.out.1).mono ?_
                rintro e w3 ⟨rfl, b3⟩
                have ho3 := (b3.block wr.heap.size (by simp)).trans HO1.out
                have oc0 : w3.cell? ⟨wr.heap.size, 0, none⟩ = some (.int .i64 4) := by rw [cell_of_row _ _ _ _ _ _ ho3]; rfl
                have zo : wr.heap.size < w3.heap.size := by have := b3.size; simp at this; omega
                have HS3 := Lib.hid (HS1.out.below b3)
                obtain ⟨gw, ow, rfl, y0, y1⟩ := HS3.out.2.2.1.at 0 (by simp)
                simp only [Nat.zero_mul, Nat.add_zero, List.getD_cons_zero, thOf] at y0 y1
                have zgw : gw < w3.heap.size := HS3.out.wa_lt gw ow rfl
                have HST := Lib.hid (HS3.out.below ((Below.refl _ w3).alloc (Nat.le_refl _) (.cells #[.int .i64 X1, .int .i64 X2] 45)).drew)
                have hn1 : n ≤ k + 1 := by omega
                have hW1 : (thOf (X1, X2, X3) :: W').length ≤ k + 1 := by omega
                have hpos : (0 : Int) < (W'.length : Int) + 1 := by omega
                clear b3 ho3 HS1 hST HS3 hI' hrw
                simp only [List.length_cons, Int.natCast_add, Int.cast_ofNat_Int] at *
                go_wp2_with fail
                refine Seq.start (fun _ => True) (Seq.but []) (Seq.these []) (by kernel_rfl) ?_
                refine Seq.calm (i := 0) (d := some 59) (v := ?_) rfl rfl (by kernel_rfl) (by rfl) (fun w9 => ?_) ?_
                rotate_left
                · go_simp; try with_reducible rfl
                (try simp only [Act.put, List.setIfInBounds_toArray, List.set_cons_zero, List.set_cons_succ])
                refine Seq.calm (i := 1) (d := some 60) (v := ?_) rfl rfl (by kernel_rfl) (by rfl) (fun w9 => ?_) ?_
                rotate_left
                · go_simp; try with_reducible rfl
                (try simp only [Act.put, List.setIfInBounds_toArray, List.set_cons_zero, List.set_cons_succ])
                refine Seq.calm (i := 2) (d := some 61) (v := ?_) rfl rfl (by kernel_rfl) (by rfl) (fun w9 => ?_) ?_
                rotate_left
                · go_simp; try with_reducible rfl
                (try simp only [Act.put, List.setIfInBounds_toArray, List.set_cons_zero, List.set_cons_succ])
                refine Seq.calm (i := 3) (d := some 62) (v := ?_) rfl rfl (by kernel_rfl) (by rfl) (fun w9 => ?_) ?_
                rotate_left
                · go_simp; try with_reducible rfl
                (try simp only [Act.put, List.setIfInBounds_toArray, List.set_cons_zero, List.set_cons_succ])
                refine Seq.calm (i := 4) (d := some 63) (v := ?_) rfl rfl (by kernel_rfl) (by rfl) (fun w9 => ?_) ?_
                rotate_left
                · go_simp; try with_reducible rfl
                (try simp only [Act.put, List.setIfInBounds_toArray, List.set_cons_zero, List.set_cons_succ])
                refine Seq.calm (i := 5) (d := some 64) (v := ?_) rfl rfl (by kernel_rfl) (by rfl) (fun w9 => ?_) ?_
                rotate_left
                · go_simp; try with_reducible rfl
                (try simp only [Act.put, List.setIfInBounds_toArray, List.set_cons_zero, List.set_cons_succ])
                refine Seq.calm (i := 6) (d := some 65) (v := ?_) rfl rfl (by kernel_rfl) (by rfl) (fun w9 => ?_) ?_
                rotate_left
                · go_simp; try with_reducible rfl
                (try simp only [Act.put, List.setIfInBounds_toArray, List.set_cons_zero, List.set_cons_succ])
                refine Seq.calm (i := 7) (d := some 66) (v := ?_) rfl rfl (by kernel_rfl) (by rfl) (fun w9 => ?_) ?_
                rotate_left
                · go_simp; try with_reducible rfl
                (try simp only [Act.put, List.setIfInBounds_toArray, List.set_cons_zero, List.set_cons_succ])
                refine Seq.held (i := 8) (d := some 67) (v := ?_) rfl rfl (by kernel_rfl) (by kernel_rfl) (by rfl) ?_ ?_
                rotate_left
                · go_simp; try with_reducible rfl
                (try simp only [Act.put, List.setIfInBounds_toArray, List.set_cons_zero, List.set_cons_succ])
                refine Seq.calm (i := 9) (d := some 68) (v := ?_) rfl rfl (by kernel_rfl) (by rfl) (fun w9 => ?_) ?_
                rotate_left
                · go_simp; try with_reducible rfl
                (try simp only [Act.put, List.setIfInBounds_toArray, List.set_cons_zero, List.set_cons_succ])
                refine Seq.calm (i := 10) (d := some 69) (v := ?_) rfl rfl (by kernel_rfl) (by rfl) (fun w9 => ?_) ?_
                rotate_left
                · go_simp; try with_reducible rfl
                (try simp only [Act.put, List.setIfInBounds_toArray, List.set_cons_zero, List.set_cons_succ])
                refine Seq.held (i := 11) (d := some 70) (v := ?_) rfl rfl (by kernel_rfl) (by kernel_rfl) (by rfl) ?_ ?_
                rotate_left
                · go_simp; try with_reducible rfl
                (try simp only [Act.put, List.setIfInBounds_toArray, List.set_cons_zero, List.set_cons_succ])
                refine Seq.calm (i := 12) (d := some 71) (v := ?_) rfl rfl (by kernel_rfl) (by rfl) (fun w9 => ?_) ?_
                rotate_left
                · go_simp; try with_reducible rfl
                (try simp only [Act.put, List.setIfInBounds_toArray, List.set_cons_zero, List.set_cons_succ])
                refine Seq.calm (i := 13) (d := some 72) (v := ?_) rfl rfl (by kernel_rfl) (by rfl) (fun w9 => ?_) ?_
                rotate_left
                · go_simp; try with_reducible rfl
                (try simp only [Act.put, List.setIfInBounds_toArray, List.set_cons_zero, List.set_cons_succ])
                refine Seq.calm (i := 14) (d := some 73) (v := ?_) rfl rfl (by kernel_rfl) (by rfl) (fun w9 => ?_) ?_
                rotate_left
                · go_simp; try with_reducible rfl
                (try simp only [Act.put, List.setIfInBounds_toArray, List.set_cons_zero, List.set_cons_succ])
                refine Seq.calm (i := 15) (d := some 74) (v := ?_) rfl rfl (by kernel_rfl) (by rfl) (fun w9 => ?_) ?_
                rotate_left
                · go_simp; try with_reducible rfl
                (try simp only [Act.put, List.setIfInBounds_toArray, List.set_cons_zero, List.set_cons_succ])
                refine Seq.calm (i := 16) (d := some 75) (v := ?_) rfl rfl (by kernel_rfl) (by rfl) (fun w9 => ?_) ?_
                rotate_left
                · go_simp; try with_reducible rfl
                (try simp only [Act.put, List.setIfInBounds_toArray, List.set_cons_zero, List.set_cons_succ])
                refine Seq.calm (i := 17) (d := some 76) (v := ?_) rfl rfl (by kernel_rfl) (by rfl) (fun w9 => ?_) ?_
                rotate_left
                · go_simp; try with_reducible rfl
                (try simp only [Act.put, List.setIfInBounds_toArray, List.set_cons_zero, List.set_cons_succ])
                refine Seq.calm (i := 18) (d := some 77) (v := ?_) rfl rfl (by kernel_rfl) (by rfl) (fun w9 => ?_) ?_
                rotate_left
                · go_simp; try with_reducible rfl
                (try simp only [Act.put, List.setIfInBounds_toArray, List.set_cons_zero, List.set_cons_succ])
                refine Seq.no (i := 19) (d := some 78) rfl rfl (by kernel_rfl) (by rfl) ?_
                (try simp only [Act.put, List.setIfInBounds_toArray, List.set_cons_zero, List.set_cons_succ])
                refine Seq.no (i := 20) (d := some 79) rfl rfl (by kernel_rfl) (by rfl) ?_
                (try simp only [Act.put, List.setIfInBounds_toArray, List.set_cons_zero, List.set_cons_succ])
                refine Seq.no (i := 21) (d := some 80) rfl rfl (by kernel_rfl) (by rfl) ?_
                (try simp only [Act.put, List.setIfInBounds_toArray, List.set_cons_zero, List.set_cons_succ])
                refine Seq.calm (i := 22) (d := some 81) (v := ?_) rfl rfl (by kernel_rfl) (by rfl) (fun w9 => ?_) ?_
                rotate_left
                · go_simp; try with_reducible rfl
                (try simp only [Act.put, List.setIfInBounds_toArray, List.set_cons_zero, List.set_cons_succ])
                refine Seq.calm (i := 23) (d := some 82) (v := ?_) rfl rfl (by kernel_rfl) (by rfl) (fun w9 => ?_) ?_
                rotate_left
                · go_simp; try with_reducible rfl
                (try simp only [Act.put, List.setIfInBounds_toArray, List.set_cons_zero, List.set_cons_succ])
                refine Seq.done (by kernel_rfl) ?_
                have hlw : ((X1, X2, X3) :: r).length = (thOf (X1, X2, X3) :: W').length := HST.out.2.1.len
                have Hlw := Lib.hid hlw
                clear hlw
                go_wp2_with fail
                refine (len_any _ HST.out.1).mono ?_
                rintro e wL ⟨rfl, rfl⟩
                rw [Hlw.out]
                go_wp2_with fail
                refine (all_any _ HST.out.1 (by rw [Hlw.out]; have h9 := hW1; (try simp only [List.length_cons] at h9 ⊢); omega)).mono ?_
                rintro e wA ⟨va, rfl, oa, ba⟩
                have hall := inv_all HST.out.2.1
                rw [hall] at oa
                obtain ⟨aa, ac, rfl, ra, _⟩ := RowK.own oa
                have HSA := Lib.hid (HST.out.below ba)
                have RA := Lib.hid ra
                clear oa ba ra hall
                go_wp2_with fail
                refine (same_any aa (some ⟨gw, ow, none⟩) (thOf (X1, X2, X3) :: W').length ac wc (thOf (X1, X2, X3) :: W') _ RA.out HSA.out.2.2.1 (by have h9 := hW1; (try simp only [List.length_cons] at h9 ⊢); omega)).mono ?_
                rintro e wS ⟨rfl, bs⟩
                have HSS := Lib.hid (HSA.out.below bs)
                clear bs
                go_wp2_with fail
                go_roundw
                case rel => exact ⟨k + 1, (thOf (X1, X2, X3) :: W'), ((X1, X2, X3) :: r), n, (some ⟨gw, ow, none⟩), wc, by go_num, rfl, by omega, hn1, hW1, HSS⟩
                case measure => simp [intOf]; omega
            · have e4 : (K == 4) = false := by simp [K4]
              by_cases K3 : K = 3
              · subst K3
                have hr1 := HS1.out.2.2.1
                clear K1 K2 K4
                go_wp2_with fail
                refine (rdrop_any wa W.length wc W A _ hr1 (by omega)).mono ?_
                rintro e w3 ⟨v3, rfl, o3, b3⟩
                have hlf : (filtK A W).length ≤ W.length := filtK_len W
                have hfl2 : (l.filter (nq A)).length = (filtK A W).length := by
                  have := (inv_drop hST.out.2.1 A).len
                  rw [heapF_length] at this; exact this
                obtain ⟨W4, hW4⟩ : ∃ W4, Hid (filtK A W = W4) := ⟨_, rfl⟩
                rw [hW4.out] at o3 hlf hfl2
                obtain ⟨wa4, wc4, rfl, r4, g4⟩ := RowK.own o3
                have hs3 := HS1.out.below b3
                have HS3 := Lib.hid hs3
                have HR4 := Lib.hid r4
                have HG4 := Lib.hid g4
                have ho3 := (b3.block wr.heap.size (by simp)).trans HO1.out
                have oc0 : w3.cell? ⟨wr.heap.size, 0, none⟩ = some (.int .i64 3) := by rw [cell_of_row _ _ _ _ _ _ ho3]; rfl
                have oc1 : w3.cell? ⟨wr.heap.size, 1, none⟩ = some (.int .i64 A) := by rw [cell_of_row _ _ _ _ _ _ ho3]; rfl
                have zo : wr.heap.size < w3.heap.size := by have := b3.size; simp at this; omega
                have hqo : wr.heap.size ≠ q := by have := hST.out.1.lt; omega
                have hro : ∀ v0 (n0 : Int), w3.heap[q]? = some (.cells #[.func (.func 19) #[] #[], v0, .int .i64 n0] 76 (0, 0)) → v0.ownBlock ≠ some wr.heap.size := fun v0 n0 h0 => by
                  refine hST.out.row_ne v0 n0 ?_ _ (Nat.le_refl _)
                  have hqw := hST.out.1.lt
                  have b1 := (Below.refl wr.heap.size wr).alloc (Nat.le_refl _) (.cells #[.int .i64 3, .int .i64 A] 49)
                  rw [← b1.block q hqw, ← b3.block q (by simp; omega)]; exact h0
                have HRO := Lib.hid hro
                have hbs : Hid (w3.heap.size = w3.heap.size) := rfl
                have Hfl2 := Lib.hid hfl2
                have HAP := Lib.hid (new_apart HS1.out.1 HS1.out.2.2.2.2.2 b3 g4)
                have HI3 := Lib.hid (inv_drop hST.out.2.1 A)
                rw [hW4.out] at HI3
                have HB3 := Lib.hid hs3.2.2.2.2.1
                have hl0 := hST.out.2.1.len
                have Hl0 := Lib.hid hl0
                have HG0 : Hid (∀ g off, wa4 = some ⟨g, off, none⟩ → wr.heap.size + 1 ≤ g) := fun g off e => by have := g4 g off e; simpa using this
                clear o3 b3 r4 g4 hs3 ho3 hr1 hro hl0 hfl2 HS1
                go_wp2_with fail
                refine (drop_any (a := A) _ HS3.out.1 HS3.out.2.2.2.2.2 oc1 hqo HRO.out).mono ?_
                rintro e w4 ⟨rfl, h4, d4, k4⟩
                rw [Hl0.out, Hfl2.out]
                obtain ⟨r5, a5⟩ := keep_row HS3.out.1 HR4.out HAP.out k4 d4.size
                obtain ⟨l4, hl4⟩ : ∃ l4, Hid (heapF ltT (l.filter (nq A)) (l.filter (nq A)).length = l4) := ⟨_, rfl⟩
                rw [hl4.out] at h4 HI3
                have hst4 : St w w4 B q l4 W4 n wa4 wc4 := ⟨h4, HI3.out, r5, a5, HB3.out.trans d4, by have := d4.size; have := HS3.out.2.2.2.2.2; omega⟩
                have HST := Lib.hid hst4
                have hn1 : n ≤ k + 1 := by omega
                have hW1 : W4.length ≤ k + 1 := by omega
                clear r5 a5 hl4 h4 d4 k4 hst4 HI3 HS3 HR4 HAP HB3 hST oc0 oc1 HRO HG4 HG0 hW4 hbs
                have hlw : l4.length = W4.length := HST.out.2.1.len
                have Hlw := Lib.hid hlw
                clear hlw
                go_wp2_with fail
                refine (len_any _ HST.out.1).mono ?_
                rintro e wL ⟨rfl, rfl⟩
                rw [Hlw.out]
                go_wp2_with fail
                refine (all_any _ HST.out.1 (by rw [Hlw.out]; have h9 := hW1; (try simp only [List.length_cons] at h9 ⊢); omega)).mono ?_
                rintro e wA ⟨va, rfl, oa, ba⟩
                have hall := inv_all HST.out.2.1
                rw [hall] at oa
                obtain ⟨aa, ac, rfl, ra, _⟩ := RowK.own oa
                have HSA := Lib.hid (HST.out.below ba)
                have RA := Lib.hid ra
                clear oa ba ra hall
                go_wp2_with fail
                refine (same_any aa wa4 W4.length ac wc4 W4 _ RA.out HSA.out.2.2.1 (by have h9 := hW1; (try simp only [List.length_cons] at h9 ⊢); omega)).mono ?_
                rintro e wS ⟨rfl, bs⟩
                have HSS := Lib.hid (HSA.out.below bs)
                clear bs
                go_wp2_with fail
                go_roundw
                case rel => exact ⟨k + 1, W4, l4, n, wa4, wc4, by go_num, rfl, by omega, hn1, hW1, HSS⟩
                case measure => simp [intOf]; omega
              · have e3 : (K == 3) = false := by simp [K3]
                have HST := HS1
                have hn1 : n ≤ k + 1 := by omega
                have hW1 : W.length ≤ k + 1 := by omega
                clear K1 K2 K3 K4 HS1 hST
                have hlw : l.length = W.length := HST.out.2.1.len
                have Hlw := Lib.hid hlw
                clear hlw
                go_wp2_with fail
                refine (len_any _ HST.out.1).mono ?_
                rintro e wL ⟨rfl, rfl⟩
                rw [Hlw.out]
                go_wp2_with fail
                refine (all_any _ HST.out.1 (by rw [Hlw.out]; have h9 := hW1; (try simp only [List.length_cons] at h9 ⊢); omega)).mono ?_
                rintro e wA ⟨va, rfl, oa, ba⟩
                have hall := inv_all HST.out.2.1
                rw [hall] at oa
                obtain ⟨aa, ac, rfl, ra, _⟩ := RowK.own oa
                have HSA := Lib.hid (HST.out.below ba)
                have RA := Lib.hid ra
                clear oa ba ra hall
                go_wp2_with fail
                refine (same_any aa wa W.length ac wc W _ RA.out HSA.out.2.2.1 (by have h9 := hW1; (try simp only [List.length_cons] at h9 ⊢); omega)).mono ?_
                rintro e wS ⟨rfl, bs⟩
                have HSS := Lib.hid (HSA.out.below bs)
                clear bs
                go_wp2_with fail
                go_roundw
                case rel => exact ⟨k + 1, W, l, n, wa, wc, by go_num, rfl, by omega, hn1, hW1, HSS⟩
                case measure => simp [intOf]; omega
      · obtain rfl : k = len := by omega
        go_wp2_with fail
        go_ret
        exact ⟨rfl, hST.out.2.2.2.2.1⟩
end Go.Proofs.Yteclijealbdhnaa
