/- The coins by which another secret has the same shares for some. -/
import Derived.Test.YtieiaoknbnkjpaaFTurn
import Derived.Test.YtieiaoknbnkjpaaFClone
import Derived.Test.YtieiaoknbnkjpaaRf2
import Derived.Outline
namespace Go.Proofs.Ytieiaoknbnkjpaa.Rf
open Go.RowKit Go.Proofs.YtieiaoknbnkjpaaW.PrintWords Go.Proofs.YtieiaoknbnkjpaaW.PrintLast Go.Proofs.YtieiaoknbnkjpaaW.PrintMore

/-- Byte by byte: t times the difference is added, each in its own m places. -/
def remapL (m : Nat) (t : List UInt8) : List UInt8 → Nat → List UInt8 → List UInt8
  | out, _, [] => out
  | out, i, d :: ds => remapL m t (Gf.xorAt out (i * m) (t.map fun c => Gf.mul c d)) (i + 1) ds
theorem remapL_snoc (m : Nat) (t : List UInt8) : ∀ (ds out : List UInt8) (i : Nat) (d : UInt8), remapL m t out i (ds ++ [d]) = Gf.xorAt (remapL m t out i ds) ((i + ds.length) * m) (t.map fun c => Gf.mul c d)
  | [], _, _, _ => rfl
  | e :: ds, out, i, d => by
    rw [List.cons_append, remapL, remapL_snoc m t ds, remapL, List.length_cons, show i + 1 + ds.length = i + (ds.length + 1) by omega]
theorem remapL_length (m : Nat) (t : List UInt8) : ∀ (ds out : List UInt8) (i : Nat), (remapL m t out i ds).length = out.length
  | [], _, _ => rfl
  | e :: ds, out, i => by rw [remapL, remapL_length m t ds, Gf.xorAt_length]
def diffs (a b : List UInt8) : List UInt8 := List.zipWith (· ^^^ ·) a b
theorem diffs_take {a b : List UInt8} (h : a.length = b.length) {k : Nat} (hk : k < a.length) : (diffs a b).take (k + 1) = (diffs a b).take k ++ [a.getD k 0 ^^^ b.getD k 0] := by
  have hl : (diffs a b).length = a.length := by simp [diffs]; omega
  rw [List.take_succ_eq_append_getElem (by omega)]
  congr 2
  simp only [diffs, List.getElem_zipWith]
  rw [List.getD_eq_getElem?_getD, List.getD_eq_getElem?_getD, List.getElem?_eq_getElem hk, List.getElem?_eq_getElem (by omega)]
  rfl
/-- Where a thing fits. -/
def fits (l1 l2 l3 t : List Int) (a4 : Int) : Prop := l3.length < 1000000 ∧ Bytes l1 ∧ Bytes l2 ∧ Bytes l3 ∧ Bytes t ∧ 1 ≤ t.length ∧ (t.length : Int) ≤ a4 ∧ (l3.length : Int) = l1.length * (a4 - 1)
instance (l1 l2 l3 t : List Int) (a4 : Int) : Decidable (fits l1 l2 l3 t a4) := by unfold fits; infer_instance
def remapI (l1 l2 l3 t : List Int) (a4 : Int) : List Int := bs (remapL (a4.toNat - 1) ((toU t).drop 1) (toU l3) 0 (diffs (toU l1) (toU l2)))
def blind_Remap.f (k p : Nat) (l1 l2 l3 : List Int) (a4 : Int) (l5 : List Int) : Option (List Int × Int) :=
  if a4 < 1 then some ([], 1) else if 200 < a4 then some ([], 1) else if a4 ≤ (l5.length : Int) then some ([], 1) else
  if ¬ (l1.length : Int) = (l2.length : Int) then some ([], 1) else if 4096 < (l1.length : Int) then some ([], 1) else
  (shamir_Coins.f (l1.length : Int) a4).bind fun c => if ¬ (l3.length : Int) = c then some ([], 1) else
  (blind_turning.f k p l5).bind fun te => if ¬ te.2 = 0 then some ([], te.2) else
  if fits l1 l2 l3 te.1 a4 then some (remapI l1 l2 l3 te.1 a4, 0) else none
theorem blind_Remap.mono : ∀ a0 a1 a2 a3 a4 a5 k, LeO (blind_Remap.f k a0 a1 a2 a3 a4 a5) (blind_Remap.f (k + 1) a0 a1 a2 a3 a4 a5) := by
  intro a0 a1 a2 a3 a4 a5 k
  unfold blind_Remap.f
  repeat' first
    | (with_reducible exact blind_turning.mono _ _ _)
    | (with_reducible exact LeO.refl _)
    | (with_reducible refine LeO.ite ?_ ?_)
    | (with_reducible refine LeO.bind ?_ (fun _ => ?_))
set_option maxRecDepth 100000 in
set_option maxHeartbeats 8000000 in
theorem blind_Remap.calls (k : Nat) (a0 : Nat) (A1 : Option Addr) (c1 : Nat) (l1 : List Int) (A2 : Option Addr) (c2 : Nat) (l2 : List Int) (A3 : Option Addr) (c3 : Nat) (l3 : List Int) (a4 : Int) (A5 : Option Addr) (c5 : Nat) (l5 : List Int) (r1 : List Int) (r2 : Int) (w : World)
    (hF0 : Fld w a0) (hr1 : Kd.C (Kd.int .u8) w A1 l1.length l1) (hc1 : l1.length ≤ c1) (hr2 : Kd.C (Kd.int .u8) w A2 l2.length l2) (hc2 : l2.length ≤ c2) (hr3 : Kd.C (Kd.int .u8) w A3 l3.length l3) (hc3 : l3.length ≤ c3) (hr5 : Kd.C (Kd.int .i64) w A5 l5.length l5) (hc5 : l5.length ≤ c5) (h : blind_Remap.f k a0 l1 l2 l3 a4 l5 = some (r1, r2)) :
    Calls Try.prog 8 #[.pointer (some ⟨a0, 0, none⟩), .slice A1 l1.length c1, .slice A2 l2.length c2, .slice A3 l3.length c3, .int .i64 a4, .slice A5 l5.length c5] w fun e w' => ∃ v0_ : Value, e = .returned (.tuple #[v0_, .int .i64 r2]) ∧ Kd.R (Kd.int .u8) 5 w' w.heap.size (fun _ => True) v0_ r1 ∧ Below w.heap.size w w' := by
  have HF := Aside0.mk hF0
  have HR1 := Aside0.mk hr1
  have HR2 := Aside0.mk hr2
  have HR3 := Aside0.mk hr3
  have HR5 := Aside0.mk hr5
  have HC3 := Aside0.mk hc3
  have HC5 := Aside0.mk hc5
  have hm1 : l1.length ≤ 9223372036854775807 := hr1.2.1
  clear hF0 hr1 hr2 hr3 hr5 hc3 hc5 hc1 hc2
  unfold blind_Remap.f at h
  split at h
  · rename_i x1
    obtain ⟨rfl, rfl⟩ : [] = r1 ∧ 1 = r2 := by simpa using h
    clear h
    go_enter Try.func8, Try.ntmps8
    go_wp2_with fail
    go_ret2
    exact ⟨_, rfl, Kd.R_nil _ _ _ _ _, Below.refl _ _⟩
  rename_i x1
  have d1 : decide (a4 < 1) = false := decide_eq_false x1
  split at h
  · rename_i x2
    obtain ⟨rfl, rfl⟩ : [] = r1 ∧ 1 = r2 := by simpa using h
    clear h x1
    go_enter Try.func8, Try.ntmps8
    go_wp2_with fail
    go_ret2
    exact ⟨_, rfl, Kd.R_nil _ _ _ _ _, Below.refl _ _⟩
  rename_i x2
  have d2 : decide (200 < a4) = false := decide_eq_false x2
  split at h
  · rename_i x3
    obtain ⟨rfl, rfl⟩ : [] = r1 ∧ 1 = r2 := by simpa using h
    clear h x1 x2
    go_enter Try.func8, Try.ntmps8
    go_wp2_with fail
    go_ret2
    exact ⟨_, rfl, Kd.R_nil _ _ _ _ _, Below.refl _ _⟩
  rename_i x3
  have d3 : decide (a4 ≤ (l5.length : Int)) = false := decide_eq_false x3
  have n1 : (1 : Int) ≤ a4 := by omega
  have n2 : a4 ≤ 200 := by omega
  clear x1 x2 x3
  split at h
  · rename_i x4
    obtain ⟨rfl, rfl⟩ : [] = r1 ∧ 1 = r2 := by simpa using h
    have d4 : ((l1.length : Int) == (l2.length : Int)) = false := beq_eq_false_iff_ne.2 x4
    have d5 : (l1.length == l2.length) = false := beq_eq_false_iff_ne.2 (by omega)
    have d6 : ((l1.length : Int) != (l2.length : Int)) = true := by rw [bne_iff_ne]; exact x4
    clear h
    go_enter Try.func8, Try.ntmps8
    go_wp2_with fail
    go_ret2
    exact ⟨_, rfl, Kd.R_nil _ _ _ _ _, Below.refl _ _⟩
  rename_i x4
  have hl12 : l1.length = l2.length := by omega
  have d4 : ((l1.length : Int) == (l2.length : Int)) = true := beq_iff_eq.2 (by omega)
  have d5 : (l1.length == l2.length) = true := beq_iff_eq.2 hl12
  have d6 : ((l1.length : Int) != (l2.length : Int)) = false := by rw [bne_eq_false_iff_eq]; omega
  have HL12 := Aside0.mk hl12
  clear x4 hl12
  split at h
  · rename_i x5
    obtain ⟨rfl, rfl⟩ : [] = r1 ∧ 1 = r2 := by simpa using h
    have d7 : decide (4096 < l1.length) = true := by simp; omega
    clear h
    go_enter Try.func8, Try.ntmps8
    go_wp2_with fail
    go_ret2
    exact ⟨_, rfl, Kd.R_nil _ _ _ _ _, Below.refl _ _⟩
  rename_i x5
  have n3 : l1.length ≤ 4096 := by omega
  have d7 : decide (4096 < l1.length) = false := by simp; omega
  have d8 : decide (4096 < (l1.length : Int)) = false := decide_eq_false x5
  clear x5
  obtain ⟨cc, hcc, h⟩ := Option.bind_eq_some_iff.1 h
  have HCC := Aside0.mk hcc
  clear hcc
  split at h
  · rename_i x6
    obtain ⟨rfl, rfl⟩ : [] = r1 ∧ 1 = r2 := by simpa using h
    have d9 : ((l3.length : Int) == cc) = false := beq_eq_false_iff_ne.2 x6
    have d10 : ((l3.length : Int) != cc) = true := by rw [bne_iff_ne]; exact x6
    clear h
    go_enter Try.func8, Try.ntmps8
    go_wp2_with (go_at_call 18; refine (shamir_Coins.calls _ _ _ _ HCC.out).mono ?_; rintro e w' ⟨rfl, ⟨nd, rfl⟩⟩)
    go_ret2
    exact ⟨_, rfl, Kd.R_nil _ _ _ _ _, pw_below_drewN (Below.refl _ _) _⟩
  rename_i x6
  obtain rfl : (l3.length : Int) = cc := by omega
  clear x6
  obtain ⟨⟨t, te⟩, hte, h⟩ := Option.bind_eq_some_iff.1 h
  have HTE := Aside0.mk hte
  clear hte
  dsimp only at h
  split at h
  · rename_i x7
    obtain ⟨rfl, rfl⟩ : [] = r1 ∧ te = r2 := by simpa using h
    have d11 : (te == 0) = false := beq_eq_false_iff_ne.2 x7
    have d12 : (te != 0) = true := by rw [bne_iff_ne]; exact x7
    have d13 : ((l3.length : Int) == (l3.length : Int)) = true := beq_self_eq_true _
    clear h x7
    go_enter Try.func8, Try.ntmps8
    go_wp2_with (first | (go_at_call 18; refine (shamir_Coins.calls _ _ _ _ HCC.out).mono ?_; rintro e w' ⟨rfl, ⟨nd, rfl⟩⟩) | (go_at_call 19; refine (blind_turning.calls k a0 _ _ l5 t te _ (HF.out.below (pw_below_drewN (Below.refl _ _) _)) (Kd.C_drewN HR5.out _) HC5.out HTE.out).mono ?_; rintro e w5 ⟨v5, rfl, ho, hb⟩; have HB := Aside0.mk (below_then (B := w.heap.size) (pw_below_drewN (Below.refl w.heap.size w) nd) (Nat.le_refl _) hb); clear ho hb))
    go_ret2
    exact ⟨_, rfl, Kd.R_nil _ _ _ _ _, HB.out⟩
  rename_i x7
  obtain rfl : te = 0 := by omega
  clear x7
  split at h
  case isFalse => cases h
  rename_i hf
  obtain ⟨f1, f2, f3, f4, f5, f6, f7, f8⟩ := hf
  obtain ⟨s, rfl⟩ : ∃ s, l1 = bs s := ⟨toU l1, (bs_toU f2).symm⟩
  obtain ⟨o, rfl⟩ : ∃ s, l2 = bs s := ⟨toU l2, (bs_toU f3).symm⟩
  obtain ⟨cs, rfl⟩ : ∃ s, l3 = bs s := ⟨toU l3, (bs_toU f4).symm⟩
  obtain ⟨tt, rfl⟩ : ∃ s, t = bs s := ⟨toU t, (bs_toU f5).symm⟩
  obtain ⟨t0, tl, rfl⟩ : ∃ t0 tl, tt = t0 :: tl := by
    cases tt with
    | nil => simp [bs] at f6
    | cons t0 tl => exact ⟨t0, tl, rfl⟩
  obtain ⟨m, rfl⟩ : ∃ m : Nat, a4 = (m : Int) + 1 := ⟨a4.toNat - 1, by omega⟩
  have hh : remapL m tl cs 0 (diffs s o) = remapL (((m : Int) + 1).toNat - 1) ((toU (bs (t0 :: tl))).drop 1) (toU (bs cs)) 0 (diffs (toU (bs s)) (toU (bs o))) := by
    rw [toU_bs, toU_bs, toU_bs, toU_bs, show ((m : Int) + 1).toNat - 1 = m by omega]; rfl
  obtain ⟨rfl, rfl⟩ : bs (remapL m tl cs 0 (diffs s o)) = r1 ∧ 0 = r2 := by
    rw [hh]
    unfold remapI at h
    simpa using h
  clear h hh f2 f3 f4 f5
  simp only [bs_length] at *
  have hso : s.length = o.length := HL12.out
  have hcm : cs.length = s.length * m := by
    have : (cs.length : Int) = s.length * m := by rw [f8]; congr 1; omega
    exact_mod_cast this
  have HCM := Aside0.mk hcm
  have HF7 := Aside0.mk f7
  have HF6 := Aside0.mk f6
  have HF1 := Aside0.mk f1
  have d13 : ((cs.length : Int) == (cs.length : Int)) = true := beq_self_eq_true _
  clear hcm f1 f6 f7 f8 hso
  have cl := fun W (hw : Below w.heap.size w W) => bytes_Clone.calls A3 c3 (bs cs) (bs cs) W (by rw [bs_length]; exact Kd.C_below HR3.out hw) (by rw [bs_length]; exact HC3.out) (by unfold bytes_Clone.f; rw [if_pos (by rw [bs_length]; have := HF1.out; omega)])
  rw [bs_length] at cl
  have CL := Aside0.mk cl
  clear cl
  go_enter Try.func8, Try.ntmps8
  go_wp2_with (first | (go_at_call 18; refine (shamir_Coins.calls _ _ _ _ HCC.out).mono ?_; rintro e w' ⟨rfl, ⟨nd, rfl⟩⟩) | (go_at_call 19; refine (blind_turning.calls k a0 _ _ l5 (bs (t0 :: tl)) 0 _ (HF.out.below (pw_below_drewN (Below.refl _ _) _)) (Kd.C_drewN HR5.out _) HC5.out HTE.out).mono ?_; rintro e w5 ⟨v5, rfl, ho, hb⟩; have HB := Aside0.mk (below_then (B := w.heap.size) (pw_below_drewN (Below.refl w.heap.size w) nd) (Nat.le_refl _) hb); have HT := Aside0.mk (Kd.R_lower ho (Nat.le_refl w.heap.size)); clear ho hb) | (go_at_call 20; refine (CL.out _ HB.out).mono ?_; rintro e w6 ⟨v6, rfl, ho, hb⟩; have HT1 := Aside0.mk (Kd.R_elder' HT.out (Kd.R_base ho) hb); have HO := Aside0.mk (Kd.R_lower ho HB.out.size); have HB1 := Aside0.mk (HB.out.trans (hb.mono HB.out.size)); clear ho hb HT HB))
  obtain ⟨Ao, co, eo⟩ := Kd.R_slice HO.out
  rw [bs_length] at eo
  subst eo
  obtain ⟨At, ct, eT, hct, _⟩ := Kd.R_reads HT1.out
  rw [bs_length, List.length_cons] at eT
  subst eT
  obtain ⟨i05, hi05, hj5, hsz5, hk5⟩ := info_parts info5
  obtain ⟨A', hcut0, hA0⟩ := print_cut_of (P := Try.prog) (Value.int .u8) 0 22 5 .i64 Try.underlying22 hi05 hsz5 At (tl.length + 1) ct 1 (by omega)
  have hcut : ∀ W : World, (Instr.slice 22 (.slice At (tl.length + 1) ct) (some (.int .i64 1)) none none).run Try.prog W = .ok (.slice A' tl.length (ct - 1)) W := fun W => by simpa using hcut0 W
  have HCUT := Aside0.mk (fun (W : World) (h : Kd.R (Kd.int .u8) 5 W w.heap.size (fun k => True ∧ some k ≠ (Value.slice Ao cs.length co).ownBlock) (.slice At (tl.length + 1) ct) (bs (t0 :: tl))) =>
    Kd.C_of_reads (h1 := fun _ => rfl) (hA0 W (bs (t0 :: tl)) (by rw [bs_length, List.length_cons] at hct; exact hct) (by
      have := Kd.reads_of_C (d := (0 : Int)) (Kd.R_reads' h).2.2
      rw [bs_length, List.length_cons] at this
      exact this)))
  clear hcut0 hA0 hi05 hsz5 hct hj5 hk5 i05
  go_loopw [61] (fun j wr => ∃ (i : Nat), i ≤ s.length ∧ j = .int .i64 i ∧ Aside0 (Kd.R (Kd.int .u8) 5 wr w.heap.size (fun _ => True) (.slice Ao cs.length co) (bs (remapL m tl cs 0 ((diffs s o).take i)))) ∧ Aside0 (Kd.R (Kd.int .u8) 5 wr w.heap.size (fun k => True ∧ some k ≠ (Value.slice Ao cs.length co).ownBlock) (.slice At (tl.length + 1) ct) (bs (t0 :: tl))) ∧ Aside0 (Below w.heap.size w wr)) (fun j _ => s.length - (intOf j).toNat)
  case atStart => exact ⟨0, Nat.zero_le _, rfl, ⟨by simpa [remapL] using HO.out⟩, HT1, HB1⟩
  case round =>
    clear HO HT1 HB1
    obtain ⟨i, hi, rfl, hO, hT, hB⟩ := hrel
    by_cases hlt : i < s.length
    · have i1 : (i : Int) < (s.length : Int) := by omega
      have i0 : (0 : Int) ≤ (i : Int) := by omega
      have i2 : (i : Int) < (o.length : Int) := by have := HL12.out; omega
      have cur1 := HR1.out
      have cur2 := HR2.out
      obtain ⟨ad1, e1, x0⟩ := Kd.at_int cur1 (i : Int) i0 i1
      obtain ⟨ad2, e2, y0⟩ := Kd.at_int cur2 (i : Int) i0 i2
      subst e1
      subst e2
      replace x0 := (hB.out.cell (World.block_lt_of_cell? w _ x0)).trans x0
      replace y0 := (hB.out.cell (World.block_lt_of_cell? w _ y0)).trans y0
      rw [rd_bs] at x0 y0
      simp only [Int.toNat_natCast] at x0 y0
      obtain ⟨x, hx⟩ : ∃ x, Aside0 (s.getD i 0 = x) := ⟨_, ⟨rfl⟩⟩
      obtain ⟨y, hy⟩ : ∃ x, Aside0 (o.getD i 0 = x) := ⟨_, ⟨rfl⟩⟩
      rw [hx.out] at x0
      rw [hy.out] at y0
      have GA := Aside0.mk (fun W => gf_Add.calls (uI x) (uI y) _ W (gf_Add_u x y))
      obtain ⟨d, hd⟩ : ∃ d, Aside0 (x ^^^ y = d) := ⟨_, ⟨rfl⟩⟩
      rw [hd.out] at GA
      clear cur1 cur2
      go_wp2_with (go_at_call 21; refine (GA.out _).mono ?_; rintro e w' ⟨rfl, ⟨nd, rfl⟩⟩)
      have O1 := Aside0.mk (Kd.R_drewN hO.out nd)
      have T1 := Aside0.mk (Kd.R_drewN hT.out nd)
      have B1 := Aside0.mk (pw_below_drewN hB.out nd)
      have hin : ∀ q, q < tl.length → i * m + q < cs.length := fun q hq => by
        have h1 : (i + 1) * m ≤ s.length * m := Nat.mul_le_mul_right _ (by omega)
        have h2 := HF7.out
        have h3 := HCM.out
        rw [Nat.add_mul] at h1
        simp only [List.length_cons] at h2
        omega
      obtain ⟨b, hb⟩ : ∃ b, Aside0 (i * m = b) := ⟨_, ⟨rfl⟩⟩
      have hbI : (i : Int) * (m : Int) = (b : Int) := by rw [← hb.out]; simp
      have HIN := Aside0.mk (hb.out ▸ hin)
      have hcl : cs.length < 1000000 := HF1.out
      have HD := Aside0.mk (hd.out ▸ hx.out ▸ hy.out ▸ diffs_take HL12.out hlt)
      obtain ⟨OUT, hOUT⟩ : ∃ OUT, Aside0 (remapL m tl cs 0 ((diffs s o).take i) = OUT) := ⟨_, ⟨rfl⟩⟩
      have HOL := Aside0.mk (show OUT.length = cs.length from by rw [← hOUT.out, remapL_length])
      rw [hOUT.out] at O1
      clear hin x0 y0 hO hT hB
      generalize wr.drewN nd = wr1 at *
      go_loopw [75] (fun j wq => ∃ (q : Nat), q ≤ tl.length ∧ j = .int .i64 q ∧ Aside0 (Kd.R (Kd.int .u8) 5 wq w.heap.size (fun _ => True) (.slice Ao cs.length co) (bs (Gf.xorAt OUT b ((tl.take q).map fun c => Gf.mul c d)))) ∧ Aside0 (Kd.R (Kd.int .u8) 5 wq w.heap.size (fun k => True ∧ some k ≠ (Value.slice Ao cs.length co).ownBlock) (.slice At (tl.length + 1) ct) (bs (t0 :: tl))) ∧ Aside0 (Below w.heap.size w wq)) (fun j _ => tl.length - (intOf j).toNat)
      case atStart => exact ⟨0, Nat.zero_le _, rfl, ⟨by simpa [Gf.xorAt] using O1.out⟩, T1, B1⟩
      case round =>
        clear O1 T1 B1
        obtain ⟨q, hq, rfl, hO, hT, hB⟩ := hrel
        by_cases hqt : q < tl.length
        · have q1 : (q : Int) < (tl.length : Int) := by omega
          have q0 : (0 : Int) ≤ (q : Int) := by omega
          have hcx := HCUT.out _ hT.out
          obtain ⟨adt, eat, z0⟩ := Kd.at_int hcx (q : Int) q0 q1
          subst eat
          rw [show List.drop 1 (bs (t0 :: tl)) = bs tl from rfl, rd_bs] at z0
          simp only [Int.toNat_natCast] at z0
          obtain ⟨c, hc⟩ : ∃ c, Aside0 (tl.getD q 0 = c) := ⟨_, ⟨rfl⟩⟩
          rw [hc.out] at z0
          obtain ⟨L, hL⟩ : ∃ L, Aside0 (Gf.xorAt OUT b ((tl.take q).map fun c => Gf.mul c d) = L) := ⟨_, ⟨rfl⟩⟩
          rw [hL.out] at hO
          have hLl : L.length = cs.length := by rw [← hL.out, Gf.xorAt_length]; exact HOL.out
          have hbq := HIN.out q hqt
          obtain ⟨g, co2, eg, gb, gl, cells, hcells⟩ := Kd.R_form hO.out (by rw [bs_length]; omega)
          injection eg with eg1 eg2 eg3
          subst eg1
          subst eg3
          have GB := Aside0.mk gb
          obtain ⟨v0, vf⟩ := Kd.R_celln 0 hO.out ((b + q : Nat) : Int) (by omega) (by omega)
          have hput := fun N u => Kd.R_putg (Kd.R_drewN hO.out N) ((b + q : Nat) : Int) u
          simp only [Int.toNat_natCast] at v0 vf hput
          have v1 : wr.cell? ⟨g, b + q, none⟩ = some (.int .u8 (uI (L.getD (b + q) 0))) := by
            rw [v0]
            show some (Value.int .u8 (rd (bs L) ((b + q : Nat) : Int))) = _
            rw [rd_bs, Int.toNat_natCast]
          obtain ⟨e, he⟩ : ∃ c, Aside0 (L.getD (b + q) 0 = c) := ⟨_, ⟨rfl⟩⟩
          rw [he.out] at v1
          have M1 := Aside0.mk (fun W hF => gf_Mul.calls a0 (uI c) (uI d) _ W hF (gf_Mul_u a0 c d))
          have A1 := Aside0.mk (fun W => gf_Add.calls (uI e) (uI (Gf.mul c d)) _ W (gf_Add_u e (Gf.mul c d)))
          have HPUT := Aside0.mk hput
          have HLL := Aside0.mk hLl
          have p1 : b + q < cs.length := hbq
          have p2 : (b : Int) + (q : Int) < (cs.length : Int) := by omega
          have p3 : IntKind.i64.wrap ((b : Int) + (q : Int)) = (b : Int) + (q : Int) := IntWalk.i64_in _ (by omega)
          have p4 : (0 : Int) ≤ (b : Int) + (q : Int) := by omega
          have p5 : ((b : Int) + (q : Int)).toNat = b + q := by omega
          have bb : b < 1000000 := by omega
          clear v0 hput hLl gb gl hcells eg2 hbq
          go_wp2_with fail
          refine Seq.start (fun W => W.cell? ⟨g, b + q, none⟩ = some (.int .u8 (uI e))) (Seq.but [9, 10, 12]) (Seq.these [9]) (by kernel_rfl) ?_
          refine Seq.calm (i := 0) (d := some 86) (v := ?_) rfl rfl (by kernel_rfl) (by rfl) (fun w9 => ?_) ?_
          rotate_left
          · go_simp; try with_reducible rfl
          (try simp only [Act.put, List.setIfInBounds_toArray, List.set_cons_zero, List.set_cons_succ])
          refine Seq.calm (i := 1) (d := some 87) (v := ?_) rfl rfl (by kernel_rfl) (by rfl) (fun w9 => ?_) ?_
          rotate_left
          · go_simp; try with_reducible rfl
          (try simp only [Act.put, List.setIfInBounds_toArray, List.set_cons_zero, List.set_cons_succ])
          refine Seq.calm (i := 2) (d := some 88) (v := ?_) rfl rfl (by kernel_rfl) (by rfl) (fun w9 => ?_) ?_
          rotate_left
          · go_simp; try with_reducible rfl
          (try simp only [Act.put, List.setIfInBounds_toArray, List.set_cons_zero, List.set_cons_succ])
          refine Seq.calm (i := 3) (d := some 89) (v := ?_) rfl rfl (by kernel_rfl) (by rfl) (fun w9 => ?_) ?_
          rotate_left
          · go_simp; try with_reducible rfl
          (try simp only [Act.put, List.setIfInBounds_toArray, List.set_cons_zero, List.set_cons_succ])
          refine Seq.calm (i := 4) (d := some 90) (v := ?_) rfl rfl (by kernel_rfl) (by rfl) (fun w9 => ?_) ?_
          rotate_left
          · go_simp; try with_reducible rfl
          (try simp only [Act.put, List.setIfInBounds_toArray, List.set_cons_zero, List.set_cons_succ])
          refine Seq.yes (i := 5) (d := some 91) (v := ?_) rfl rfl (by kernel_rfl) (by kernel_rfl) (by rfl) (fun w9 hS9 => ?_) ?_ ?_
          rotate_left
          · (try dsimp only at hS9); go_simp; try with_reducible rfl
          · (try dsimp only); exact v1
          (try simp only [Act.put, List.setIfInBounds_toArray, List.set_cons_zero, List.set_cons_succ])
          refine Seq.calm (i := 6) (d := some 92) (v := ?_) rfl rfl (by kernel_rfl) (by rfl) (fun w9 => ?_) ?_
          rotate_left
          · go_simp; try with_reducible rfl
          (try simp only [Act.put, List.setIfInBounds_toArray, List.set_cons_zero, List.set_cons_succ])
          refine Seq.calm (i := 7) (d := some 93) (v := ?_) rfl rfl (by kernel_rfl) (by rfl) (fun w9 => ?_) ?_
          rotate_left
          · go_simp; try with_reducible rfl
          (try simp only [Act.put, List.setIfInBounds_toArray, List.set_cons_zero, List.set_cons_succ])
          refine Seq.calm (i := 8) (d := some 94) (v := ?_) rfl rfl (by kernel_rfl) (by rfl) (fun w9 => ?_) ?_
          rotate_left
          · go_simp; try with_reducible rfl
          (try simp only [Act.put, List.setIfInBounds_toArray, List.set_cons_zero, List.set_cons_succ])
          refine Seq.keep (i := 9) rfl (by kernel_rfl) (by kernel_rfl) (by rfl) (fun K9 hK9 => ?_)
          go_simp
          (with_reducible refine (M1.out _ (HF.out.below hB.out.drew)).mono ?_)
          rintro e1 w5 ⟨rfl, ⟨n1, rfl⟩⟩
          refine hK9.out _ _ ?_ (fun hS => ?_)
          · (try dsimp only); exact v1
          clear hK9 K9
          (try simp only [Act.put, List.setIfInBounds_toArray, List.set_cons_zero, List.set_cons_succ])
          refine Seq.drop (i := 10) rfl (by kernel_rfl) (by kernel_rfl) (by rfl) (fun K9 hK9 => ?_)
          go_simp
          (with_reducible refine (A1.out _).mono ?_)
          rintro e1 w5 ⟨rfl, ⟨n2, rfl⟩⟩
          refine hK9.out _ _ ?_
          clear hK9 K9
          (try simp only [Act.put, List.setIfInBounds_toArray, List.set_cons_zero, List.set_cons_succ])
          refine Seq.calm (i := 11) (d := some 97) (v := ?_) rfl rfl (by kernel_rfl) (by rfl) (fun w9 => ?_) ?_
          rotate_left
          · go_simp; try with_reducible rfl
          (try simp only [Act.put, List.setIfInBounds_toArray, List.set_cons_zero, List.set_cons_succ])
          refine Seq.drop (i := 12) rfl (by kernel_rfl) (by kernel_rfl) (by rfl) (fun K9 hK9 => ?_)
          go_simp
          refine hK9.out _ _ ?_
          clear hK9 K9
          (try simp only [Act.put, List.setIfInBounds_toArray, List.set_cons_zero, List.set_cons_succ])
          refine Seq.done (by kernel_rfl) ?_
          clear p2 p3 p4 p5
          go_wp2_with fail
          go_roundw
          case rel =>
            refine ⟨q + 1, by omega, by go_num, ⟨?_⟩, ⟨?_⟩, ⟨?_⟩⟩
            · have h1 : Gf.xorAt OUT b ((tl.take (q + 1)).map fun c => Gf.mul c d) = L.set (b + q) (e ^^^ Gf.mul c d) := by
                rw [List.take_succ_eq_append_getElem hqt, List.map_append, List.map_cons, List.map_nil, Gf.xorAt_snoc, hL.out, List.length_map, List.length_take, Nat.min_eq_left (by omega), he.out]
                have h2 := hc.out
                rw [List.getD_eq_getElem?_getD, List.getElem?_eq_getElem hqt] at h2
                rw [show tl[q] = c from h2]
              rw [h1, ← bs_set]
              exact (HPUT.out _ _).1
            · exact Kd.R_far (Kd.R_drewN hT.out _) (fun k hk e => hk.2 (by rw [e]; rfl)) _
            · exact (pw_below_drewN hB.out _).setCell GB.out _
          case measure => simp [intOf]; omega
        · obtain rfl : q = tl.length := by omega
          go_wp2_with fail
          go_roundw
          case rel =>
            refine ⟨i + 1, by omega, by go_num, ⟨?_⟩, hT, hB⟩
            rw [HD.out, remapL_snoc, hOUT.out, List.length_take, show (diffs s o).length = s.length by simp [diffs, HL12.out], Nat.min_eq_left (by omega), Nat.zero_add, hb.out]
            have h1 := hO.out
            rw [List.take_length] at h1
            exact h1
          case measure => simp [intOf]; omega
    · obtain rfl : i = s.length := by omega
      go_wp2_with fail
      go_ret2
      refine ⟨_, rfl, ?_, hB.out⟩
      have h1 := hO.out
      rw [List.take_of_length_le (by simp [diffs, HL12.out])] at h1
      exact h1
end Go.Proofs.Ytieiaoknbnkjpaa.Rf
