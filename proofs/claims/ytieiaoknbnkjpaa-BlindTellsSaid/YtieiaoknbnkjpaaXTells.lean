/- XTells: texts of this seat, one behind the other. -/
import Derived.Test.YtieiaoknbnkjpaaRTells
import Derived.Test.YtieiaoknbnkjpaaFU
import Derived.Test.YtieiaoknbnkjpaaFAdd
import Derived.Test.YtieiaoknbnkjpaaRf7
import Derived.Test.YtieiaoknbnkjpaaRf8
import Derived.Test.YtieiaoknbnkjpaaFRemap
import Derived.Test.YtieiaoknbnkjpaaRf11
import Derived.Test.YtieiaoknbnkjpaaRf12
import Derived.Test.YtieiaoknbnkjpaaRf25
import Derived.Test.YtieiaoknbnkjpaaFAwake
import Derived.Outline

namespace Go.Proofs.Ytieiaoknbnkjpaa.Rf
open Go.RowKit Go.Proofs.YtieiaoknbnkjpaaW.PrintWords

theorem w64 {x : Int} (h1 : -4611686018427387904 ≤ x) (h2 : x ≤ 4611686018427387904) : wrap64 x = x := by unfold wrap64; omega
theorem Ev.fn {α : Type} {g f : Nat → Option α} {r : α} (h : ∀ k, g (k + 1) = f k) (k : Ev f r) : Ev g r := Ev.step h k
theorem uI_zero {u : UInt8} : uI u = 0 ↔ u = 0 := by
  constructor
  · intro h
    apply UInt8.toNat_inj.1
    unfold uI at h
    simpa using h
  · intro h; subst h; rfl
theorem uI_inj {u v : UInt8} (h : uI u = uI v) : u = v := UInt8.toNat_inj.1 (by unfold uI at h; omega)

end Go.Proofs.Ytieiaoknbnkjpaa.Rf

namespace Go.Proofs.Ytieiaoknbnkjpaa.Rf
open Go.RowKit Go.Proofs.YtieiaoknbnkjpaaW.PrintWords

theorem degree_ev (l : List UInt8) (hl : l.length < 1000000000) : ∀ n, n ≤ l.length → Ev (fun k => poly_Degree.l0 k (bs l) ((n : Int) - 1)) ((Gf.top l n : Int) - 1)
  | 0, _ => ⟨1, fun k hk => by
      obtain ⟨k, rfl⟩ : ∃ m, k = m + 1 := ⟨k - 1, by omega⟩
      simp only [poly_Degree.l0, Gf.top]
      rw [if_neg (by omega)]⟩
  | n + 1, hn => by
    rw [show ((n + 1 : Nat) : Int) - 1 = (n : Int) by omega]
    by_cases h : l.getD n 0 = 0
    · have ih := degree_ev l hl n (by omega)
      refine Ev.step (f := fun k => poly_Degree.l0 k (bs l) ((n : Int) - 1)) (fun k => ?_) (by rw [Gf.top, if_pos h]; exact ih)
      simp only [poly_Degree.l0]
      rw [if_pos (by omega), if_pos (by omega), if_pos (by rw [bs_length]; omega), rd_bs, Int.toNat_natCast, h, if_pos (show uI 0 = 0 from rfl), w64 (by omega) (by omega)]
    · refine ⟨1, fun k hk => ?_⟩
      obtain ⟨k, rfl⟩ : ∃ m, k = m + 1 := ⟨k - 1, by omega⟩
      simp only [poly_Degree.l0]
      rw [if_pos (by omega), if_pos (by omega), if_pos (by rw [bs_length]; omega), rd_bs, Int.toNat_natCast, if_neg (fun e => h (uI_zero.1 e)), Gf.top, if_neg h]
      congr 1
      omega
theorem trim_ev (l : List UInt8) (hl : l.length < 1000000000) : Ev (fun k => poly_Trim.f k (bs l)) (bs (Gf.trimP l)) := by
  have ht := Gf.top_le l l.length
  unfold poly_Trim.f poly_Degree.f
  refine Ev.bind (a := (Gf.top l l.length : Int) - 1) ?_ ?_
  · rw [bs_length, w64 (by omega) (by omega)]
    exact degree_ev l hl l.length (Nat.le_refl _)
  · refine ⟨0, fun k _ => ?_⟩
    rw [show (Gf.top l l.length : Int) - 1 + 1 = (Gf.top l l.length : Int) by omega, w64 (by omega) (by omega), if_pos (by omega), if_pos (by rw [bs_length]; omega), Int.toNat_natCast, bs_take]
    unfold slices_Clone.f
    rw [if_pos (by rw [bs_length, List.length_take]; omega)]
    rfl

/-! products, bit by bit -/
def xt (x : Nat) : Nat := if 255 < x * 2 then (x * 2) ^^^ 283 else x * 2
theorem xt0 : ((List.range 256).all fun x => Nat.beq (Gf.mulN x 2) (xt x) && Nat.blt (xt x) 256) = true := by decide +kernel
theorem xt1 {x : Nat} (h : x < 256) : Gf.mulN x 2 = xt x ∧ xt x < 256 := by
  have h1 := List.all_eq_true.1 xt0 x (List.mem_range.2 h)
  rw [Bool.and_eq_true] at h1
  exact ⟨Nat.eq_of_beq_eq_true h1.1, Nat.blt_eq ▸ h1.2⟩
theorem dbl0 : ((List.range 128).all fun x => Nat.beq (Gf.mulN 2 x) (2 * x)) = true := by decide +kernel
theorem dbl {x : Nat} (h : x < 128) : Gf.mulN 2 x = 2 * x := Nat.eq_of_beq_eq_true (List.all_eq_true.1 dbl0 x (List.mem_range.2 h))
theorem low0 : ((List.range 128).all fun x => Nat.beq (1 ^^^ (2 * x)) (2 * x + 1)) = true := by decide +kernel
theorem mul_bit {x y : Nat} (hx : x < 256) (hy : y < 256) : Gf.mulN x y = (if y % 2 = 1 then x else 0) ^^^ Gf.mulN (xt x) (y / 2) := by
  have h1 : Gf.mulN (xt x) (y / 2) = Gf.mulN x (2 * (y / 2)) := by
    rw [← (xt1 hx).1, Gf.mulN_assoc, dbl (by omega)]
  rw [h1]
  by_cases h : y % 2 = 1
  · rw [if_pos h]
    have h2 := Nat.eq_of_beq_eq_true (List.all_eq_true.1 low0 (y / 2) (List.mem_range.2 (by omega)))
    have h3 : y = 1 ^^^ (2 * (y / 2)) := by rw [h2]; omega
    conv => lhs; rw [h3, Gf.mulN_add (by omega) (by omega), Gf.mulN_one hx]
  · rw [if_neg h, Nat.zero_xor]
    congr 1
    omega
theorem mul01_ev : ∀ (y out x : Nat), out < 256 → x < 256 → y < 256 → Ev (fun k => shroudref01_Mul.l0 k (out : Int) (x : Int) (y : Int)) ((out ^^^ Gf.mulN x y : Nat) : Int) := by
  intro y
  induction y using Nat.strongRecOn with
  | _ y ih =>
    intro out x ho hx hy
    by_cases h0 : y = 0
    · subst h0
      refine ⟨1, fun k hk => ?_⟩
      obtain ⟨k, rfl⟩ : ∃ m, k = m + 1 := ⟨k - 1, by omega⟩
      simp only [shroudref01_Mul.l0]
      rw [if_neg (by omega), Gf.mulN_zero, Nat.xor_zero]
      congr 1
      omega
    · have hxt := xt1 hx
      have hb := mul_bit hx hy
      have e1 : Int.tmod (y : Int) 2 = ((y % 2 : Nat) : Int) := by
        rw [Int.tmod_eq_emod_of_nonneg (by omega)]; omega
      have e2 : wrap64 (Int.tdiv (y : Int) 2) = ((y / 2 : Nat) : Int) := by
        rw [Int.tdiv_eq_ediv_of_nonneg (by omega), w64 (by omega) (by omega)]; omega
      have e3 : wrap64 ((x : Int) * 2) = ((x * 2 : Nat) : Int) := by rw [w64 (by omega) (by omega)]; omega
      have e4 : Go.bits .xor .i64 ((x * 2 : Nat) : Int) 283 = (((x * 2) ^^^ 283 : Nat) : Int) := bits_xor_i64 (x * 2) 283 (by omega) (by omega)
      have e5 : Go.bits .xor .i64 (out : Int) (x : Int) = ((out ^^^ x : Nat) : Int) := bits_xor_i64 out x (by omega) (by omega)
      have hox := Gf.xor_lt ho hx
      have key : ∀ o : Nat, o < 256 → Ev (fun k => shroudref01_Mul.l0 k (o : Int) ((xt x : Nat) : Int) ((y / 2 : Nat) : Int)) ((o ^^^ Gf.mulN (xt x) (y / 2) : Nat) : Int) := fun o ho => ih (y / 2) (by omega) o (xt x) ho hxt.2 (by omega)
      by_cases hodd : y % 2 = 1
      · rw [if_pos hodd] at hb
        refine Ev.step (f := fun k => shroudref01_Mul.l0 k ((out ^^^ x : Nat) : Int) ((xt x : Nat) : Int) ((y / 2 : Nat) : Int)) (fun k => ?_) (by rw [hb, ← Nat.xor_assoc]; exact key _ hox)
        simp only [shroudref01_Mul.l0]
        rw [if_pos (by omega), e1, hodd, if_pos (show ((1 : Nat) : Int) = 1 from rfl), e2, e3, e4, e5]
        unfold xt
        by_cases hbig : 255 < x * 2
        · rw [if_pos (by omega), if_pos hbig]
        · rw [if_neg (by omega), if_neg hbig]
      · rw [if_neg hodd, Nat.zero_xor] at hb
        refine Ev.step (f := fun k => shroudref01_Mul.l0 k (out : Int) ((xt x : Nat) : Int) ((y / 2 : Nat) : Int)) (fun k => ?_) (by rw [hb]; exact key _ ho)
        simp only [shroudref01_Mul.l0]
        rw [if_pos (by omega), e1, if_neg (by omega), e2, e3, e4]
        unfold xt
        by_cases hbig : 255 < x * 2
        · rw [if_pos (by omega), if_pos hbig]
        · rw [if_neg (by omega), if_neg hbig]
theorem refmul_ev (a b : UInt8) : Ev (fun k => shroudref01_Mul.f k (uI a) (uI b)) (uI (Gf.mul a b)) := by
  unfold shroudref01_Mul.f
  have ha := uI_bd a
  have hb := uI_bd b
  rw [w64 (by omega) (by omega), w64 (by omega) (by omega)]
  have h := mul01_ev b.toNat 0 a.toNat (by omega) a.toNat_lt b.toNat_lt
  rw [Nat.zero_xor, ← Gf.mul_toNat] at h
  exact h
theorem refinv_ev (a : UInt8) (h0 : a ≠ 0) : Ev (fun k => shroudref01_Inv.f k (uI a)) (uI (Gf.inv a), true) := by
  unfold shroudref01_Inv.f
  have key : ∀ (d j : Nat), d + j = (Gf.inv a).toNat → Ev (fun k => shroudref01_Inv.l0 k (uI a) (j : Int)) (uI (Gf.inv a), true) := by
    intro d
    induction d with
    | zero =>
      intro j hj
      have hjl := (Gf.inv a).toNat_lt
      have hm := refmul_ev a (Gf.inv a)
      rw [Gf.mul_inv h0] at hm
      have hj2 : ((j : Int)) % 256 = uI (Gf.inv a) := by unfold uI; omega
      refine Ev.step (f := fun k => (shroudref01_Mul.f k (uI a) (uI (Gf.inv a))).bind fun t => if t = 1 then some (uI (Gf.inv a), true) else shroudref01_Inv.l0 k (uI a) (wrap64 ((j : Int) + 1))) (fun k => ?_) (Ev.bind hm (Ev.now _))
      simp only [shroudref01_Inv.l0]
      rw [if_pos (by omega), hj2]
    | succ d ih =>
      intro j hj
      have hjl := (Gf.inv a).toNat_lt
      obtain ⟨u, hu⟩ : ∃ u : UInt8, uI u = (j : Int) := ⟨UInt8.ofNat j, by unfold uI; rw [UInt8.toNat_ofNat']; omega⟩
      have hm := refmul_ev a u
      have hne : uI (Gf.mul a u) ≠ 1 := fun e => by
        have e1 : Gf.mul a u = 1 := uI_inj (v := 1) e
        have e2 : Gf.mul u a = Gf.mul (Gf.inv a) a := by rw [Gf.mul_comm u, e1, Gf.mul_comm, Gf.mul_inv h0]
        have e3 := Gf.cancel h0 e2
        rw [e3] at hu
        unfold uI at hu
        omega
      have ih' := ih (j + 1) (by omega)
      refine Ev.step (f := fun k => (shroudref01_Mul.f k (uI a) (uI u)).bind fun t => if t = 1 then some ((j : Int) % 256, true) else shroudref01_Inv.l0 k (uI a) ((j + 1 : Nat) : Int)) (fun k => ?_) (Ev.bind hm (Ev.congr (fun k => by rw [if_neg hne]) ih'))
      simp only [shroudref01_Inv.l0]
      rw [if_pos (by omega), show (j : Int) % 256 = uI u by rw [hu]; omega, w64 (by omega) (by omega)]
      rfl
  exact key (Gf.inv a).toNat 0 (by omega)
end Go.Proofs.Ytieiaoknbnkjpaa.Rf

namespace Go.Proofs.Ytieiaoknbnkjpaa.Rf
open Go.RowKit Go.Proofs.YtieiaoknbnkjpaaW.PrintWords

theorem bs_zeros (n : Nat) : List.replicate n (0 : Int) = bs (List.replicate n 0) := by simp [bs, uI]
theorem w64n (n m : Nat) (h : n + m < 1000000000000) : wrap64 ((n : Int) + (m : Int)) = ((n + m : Nat) : Int) := by rw [w64 (by omega) (by omega)]; omega
theorem w64s (n : Nat) (h : n < 1000000000000) : wrap64 ((n : Int) + 1) = ((n + 1 : Nat) : Int) := by rw [w64 (by omega) (by omega)]; omega
theorem take_next {l : List UInt8} {j : Nat} (h : j < l.length) : l.take (j + 1) = l.take j ++ [l.getD j 0] := by
  rw [List.take_succ_eq_append_getElem h, List.getD_eq_getElem?_getD, List.getElem?_eq_getElem h]; rfl
theorem xorAt_next (out m : List UInt8) (i j : Nat) (h : j < m.length) : Gf.xorAt out i (m.take (j + 1)) = (Gf.xorAt out i (m.take j)).set (i + j) ((Gf.xorAt out i (m.take j)).getD (i + j) 0 ^^^ m.getD j 0) := by
  rw [take_next h, Gf.xorAt_snoc, List.length_take, Nat.min_eq_left (by omega)]
theorem u8_xor_u (a b : UInt8) : Go.bits .xor .u8 (uI a) (uI b) = uI (a ^^^ b) := by
  have := gf_Add_u a b
  unfold gf_Add.f at this
  exact Option.some.inj this

theorem reftrim_ev (l : List UInt8) (hl : l.length < 1000000000) : Ev (fun k => shroudref02_Trim.f k (bs l)) (bs (Gf.trimP l)) := by
  unfold shroudref02_Trim.f
  have key : ∀ n, n ≤ l.length → Ev (fun k => shroudref02_Trim.l0 k (bs l) (n : Int)) (bs (l.take (Gf.top l n))) := by
    intro n
    induction n with
    | zero =>
      intro _
      refine ⟨1, fun k hk => ?_⟩
      obtain ⟨k, rfl⟩ : ∃ m, k = m + 1 := ⟨k - 1, by omega⟩
      simp only [shroudref02_Trim.l0, Gf.top]
      rw [if_neg (by omega), Option.bind_some, if_pos (by omega), if_pos (by omega), if_pos (by simp)]
      simp [bs]
    | succ n ih =>
      intro hn
      have e1 : wrap64 (((n + 1 : Nat) : Int) - 1) = (n : Int) := by rw [w64 (by omega) (by omega)]; omega
      by_cases h : l.getD n 0 = 0
      · refine Ev.step (f := fun k => shroudref02_Trim.l0 k (bs l) (n : Int)) (fun k => ?_) (by rw [Gf.top, if_pos h]; exact ih (by omega))
        simp only [shroudref02_Trim.l0]
        rw [if_pos (by omega), e1, if_pos (by omega), if_pos (by rw [bs_length]; omega), rd_bs, Int.toNat_natCast, h, if_pos (show uI 0 = 0 from rfl)]
      · refine ⟨1, fun k hk => ?_⟩
        obtain ⟨k, rfl⟩ : ∃ m, k = m + 1 := ⟨k - 1, by omega⟩
        simp only [shroudref02_Trim.l0]
        rw [if_pos (by omega), e1, if_pos (by omega), if_pos (by rw [bs_length]; omega), rd_bs, Int.toNat_natCast, if_neg (fun e => h (uI_zero.1 e)), Gf.top, if_neg h]
        rw [Option.bind_some, if_pos (by omega), if_pos (by rw [bs_length]; omega), Int.toNat_natCast, bs_take, if_pos (by rw [bs_length, List.length_take]; simp; omega)]
        rfl
  rw [bs_length]
  exact key l.length (Nat.le_refl _)

theorem addl_ev (out m : List UInt8) (ho : out.length < 1000000000) (hm : m.length ≤ out.length) : Ev (fun k => poly_Add.l0 k (bs out) (bs m) ((bs m).length : Int) 0) (bs (Gf.trimP (Gf.xorAt out 0 m))) := by
  have key : ∀ (d j : Nat), d + j = m.length → Ev (fun k => poly_Add.l0 k (bs (Gf.xorAt out 0 (m.take j))) (bs m) (m.length : Int) (j : Int)) (bs (Gf.trimP (Gf.xorAt out 0 m))) := by
    intro d
    induction d with
    | zero =>
      intro j hj
      obtain rfl : j = m.length := by omega
      rw [List.take_length]
      refine Ev.step (f := fun k => poly_Trim.f k (bs (Gf.xorAt out 0 m))) (fun k => ?_) (trim_ev _ (by rw [Gf.xorAt_length]; exact ho))
      simp only [poly_Add.l0]
      rw [if_neg (by omega)]
    | succ d ih =>
      intro j hj
      refine Ev.step (f := fun k => poly_Add.l0 k (bs (Gf.xorAt out 0 (m.take (j + 1)))) (bs m) (m.length : Int) ((j + 1 : Nat) : Int)) (fun k => ?_) (ih (j + 1) (by omega))
      simp only [poly_Add.l0]
      rw [if_pos (by omega), if_pos (by omega), if_pos (by rw [bs_length]; omega), if_pos (by rw [bs_length, Gf.xorAt_length]; omega), rd_bs, rd_bs, Int.toNat_natCast, gf_Add_u, w64s j (by omega), xorAt_next out m 0 j (by omega), Nat.zero_add]
      show poly_Add.l0 k ((bs _).set j _) _ _ _ = _
      rw [bs_set]
  rw [bs_length]
  have := key m.length 0 (by omega)
  simpa [Gf.xorAt] using this
theorem add_ev (a b : List UInt8) (ha : a.length < 1000000) (hb : b.length < 1000000) : Ev (fun k => poly_Add.f k (bs a) (bs b)) (bs (Gf.addT a b)) := by
  unfold poly_Add.f Gf.addT Gf.addP slices_Clone.f
  rw [bs_length, bs_length]
  by_cases h : a.length < b.length
  · rw [if_pos h]
    refine Ev.congr (fun k => if_pos h) ?_
    rw [if_pos (by omega)]
    have := addl_ev b a (by omega) (by omega)
    rw [bs_length] at this
    exact this
  · rw [if_neg h]
    refine Ev.congr (fun k => if_neg h) ?_
    rw [if_pos (by omega)]
    have := addl_ev a b (by omega) (by omega)
    rw [bs_length] at this
    exact this
theorem refadd1_ev (out b : List UInt8) (ho : out.length < 1000000000) (hb : b.length ≤ out.length) : Ev (fun k => shroudref02_Add.l1 k (bs b) (bs out) ((bs b).length : Int) 0) (bs (Gf.trimP (Gf.xorAt out 0 b))) := by
  have key : ∀ (d j : Nat), d + j = b.length → Ev (fun k => shroudref02_Add.l1 k (bs b) (bs (Gf.xorAt out 0 (b.take j))) (b.length : Int) (j : Int)) (bs (Gf.trimP (Gf.xorAt out 0 b))) := by
    intro d
    induction d with
    | zero =>
      intro j hj
      obtain rfl : j = b.length := by omega
      rw [List.take_length]
      refine Ev.step (f := fun k => (shroudref02_Trim.f k (bs (Gf.xorAt out 0 b))).bind fun t => some t) (fun k => ?_) (Ev.bind (reftrim_ev _ (by rw [Gf.xorAt_length]; exact ho)) (Ev.now _))
      simp only [shroudref02_Add.l1]
      rw [if_neg (by omega)]
    | succ d ih =>
      intro j hj
      refine Ev.step (f := fun k => shroudref02_Add.l1 k (bs b) (bs (Gf.xorAt out 0 (b.take (j + 1)))) (b.length : Int) ((j + 1 : Nat) : Int)) (fun k => ?_) (ih (j + 1) (by omega))
      simp only [shroudref02_Add.l1]
      rw [if_pos (by omega), if_pos (by omega), if_pos (by rw [bs_length, Gf.xorAt_length]; omega), if_pos (by rw [bs_length]; omega), rd_bs, rd_bs, Int.toNat_natCast, u8_xor_u, w64s j (by omega), xorAt_next out b 0 j (by omega), Nat.zero_add, bs_set]
  rw [bs_length]
  have := key b.length 0 (by omega)
  simpa [Gf.xorAt] using this
theorem refadd_ev (a b : List UInt8) (ha : a.length < 1000000) (hb : b.length < 1000000) : Ev (fun k => shroudref02_Add.f k (bs a) (bs b)) (bs (Gf.addT a b)) := by
  unfold shroudref02_Add.f Gf.addT
  have hmx : mx ((bs a).length : Int) ((bs b).length : Int) = ((max a.length b.length : Nat) : Int) := by
    rw [bs_length, bs_length]; unfold mx; split <;> omega
  rw [hmx, Int.toNat_natCast, bs_zeros, ← Gf.add_ref]
  refine Ev.congr (fun k => if_pos (by omega)) (Ev.congr (fun k => if_pos (by omega)) ?_)
  have hz : (List.replicate (max a.length b.length) (0 : UInt8)).length = max a.length b.length := List.length_replicate
  generalize List.replicate (max a.length b.length) (0 : UInt8) = z at *
  have key : ∀ (d j : Nat), d + j = a.length → Ev (fun k => shroudref02_Add.l0 k (bs a) (bs b) (bs (Gf.xorAt z 0 (a.take j))) (a.length : Int) (j : Int)) (bs (Gf.trimP (Gf.xorAt (Gf.xorAt z 0 a) 0 b))) := by
    intro d
    induction d with
    | zero =>
      intro j hj
      obtain rfl : j = a.length := by omega
      rw [List.take_length]
      refine Ev.step (f := fun k => shroudref02_Add.l1 k (bs b) (bs (Gf.xorAt z 0 a)) ((bs b).length : Int) 0) (fun k => ?_) (refadd1_ev _ b (by rw [Gf.xorAt_length]; omega) (by rw [Gf.xorAt_length]; omega))
      simp only [shroudref02_Add.l0]
      rw [if_neg (by omega)]
    | succ d ih =>
      intro j hj
      refine Ev.step (f := fun k => shroudref02_Add.l0 k (bs a) (bs b) (bs (Gf.xorAt z 0 (a.take (j + 1)))) (a.length : Int) ((j + 1 : Nat) : Int)) (fun k => ?_) (ih (j + 1) (by omega))
      simp only [shroudref02_Add.l0]
      rw [if_pos (by omega), if_pos (by omega), if_pos (by rw [bs_length, Gf.xorAt_length]; omega), if_pos (by rw [bs_length]; omega), rd_bs, rd_bs, Int.toNat_natCast, u8_xor_u, w64s j (by omega), xorAt_next z a 0 j (by omega), Nat.zero_add, bs_set]
  rw [bs_length]
  have := key a.length 0 (by omega)
  simpa [Gf.xorAt] using this

theorem mulTo_snoc : ∀ (a out b : List UInt8) (i : Nat) (c : UInt8), Gf.mulTo out i (a ++ [c]) b = Gf.xorAt (Gf.mulTo out i a b) (i + a.length) (b.map (Gf.mul c))
  | [], out, b, i, c => rfl
  | d :: a, out, b, i, c => by
    rw [List.cons_append, Gf.mulTo, mulTo_snoc a _ b (i + 1) c, Gf.mulTo, List.length_cons]
    congr 1
    omega
theorem mul_ev (p : Nat) (a b : List UInt8) (ha : a.length < 1000000) (hb : b.length < 1000000) : Ev (fun k => poly_Mul.f k p (bs a) (bs b)) (bs (Gf.mulT a b)) := by
  unfold poly_Mul.f Gf.mulT Gf.mulP
  rw [bs_length, bs_length, w64n _ _ (by omega), Int.toNat_natCast, bs_zeros]
  refine Ev.congr (fun k => if_pos (by omega)) (Ev.congr (fun k => if_pos (by omega)) ?_)
  have hz : (List.replicate (a.length + b.length) (0 : UInt8)).length = a.length + b.length := List.length_replicate
  generalize List.replicate (a.length + b.length) (0 : UInt8) = z at *
  have inner : ∀ (OUT : List UInt8) (i : Nat) (r : List Int), OUT.length = a.length + b.length → i < a.length → Ev (fun k => poly_Mul.l0 k p (bs a) (bs b) (bs (Gf.xorAt OUT i (b.map (Gf.mul (a.getD i 0))))) (a.length : Int) ((i + 1 : Nat) : Int)) r →
      ∀ (d j : Nat), d + j = b.length → Ev (fun k => poly_Mul.l1 k p (bs a) (bs b) (bs (Gf.xorAt OUT i ((b.map (Gf.mul (a.getD i 0))).take j))) (i : Int) (a.length : Int) (i : Int) (b.length : Int) (j : Int)) r := by
    intro OUT i r hO hi hr d
    have hbl : (b.map (Gf.mul (a.getD i 0))).length = b.length := List.length_map ..
    induction d with
    | zero =>
      intro j hj
      obtain rfl : j = b.length := by omega
      rw [List.take_of_length_le (by omega)]
      refine Ev.step (fun k => ?_) hr
      simp only [poly_Mul.l1]
      rw [if_neg (by omega), w64s i (by omega)]
    | succ d ih =>
      intro j hj
      refine Ev.step (fun k => ?_) (ih (j + 1) (by omega))
      simp only [poly_Mul.l1]
      rw [if_pos (by omega), w64n i j (by omega), if_pos (by omega), if_pos (by rw [bs_length, Gf.xorAt_length]; omega), if_pos (by omega), if_pos (by rw [bs_length]; omega), if_pos (by omega), if_pos (by rw [bs_length]; omega), rd_bs, rd_bs, rd_bs, Int.toNat_natCast, Int.toNat_natCast, Int.toNat_natCast, gf_Mul_u, Option.bind_some, gf_Add_u, Option.bind_some, w64s j (by omega), bs_set, xorAt_next OUT _ i j (by omega)]
      congr 4
      simp only [List.getD_eq_getElem?_getD, List.getElem?_map, List.getElem?_eq_getElem (show j < b.length by omega)]
      rfl
  have key : ∀ (d i : Nat), d + i = a.length → Ev (fun k => poly_Mul.l0 k p (bs a) (bs b) (bs (Gf.mulTo z 0 (a.take i) b)) (a.length : Int) (i : Int)) (bs (Gf.trimP (Gf.mulTo z 0 a b))) := by
    intro d
    induction d with
    | zero =>
      intro i hi
      obtain rfl : i = a.length := by omega
      rw [List.take_length]
      refine Ev.step (f := fun k => (poly_Trim.f k (bs (Gf.mulTo z 0 a b))).bind fun t => some t) (fun k => ?_) (Ev.bind (trim_ev _ (by rw [Gf.mulTo_length]; omega)) (Ev.now _))
      simp only [poly_Mul.l0]
      rw [if_neg (by omega)]
    | succ d ih =>
      intro i hi
      have h1 := ih (i + 1) (by omega)
      rw [take_next (by omega), mulTo_snoc, List.length_take, Nat.min_eq_left (by omega), Nat.zero_add] at h1
      have h2 := inner (Gf.mulTo z 0 (a.take i) b) i _ (by rw [Gf.mulTo_length]; exact hz) (by omega) h1 b.length 0 (by omega)
      simp only [List.take_zero, Gf.xorAt] at h2
      refine Ev.step (fun k => ?_) h2
      simp only [poly_Mul.l0]
      rw [if_pos (by omega), bs_length]
      rfl
  have := key a.length 0 (by omega)
  simpa [Gf.mulTo] using this
theorem refpmul_ev (a b : List UInt8) (ha : a.length < 1000000) (hb : b.length < 1000000) : Ev (fun k => shroudref02_Mul.f k (bs a) (bs b)) (bs (Gf.mulT a b)) := by
  unfold shroudref02_Mul.f Gf.mulT Gf.mulP
  rw [bs_length, bs_length, w64n _ _ (by omega), Int.toNat_natCast, bs_zeros]
  refine Ev.congr (fun k => if_pos (by omega)) (Ev.congr (fun k => if_pos (by omega)) ?_)
  have hz : (List.replicate (a.length + b.length) (0 : UInt8)).length = a.length + b.length := List.length_replicate
  generalize List.replicate (a.length + b.length) (0 : UInt8) = z at *
  have inner : ∀ (OUT : List UInt8) (i : Nat) (r : List Int), OUT.length = a.length + b.length → i < a.length → Ev (fun k => shroudref02_Mul.l0 k (bs a) (bs b) (bs (Gf.xorAt OUT i (b.map (Gf.mul (a.getD i 0))))) (a.length : Int) ((i + 1 : Nat) : Int)) r →
      ∀ (d j : Nat), d + j = b.length → Ev (fun k => shroudref02_Mul.l1 k (bs a) (bs b) (bs (Gf.xorAt OUT i ((b.map (Gf.mul (a.getD i 0))).take j))) (i : Int) (a.length : Int) (i : Int) (b.length : Int) (j : Int)) r := by
    intro OUT i r hO hi hr d
    have hbl : (b.map (Gf.mul (a.getD i 0))).length = b.length := List.length_map ..
    induction d with
    | zero =>
      intro j hj
      obtain rfl : j = b.length := by omega
      rw [List.take_of_length_le (by omega)]
      refine Ev.step (fun k => ?_) hr
      simp only [shroudref02_Mul.l1]
      rw [if_neg (by omega), w64s i (by omega)]
    | succ d ih =>
      intro j hj
      refine Ev.step (f := fun k => (shroudref01_Mul.f k (uI (a.getD i 0)) (uI (b.getD j 0))).bind fun t => shroudref02_Mul.l1 k (bs a) (bs b) ((bs (Gf.xorAt OUT i ((b.map (Gf.mul (a.getD i 0))).take j))).set (i + j) (Go.bits .xor .u8 (uI ((Gf.xorAt OUT i ((b.map (Gf.mul (a.getD i 0))).take j)).getD (i + j) 0)) t)) (i : Int) (a.length : Int) (i : Int) (b.length : Int) ((j + 1 : Nat) : Int)) (fun k => ?_) (Ev.bind (refmul_ev _ _) ?_)
      · simp only [shroudref02_Mul.l1]
        rw [if_pos (by omega), w64n i j (by omega), if_pos (by omega), if_pos (by rw [bs_length, Gf.xorAt_length]; omega), if_pos (by omega), if_pos (by rw [bs_length]; omega), if_pos (by omega), if_pos (by rw [bs_length]; omega), rd_bs, rd_bs, rd_bs, Int.toNat_natCast, Int.toNat_natCast, Int.toNat_natCast, w64s j (by omega)]
      · have h1 := ih (j + 1) (by omega)
        rw [xorAt_next OUT _ i j (by omega), ← bs_set, ← u8_xor_u] at h1
        have h2 : (b.map (Gf.mul (a.getD i 0))).getD j 0 = Gf.mul (a.getD i 0) (b.getD j 0) := by
          simp only [List.getD_eq_getElem?_getD, List.getElem?_map, List.getElem?_eq_getElem (show j < b.length by omega)]
          rfl
        rw [h2] at h1
        exact h1
  have key : ∀ (d i : Nat), d + i = a.length → Ev (fun k => shroudref02_Mul.l0 k (bs a) (bs b) (bs (Gf.mulTo z 0 (a.take i) b)) (a.length : Int) (i : Int)) (bs (Gf.trimP (Gf.mulTo z 0 a b))) := by
    intro d
    induction d with
    | zero =>
      intro i hi
      obtain rfl : i = a.length := by omega
      rw [List.take_length]
      refine Ev.step (f := fun k => (shroudref02_Trim.f k (bs (Gf.mulTo z 0 a b))).bind fun t => some t) (fun k => ?_) (Ev.bind (reftrim_ev _ (by rw [Gf.mulTo_length]; omega)) (Ev.now _))
      simp only [shroudref02_Mul.l0]
      rw [if_neg (by omega)]
    | succ d ih =>
      intro i hi
      have h1 := ih (i + 1) (by omega)
      rw [take_next (by omega), mulTo_snoc, List.length_take, Nat.min_eq_left (by omega), Nat.zero_add] at h1
      have h2 := inner (Gf.mulTo z 0 (a.take i) b) i _ (by rw [Gf.mulTo_length]; exact hz) (by omega) h1 b.length 0 (by omega)
      simp only [List.take_zero, Gf.xorAt] at h2
      refine Ev.step (fun k => ?_) h2
      simp only [shroudref02_Mul.l0]
      rw [if_pos (by omega), bs_length]
      rfl
  have := key a.length 0 (by omega)
  simpa [Gf.mulTo] using this
end Go.Proofs.Ytieiaoknbnkjpaa.Rf

namespace Go.Proofs.Ytieiaoknbnkjpaa.Rf
open Go.RowKit Go.Proofs.YtieiaoknbnkjpaaW.PrintWords

def p53 (ps : List (UInt8 × UInt8)) : List S53 := ps.map fun d => (⟨uI d.1, uI d.2⟩ : S53)
theorem p53_length (ps : List (UInt8 × UInt8)) : (p53 ps).length = ps.length := by simp [p53]
theorem rd_p53 (ps : List (UInt8 × UInt8)) (i : Nat) : rd_T53 (p53 ps) (i : Int) = (⟨uI (ps.getD i (0, 0)).1, uI (ps.getD i (0, 0)).2⟩ : S53) := by
  unfold rd_T53 p53
  rw [Int.toNat_natCast, List.getD_eq_getElem?_getD, List.getElem?_map, List.getD_eq_getElem?_getD]
  cases ps[i]? <;> rfl
theorem xs53_p53 (ps : List (UInt8 × UInt8)) : xs53 (p53 ps) = bs (ps.map (·.1)) := by
  simp only [xs53, p53, bs, List.map_map]
  rfl
theorem bs_nodup (l : List UInt8) : (bs l).Nodup ↔ l.Nodup := by
  unfold bs
  exact List.pairwise_map.trans ⟨fun h => h.imp (fun hab e => hab (by rw [e])), fun h => h.imp (fun hab e => hab (uI_inj e))⟩
theorem eval_u2 (p : Nat) (l : List UInt8) (x : UInt8) : poly_Eval.f p (bs l) (uI x) = some (uI (Gf.ev l x)) := by
  unfold poly_Eval.f
  rw [if_pos ⟨bytes_bs l, uI_bd x⟩, toU_bs]
  congr 3
  exact uI_inj (uI_of (uI_bd x))
theorem drop_next {ps : List (UInt8 × UInt8)} {i : Nat} (h : i < ps.length) : ps.drop i = ps.getD i (0, 0) :: ps.drop (i + 1) := by
  rw [List.drop_eq_getElem_cons h, List.getD_eq_getElem?_getD, List.getElem?_eq_getElem h]; rfl
theorem bs1 (a : UInt8) : ([uI a] : List Int) = bs [a] := rfl
theorem bs2 (a b : UInt8) : ([uI a, uI b] : List Int) = bs [a, b] := rfl

theorem through_l0 (p : Nat) (ps : List (UInt8 × UInt8)) (hps : ps.length < 100000) : ∀ (d i : Nat) (out nodes : List UInt8), d + i = ps.length → out.length ≤ i → nodes.length ≤ i + 1 →
    Ev (fun k => poly_Through.l0 k p (bs out) (bs nodes) (p53 ps) (ps.length : Int) (i : Int)) (bs (Gf.newton (ps.drop i) out nodes), 0) := by
  intro d
  induction d with
  | zero =>
    intro i out nodes hi _ _
    refine ⟨1, fun k hk => ?_⟩
    obtain ⟨k, rfl⟩ : ∃ m, k = m + 1 := ⟨k - 1, by omega⟩
    simp only [poly_Through.l0]
    rw [if_neg (by omega), List.drop_eq_nil_of_le (by omega)]
    rfl
  | succ d ih =>
    intro i out nodes hi ho hn
    rw [drop_next (by omega)]
    rcases hXY : ps.getD i (0, 0) with ⟨X, Y⟩
    simp only [Gf.newton]
    have a1 := Gf.addT_length out (Gf.mulT nodes [Gf.dv (Y ^^^ Gf.ev out X) (Gf.ev nodes X)])
    have a2 := Gf.mulT_short nodes [Gf.dv (Y ^^^ Gf.ev out X) (Gf.ev nodes X)]
    have a3 := Gf.mulT_short nodes [X, 1]
    simp only [List.length_cons, List.length_nil] at a2 a3
    have h1 := ih (i + 1) (Gf.addT out (Gf.mulT nodes [Gf.dv (Y ^^^ Gf.ev out X) (Gf.ev nodes X)])) (Gf.mulT nodes [X, 1]) (by omega) (by omega) (by omega)
    have e1 := mul_ev p nodes [Gf.dv (Y ^^^ Gf.ev out X) (Gf.ev nodes X)] (by omega) (by simp)
    have e2 := add_ev out (Gf.mulT nodes [Gf.dv (Y ^^^ Gf.ev out X) (Gf.ev nodes X)]) (by omega) (by omega)
    have e3 := mul_ev p nodes [X, 1] (by omega) (by simp)
    refine Ev.step (fun k => ?_) (Ev.bind (f := fun k a => (poly_Add.f k (bs out) a).bind fun b => (poly_Mul.f k p (bs nodes) (bs [X, 1])).bind fun c => poly_Through.l0 k p b c (p53 ps) (ps.length : Int) ((i + 1 : Nat) : Int)) e1 (Ev.bind (f := fun k b => (poly_Mul.f k p (bs nodes) (bs [X, 1])).bind fun c => poly_Through.l0 k p b c (p53 ps) (ps.length : Int) ((i + 1 : Nat) : Int)) e2 (Ev.bind (f := fun k c => poly_Through.l0 k p (bs (Gf.addT out (Gf.mulT nodes [Gf.dv (Y ^^^ Gf.ev out X) (Gf.ev nodes X)]))) c (p53 ps) (ps.length : Int) ((i + 1 : Nat) : Int)) e3 h1)))
    simp only [poly_Through.l0]
    rw [if_pos (by omega), if_pos (by omega), if_pos (by rw [p53_length]; omega), rd_p53, hXY]
    simp only
    rw [eval_u2, Option.bind_some, gf_Add_u, Option.bind_some, eval_u2, Option.bind_some, gf_Div_u, Option.bind_some]
    simp only
    rw [w64s i (by omega)]
    rfl
theorem pthrough_ev (p : Nat) (ps : List (UInt8 × UInt8)) (hps : ps.length < 100000) (hn : (ps.map (·.1)).Nodup) : Ev (fun k => poly_Through.f k p (p53 ps)) (bs (Gf.through ps), 0) := by
  unfold poly_Through.f
  have h1 : poly_twice.f (p53 ps) = some false := by
    unfold poly_twice.f
    rw [xs53_p53, if_pos (bytes_bs _), decide_eq_true ((bs_nodup _).2 hn)]
    rfl
  rw [h1]
  refine Ev.congr (f := fun k => poly_Through.l0 k p ([] : List Int) ([1] : List Int) (p53 ps) ((p53 ps).length : Int) 0) (fun k => ?_) ?_
  · rw [Option.bind_some, if_neg (by decide)]
  · have := through_l0 p ps hps ps.length 0 [] [1] (by omega) (by simp) (by simp)
    rw [p53_length]
    exact this

theorem reftwice_ev (l : List S53) (hl : l.length < 1000000) : Ev (fun k => shroudref02_Twice.f k l) (!decide (xs53 l).Nodup) := by
  unfold shroudref02_Twice.f
  have hxl : (xs53 l).length = l.length := by simp [xs53]
  have hrd : ∀ i : Nat, (rd_T53 l (i : Int)).f0 = (xs53 l).getD i 0 := fun i => by rw [xs53_rd, Int.toNat_natCast]
  have nd : ∀ i, i < l.length → (((xs53 l).take (i + 1)).Nodup ↔ (((xs53 l).take i).Nodup ∧ ∀ j, j < i → (xs53 l).getD i 0 ≠ (xs53 l).getD j 0)) := fun i hi => by
    have hi' : i < (xs53 l).length := by omega
    rw [List.take_succ_eq_append_getElem hi', List.nodup_append]
    have hg : (xs53 l).getD i 0 = (xs53 l)[i] := by rw [List.getD_eq_getElem?_getD, List.getElem?_eq_getElem hi']; rfl
    refine ⟨fun h => ⟨h.1, fun j hj e => ?_⟩, fun h => ⟨h.1, by simp, fun a ha b hb => ?_⟩⟩
    · refine h.2.2 ((xs53 l).getD j 0) ?_ (xs53 l)[i] (by simp) (by rw [← e, hg])
      rw [List.getD_eq_getElem?_getD, List.getElem?_eq_getElem (by omega)]
      exact List.mem_take_iff_getElem.2 ⟨j, by omega, rfl⟩
    · obtain rfl := List.mem_singleton.1 hb
      obtain ⟨j, hj, rfl⟩ := List.mem_take_iff_getElem.1 ha
      have := h.2 j (by omega)
      rw [hg, List.getD_eq_getElem?_getD, List.getElem?_eq_getElem (by omega)] at this
      exact fun e => this e.symm
  have inner : ∀ (i : Nat) (r : Bool), i < l.length → ((∀ j, j < i → (xs53 l).getD i 0 ≠ (xs53 l).getD j 0) → Ev (fun k => shroudref02_Twice.l0 k l (l.length : Int) ((i + 1 : Nat) : Int)) r) → ((¬ ∀ j, j < i → (xs53 l).getD i 0 ≠ (xs53 l).getD j 0) → r = true) →
      ∀ (d j : Nat), d + j = i → (∀ j', j' < j → (xs53 l).getD i 0 ≠ (xs53 l).getD j' 0) → Ev (fun k => shroudref02_Twice.l1 k l (i : Int) (j : Int) (l.length : Int) (i : Int)) r := by
    intro i r hi hr hr2 d
    induction d with
    | zero =>
      intro j hj hp
      obtain rfl : j = i := by omega
      refine Ev.step (fun k => ?_) (hr hp)
      simp only [shroudref02_Twice.l1]
      rw [if_neg (by omega), w64s j (by omega)]
    | succ d ih =>
      intro j hj hp
      by_cases he : (xs53 l).getD i 0 = (xs53 l).getD j 0
      · refine Ev.step (f := fun _ => some true) (fun k => ?_) (by rw [hr2 (fun h => h j (by omega) he)]; exact Ev.now _)
        simp only [shroudref02_Twice.l1]
        rw [if_pos (by omega), if_pos (by omega), if_pos (by omega), if_pos (by omega), if_pos (by omega), hrd, hrd, if_pos he]
      · refine Ev.step (fun k => ?_) (ih (j + 1) (by omega) (fun j' h' => by
          by_cases h : j' < j
          · exact hp j' h
          · obtain rfl : j' = j := by omega
            exact he))
        simp only [shroudref02_Twice.l1]
        rw [if_pos (by omega), if_pos (by omega), if_pos (by omega), if_pos (by omega), if_pos (by omega), hrd, hrd, if_neg he, w64s j (by omega)]
  have key : ∀ (d i : Nat), d + i = l.length → ((xs53 l).take i).Nodup → Ev (fun k => shroudref02_Twice.l0 k l (l.length : Int) (i : Int)) (!decide (xs53 l).Nodup) := by
    intro d
    induction d with
    | zero =>
      intro i hi hnd
      rw [List.take_of_length_le (by omega)] at hnd
      refine ⟨1, fun k hk => ?_⟩
      obtain ⟨k, rfl⟩ : ∃ m, k = m + 1 := ⟨k - 1, by omega⟩
      simp only [shroudref02_Twice.l0]
      rw [if_neg (by omega), decide_eq_true hnd]
      rfl
    | succ d ih =>
      intro i hi hnd
      refine Ev.step (f := fun k => shroudref02_Twice.l1 k l (i : Int) ((0 : Nat) : Int) (l.length : Int) (i : Int)) (fun k => ?_) (inner i _ (by omega) (fun h => ih (i + 1) (by omega) ((nd i (by omega)).2 ⟨hnd, h⟩)) (fun h => ?_) i 0 (by omega) (fun j' h => by omega))
      · simp only [shroudref02_Twice.l0]
        rw [if_pos (by omega)]
        rfl
      · rw [decide_eq_false (fun hn => h ((nd i (by omega)).1 (hn.sublist (List.take_sublist _ _))).2)]
        rfl
  exact key l.length 0 (by omega) (by simp)

theorem refthrough_ev (ps : List (UInt8 × UInt8)) (hps : ps.length < 100000) (hn : (ps.map (·.1)).Nodup) : Ev (fun k => shroudref02_Through.f k (p53 ps)) (bs (Gf.lagP ps)) := by
  unfold shroudref02_Through.f
  have hdis : ∀ i j, i < ps.length → j < ps.length → j ≠ i → (ps.getD i (0, 0)).1 ^^^ (ps.getD j (0, 0)).1 ≠ 0 := fun i j hi hj hne e => by
    have h1 := List.pairwise_iff_getElem.1 hn
    have e1 : ∀ k (hk : k < ps.length), (ps.map (·.1))[k]'(by simpa using hk) = (ps.getD k (0, 0)).1 := fun k hk => by
      rw [List.getD_eq_getElem?_getD, List.getElem?_eq_getElem hk]; simp
    rcases Nat.lt_or_gt_of_ne hne with h | h
    · exact h1 j i (by simpa using hj) (by simpa using hi) h (by rw [e1 j hj, e1 i hi]; exact (Gf.xor_eq_zero e).symm)
    · exact h1 i j (by simpa using hi) (by simpa using hj) h (by rw [e1 j hj, e1 i hi]; exact Gf.xor_eq_zero e)
  have inner : ∀ (i : Nat) (out : List UInt8) (r : List Int), i < ps.length → ∀ (d j : Nat) (one : List UInt8), d + j = ps.length → one.length ≤ j + 1 →
      ((Gf.lagOne (ps.getD i (0, 0)).1 (ps.drop j) j i one).length ≤ 200000 → Ev (fun k => shroudref02_Through.l0 k (p53 ps) (bs (Gf.addT out (Gf.lagOne (ps.getD i (0, 0)).1 (ps.drop j) j i one))) (ps.length : Int) ((i + 1 : Nat) : Int)) r) → out.length < 1000000 →
      Ev (fun k => shroudref02_Through.l1 k (p53 ps) (bs out) (i : Int) (bs one) (ps.length : Int) (i : Int) (ps.length : Int) (j : Int)) r := by
    intro i out r hi d
    induction d with
    | zero =>
      intro j one hj ho hr hout
      rw [List.drop_eq_nil_of_le (by omega)] at hr
      simp only [Gf.lagOne] at hr
      refine Ev.step (fun k => ?_) (Ev.bind (f := fun k a => shroudref02_Through.l0 k (p53 ps) a (ps.length : Int) ((i + 1 : Nat) : Int)) (refadd_ev out one hout (by omega)) (hr (by omega)))
      simp only [shroudref02_Through.l1]
      rw [if_neg (by omega), w64s i (by omega)]
    | succ d ih =>
      intro j one hj ho hr hout
      rw [drop_next (show j < ps.length by omega)] at hr
      rcases hXY : ps.getD j (0, 0) with ⟨X, Y⟩
      rw [hXY] at hr
      simp only [Gf.lagOne] at hr
      by_cases hji : j = i
      · rw [if_pos hji] at hr
        refine Ev.step (fun k => ?_) (ih (j + 1) one (by omega) (by omega) hr hout)
        simp only [shroudref02_Through.l1]
        rw [if_pos (by omega), if_pos (by omega), w64s j (by omega)]
      · rw [if_neg hji] at hr
        have a3 := Gf.mulT_short one [Gf.mul X (Gf.inv ((ps.getD i (0, 0)).1 ^^^ X)), Gf.inv ((ps.getD i (0, 0)).1 ^^^ X)]
        simp only [List.length_cons, List.length_nil] at a3
        have h0 := hdis i j hi (by omega) hji
        rw [hXY] at h0
        refine Ev.step (fun k => ?_) (Ev.bind (f := fun k (a : Int × Bool) => (shroudref01_Mul.f k (uI X) a.1).bind fun b => (shroudref02_Mul.f k (bs one) [b, a.1]).bind fun c => shroudref02_Through.l1 k (p53 ps) (bs out) (i : Int) c (ps.length : Int) (i : Int) (ps.length : Int) ((j + 1 : Nat) : Int)) (refinv_ev _ h0) (Ev.bind (f := fun k b => (shroudref02_Mul.f k (bs one) [b, uI (Gf.inv ((ps.getD i (0, 0)).1 ^^^ X))]).bind fun c => shroudref02_Through.l1 k (p53 ps) (bs out) (i : Int) c (ps.length : Int) (i : Int) (ps.length : Int) ((j + 1 : Nat) : Int)) (refmul_ev X _) (Ev.bind (f := fun k c => shroudref02_Through.l1 k (p53 ps) (bs out) (i : Int) c (ps.length : Int) (i : Int) (ps.length : Int) ((j + 1 : Nat) : Int)) (refpmul_ev one [Gf.mul X (Gf.inv ((ps.getD i (0, 0)).1 ^^^ X)), Gf.inv ((ps.getD i (0, 0)).1 ^^^ X)] (by omega) (by simp)) (ih (j + 1) _ (by omega) (by omega) hr hout))))
        simp only [shroudref02_Through.l1]
        rw [if_pos (by omega), if_neg (by omega), if_pos (by omega), if_pos (by rw [p53_length]; omega), if_pos (by omega), if_pos (by rw [p53_length]; omega), rd_p53, rd_p53, hXY]
        simp only
        rw [u8_xor_u, w64s j (by omega)]
  have key : ∀ (d i : Nat) (out : List UInt8), d + i = ps.length → out.length ≤ 200000 → Ev (fun k => shroudref02_Through.l0 k (p53 ps) (bs out) (ps.length : Int) (i : Int)) (bs (Gf.lag ps (ps.drop i) i out)) := by
    intro d
    induction d with
    | zero =>
      intro i out hi ho
      refine ⟨1, fun k hk => ?_⟩
      obtain ⟨k, rfl⟩ : ∃ m, k = m + 1 := ⟨k - 1, by omega⟩
      simp only [shroudref02_Through.l0]
      rw [if_neg (by omega), List.drop_eq_nil_of_le (by omega)]
      rfl
    | succ d ih =>
      intro i out hi ho
      rw [drop_next (by omega)]
      rcases hXY : ps.getD i (0, 0) with ⟨X, Y⟩
      simp only [Gf.lag]
      have h1 := inner i out (bs (Gf.lag ps (ps.drop (i + 1)) (i + 1) (Gf.addT out (Gf.lagOne X ps 0 i [Y])))) (by omega) ps.length 0 [Y] (by omega) (by simp) (fun hl => by
        rw [List.drop_zero, hXY] at hl ⊢
        simp only at hl ⊢
        have a1 := Gf.addT_length out (Gf.lagOne X ps 0 i [Y])
        exact ih (i + 1) _ (by omega) (by omega)) (by omega)
      refine Ev.step (fun k => ?_) h1
      simp only [shroudref02_Through.l0]
      rw [if_pos (by omega), if_pos (by omega), if_pos (by rw [p53_length]; omega), rd_p53, hXY, p53_length]
      rfl
  rw [p53_length]
  exact key ps.length 0 [] (by omega) (by simp)
end Go.Proofs.Ytieiaoknbnkjpaa.Rf

namespace Go.Proofs.Ytieiaoknbnkjpaa.Rf
open Go.RowKit Go.Proofs.YtieiaoknbnkjpaaW.PrintWords

theorem mulc (n : Nat) (a : Int) (hn : n ≤ 4096) (h1 : 1 ≤ a) (h2 : a ≤ 200) : 0 ≤ (n : Int) * (a - 1) ∧ (n : Int) * (a - 1) ≤ 819200 := by
  constructor
  · exact Int.mul_nonneg (by omega) (by omega)
  · calc (n : Int) * (a - 1) ≤ 4096 * (a - 1) := Int.mul_le_mul_of_nonneg_right (by omega) (by omega)
      _ ≤ 4096 * 200 := Int.mul_le_mul_of_nonneg_left (by omega) (by omega)
theorem coins1 (n : Nat) (a : Int) (hn : n ≤ 4096) (h1 : 1 ≤ a) (h2 : a ≤ 200) : shamir_Coins.f (n : Int) a = some ((n : Int) * (a - 1)) := by
  have h := mulc n a hn h1 h2
  unfold shamir_Coins.f shamir_within.f
  by_cases hn0 : n = 0
  · subst hn0
    rw [if_neg (by omega), Option.bind_some, if_neg (by decide)]
    simp
  · rw [if_pos (by omega), Option.bind_some, if_pos (by simp; omega)]
    by_cases ha : a = 1
    · subst ha
      rw [if_neg (by omega), Option.bind_some, if_neg (by decide)]
      simp
    · rw [if_pos (by omega), Option.bind_some, if_pos (by simp; omega), w64 (x := a - 1) (by omega) (by omega), w64 (by omega) (by omega)]
theorem coins2 (n : Nat) (a : Int) (hn : n ≤ 4096) (h1 : 1 ≤ a) (h2 : a ≤ 200) : shroudref05_Coins.f (n : Int) a = some ((n : Int) * (a - 1)) := by
  have h := mulc n a hn h1 h2
  unfold shroudref05_Coins.f
  by_cases hn0 : n = 0
  · subst hn0
    rw [if_pos (by omega)]
    simp
  · rw [if_neg (by omega)]
    by_cases ha : a = 1
    · subst ha
      rw [if_pos (by omega)]
      simp
    · rw [if_neg (by omega), if_neg (by omega), if_neg (by omega), w64 (x := a - 1) (by omega) (by omega), w64 (by omega) (by omega)]

def ptsU (who : List Int) : List (UInt8 × UInt8) := (0, 1) :: who.map fun x => (UInt8.ofNat (x + 1).toNat, 0)
theorem ptsU_p53 {who : List Int} (h : okWho who) : p53 (ptsU who) = ptsOf who := by
  unfold p53 ptsU ptsOf
  rw [List.map_cons, List.map_map]
  congr 1
  refine List.map_congr_left (fun x hx => ?_)
  have := h.1 x hx
  show (⟨uI (UInt8.ofNat (x + 1).toNat), uI 0⟩ : S53) = ⟨x + 1, 0⟩
  rw [uI_of (by omega)]
  rfl
theorem ptsOf_nodup {who : List Int} (h : ∀ x ∈ who, 0 ≤ x ∧ x < 200) : (xs53 (ptsOf who)).Nodup ↔ who.Nodup := by
  unfold xs53 ptsOf
  rw [List.map_cons, List.map_map, List.nodup_cons]
  constructor
  · intro hn
    have h1 := hn.2
    refine (List.pairwise_map.1 h1).imp (fun hab e => hab (by rw [e]))
  · intro hn
    refine ⟨fun hm => ?_, ?_⟩
    · obtain ⟨x, hx, e⟩ := List.mem_map.1 hm
      have := h x hx
      simp only [Function.comp] at e
      omega
    · refine List.pairwise_map.2 (hn.imp (fun {a b} hab e => hab ?_))
      simp only [Function.comp] at e
      omega
theorem ptsU_nodup {who : List Int} (h : okWho who) : ((ptsU who).map (·.1)).Nodup := by
  rw [← bs_nodup, ← xs53_p53, ptsU_p53 h, ptsOf_nodup h.1]
  exact h.2
def turnU (who : List Int) : List UInt8 := Gf.through (ptsU who)
theorem turnU_length {who : List Int} (h : okWho who) : 1 ≤ (turnU who).length ∧ (turnU who).length ≤ who.length + 1 := by
  obtain ⟨h1, h2, h3⟩ := Gf.through_spec (ptsU_nodup h)
  refine ⟨?_, by simpa [ptsU, turnU] using h3⟩
  have h4 := h1 (0, 1) (by simp [ptsU])
  unfold turnU
  cases hp : Gf.through (ptsU who) with
  | nil => rw [hp] at h4; simp [Gf.ev] at h4
  | cons a l => simp
theorem ptsU_length (who : List Int) : (ptsU who).length = who.length + 1 := by simp [ptsU]
theorem turning_ev (p : Nat) (who : List Int) (hl : who.length < 99999) : Ev (fun k => blind_turning.f k p who) (if okWho who then (bs (turnU who), 0) else ([], 1)) := by
  unfold blind_turning.f
  refine Ev.congr (fun k => if_pos (by omega)) ?_
  by_cases h : okWho who
  · rw [if_pos h]
    refine Ev.congr (fun k => if_pos h) ?_
    rw [← ptsU_p53 h]
    exact pthrough_ev p _ (by rw [ptsU_length]; omega) (ptsU_nodup h)
  · rw [if_neg h]
    exact Ev.congr (fun k => if_neg h) (Ev.now _)
def good (s o c : List UInt8) (a : Int) (who : List Int) : Prop := 1 ≤ a ∧ a ≤ 200 ∧ (who.length : Int) < a ∧ s.length = o.length ∧ s.length ≤ 4096 ∧ (c.length : Int) = s.length * (a - 1) ∧ okWho who
instance (s o c : List UInt8) (a : Int) (who : List Int) : Decidable (good s o c a who) := by unfold good; infer_instance
def remapS (s o c : List UInt8) (a : Int) (who : List Int) : List UInt8 := remapL (a.toNat - 1) ((turnU who).drop 1) c 0 (diffs s o)
def RS (s o c : List UInt8) (a : Int) (who : List Int) : List Int × Int := if good s o c a who then (bs (remapS s o c a who), 0) else ([], 1)

theorem blind_ev (p : Nat) (s o c : List UInt8) (a : Int) (who : List Int) : Ev (fun k => blind_Remap.f k p (bs s) (bs o) (bs c) a who) (RS s o c a who) := by
  unfold blind_Remap.f RS
  rw [bs_length, bs_length, bs_length]
  by_cases h1 : a < 1
  · rw [if_neg (fun h => by unfold good at h; omega)]
    exact Ev.congr (fun k => if_pos h1) (Ev.now _)
  refine Ev.congr (fun k => if_neg h1) ?_
  by_cases h2 : 200 < a
  · rw [if_neg (fun h => by unfold good at h; omega)]
    exact Ev.congr (fun k => if_pos h2) (Ev.now _)
  refine Ev.congr (fun k => if_neg h2) ?_
  by_cases h3 : a ≤ (who.length : Int)
  · rw [if_neg (fun h => by unfold good at h; omega)]
    exact Ev.congr (fun k => if_pos h3) (Ev.now _)
  refine Ev.congr (fun k => if_neg h3) ?_
  by_cases h4 : ¬ (s.length : Int) = (o.length : Int)
  · rw [if_neg (fun h => by unfold good at h; omega)]
    exact Ev.congr (fun k => if_pos h4) (Ev.now _)
  refine Ev.congr (fun k => if_neg h4) ?_
  by_cases h5 : 4096 < (s.length : Int)
  · rw [if_neg (fun h => by unfold good at h; omega)]
    exact Ev.congr (fun k => if_pos h5) (Ev.now _)
  refine Ev.congr (fun k => if_neg h5) ?_
  rw [coins1 s.length a (by omega) (by omega) (by omega)]
  refine Ev.congr (fun k => Option.bind_some ..) ?_
  have hm := mulc s.length a (by omega) (by omega) (by omega)
  by_cases h6 : ¬ (c.length : Int) = s.length * (a - 1)
  · rw [if_neg (fun h => h6 h.2.2.2.2.2.1)]
    exact Ev.congr (fun k => if_pos h6) (Ev.now _)
  refine Ev.congr (fun k => if_neg h6) ?_
  refine Ev.bind (turning_ev p who (by omega)) ?_
  by_cases h7 : okWho who
  · rw [if_pos h7, if_pos (show good s o c a who from ⟨by omega, by omega, by omega, by omega, by omega, by omega, h7⟩)]
    have ht := turnU_length h7
    refine ⟨0, fun k _ => ?_⟩
    show (if ¬ (0 : Int) = 0 then _ else _) = _
    rw [if_neg (by decide), if_pos]
    · unfold remapI remapS
      rw [toU_bs, toU_bs, toU_bs, toU_bs]
    · refine ⟨?_, bytes_bs _, bytes_bs _, bytes_bs _, bytes_bs _, ?_, ?_, ?_⟩
      · rw [bs_length]; omega
      · rw [bs_length]; exact ht.1
      · rw [bs_length]; omega
      · rw [bs_length, bs_length]; omega
  · rw [if_neg h7, if_neg (show ¬ good s o c a who from fun h => h7 h.2.2.2.2.2.2)]
    refine ⟨0, fun k _ => ?_⟩
    show (if ¬ (1 : Int) = 0 then _ else _) = _
    rw [if_pos (by decide)]
end Go.Proofs.Ytieiaoknbnkjpaa.Rf

namespace Go.Proofs.Ytieiaoknbnkjpaa.Rf
open Go.RowKit Go.Proofs.YtieiaoknbnkjpaaW.PrintWords

theorem ref_loops (s o c tl : List UInt8) (t0 : UInt8) (m : Nat) (hso : s.length = o.length) (hs : s.length ≤ 4096) (hm : m ≤ 199) (hc : c.length = s.length * m) (htl : tl.length ≤ m) :
    Ev (fun k => shroudref06_Remap.l1 k (bs s) (bs o) ((m : Int) + 1) (bs (t0 :: tl)) (bs c) ((bs s).length : Int) 0) (bs (remapL m tl c 0 (diffs s o)), 0) := by
  have hdl : (diffs s o).length = s.length := by simp [diffs]; omega
  have hsm : s.length * m ≤ 4096 * 199 := Nat.mul_le_mul hs hm
  have hcl : c.length ≤ 815104 := by omega
  have inner : ∀ (OUT : List UInt8) (i b : Nat) (r : List Int × Int), i * m = b → OUT.length = c.length → i < s.length → b + m ≤ c.length → Ev (fun k => shroudref06_Remap.l1 k (bs s) (bs o) ((m : Int) + 1) (bs (t0 :: tl)) (bs (Gf.xorAt OUT b (tl.map fun e => Gf.mul e (s.getD i 0 ^^^ o.getD i 0)))) (s.length : Int) ((i + 1 : Nat) : Int)) r →
      ∀ (d j : Nat), d + j = tl.length → Ev (fun k => shroudref06_Remap.l2 k (bs s) (bs o) ((m : Int) + 1) (bs (t0 :: tl)) (bs (Gf.xorAt OUT b ((tl.map fun e => Gf.mul e (s.getD i 0 ^^^ o.getD i 0)).take j))) (i : Int) ((j + 1 : Nat) : Int) (s.length : Int) (i : Int)) r := by
    intro OUT i b r hb hO hi hbm hr d
    have hbl : (tl.map fun e => Gf.mul e (s.getD i 0 ^^^ o.getD i 0)).length = tl.length := List.length_map ..
    have e0 : wrap64 ((m : Int) + 1 - 1) = (m : Int) := by rw [w64 (by omega) (by omega)]; omega
    have e1 : wrap64 ((i : Int) * (m : Int)) = (b : Int) := by
      rw [← Int.natCast_mul, hb, w64 (by omega) (by omega)]
    have E0 := Aside0.mk e0
    have E1 := Aside0.mk e1
    clear hsm hc hb e0 e1
    induction d with
    | zero =>
      intro j hj
      obtain rfl : j = tl.length := by omega
      rw [List.take_of_length_le (by omega)]
      refine Ev.step (fun k => ?_) hr
      simp only [shroudref06_Remap.l2]
      rw [if_neg (by rw [bs_length, List.length_cons]; omega), w64s i (by omega)]
    | succ d ih =>
      intro j hj
      have h1 := ih (j + 1) (by omega)
      rw [xorAt_next OUT _ b j (by omega), ← bs_set, ← u8_xor_u] at h1
      have h2 : (tl.map fun e => Gf.mul e (s.getD i 0 ^^^ o.getD i 0)).getD j 0 = Gf.mul (tl.getD j 0) (s.getD i 0 ^^^ o.getD i 0) := by
        simp only [List.getD_eq_getElem?_getD, List.getElem?_map, List.getElem?_eq_getElem (show j < tl.length by omega)]
        rfl
      rw [h2] at h1
      have hX : (Gf.xorAt OUT b ((tl.map fun e => Gf.mul e (s.getD i 0 ^^^ o.getD i 0)).take j)).length = c.length := by rw [Gf.xorAt_length]; exact hO
      generalize Gf.xorAt OUT b ((tl.map fun e => Gf.mul e (s.getD i 0 ^^^ o.getD i 0)).take j) = X at *
      have E2 := Aside0.mk (w64n b (j + 1) (by omega))
      have e4 : (((b + (j + 1) : Nat) : Int) - 1) = ((b + j : Nat) : Int) := by omega
      have E3 := Aside0.mk ((congrArg wrap64 e4).trans (w64 (by omega) (by omega)))
      refine Ev.step (f := fun k => (shroudref01_Mul.f k (uI (tl.getD j 0)) (uI (s.getD i 0 ^^^ o.getD i 0))).bind fun t => shroudref06_Remap.l2 k (bs s) (bs o) ((m : Int) + 1) (bs (t0 :: tl)) ((bs X).set (b + j) (Go.bits .xor .u8 (uI (X.getD (b + j) 0)) t)) (i : Int) ((j + 1 + 1 : Nat) : Int) (s.length : Int) (i : Int)) (fun k => ?_) (Ev.bind (f := fun k t => shroudref06_Remap.l2 k (bs s) (bs o) ((m : Int) + 1) (bs (t0 :: tl)) ((bs X).set (b + j) (Go.bits .xor .u8 (uI (X.getD (b + j) 0)) t)) (i : Int) ((j + 1 + 1 : Nat) : Int) (s.length : Int) (i : Int)) (refmul_ev _ _) h1)
      simp only [shroudref06_Remap.l2]
      rw [if_pos (by rw [bs_length, List.length_cons]; omega), E0.out, E1.out, E2.out, E3.out, if_pos (by omega), if_pos (by rw [bs_length, hX]; omega), if_pos (by omega), if_pos (by omega), if_pos (by rw [bs_length]; omega), if_pos (by rw [bs_length]; omega), rd_bs, rd_bs, rd_bs, rd_bs, Int.toNat_natCast, Int.toNat_natCast, Int.toNat_natCast, u8_xor_u, w64s (j + 1) (by omega), List.getD_cons_succ]
  have key : ∀ (d i : Nat), d + i = s.length → Ev (fun k => shroudref06_Remap.l1 k (bs s) (bs o) ((m : Int) + 1) (bs (t0 :: tl)) (bs (remapL m tl c 0 ((diffs s o).take i))) (s.length : Int) (i : Int)) (bs (remapL m tl c 0 (diffs s o)), 0) := by
    intro d
    induction d with
    | zero =>
      intro i hi
      rw [List.take_of_length_le (by omega)]
      refine ⟨1, fun k hk => ?_⟩
      obtain ⟨k, rfl⟩ : ∃ m, k = m + 1 := ⟨k - 1, by omega⟩
      simp only [shroudref06_Remap.l1]
      rw [if_neg (by omega)]
    | succ d ih =>
      intro i hi
      have h1 := ih (i + 1) (by omega)
      rw [diffs_take hso (by omega), remapL_snoc, List.length_take, hdl, Nat.min_eq_left (by omega), Nat.zero_add] at h1
      have him : (i + 1) * m ≤ s.length * m := Nat.mul_le_mul_right _ (by omega)
      rw [Nat.add_mul, Nat.one_mul] at him
      have h2 := inner (remapL m tl c 0 ((diffs s o).take i)) i (i * m) _ rfl (by rw [remapL_length]) (by omega) (by omega) h1 tl.length 0 (by omega)
      simp only [List.take_zero, Gf.xorAt] at h2
      refine Ev.step (fun k => ?_) h2
      simp only [shroudref06_Remap.l1]
      rw [if_pos (by omega)]
      rfl
  have := key s.length 0 (by omega)
  rw [bs_length]
  simpa [remapL] using this

theorem ref_points (s o c : List UInt8) (a : Int) (who : List Int) (h1 : 1 ≤ a) (h2 : a ≤ 200) (h3 : (who.length : Int) < a) (h4 : s.length = o.length) (h5 : s.length ≤ 4096) (h6 : (c.length : Int) = s.length * (a - 1)) :
    Ev (fun k => shroudref06_Remap.l0 k (bs s) (bs o) (bs c) a who [⟨0, 1⟩] (who.length : Int) 0) (RS s o c a who) := by
  obtain ⟨m, rfl⟩ : ∃ m : Nat, a = (m : Int) + 1 := ⟨a.toNat - 1, by omega⟩
  have hcm : c.length = s.length * m := by
    have : (c.length : Int) = s.length * m := by rw [h6]; congr 1; omega
    exact_mod_cast this
  have hsm : s.length * m ≤ 4096 * 199 := Nat.mul_le_mul h5 (by omega)
  have key : ∀ (d j : Nat), d + j = who.length → (∀ x ∈ who.take j, 0 ≤ x ∧ x < 200) → Ev (fun k => shroudref06_Remap.l0 k (bs s) (bs o) (bs c) ((m : Int) + 1) who (ptsOf (who.take j)) (who.length : Int) (j : Int)) (RS s o c ((m : Int) + 1) who) := by
    intro d
    induction d with
    | zero =>
      intro j hj hb
      rw [List.take_of_length_le (by omega)] at hb ⊢
      refine Ev.step (f := fun k => (shroudref02_Twice.f k (ptsOf who)).bind fun t246 => (if t246 = true then (some (([] : List Int), 1)) else ((shroudref02_Through.f k (ptsOf who)).bind fun t247 => ((some (([] : List Int) : List Int)).bind fun y250 => (if y250.length + (bs c).length < 140737488355328 then (shroudref06_Remap.l1 k (bs s) (bs o) ((m : Int) + 1) t247 (y250 ++ bs c) ((bs s).length : Int) 0) else (none)))))) (fun k => ?_) (Ev.bind (reftwice_ev (ptsOf who) (by simp [ptsOf]; omega)) ?_)
      · simp only [shroudref06_Remap.l0]
        rw [if_neg (by omega)]
      · by_cases hn : who.Nodup
        · have hw : okWho who := ⟨hb, hn⟩
          have hl := turnU_length hw
          rw [decide_eq_true ((ptsOf_nodup hb).2 hn)]
          refine Ev.congr (fun k => if_neg (by decide)) ?_
          unfold RS
          rw [if_pos (show good s o c ((m : Int) + 1) who from ⟨by omega, by omega, by omega, by omega, by omega, h6, hw⟩)]
          have ht := refthrough_ev (ptsU who) (by rw [ptsU_length]; omega) (ptsU_nodup hw)
          rw [Gf.lagP_eq (ptsU_nodup hw), ptsU_p53 hw] at ht
          refine Ev.bind ht ?_
          refine Ev.congr (fun k => Option.bind_some ..) (Ev.congr (fun k => if_pos (by rw [bs_length]; simp; omega)) ?_)
          show Ev (fun k => shroudref06_Remap.l1 k (bs s) (bs o) ((m : Int) + 1) (bs (turnU who)) ([] ++ bs c) ((bs s).length : Int) 0) _
          unfold remapS
          cases htu : turnU who with
          | nil => rw [htu] at hl; simp at hl
          | cons t0 tl =>
            rw [htu, List.length_cons] at hl
            have := ref_loops s o c tl t0 m h4 h5 (by omega) hcm (by omega)
            rw [show ((m : Int) + 1).toNat - 1 = m by omega]
            exact this
        · rw [decide_eq_false (fun h => hn ((ptsOf_nodup hb).1 h))]
          refine Ev.congr (fun k => if_pos rfl) ?_
          unfold RS
          rw [if_neg (fun h => hn h.2.2.2.2.2.2.2)]
          exact Ev.now _
    | succ d ih =>
      intro j hj hb
      have hrd : rd who (j : Int) = who.getD j 0 := by unfold rd; rw [Int.toNat_natCast]
      have hmem : who.getD j 0 ∈ who := by
        rw [List.getD_eq_getElem?_getD, List.getElem?_eq_getElem (by omega)]
        exact List.getElem_mem _
      by_cases hlo : who.getD j 0 < 0
      · refine Ev.step (f := fun _ => some ([], 1)) (fun k => ?_) (by
          unfold RS
          rw [if_neg (fun h => by have := h.2.2.2.2.2.2.1 _ hmem; omega)]
          exact Ev.now _)
        simp only [shroudref06_Remap.l0]
        rw [if_pos (by omega), if_pos (by omega), if_pos (by omega), hrd, if_pos hlo]
      · by_cases hhi : who.getD j 0 > 199
        · refine Ev.step (f := fun _ => some ([], 1)) (fun k => ?_) (by
            unfold RS
            rw [if_neg (fun h => by have := h.2.2.2.2.2.2.1 _ hmem; omega)]
            exact Ev.now _)
          simp only [shroudref06_Remap.l0]
          rw [if_pos (by omega), if_pos (by omega), if_pos (by omega), hrd, if_neg hlo, if_pos hhi]
        · refine Ev.step (fun k => ?_) (ih (j + 1) (by omega) (fun x hx => by
            rw [take_snoc_getD (by omega)] at hx
            rcases List.mem_append.1 hx with hx | hx
            · exact hb x hx
            · rw [List.mem_singleton.1 hx]; omega))
          simp only [shroudref06_Remap.l0]
          rw [if_pos (by omega), if_pos (by omega), if_pos (by omega), hrd, if_neg hlo, if_neg hhi, if_pos (by simp [ptsOf]; omega), w64s j (by omega), take_snoc_getD (by omega), ptsOf_snoc, w64 (by omega) (by omega)]
          congr 4
          omega
  exact key who.length 0 (by omega) (by simp)
theorem j0_true (x0 x1 x2 : List Int) (x3 : Int) (x4 : List Int) : Ev (fun k => shroudref06_Remap.j0 k x0 x1 x2 x3 x4 true) ([], 1) :=
  Ev.step (f := fun _ => some ([], 1)) (fun k => by rw [shroudref06_Remap.j0, if_pos rfl]) (Ev.now _)
theorem ref_ev (s o c : List UInt8) (a : Int) (who : List Int) : Ev (fun k => shroudref06_Remap.f k (bs s) (bs o) (bs c) a who) (RS s o c a who) := by
  unfold shroudref06_Remap.f
  rw [bs_length, bs_length, bs_length]
  have bad : ¬ good s o c a who → Ev (fun k => shroudref06_Remap.j0 k (bs s) (bs o) (bs c) a who true) (RS s o c a who) := fun h => by
    unfold RS
    rw [if_neg h]
    exact j0_true _ _ _ _ _
  by_cases h1 : a < 1
  · exact Ev.congr (fun k => if_pos h1) (bad (fun h => by unfold good at h; omega))
  refine Ev.congr (fun k => if_neg h1) ?_
  by_cases h2 : a > 200
  · exact Ev.congr (fun k => if_pos h2) (bad (fun h => by unfold good at h; omega))
  refine Ev.congr (fun k => if_neg h2) ?_
  by_cases h4 : ¬ (s.length : Int) = (o.length : Int)
  · exact Ev.congr (fun k => if_neg h4) (bad (fun h => by unfold good at h; omega))
  replace h4 := Classical.not_not.1 h4
  refine Ev.congr (fun k => if_pos h4) ?_
  by_cases h5 : (s.length : Int) > 4096
  · exact Ev.congr (fun k => if_pos h5) (bad (fun h => by unfold good at h; omega))
  refine Ev.congr (fun k => if_neg h5) ?_
  rw [coins2 s.length a (by omega) (by omega) (by omega)]
  refine Ev.congr (fun k => Option.bind_some ..) ?_
  by_cases h6 : ¬ (c.length : Int) = s.length * (a - 1)
  · exact Ev.congr (fun k => if_neg h6) (bad (fun h => h6 h.2.2.2.2.2.1))
  replace h6 := Classical.not_not.1 h6
  refine Ev.congr (fun k => if_pos h6) ?_
  by_cases h3 : (who.length : Int) ≥ a
  · rw [decide_eq_true h3]
    exact bad (fun h => by unfold good at h; omega)
  · rw [decide_eq_false h3]
    refine Ev.step (fun k => ?_) (ref_points s o c a who (by omega) (by omega) (by omega) (by omega) (by omega) h6)
    rw [shroudref06_Remap.j0, if_neg (by decide)]
end Go.Proofs.Ytieiaoknbnkjpaa.Rf

namespace Go.Proofs.Ytieiaoknbnkjpaa.Rf
open Go.RowKit Go.Proofs.YtieiaoknbnkjpaaW.PrintWords

theorem same_ev (l m : List UInt8) (hl : l.length < 1000000000) : Ev (fun k => shroudref01_Same.f k (bs l) (bs m)) (decide (l = m)) := by
  unfold shroudref01_Same.f
  by_cases hlen : l.length = m.length
  · have key : ∀ (d j : Nat), d + j = l.length → (∀ i, i < j → l.getD i 0 = m.getD i 0) → Ev (fun k => shroudref01_Same.l0 k (bs l) (bs m) ((bs l).length : Int) (j : Int)) (decide (l = m)) := by
      intro d
      induction d with
      | zero =>
        intro j hj hp
        refine ⟨1, fun k hk => ?_⟩
        obtain ⟨k, rfl⟩ : ∃ m, k = m + 1 := ⟨k - 1, by omega⟩
        simp only [shroudref01_Same.l0]
        rw [if_neg (by rw [bs_length]; omega), decide_eq_true]
        exact Gf.ext_getD hlen (fun i => by
          by_cases hi : i < j
          · exact hp i hi
          · rw [Gf.getD_big l (by omega), Gf.getD_big m (by omega)])
      | succ d ih =>
        intro j hj hp
        by_cases he : l.getD j 0 = m.getD j 0
        · refine Ev.step (f := fun k => shroudref01_Same.l0 k (bs l) (bs m) ((bs l).length : Int) ((j + 1 : Nat) : Int)) (fun k => ?_) (ih (j + 1) (by omega) (fun i hi => by
            by_cases h : i < j
            · exact hp i h
            · obtain rfl : i = j := by omega
              exact he))
          simp only [shroudref01_Same.l0]
          rw [if_pos (by rw [bs_length]; omega), if_pos (by omega), if_pos (by rw [bs_length]; omega), if_pos (by rw [bs_length]; omega), rd_bs, rd_bs, Int.toNat_natCast, if_pos (by rw [he]), w64 (by omega) (by omega)]
          rfl
        · refine ⟨1, fun k hk => ?_⟩
          obtain ⟨k, rfl⟩ : ∃ m, k = m + 1 := ⟨k - 1, by omega⟩
          simp only [shroudref01_Same.l0]
          rw [if_pos (by rw [bs_length]; omega), if_pos (by omega), if_pos (by rw [bs_length]; omega), if_pos (by rw [bs_length]; omega), rd_bs, rd_bs, Int.toNat_natCast, if_neg (fun e => he (uI_inj e)), decide_eq_false]
          intro e
          rw [e] at he
          exact he rfl
    rw [bs_length, bs_length]
    refine Ev.congr (fun k => if_pos (by omega)) ?_
    have := key l.length 0 (by omega) (fun i hi => by omega)
    rw [bs_length] at this
    exact this
  · rw [bs_length, bs_length]
    refine ⟨0, fun k _ => ?_⟩
    show (if _ then _ else _) = _
    rw [if_neg (by omega), decide_eq_false]
    rintro rfl
    exact hlen rfl

def sealL : List UInt8 → List UInt8 → Nat → List UInt8
  | s, _, 0 => s
  | s, m, n + 1 => (sealL s m n).set n ((sealL s m n).getD n 0 ^^^ m.getD n 0)
def sealU (s m : List UInt8) : List UInt8 := sealL s m m.length
theorem sealL_length (s m : List UInt8) : ∀ n, (sealL s m n).length = s.length
  | 0 => rfl
  | n + 1 => by rw [sealL, List.length_set, sealL_length]
theorem sealL_getD (s m : List UInt8) : ∀ n, n ≤ s.length → ∀ j, (sealL s m n).getD j 0 = if j < n then s.getD j 0 ^^^ m.getD j 0 else s.getD j 0
  | 0, _, j => by simp [sealL]
  | n + 1, hn, j => by
    have ih := sealL_getD s m n (by omega)
    rw [sealL, Gf.getD_set _ _ _ _ (by rw [sealL_length]; omega)]
    by_cases h : n = j
    · subst h
      rw [if_pos rfl, ih, if_neg (by omega), if_pos (by omega)]
    · rw [if_neg h, ih]
      by_cases h2 : j < n
      · rw [if_pos h2, if_pos (by omega)]
      · rw [if_neg h2, if_neg (by omega)]
theorem sealU_getD {s m : List UInt8} (h : s.length = m.length) (j : Nat) : (sealU s m).getD j 0 = s.getD j 0 ^^^ m.getD j 0 := by
  unfold sealU
  rw [sealL_getD s m _ (by omega)]
  split
  · rfl
  · rw [Gf.getD_big s (by omega), Gf.getD_big m (by omega)]; rfl
theorem sealU_length {s m : List UInt8} : (sealU s m).length = s.length := sealL_length _ _ _
theorem seal_twice {s m : List UInt8} (h : s.length = m.length) : sealU (sealU s m) m = s := by
  refine Gf.ext_getD (by rw [sealU_length, sealU_length]) (fun j => ?_)
  rw [sealU_getD (by rw [sealU_length]; exact h), sealU_getD h, Gf.xor_cancel]
theorem seal_other {s m : List UInt8} (h : s.length = m.length) : sealU s (sealU s m) = m := by
  refine Gf.ext_getD (by rw [sealU_length]; exact h) (fun j => ?_)
  rw [sealU_getD (by rw [sealU_length]), sealU_getD h, ← UInt8.xor_assoc, UInt8.xor_self, UInt8.zero_xor]
theorem seal_ev (l m : List UInt8) (hl : l.length < 1000000) (h : l.length = m.length) : Ev (fun k => blind_Seal.f k (bs l) (bs m)) (bs (sealU l m), 0) := by
  unfold blind_Seal.f
  rw [bs_length, bs_length]
  refine Ev.congr (fun k => if_pos (by omega)) ?_
  refine Ev.bind (a := bs l) (Ev.congr (fun k => rfl) ⟨0, fun k _ => by unfold bytes_Clone.f; rw [if_pos (by rw [bs_length]; omega)]⟩) ?_
  have key : ∀ (d j : Nat), d + j = m.length → Ev (fun k => blind_Seal.l0 k (bs (sealL l m j)) (bs m) (m.length : Int) (j : Int)) (bs (sealU l m), 0) := by
    intro d
    induction d with
    | zero =>
      intro j hj
      obtain rfl : j = m.length := by omega
      refine ⟨1, fun k hk => ?_⟩
      obtain ⟨k, rfl⟩ : ∃ m, k = m + 1 := ⟨k - 1, by omega⟩
      simp only [blind_Seal.l0]
      rw [if_neg (by omega)]
      rfl
    | succ d ih =>
      intro j hj
      refine Ev.step (f := fun k => blind_Seal.l0 k (bs (sealL l m (j + 1))) (bs m) (m.length : Int) ((j + 1 : Nat) : Int)) (fun k => ?_) (ih (j + 1) (by omega))
      simp only [blind_Seal.l0]
      rw [if_pos (by omega), if_pos (by omega), if_pos (by rw [bs_length]; omega), if_pos (by rw [bs_length, sealL_length]; omega), rd_bs, rd_bs, Int.toNat_natCast, gf_Add_u, w64 (by omega) (by omega)]
      show blind_Seal.l0 k ((bs (sealL l m j)).set j _) _ _ _ = _
      rw [bs_set]
      rfl
  exact key m.length 0 (by omega)
theorem seal_bad (l m : List UInt8) (h : l.length ≠ m.length) (k : Nat) : blind_Seal.f k (bs l) (bs m) = some ([], 1) := by
  unfold blind_Seal.f
  rw [bs_length, bs_length, if_neg (by omega)]
end Go.Proofs.Ytieiaoknbnkjpaa.Rf

namespace Go.Proofs.Ytieiaoknbnkjpaa.Rf
open Go.RowKit Go.Proofs.YtieiaoknbnkjpaaW.PrintWords
set_option maxRecDepth 100000 in
set_option maxHeartbeats 4000000 in
theorem tells (A0 : Option Addr) (c0 : Nat) (l0 : List Int) (A1 : Option Addr) (c1 : Nat) (l1 : List Int) (A2 : Option Addr) (c2 : Nat) (l2 : List Int) (a : Int) (A4 : Option Addr) (c4 : Nat) (l4 : List Int) (w : World)
    (hr0 : Kd.C (Kd.int .u8) w A0 l0.length l0) (hc0 : l0.length ≤ c0) (hr1 : Kd.C (Kd.int .u8) w A1 l1.length l1) (hc1 : l1.length ≤ c1) (hr2 : Kd.C (Kd.int .u8) w A2 l2.length l2) (hc2 : l2.length ≤ c2) (hr4 : Kd.C (Kd.int .i64) w A4 l4.length l4) (hc4 : l4.length ≤ c4)
    (r : List Int) (e0 : Int) (hall : 200 < l2.length ∨ ((∀ p, ∃ k, blind_Remap.f k p l0 l1 l2 a l4 = some (r, e0)) ∧ (∃ k, shroudref06_Remap.f k l0 l1 l2 a l4 = some (r, e0)) ∧ ∃ k, shroudref01_Same.f k r r = some true)) :
    Calls Try.prog 3 #[.slice A0 l0.length c0, .slice A1 l1.length c1, .slice A2 l2.length c2, .int .i64 a, .slice A4 l4.length c4] w fun e w' => e = .returned (.bool true) ∧ Below w.heap.size w w' := by
  have HR0 := Aside0.mk hr0
  have HR1 := Aside0.mk hr1
  have HR2 := Aside0.mk hr2
  have HR4 := Aside0.mk hr4
  have HC0 := Aside0.mk hc0
  have HC1 := Aside0.mk hc1
  have HC2 := Aside0.mk hc2
  have HC4 := Aside0.mk hc4
  have HALL := Aside0.mk hall
  clear hr0 hr1 hr2 hr4 hc0 hc1 hc2 hc4 hall
  by_cases x1 : 30 < l0.length
  · have d1 : decide (30 < l0.length) = true := decide_eq_true x1
    have d1' : decide (30 < (l0.length : Int)) = true := decide_eq_true (by omega)
    clear x1
    go_enter Try.func3, Try.ntmps3
    go_wp2_with (first
      | (go_at_call 7
         refine (shroudlaw06_awake.calls true w rfl).mono ?_
         rintro e w1 ⟨rfl, hb⟩
         have B1 := Aside0.mk hb
         clear hb)
      | (go_at_call 7
         refine (shroudlaw06_awake.calls true w1 rfl).mono ?_
         rintro e w2 ⟨rfl, hb⟩
         have B2 := Aside0.mk (below_then B1.out B1.out.size hb)
         clear hb))
    go_ret
    exact ⟨rfl, B2.out⟩
  have d1 : decide (30 < l0.length) = false := decide_eq_false x1
  have d1' : decide (30 < (l0.length : Int)) = false := decide_eq_false (by omega)
  clear x1
  by_cases x2 : 200 < l2.length
  · have d2 : decide (200 < l2.length) = true := decide_eq_true x2
    have d2' : decide (200 < (l2.length : Int)) = true := decide_eq_true (by omega)
    clear x2
    go_enter Try.func3, Try.ntmps3
    go_wp2_with (first
      | (go_at_call 7
         refine (shroudlaw06_awake.calls true w rfl).mono ?_
         rintro e w1 ⟨rfl, hb⟩
         have B1 := Aside0.mk hb
         clear hb)
      | (go_at_call 7
         refine (shroudlaw06_awake.calls true w1 rfl).mono ?_
         rintro e w2 ⟨rfl, hb⟩
         have B2 := Aside0.mk (below_then B1.out B1.out.size hb)
         clear hb))
    go_ret
    exact ⟨rfl, B2.out⟩
  have d2 : decide (200 < l2.length) = false := decide_eq_false x2
  have d2' : decide (200 < (l2.length : Int)) = false := decide_eq_false (by omega)
  obtain ⟨hB, ⟨kr, hR⟩, ⟨ks, hS⟩⟩ := HALL.out.resolve_left x2
  have HB := Aside0.mk hB
  have HR := Aside0.mk hR
  have HS := Aside0.mk hS
  clear x2 hB hR hS HALL
  by_cases x3 : 20 < l4.length
  · have d3 : decide (20 < l4.length) = true := decide_eq_true x3
    have d3' : decide (20 < (l4.length : Int)) = true := decide_eq_true (by omega)
    clear x3
    go_enter Try.func3, Try.ntmps3
    go_wp2_with (first
      | (go_at_call 7
         refine (shroudlaw06_awake.calls true w rfl).mono ?_
         rintro e w1 ⟨rfl, hb⟩
         have B1 := Aside0.mk hb
         clear hb)
      | (go_at_call 7
         refine (shroudlaw06_awake.calls true w1 rfl).mono ?_
         rintro e w2 ⟨rfl, hb⟩
         have B2 := Aside0.mk (below_then B1.out B1.out.size hb)
         clear hb))
    go_ret
    exact ⟨rfl, B2.out⟩
  have d3 : decide (20 < l4.length) = false := decide_eq_false x3
  have d3' : decide (20 < (l4.length : Int)) = false := decide_eq_false (by omega)
  clear x3
  go_enter Try.func3, Try.ntmps3
  go_wp2_with (first
    | (go_at_call 7
       refine (shroudlaw06_awake.calls true w rfl).mono ?_
       rintro e w1 ⟨rfl, hb⟩
       have B1 := Aside0.mk hb
       clear hb)
    | (go_at_call 9
       refine (gf_New w1).mono ?_
       rintro e w2 ⟨p, rfl, hf, hb⟩
       have HF := Aside0.mk hf
       have B2 := Aside0.mk (below_then B1.out B1.out.size hb)
       clear hb hf)
    | (go_at_call 8
       obtain ⟨k, hk⟩ := HB.out p
       refine (blind_Remap.calls k p _ _ l0 _ _ l1 _ _ l2 a _ _ l4 r e0 _ HF.out (Kd.C_below HR0.out B2.out) HC0.out (Kd.C_below HR1.out B2.out) HC1.out (Kd.C_below HR2.out B2.out) HC2.out (Kd.C_below HR4.out B2.out) HC4.out hk).mono ?_
       rintro e w3 ⟨v3, rfl, ho, hb⟩
       have B3 := Aside0.mk (below_then B2.out B2.out.size hb)
       obtain ⟨A5, n5, rfl, l5, C5⟩ := R_cut ho rfl
       have HC5 := Aside0.mk C5
       have HL5 := Aside0.mk l5
       clear ho hb hk C5 l5 HF)
    | (go_at_call 10
       refine (shroudref06_Remap.calls kr _ _ l0 _ _ l1 _ _ l2 a _ _ l4 r e0 _ (Kd.C_below HR0.out B3.out) HC0.out (Kd.C_below HR1.out B3.out) HC1.out (Kd.C_below HR2.out B3.out) HC2.out (Kd.C_below HR4.out B3.out) HC4.out HR.out).mono ?_
       rintro e w4 ⟨v4, rfl, ho, hb⟩
       have B4 := Aside0.mk (below_then B3.out B3.out.size hb)
       have HC51 := Aside0.mk (Kd.C_below HC5.out hb)
       obtain ⟨A6, n6, rfl, l6, C6⟩ := R_cut ho rfl
       have HC6 := Aside0.mk C6
       have HL6 := Aside0.mk l6
       clear ho hb C6 l6)
    | (go_at_call 11
       refine (shroudref01_Same.calls ks _ _ r _ _ r true _ HC51.out HL5.out HC6.out HL6.out HS.out).mono ?_
       rintro e w5 ⟨rfl, ⟨m5, rfl⟩⟩
       have B5 := Aside0.mk (pw_below_drewN B4.out m5)))
  go_ret
  exact ⟨by simp, B5.out⟩
end Go.Proofs.Ytieiaoknbnkjpaa.Rf

namespace Go.Proofs.Ytieiaoknbnkjpaa.Rf
open Go.RowKit Go.Proofs.YtieiaoknbnkjpaaW.PrintWords
theorem bytes_wf {l : List Int} (h : ∀ x ∈ l, (Lit.int .u8 x).wf = true) : Bytes l := fun x hx => by
  have h1 : 0 ≤ x ∧ x ≤ 255 := by
    have := h x hx
    simp [Lit.wf, IntKind.min, IntKind.max, IntKind.signed, IntKind.bits] at this
    omega
  omega
theorem RS_bytes (s o c : List UInt8) (a : Int) (who : List Int) (hc : c.length < 1000000) : ∃ t e, RS s o c a who = (bs t, e) ∧ t.length < 1000000 := by
  unfold RS
  split
  · exact ⟨_, _, rfl, by unfold remapS; rw [remapL_length]; exact hc⟩
  · exact ⟨[], 1, rfl, by simp⟩
theorem tells_walk (A0 : Option Addr) (c0 : Nat) (l0 : List Int) (A1 : Option Addr) (c1 : Nat) (l1 : List Int) (A2 : Option Addr) (c2 : Nat) (l2 : List Int) (a : Int) (A4 : Option Addr) (c4 : Nat) (l4 : List Int) (w : World)
    (hr0 : ReadsInt w .u8 A0 l0.length l0) (hc0 : l0.length ≤ c0) (hw0 : ∀ x ∈ l0, (Lit.int .u8 x).wf = true) (hr1 : ReadsInt w .u8 A1 l1.length l1) (hc1 : l1.length ≤ c1) (hw1 : ∀ x ∈ l1, (Lit.int .u8 x).wf = true) (hr2 : ReadsInt w .u8 A2 l2.length l2) (hc2 : l2.length ≤ c2) (hw2 : ∀ x ∈ l2, (Lit.int .u8 x).wf = true) (hr4 : ReadsInt w .i64 A4 l4.length l4) (hc4 : l4.length ≤ c4) :
    Calls Try.prog 3 #[.slice A0 l0.length c0, .slice A1 l1.length c1, .slice A2 l2.length c2, .int .i64 a, .slice A4 l4.length c4] w fun e w' => e = .returned (.bool true) ∧ Below w.heap.size w w' := by
  have C0 : Kd.C (Kd.int .u8) w A0 l0.length l0 := Kd.C_of_reads (d := (0 : Int)) (h1 := fun _ => rfl) hr0
  have C1 : Kd.C (Kd.int .u8) w A1 l1.length l1 := Kd.C_of_reads (d := (0 : Int)) (h1 := fun _ => rfl) hr1
  have C2 : Kd.C (Kd.int .u8) w A2 l2.length l2 := Kd.C_of_reads (d := (0 : Int)) (h1 := fun _ => rfl) hr2
  have C4 : Kd.C (Kd.int .i64) w A4 l4.length l4 := Kd.C_of_reads (d := (0 : Int)) (h1 := fun _ => rfl) hr4
  by_cases hl : l2.length ≤ 200
  · obtain ⟨t, e, h1, h2⟩ := RS_bytes (toU l0) (toU l1) (toU l2) a l4 (by rw [toU_length]; omega)
    refine tells A0 c0 l0 A1 c1 l1 A2 c2 l2 a A4 c4 l4 w C0 hc0 C1 hc1 C2 hc2 C4 hc4 (bs t) e (.inr ⟨fun p => ?_, ?_, ?_⟩)
    · have := (blind_ev p (toU l0) (toU l1) (toU l2) a l4).rounds
      rwa [bs_toU (bytes_wf hw0), bs_toU (bytes_wf hw1), bs_toU (bytes_wf hw2), h1] at this
    · have := (ref_ev (toU l0) (toU l1) (toU l2) a l4).rounds
      rwa [bs_toU (bytes_wf hw0), bs_toU (bytes_wf hw1), bs_toU (bytes_wf hw2), h1] at this
    · have := (same_ev t t (by omega)).rounds
      rwa [decide_eq_true rfl] at this
  · exact tells A0 c0 l0 A1 c1 l1 A2 c2 l2 a A4 c4 l4 w C0 hc0 C1 hc1 C2 hc2 C4 hc4 [] 0 (.inl (by omega))
end Go.Proofs.Ytieiaoknbnkjpaa.Rf
