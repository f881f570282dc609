/- XShares: texts of this seat, one behind the other. -/
import Derived.Test.YtieiaoknbnkjpaaRShares
import Derived.Test.YtieiaoknbnkjpaaFU
import Derived.Test.YtieiaoknbnkjpaaFAdd
import Derived.Test.YtieiaoknbnkjpaaRf7
import Derived.Test.YtieiaoknbnkjpaaRf8
import Derived.Test.YtieiaoknbnkjpaaFRemap
import Derived.Test.YtieiaoknbnkjpaaRf11
import Derived.Test.YtieiaoknbnkjpaaRf12
import Derived.Test.YtieiaoknbnkjpaaRf25
import Derived.Test.YtieiaoknbnkjpaaFFew
import Derived.Test.YtieiaoknbnkjpaaFAwake
import Derived.Test.YtieiaoknbnkjpaaS
import Derived.Outline

namespace Go.Proofs.Ytieiaoknbnkjpaa.Rf
open Go.RowKit Go.Proofs.YtieiaoknbnkjpaaW.PrintWords

theorem w64 {x : Int} (h1 : -4611686018427387904 ≤ x) (h2 : x ≤ 4611686018427387904) : wrap64 x = x := by unfold wrap64; omega
theorem Ev.fn {α : Type} {g f : Nat → Option α} {r : α} (h : ∀ k, g (k + 1) = f k) (k : Ev f r) : Ev g r := Ev.step h k
theorem uI_zero {u : UInt8} : uI u = 0 ↔ u = 0 := by
  constructor
  · intro h
    apply UInt8.toNat_inj.1
    unfold uI at h
    simpa using h
  · intro h; subst h; rfl
theorem uI_inj {u v : UInt8} (h : uI u = uI v) : u = v := UInt8.toNat_inj.1 (by unfold uI at h; omega)

end Go.Proofs.Ytieiaoknbnkjpaa.Rf

namespace Go.Proofs.Ytieiaoknbnkjpaa.Rf
open Go.RowKit Go.Proofs.YtieiaoknbnkjpaaW.PrintWords

theorem degree_ev (l : List UInt8) (hl : l.length < 1000000000) : ∀ n, n ≤ l.length → Ev (fun k => poly_Degree.l0 k (bs l) ((n : Int) - 1)) ((Gf.top l n : Int) - 1)
  | 0, _ => ⟨1, fun k hk => by
      obtain ⟨k, rfl⟩ : ∃ m, k = m + 1 := ⟨k - 1, by omega⟩
      simp only [poly_Degree.l0, Gf.top]
      rw [if_neg (by omega)]⟩
  | n + 1, hn => by
    rw [show ((n + 1 : Nat) : Int) - 1 = (n : Int) by omega]
    by_cases h : l.getD n 0 = 0
    · have ih := degree_ev l hl n (by omega)
      refine Ev.step (f := fun k => poly_Degree.l0 k (bs l) ((n : Int) - 1)) (fun k => ?_) (by rw [Gf.top, if_pos h]; exact ih)
      simp only [poly_Degree.l0]
      rw [if_pos (by omega), if_pos (by omega), if_pos (by rw [bs_length]; omega), rd_bs, Int.toNat_natCast, h, if_pos (show uI 0 = 0 from rfl), w64 (by omega) (by omega)]
    · refine ⟨1, fun k hk => ?_⟩
      obtain ⟨k, rfl⟩ : ∃ m, k = m + 1 := ⟨k - 1, by omega⟩
      simp only [poly_Degree.l0]
      rw [if_pos (by omega), if_pos (by omega), if_pos (by rw [bs_length]; omega), rd_bs, Int.toNat_natCast, if_neg (fun e => h (uI_zero.1 e)), Gf.top, if_neg h]
      congr 1
      omega
theorem trim_ev (l : List UInt8) (hl : l.length < 1000000000) : Ev (fun k => poly_Trim.f k (bs l)) (bs (Gf.trimP l)) := by
  have ht := Gf.top_le l l.length
  unfold poly_Trim.f poly_Degree.f
  refine Ev.bind (a := (Gf.top l l.length : Int) - 1) ?_ ?_
  · rw [bs_length, w64 (by omega) (by omega)]
    exact degree_ev l hl l.length (Nat.le_refl _)
  · refine ⟨0, fun k _ => ?_⟩
    rw [show (Gf.top l l.length : Int) - 1 + 1 = (Gf.top l l.length : Int) by omega, w64 (by omega) (by omega), if_pos (by omega), if_pos (by rw [bs_length]; omega), Int.toNat_natCast, bs_take]
    unfold slices_Clone.f
    rw [if_pos (by rw [bs_length, List.length_take]; omega)]
    rfl

/-! products, bit by bit -/
def xt (x : Nat) : Nat := if 255 < x * 2 then (x * 2) ^^^ 283 else x * 2
theorem xt0 : ((List.range 256).all fun x => Nat.beq (Gf.mulN x 2) (xt x) && Nat.blt (xt x) 256) = true := by decide +kernel
theorem xt1 {x : Nat} (h : x < 256) : Gf.mulN x 2 = xt x ∧ xt x < 256 := by
  have h1 := List.all_eq_true.1 xt0 x (List.mem_range.2 h)
  rw [Bool.and_eq_true] at h1
  exact ⟨Nat.eq_of_beq_eq_true h1.1, Nat.blt_eq ▸ h1.2⟩
theorem dbl0 : ((List.range 128).all fun x => Nat.beq (Gf.mulN 2 x) (2 * x)) = true := by decide +kernel
theorem dbl {x : Nat} (h : x < 128) : Gf.mulN 2 x = 2 * x := Nat.eq_of_beq_eq_true (List.all_eq_true.1 dbl0 x (List.mem_range.2 h))
theorem low0 : ((List.range 128).all fun x => Nat.beq (1 ^^^ (2 * x)) (2 * x + 1)) = true := by decide +kernel
theorem mul_bit {x y : Nat} (hx : x < 256) (hy : y < 256) : Gf.mulN x y = (if y % 2 = 1 then x else 0) ^^^ Gf.mulN (xt x) (y / 2) := by
  have h1 : Gf.mulN (xt x) (y / 2) = Gf.mulN x (2 * (y / 2)) := by
    rw [← (xt1 hx).1, Gf.mulN_assoc, dbl (by omega)]
  rw [h1]
  by_cases h : y % 2 = 1
  · rw [if_pos h]
    have h2 := Nat.eq_of_beq_eq_true (List.all_eq_true.1 low0 (y / 2) (List.mem_range.2 (by omega)))
    have h3 : y = 1 ^^^ (2 * (y / 2)) := by rw [h2]; omega
    conv => lhs; rw [h3, Gf.mulN_add (by omega) (by omega), Gf.mulN_one hx]
  · rw [if_neg h, Nat.zero_xor]
    congr 1
    omega
theorem mul01_ev : ∀ (y out x : Nat), out < 256 → x < 256 → y < 256 → Ev (fun k => shroudref01_Mul.l0 k (out : Int) (x : Int) (y : Int)) ((out ^^^ Gf.mulN x y : Nat) : Int) := by
  intro y
  induction y using Nat.strongRecOn with
  | _ y ih =>
    intro out x ho hx hy
    by_cases h0 : y = 0
    · subst h0
      refine ⟨1, fun k hk => ?_⟩
      obtain ⟨k, rfl⟩ : ∃ m, k = m + 1 := ⟨k - 1, by omega⟩
      simp only [shroudref01_Mul.l0]
      rw [if_neg (by omega), Gf.mulN_zero, Nat.xor_zero]
      congr 1
      omega
    · have hxt := xt1 hx
      have hb := mul_bit hx hy
      have e1 : Int.tmod (y : Int) 2 = ((y % 2 : Nat) : Int) := by
        rw [Int.tmod_eq_emod_of_nonneg (by omega)]; omega
      have e2 : wrap64 (Int.tdiv (y : Int) 2) = ((y / 2 : Nat) : Int) := by
        rw [Int.tdiv_eq_ediv_of_nonneg (by omega), w64 (by omega) (by omega)]; omega
      have e3 : wrap64 ((x : Int) * 2) = ((x * 2 : Nat) : Int) := by rw [w64 (by omega) (by omega)]; omega
      have e4 : Go.bits .xor .i64 ((x * 2 : Nat) : Int) 283 = (((x * 2) ^^^ 283 : Nat) : Int) := bits_xor_i64 (x * 2) 283 (by omega) (by omega)
      have e5 : Go.bits .xor .i64 (out : Int) (x : Int) = ((out ^^^ x : Nat) : Int) := bits_xor_i64 out x (by omega) (by omega)
      have hox := Gf.xor_lt ho hx
      have key : ∀ o : Nat, o < 256 → Ev (fun k => shroudref01_Mul.l0 k (o : Int) ((xt x : Nat) : Int) ((y / 2 : Nat) : Int)) ((o ^^^ Gf.mulN (xt x) (y / 2) : Nat) : Int) := fun o ho => ih (y / 2) (by omega) o (xt x) ho hxt.2 (by omega)
      by_cases hodd : y % 2 = 1
      · rw [if_pos hodd] at hb
        refine Ev.step (f := fun k => shroudref01_Mul.l0 k ((out ^^^ x : Nat) : Int) ((xt x : Nat) : Int) ((y / 2 : Nat) : Int)) (fun k => ?_) (by rw [hb, ← Nat.xor_assoc]; exact key _ hox)
        simp only [shroudref01_Mul.l0]
        rw [if_pos (by omega), e1, hodd, if_pos (show ((1 : Nat) : Int) = 1 from rfl), e2, e3, e4, e5]
        unfold xt
        by_cases hbig : 255 < x * 2
        · rw [if_pos (by omega), if_pos hbig]
        · rw [if_neg (by omega), if_neg hbig]
      · rw [if_neg hodd, Nat.zero_xor] at hb
        refine Ev.step (f := fun k => shroudref01_Mul.l0 k (out : Int) ((xt x : Nat) : Int) ((y / 2 : Nat) : Int)) (fun k => ?_) (by rw [hb]; exact key _ ho)
        simp only [shroudref01_Mul.l0]
        rw [if_pos (by omega), e1, if_neg (by omega), e2, e3, e4]
        unfold xt
        by_cases hbig : 255 < x * 2
        · rw [if_pos (by omega), if_pos hbig]
        · rw [if_neg (by omega), if_neg hbig]
theorem refmul_ev (a b : UInt8) : Ev (fun k => shroudref01_Mul.f k (uI a) (uI b)) (uI (Gf.mul a b)) := by
  unfold shroudref01_Mul.f
  have ha := uI_bd a
  have hb := uI_bd b
  rw [w64 (by omega) (by omega), w64 (by omega) (by omega)]
  have h := mul01_ev b.toNat 0 a.toNat (by omega) a.toNat_lt b.toNat_lt
  rw [Nat.zero_xor, ← Gf.mul_toNat] at h
  exact h
theorem refinv_ev (a : UInt8) (h0 : a ≠ 0) : Ev (fun k => shroudref01_Inv.f k (uI a)) (uI (Gf.inv a), true) := by
  unfold shroudref01_Inv.f
  have key : ∀ (d j : Nat), d + j = (Gf.inv a).toNat → Ev (fun k => shroudref01_Inv.l0 k (uI a) (j : Int)) (uI (Gf.inv a), true) := by
    intro d
    induction d with
    | zero =>
      intro j hj
      have hjl := (Gf.inv a).toNat_lt
      have hm := refmul_ev a (Gf.inv a)
      rw [Gf.mul_inv h0] at hm
      have hj2 : ((j : Int)) % 256 = uI (Gf.inv a) := by unfold uI; omega
      refine Ev.step (f := fun k => (shroudref01_Mul.f k (uI a) (uI (Gf.inv a))).bind fun t => if t = 1 then some (uI (Gf.inv a), true) else shroudref01_Inv.l0 k (uI a) (wrap64 ((j : Int) + 1))) (fun k => ?_) (Ev.bind hm (Ev.now _))
      simp only [shroudref01_Inv.l0]
      rw [if_pos (by omega), hj2]
    | succ d ih =>
      intro j hj
      have hjl := (Gf.inv a).toNat_lt
      obtain ⟨u, hu⟩ : ∃ u : UInt8, uI u = (j : Int) := ⟨UInt8.ofNat j, by unfold uI; rw [UInt8.toNat_ofNat']; omega⟩
      have hm := refmul_ev a u
      have hne : uI (Gf.mul a u) ≠ 1 := fun e => by
        have e1 : Gf.mul a u = 1 := uI_inj (v := 1) e
        have e2 : Gf.mul u a = Gf.mul (Gf.inv a) a := by rw [Gf.mul_comm u, e1, Gf.mul_comm, Gf.mul_inv h0]
        have e3 := Gf.cancel h0 e2
        rw [e3] at hu
        unfold uI at hu
        omega
      have ih' := ih (j + 1) (by omega)
      refine Ev.step (f := fun k => (shroudref01_Mul.f k (uI a) (uI u)).bind fun t => if t = 1 then some ((j : Int) % 256, true) else shroudref01_Inv.l0 k (uI a) ((j + 1 : Nat) : Int)) (fun k => ?_) (Ev.bind hm (Ev.congr (fun k => by rw [if_neg hne]) ih'))
      simp only [shroudref01_Inv.l0]
      rw [if_pos (by omega), show (j : Int) % 256 = uI u by rw [hu]; omega, w64 (by omega) (by omega)]
      rfl
  exact key (Gf.inv a).toNat 0 (by omega)
end Go.Proofs.Ytieiaoknbnkjpaa.Rf

namespace Go.Proofs.Ytieiaoknbnkjpaa.Rf
open Go.RowKit Go.Proofs.YtieiaoknbnkjpaaW.PrintWords

theorem bs_zeros (n : Nat) : List.replicate n (0 : Int) = bs (List.replicate n 0) := by simp [bs, uI]
theorem w64n (n m : Nat) (h : n + m < 1000000000000) : wrap64 ((n : Int) + (m : Int)) = ((n + m : Nat) : Int) := by rw [w64 (by omega) (by omega)]; omega
theorem w64s (n : Nat) (h : n < 1000000000000) : wrap64 ((n : Int) + 1) = ((n + 1 : Nat) : Int) := by rw [w64 (by omega) (by omega)]; omega
theorem take_next {l : List UInt8} {j : Nat} (h : j < l.length) : l.take (j + 1) = l.take j ++ [l.getD j 0] := by
  rw [List.take_succ_eq_append_getElem h, List.getD_eq_getElem?_getD, List.getElem?_eq_getElem h]; rfl
theorem xorAt_next (out m : List UInt8) (i j : Nat) (h : j < m.length) : Gf.xorAt out i (m.take (j + 1)) = (Gf.xorAt out i (m.take j)).set (i + j) ((Gf.xorAt out i (m.take j)).getD (i + j) 0 ^^^ m.getD j 0) := by
  rw [take_next h, Gf.xorAt_snoc, List.length_take, Nat.min_eq_left (by omega)]
theorem u8_xor_u (a b : UInt8) : Go.bits .xor .u8 (uI a) (uI b) = uI (a ^^^ b) := by
  have := gf_Add_u a b
  unfold gf_Add.f at this
  exact Option.some.inj this

theorem reftrim_ev (l : List UInt8) (hl : l.length < 1000000000) : Ev (fun k => shroudref02_Trim.f k (bs l)) (bs (Gf.trimP l)) := by
  unfold shroudref02_Trim.f
  have key : ∀ n, n ≤ l.length → Ev (fun k => shroudref02_Trim.l0 k (bs l) (n : Int)) (bs (l.take (Gf.top l n))) := by
    intro n
    induction n with
    | zero =>
      intro _
      refine ⟨1, fun k hk => ?_⟩
      obtain ⟨k, rfl⟩ : ∃ m, k = m + 1 := ⟨k - 1, by omega⟩
      simp only [shroudref02_Trim.l0, Gf.top]
      rw [if_neg (by omega), Option.bind_some, if_pos (by omega), if_pos (by omega), if_pos (by simp)]
      simp [bs]
    | succ n ih =>
      intro hn
      have e1 : wrap64 (((n + 1 : Nat) : Int) - 1) = (n : Int) := by rw [w64 (by omega) (by omega)]; omega
      by_cases h : l.getD n 0 = 0
      · refine Ev.step (f := fun k => shroudref02_Trim.l0 k (bs l) (n : Int)) (fun k => ?_) (by rw [Gf.top, if_pos h]; exact ih (by omega))
        simp only [shroudref02_Trim.l0]
        rw [if_pos (by omega), e1, if_pos (by omega), if_pos (by rw [bs_length]; omega), rd_bs, Int.toNat_natCast, h, if_pos (show uI 0 = 0 from rfl)]
      · refine ⟨1, fun k hk => ?_⟩
        obtain ⟨k, rfl⟩ : ∃ m, k = m + 1 := ⟨k - 1, by omega⟩
        simp only [shroudref02_Trim.l0]
        rw [if_pos (by omega), e1, if_pos (by omega), if_pos (by rw [bs_length]; omega), rd_bs, Int.toNat_natCast, if_neg (fun e => h (uI_zero.1 e)), Gf.top, if_neg h]
        rw [Option.bind_some, if_pos (by omega), if_pos (by rw [bs_length]; omega), Int.toNat_natCast, bs_take, if_pos (by rw [bs_length, List.length_take]; simp; omega)]
        rfl
  rw [bs_length]
  exact key l.length (Nat.le_refl _)

theorem addl_ev (out m : List UInt8) (ho : out.length < 1000000000) (hm : m.length ≤ out.length) : Ev (fun k => poly_Add.l0 k (bs out) (bs m) ((bs m).length : Int) 0) (bs (Gf.trimP (Gf.xorAt out 0 m))) := by
  have key : ∀ (d j : Nat), d + j = m.length → Ev (fun k => poly_Add.l0 k (bs (Gf.xorAt out 0 (m.take j))) (bs m) (m.length : Int) (j : Int)) (bs (Gf.trimP (Gf.xorAt out 0 m))) := by
    intro d
    induction d with
    | zero =>
      intro j hj
      obtain rfl : j = m.length := by omega
      rw [List.take_length]
      refine Ev.step (f := fun k => poly_Trim.f k (bs (Gf.xorAt out 0 m))) (fun k => ?_) (trim_ev _ (by rw [Gf.xorAt_length]; exact ho))
      simp only [poly_Add.l0]
      rw [if_neg (by omega)]
    | succ d ih =>
      intro j hj
      refine Ev.step (f := fun k => poly_Add.l0 k (bs (Gf.xorAt out 0 (m.take (j + 1)))) (bs m) (m.length : Int) ((j + 1 : Nat) : Int)) (fun k => ?_) (ih (j + 1) (by omega))
      simp only [poly_Add.l0]
      rw [if_pos (by omega), if_pos (by omega), if_pos (by rw [bs_length]; omega), if_pos (by rw [bs_length, Gf.xorAt_length]; omega), rd_bs, rd_bs, Int.toNat_natCast, gf_Add_u, w64s j (by omega), xorAt_next out m 0 j (by omega), Nat.zero_add]
      show poly_Add.l0 k ((bs _).set j _) _ _ _ = _
      rw [bs_set]
  rw [bs_length]
  have := key m.length 0 (by omega)
  simpa [Gf.xorAt] using this
theorem add_ev (a b : List UInt8) (ha : a.length < 1000000) (hb : b.length < 1000000) : Ev (fun k => poly_Add.f k (bs a) (bs b)) (bs (Gf.addT a b)) := by
  unfold poly_Add.f Gf.addT Gf.addP slices_Clone.f
  rw [bs_length, bs_length]
  by_cases h : a.length < b.length
  · rw [if_pos h]
    refine Ev.congr (fun k => if_pos h) ?_
    rw [if_pos (by omega)]
    have := addl_ev b a (by omega) (by omega)
    rw [bs_length] at this
    exact this
  · rw [if_neg h]
    refine Ev.congr (fun k => if_neg h) ?_
    rw [if_pos (by omega)]
    have := addl_ev a b (by omega) (by omega)
    rw [bs_length] at this
    exact this
theorem refadd1_ev (out b : List UInt8) (ho : out.length < 1000000000) (hb : b.length ≤ out.length) : Ev (fun k => shroudref02_Add.l1 k (bs b) (bs out) ((bs b).length : Int) 0) (bs (Gf.trimP (Gf.xorAt out 0 b))) := by
  have key : ∀ (d j : Nat), d + j = b.length → Ev (fun k => shroudref02_Add.l1 k (bs b) (bs (Gf.xorAt out 0 (b.take j))) (b.length : Int) (j : Int)) (bs (Gf.trimP (Gf.xorAt out 0 b))) := by
    intro d
    induction d with
    | zero =>
      intro j hj
      obtain rfl : j = b.length := by omega
      rw [List.take_length]
      refine Ev.step (f := fun k => (shroudref02_Trim.f k (bs (Gf.xorAt out 0 b))).bind fun t => some t) (fun k => ?_) (Ev.bind (reftrim_ev _ (by rw [Gf.xorAt_length]; exact ho)) (Ev.now _))
      simp only [shroudref02_Add.l1]
      rw [if_neg (by omega)]
    | succ d ih =>
      intro j hj
      refine Ev.step (f := fun k => shroudref02_Add.l1 k (bs b) (bs (Gf.xorAt out 0 (b.take (j + 1)))) (b.length : Int) ((j + 1 : Nat) : Int)) (fun k => ?_) (ih (j + 1) (by omega))
      simp only [shroudref02_Add.l1]
      rw [if_pos (by omega), if_pos (by omega), if_pos (by rw [bs_length, Gf.xorAt_length]; omega), if_pos (by rw [bs_length]; omega), rd_bs, rd_bs, Int.toNat_natCast, u8_xor_u, w64s j (by omega), xorAt_next out b 0 j (by omega), Nat.zero_add, bs_set]
  rw [bs_length]
  have := key b.length 0 (by omega)
  simpa [Gf.xorAt] using this
theorem refadd_ev (a b : List UInt8) (ha : a.length < 1000000) (hb : b.length < 1000000) : Ev (fun k => shroudref02_Add.f k (bs a) (bs b)) (bs (Gf.addT a b)) := by
  unfold shroudref02_Add.f Gf.addT
  have hmx : mx ((bs a).length : Int) ((bs b).length : Int) = ((max a.length b.length : Nat) : Int) := by
    rw [bs_length, bs_length]; unfold mx; split <;> omega
  rw [hmx, Int.toNat_natCast, bs_zeros, ← Gf.add_ref]
  refine Ev.congr (fun k => if_pos (by omega)) (Ev.congr (fun k => if_pos (by omega)) ?_)
  have hz : (List.replicate (max a.length b.length) (0 : UInt8)).length = max a.length b.length := List.length_replicate
  generalize List.replicate (max a.length b.length) (0 : UInt8) = z at *
  have key : ∀ (d j : Nat), d + j = a.length → Ev (fun k => shroudref02_Add.l0 k (bs a) (bs b) (bs (Gf.xorAt z 0 (a.take j))) (a.length : Int) (j : Int)) (bs (Gf.trimP (Gf.xorAt (Gf.xorAt z 0 a) 0 b))) := by
    intro d
    induction d with
    | zero =>
      intro j hj
      obtain rfl : j = a.length := by omega
      rw [List.take_length]
      refine Ev.step (f := fun k => shroudref02_Add.l1 k (bs b) (bs (Gf.xorAt z 0 a)) ((bs b).length : Int) 0) (fun k => ?_) (refadd1_ev _ b (by rw [Gf.xorAt_length]; omega) (by rw [Gf.xorAt_length]; omega))
      simp only [shroudref02_Add.l0]
      rw [if_neg (by omega)]
    | succ d ih =>
      intro j hj
      refine Ev.step (f := fun k => shroudref02_Add.l0 k (bs a) (bs b) (bs (Gf.xorAt z 0 (a.take (j + 1)))) (a.length : Int) ((j + 1 : Nat) : Int)) (fun k => ?_) (ih (j + 1) (by omega))
      simp only [shroudref02_Add.l0]
      rw [if_pos (by omega), if_pos (by omega), if_pos (by rw [bs_length, Gf.xorAt_length]; omega), if_pos (by rw [bs_length]; omega), rd_bs, rd_bs, Int.toNat_natCast, u8_xor_u, w64s j (by omega), xorAt_next z a 0 j (by omega), Nat.zero_add, bs_set]
  rw [bs_length]
  have := key a.length 0 (by omega)
  simpa [Gf.xorAt] using this

theorem mulTo_snoc : ∀ (a out b : List UInt8) (i : Nat) (c : UInt8), Gf.mulTo out i (a ++ [c]) b = Gf.xorAt (Gf.mulTo out i a b) (i + a.length) (b.map (Gf.mul c))
  | [], out, b, i, c => rfl
  | d :: a, out, b, i, c => by
    rw [List.cons_append, Gf.mulTo, mulTo_snoc a _ b (i + 1) c, Gf.mulTo, List.length_cons]
    congr 1
    omega
theorem mul_ev (p : Nat) (a b : List UInt8) (ha : a.length < 1000000) (hb : b.length < 1000000) : Ev (fun k => poly_Mul.f k p (bs a) (bs b)) (bs (Gf.mulT a b)) := by
  unfold poly_Mul.f Gf.mulT Gf.mulP
  rw [bs_length, bs_length, w64n _ _ (by omega), Int.toNat_natCast, bs_zeros]
  refine Ev.congr (fun k => if_pos (by omega)) (Ev.congr (fun k => if_pos (by omega)) ?_)
  have hz : (List.replicate (a.length + b.length) (0 : UInt8)).length = a.length + b.length := List.length_replicate
  generalize List.replicate (a.length + b.length) (0 : UInt8) = z at *
  have inner : ∀ (OUT : List UInt8) (i : Nat) (r : List Int), OUT.length = a.length + b.length → i < a.length → Ev (fun k => poly_Mul.l0 k p (bs a) (bs b) (bs (Gf.xorAt OUT i (b.map (Gf.mul (a.getD i 0))))) (a.length : Int) ((i + 1 : Nat) : Int)) r →
      ∀ (d j : Nat), d + j = b.length → Ev (fun k => poly_Mul.l1 k p (bs a) (bs b) (bs (Gf.xorAt OUT i ((b.map (Gf.mul (a.getD i 0))).take j))) (i : Int) (a.length : Int) (i : Int) (b.length : Int) (j : Int)) r := by
    intro OUT i r hO hi hr d
    have hbl : (b.map (Gf.mul (a.getD i 0))).length = b.length := List.length_map ..
    induction d with
    | zero =>
      intro j hj
      obtain rfl : j = b.length := by omega
      rw [List.take_of_length_le (by omega)]
      refine Ev.step (fun k => ?_) hr
      simp only [poly_Mul.l1]
      rw [if_neg (by omega), w64s i (by omega)]
    | succ d ih =>
      intro j hj
      refine Ev.step (fun k => ?_) (ih (j + 1) (by omega))
      simp only [poly_Mul.l1]
      rw [if_pos (by omega), w64n i j (by omega), if_pos (by omega), if_pos (by rw [bs_length, Gf.xorAt_length]; omega), if_pos (by omega), if_pos (by rw [bs_length]; omega), if_pos (by omega), if_pos (by rw [bs_length]; omega), rd_bs, rd_bs, rd_bs, Int.toNat_natCast, Int.toNat_natCast, Int.toNat_natCast, gf_Mul_u, Option.bind_some, gf_Add_u, Option.bind_some, w64s j (by omega), bs_set, xorAt_next OUT _ i j (by omega)]
      congr 4
      simp only [List.getD_eq_getElem?_getD, List.getElem?_map, List.getElem?_eq_getElem (show j < b.length by omega)]
      rfl
  have key : ∀ (d i : Nat), d + i = a.length → Ev (fun k => poly_Mul.l0 k p (bs a) (bs b) (bs (Gf.mulTo z 0 (a.take i) b)) (a.length : Int) (i : Int)) (bs (Gf.trimP (Gf.mulTo z 0 a b))) := by
    intro d
    induction d with
    | zero =>
      intro i hi
      obtain rfl : i = a.length := by omega
      rw [List.take_length]
      refine Ev.step (f := fun k => (poly_Trim.f k (bs (Gf.mulTo z 0 a b))).bind fun t => some t) (fun k => ?_) (Ev.bind (trim_ev _ (by rw [Gf.mulTo_length]; omega)) (Ev.now _))
      simp only [poly_Mul.l0]
      rw [if_neg (by omega)]
    | succ d ih =>
      intro i hi
      have h1 := ih (i + 1) (by omega)
      rw [take_next (by omega), mulTo_snoc, List.length_take, Nat.min_eq_left (by omega), Nat.zero_add] at h1
      have h2 := inner (Gf.mulTo z 0 (a.take i) b) i _ (by rw [Gf.mulTo_length]; exact hz) (by omega) h1 b.length 0 (by omega)
      simp only [List.take_zero, Gf.xorAt] at h2
      refine Ev.step (fun k => ?_) h2
      simp only [poly_Mul.l0]
      rw [if_pos (by omega), bs_length]
      rfl
  have := key a.length 0 (by omega)
  simpa [Gf.mulTo] using this
theorem refpmul_ev (a b : List UInt8) (ha : a.length < 1000000) (hb : b.length < 1000000) : Ev (fun k => shroudref02_Mul.f k (bs a) (bs b)) (bs (Gf.mulT a b)) := by
  unfold shroudref02_Mul.f Gf.mulT Gf.mulP
  rw [bs_length, bs_length, w64n _ _ (by omega), Int.toNat_natCast, bs_zeros]
  refine Ev.congr (fun k => if_pos (by omega)) (Ev.congr (fun k => if_pos (by omega)) ?_)
  have hz : (List.replicate (a.length + b.length) (0 : UInt8)).length = a.length + b.length := List.length_replicate
  generalize List.replicate (a.length + b.length) (0 : UInt8) = z at *
  have inner : ∀ (OUT : List UInt8) (i : Nat) (r : List Int), OUT.length = a.length + b.length → i < a.length → Ev (fun k => shroudref02_Mul.l0 k (bs a) (bs b) (bs (Gf.xorAt OUT i (b.map (Gf.mul (a.getD i 0))))) (a.length : Int) ((i + 1 : Nat) : Int)) r →
      ∀ (d j : Nat), d + j = b.length → Ev (fun k => shroudref02_Mul.l1 k (bs a) (bs b) (bs (Gf.xorAt OUT i ((b.map (Gf.mul (a.getD i 0))).take j))) (i : Int) (a.length : Int) (i : Int) (b.length : Int) (j : Int)) r := by
    intro OUT i r hO hi hr d
    have hbl : (b.map (Gf.mul (a.getD i 0))).length = b.length := List.length_map ..
    induction d with
    | zero =>
      intro j hj
      obtain rfl : j = b.length := by omega
      rw [List.take_of_length_le (by omega)]
      refine Ev.step (fun k => ?_) hr
      simp only [shroudref02_Mul.l1]
      rw [if_neg (by omega), w64s i (by omega)]
    | succ d ih =>
      intro j hj
      refine Ev.step (f := fun k => (shroudref01_Mul.f k (uI (a.getD i 0)) (uI (b.getD j 0))).bind fun t => shroudref02_Mul.l1 k (bs a) (bs b) ((bs (Gf.xorAt OUT i ((b.map (Gf.mul (a.getD i 0))).take j))).set (i + j) (Go.bits .xor .u8 (uI ((Gf.xorAt OUT i ((b.map (Gf.mul (a.getD i 0))).take j)).getD (i + j) 0)) t)) (i : Int) (a.length : Int) (i : Int) (b.length : Int) ((j + 1 : Nat) : Int)) (fun k => ?_) (Ev.bind (refmul_ev _ _) ?_)
      · simp only [shroudref02_Mul.l1]
        rw [if_pos (by omega), w64n i j (by omega), if_pos (by omega), if_pos (by rw [bs_length, Gf.xorAt_length]; omega), if_pos (by omega), if_pos (by rw [bs_length]; omega), if_pos (by omega), if_pos (by rw [bs_length]; omega), rd_bs, rd_bs, rd_bs, Int.toNat_natCast, Int.toNat_natCast, Int.toNat_natCast, w64s j (by omega)]
      · have h1 := ih (j + 1) (by omega)
        rw [xorAt_next OUT _ i j (by omega), ← bs_set, ← u8_xor_u] at h1
        have h2 : (b.map (Gf.mul (a.getD i 0))).getD j 0 = Gf.mul (a.getD i 0) (b.getD j 0) := by
          simp only [List.getD_eq_getElem?_getD, List.getElem?_map, List.getElem?_eq_getElem (show j < b.length by omega)]
          rfl
        rw [h2] at h1
        exact h1
  have key : ∀ (d i : Nat), d + i = a.length → Ev (fun k => shroudref02_Mul.l0 k (bs a) (bs b) (bs (Gf.mulTo z 0 (a.take i) b)) (a.length : Int) (i : Int)) (bs (Gf.trimP (Gf.mulTo z 0 a b))) := by
    intro d
    induction d with
    | zero =>
      intro i hi
      obtain rfl : i = a.length := by omega
      rw [List.take_length]
      refine Ev.step (f := fun k => (shroudref02_Trim.f k (bs (Gf.mulTo z 0 a b))).bind fun t => some t) (fun k => ?_) (Ev.bind (reftrim_ev _ (by rw [Gf.mulTo_length]; omega)) (Ev.now _))
      simp only [shroudref02_Mul.l0]
      rw [if_neg (by omega)]
    | succ d ih =>
      intro i hi
      have h1 := ih (i + 1) (by omega)
      rw [take_next (by omega), mulTo_snoc, List.length_take, Nat.min_eq_left (by omega), Nat.zero_add] at h1
      have h2 := inner (Gf.mulTo z 0 (a.take i) b) i _ (by rw [Gf.mulTo_length]; exact hz) (by omega) h1 b.length 0 (by omega)
      simp only [List.take_zero, Gf.xorAt] at h2
      refine Ev.step (fun k => ?_) h2
      simp only [shroudref02_Mul.l0]
      rw [if_pos (by omega), bs_length]
      rfl
  have := key a.length 0 (by omega)
  simpa [Gf.mulTo] using this
end Go.Proofs.Ytieiaoknbnkjpaa.Rf

namespace Go.Proofs.Ytieiaoknbnkjpaa.Rf
open Go.RowKit Go.Proofs.YtieiaoknbnkjpaaW.PrintWords

def p53 (ps : List (UInt8 × UInt8)) : List S53 := ps.map fun d => (⟨uI d.1, uI d.2⟩ : S53)
theorem p53_length (ps : List (UInt8 × UInt8)) : (p53 ps).length = ps.length := by simp [p53]
theorem rd_p53 (ps : List (UInt8 × UInt8)) (i : Nat) : rd_T53 (p53 ps) (i : Int) = (⟨uI (ps.getD i (0, 0)).1, uI (ps.getD i (0, 0)).2⟩ : S53) := by
  unfold rd_T53 p53
  rw [Int.toNat_natCast, List.getD_eq_getElem?_getD, List.getElem?_map, List.getD_eq_getElem?_getD]
  cases ps[i]? <;> rfl
theorem xs53_p53 (ps : List (UInt8 × UInt8)) : xs53 (p53 ps) = bs (ps.map (·.1)) := by
  simp only [xs53, p53, bs, List.map_map]
  rfl
theorem bs_nodup (l : List UInt8) : (bs l).Nodup ↔ l.Nodup := by
  unfold bs
  exact List.pairwise_map.trans ⟨fun h => h.imp (fun hab e => hab (by rw [e])), fun h => h.imp (fun hab e => hab (uI_inj e))⟩
theorem eval_u2 (p : Nat) (l : List UInt8) (x : UInt8) : poly_Eval.f p (bs l) (uI x) = some (uI (Gf.ev l x)) := by
  unfold poly_Eval.f
  rw [if_pos ⟨bytes_bs l, uI_bd x⟩, toU_bs]
  congr 3
  exact uI_inj (uI_of (uI_bd x))
theorem drop_next {ps : List (UInt8 × UInt8)} {i : Nat} (h : i < ps.length) : ps.drop i = ps.getD i (0, 0) :: ps.drop (i + 1) := by
  rw [List.drop_eq_getElem_cons h, List.getD_eq_getElem?_getD, List.getElem?_eq_getElem h]; rfl
theorem bs1 (a : UInt8) : ([uI a] : List Int) = bs [a] := rfl
theorem bs2 (a b : UInt8) : ([uI a, uI b] : List Int) = bs [a, b] := rfl

theorem through_l0 (p : Nat) (ps : List (UInt8 × UInt8)) (hps : ps.length < 100000) : ∀ (d i : Nat) (out nodes : List UInt8), d + i = ps.length → out.length ≤ i → nodes.length ≤ i + 1 →
    Ev (fun k => poly_Through.l0 k p (bs out) (bs nodes) (p53 ps) (ps.length : Int) (i : Int)) (bs (Gf.newton (ps.drop i) out nodes), 0) := by
  intro d
  induction d with
  | zero =>
    intro i out nodes hi _ _
    refine ⟨1, fun k hk => ?_⟩
    obtain ⟨k, rfl⟩ : ∃ m, k = m + 1 := ⟨k - 1, by omega⟩
    simp only [poly_Through.l0]
    rw [if_neg (by omega), List.drop_eq_nil_of_le (by omega)]
    rfl
  | succ d ih =>
    intro i out nodes hi ho hn
    rw [drop_next (by omega)]
    rcases hXY : ps.getD i (0, 0) with ⟨X, Y⟩
    simp only [Gf.newton]
    have a1 := Gf.addT_length out (Gf.mulT nodes [Gf.dv (Y ^^^ Gf.ev out X) (Gf.ev nodes X)])
    have a2 := Gf.mulT_short nodes [Gf.dv (Y ^^^ Gf.ev out X) (Gf.ev nodes X)]
    have a3 := Gf.mulT_short nodes [X, 1]
    simp only [List.length_cons, List.length_nil] at a2 a3
    have h1 := ih (i + 1) (Gf.addT out (Gf.mulT nodes [Gf.dv (Y ^^^ Gf.ev out X) (Gf.ev nodes X)])) (Gf.mulT nodes [X, 1]) (by omega) (by omega) (by omega)
    have e1 := mul_ev p nodes [Gf.dv (Y ^^^ Gf.ev out X) (Gf.ev nodes X)] (by omega) (by simp)
    have e2 := add_ev out (Gf.mulT nodes [Gf.dv (Y ^^^ Gf.ev out X) (Gf.ev nodes X)]) (by omega) (by omega)
    have e3 := mul_ev p nodes [X, 1] (by omega) (by simp)
    refine Ev.step (fun k => ?_) (Ev.bind (f := fun k a => (poly_Add.f k (bs out) a).bind fun b => (poly_Mul.f k p (bs nodes) (bs [X, 1])).bind fun c => poly_Through.l0 k p b c (p53 ps) (ps.length : Int) ((i + 1 : Nat) : Int)) e1 (Ev.bind (f := fun k b => (poly_Mul.f k p (bs nodes) (bs [X, 1])).bind fun c => poly_Through.l0 k p b c (p53 ps) (ps.length : Int) ((i + 1 : Nat) : Int)) e2 (Ev.bind (f := fun k c => poly_Through.l0 k p (bs (Gf.addT out (Gf.mulT nodes [Gf.dv (Y ^^^ Gf.ev out X) (Gf.ev nodes X)]))) c (p53 ps) (ps.length : Int) ((i + 1 : Nat) : Int)) e3 h1)))
    simp only [poly_Through.l0]
    rw [if_pos (by omega), if_pos (by omega), if_pos (by rw [p53_length]; omega), rd_p53, hXY]
    simp only
    rw [eval_u2, Option.bind_some, gf_Add_u, Option.bind_some, eval_u2, Option.bind_some, gf_Div_u, Option.bind_some]
    simp only
    rw [w64s i (by omega)]
    rfl
theorem pthrough_ev (p : Nat) (ps : List (UInt8 × UInt8)) (hps : ps.length < 100000) (hn : (ps.map (·.1)).Nodup) : Ev (fun k => poly_Through.f k p (p53 ps)) (bs (Gf.through ps), 0) := by
  unfold poly_Through.f
  have h1 : poly_twice.f (p53 ps) = some false := by
    unfold poly_twice.f
    rw [xs53_p53, if_pos (bytes_bs _), decide_eq_true ((bs_nodup _).2 hn)]
    rfl
  rw [h1]
  refine Ev.congr (f := fun k => poly_Through.l0 k p ([] : List Int) ([1] : List Int) (p53 ps) ((p53 ps).length : Int) 0) (fun k => ?_) ?_
  · rw [Option.bind_some, if_neg (by decide)]
  · have := through_l0 p ps hps ps.length 0 [] [1] (by omega) (by simp) (by simp)
    rw [p53_length]
    exact this

theorem reftwice_ev (l : List S53) (hl : l.length < 1000000) : Ev (fun k => shroudref02_Twice.f k l) (!decide (xs53 l).Nodup) := by
  unfold shroudref02_Twice.f
  have hxl : (xs53 l).length = l.length := by simp [xs53]
  have hrd : ∀ i : Nat, (rd_T53 l (i : Int)).f0 = (xs53 l).getD i 0 := fun i => by rw [xs53_rd, Int.toNat_natCast]
  have nd : ∀ i, i < l.length → (((xs53 l).take (i + 1)).Nodup ↔ (((xs53 l).take i).Nodup ∧ ∀ j, j < i → (xs53 l).getD i 0 ≠ (xs53 l).getD j 0)) := fun i hi => by
    have hi' : i < (xs53 l).length := by omega
    rw [List.take_succ_eq_append_getElem hi', List.nodup_append]
    have hg : (xs53 l).getD i 0 = (xs53 l)[i] := by rw [List.getD_eq_getElem?_getD, List.getElem?_eq_getElem hi']; rfl
    refine ⟨fun h => ⟨h.1, fun j hj e => ?_⟩, fun h => ⟨h.1, by simp, fun a ha b hb => ?_⟩⟩
    · refine h.2.2 ((xs53 l).getD j 0) ?_ (xs53 l)[i] (by simp) (by rw [← e, hg])
      rw [List.getD_eq_getElem?_getD, List.getElem?_eq_getElem (by omega)]
      exact List.mem_take_iff_getElem.2 ⟨j, by omega, rfl⟩
    · obtain rfl := List.mem_singleton.1 hb
      obtain ⟨j, hj, rfl⟩ := List.mem_take_iff_getElem.1 ha
      have := h.2 j (by omega)
      rw [hg, List.getD_eq_getElem?_getD, List.getElem?_eq_getElem (by omega)] at this
      exact fun e => this e.symm
  have inner : ∀ (i : Nat) (r : Bool), i < l.length → ((∀ j, j < i → (xs53 l).getD i 0 ≠ (xs53 l).getD j 0) → Ev (fun k => shroudref02_Twice.l0 k l (l.length : Int) ((i + 1 : Nat) : Int)) r) → ((¬ ∀ j, j < i → (xs53 l).getD i 0 ≠ (xs53 l).getD j 0) → r = true) →
      ∀ (d j : Nat), d + j = i → (∀ j', j' < j → (xs53 l).getD i 0 ≠ (xs53 l).getD j' 0) → Ev (fun k => shroudref02_Twice.l1 k l (i : Int) (j : Int) (l.length : Int) (i : Int)) r := by
    intro i r hi hr hr2 d
    induction d with
    | zero =>
      intro j hj hp
      obtain rfl : j = i := by omega
      refine Ev.step (fun k => ?_) (hr hp)
      simp only [shroudref02_Twice.l1]
      rw [if_neg (by omega), w64s j (by omega)]
    | succ d ih =>
      intro j hj hp
      by_cases he : (xs53 l).getD i 0 = (xs53 l).getD j 0
      · refine Ev.step (f := fun _ => some true) (fun k => ?_) (by rw [hr2 (fun h => h j (by omega) he)]; exact Ev.now _)
        simp only [shroudref02_Twice.l1]
        rw [if_pos (by omega), if_pos (by omega), if_pos (by omega), if_pos (by omega), if_pos (by omega), hrd, hrd, if_pos he]
      · refine Ev.step (fun k => ?_) (ih (j + 1) (by omega) (fun j' h' => by
          by_cases h : j' < j
          · exact hp j' h
          · obtain rfl : j' = j := by omega
            exact he))
        simp only [shroudref02_Twice.l1]
        rw [if_pos (by omega), if_pos (by omega), if_pos (by omega), if_pos (by omega), if_pos (by omega), hrd, hrd, if_neg he, w64s j (by omega)]
  have key : ∀ (d i : Nat), d + i = l.length → ((xs53 l).take i).Nodup → Ev (fun k => shroudref02_Twice.l0 k l (l.length : Int) (i : Int)) (!decide (xs53 l).Nodup) := by
    intro d
    induction d with
    | zero =>
      intro i hi hnd
      rw [List.take_of_length_le (by omega)] at hnd
      refine ⟨1, fun k hk => ?_⟩
      obtain ⟨k, rfl⟩ : ∃ m, k = m + 1 := ⟨k - 1, by omega⟩
      simp only [shroudref02_Twice.l0]
      rw [if_neg (by omega), decide_eq_true hnd]
      rfl
    | succ d ih =>
      intro i hi hnd
      refine Ev.step (f := fun k => shroudref02_Twice.l1 k l (i : Int) ((0 : Nat) : Int) (l.length : Int) (i : Int)) (fun k => ?_) (inner i _ (by omega) (fun h => ih (i + 1) (by omega) ((nd i (by omega)).2 ⟨hnd, h⟩)) (fun h => ?_) i 0 (by omega) (fun j' h => by omega))
      · simp only [shroudref02_Twice.l0]
        rw [if_pos (by omega)]
        rfl
      · rw [decide_eq_false (fun hn => h ((nd i (by omega)).1 (hn.sublist (List.take_sublist _ _))).2)]
        rfl
  exact key l.length 0 (by omega) (by simp)

theorem refthrough_ev (ps : List (UInt8 × UInt8)) (hps : ps.length < 100000) (hn : (ps.map (·.1)).Nodup) : Ev (fun k => shroudref02_Through.f k (p53 ps)) (bs (Gf.lagP ps)) := by
  unfold shroudref02_Through.f
  have hdis : ∀ i j, i < ps.length → j < ps.length → j ≠ i → (ps.getD i (0, 0)).1 ^^^ (ps.getD j (0, 0)).1 ≠ 0 := fun i j hi hj hne e => by
    have h1 := List.pairwise_iff_getElem.1 hn
    have e1 : ∀ k (hk : k < ps.length), (ps.map (·.1))[k]'(by simpa using hk) = (ps.getD k (0, 0)).1 := fun k hk => by
      rw [List.getD_eq_getElem?_getD, List.getElem?_eq_getElem hk]; simp
    rcases Nat.lt_or_gt_of_ne hne with h | h
    · exact h1 j i (by simpa using hj) (by simpa using hi) h (by rw [e1 j hj, e1 i hi]; exact (Gf.xor_eq_zero e).symm)
    · exact h1 i j (by simpa using hi) (by simpa using hj) h (by rw [e1 j hj, e1 i hi]; exact Gf.xor_eq_zero e)
  have inner : ∀ (i : Nat) (out : List UInt8) (r : List Int), i < ps.length → ∀ (d j : Nat) (one : List UInt8), d + j = ps.length → one.length ≤ j + 1 →
      ((Gf.lagOne (ps.getD i (0, 0)).1 (ps.drop j) j i one).length ≤ 200000 → Ev (fun k => shroudref02_Through.l0 k (p53 ps) (bs (Gf.addT out (Gf.lagOne (ps.getD i (0, 0)).1 (ps.drop j) j i one))) (ps.length : Int) ((i + 1 : Nat) : Int)) r) → out.length < 1000000 →
      Ev (fun k => shroudref02_Through.l1 k (p53 ps) (bs out) (i : Int) (bs one) (ps.length : Int) (i : Int) (ps.length : Int) (j : Int)) r := by
    intro i out r hi d
    induction d with
    | zero =>
      intro j one hj ho hr hout
      rw [List.drop_eq_nil_of_le (by omega)] at hr
      simp only [Gf.lagOne] at hr
      refine Ev.step (fun k => ?_) (Ev.bind (f := fun k a => shroudref02_Through.l0 k (p53 ps) a (ps.length : Int) ((i + 1 : Nat) : Int)) (refadd_ev out one hout (by omega)) (hr (by omega)))
      simp only [shroudref02_Through.l1]
      rw [if_neg (by omega), w64s i (by omega)]
    | succ d ih =>
      intro j one hj ho hr hout
      rw [drop_next (show j < ps.length by omega)] at hr
      rcases hXY : ps.getD j (0, 0) with ⟨X, Y⟩
      rw [hXY] at hr
      simp only [Gf.lagOne] at hr
      by_cases hji : j = i
      · rw [if_pos hji] at hr
        refine Ev.step (fun k => ?_) (ih (j + 1) one (by omega) (by omega) hr hout)
        simp only [shroudref02_Through.l1]
        rw [if_pos (by omega), if_pos (by omega), w64s j (by omega)]
      · rw [if_neg hji] at hr
        have a3 := Gf.mulT_short one [Gf.mul X (Gf.inv ((ps.getD i (0, 0)).1 ^^^ X)), Gf.inv ((ps.getD i (0, 0)).1 ^^^ X)]
        simp only [List.length_cons, List.length_nil] at a3
        have h0 := hdis i j hi (by omega) hji
        rw [hXY] at h0
        refine Ev.step (fun k => ?_) (Ev.bind (f := fun k (a : Int × Bool) => (shroudref01_Mul.f k (uI X) a.1).bind fun b => (shroudref02_Mul.f k (bs one) [b, a.1]).bind fun c => shroudref02_Through.l1 k (p53 ps) (bs out) (i : Int) c (ps.length : Int) (i : Int) (ps.length : Int) ((j + 1 : Nat) : Int)) (refinv_ev _ h0) (Ev.bind (f := fun k b => (shroudref02_Mul.f k (bs one) [b, uI (Gf.inv ((ps.getD i (0, 0)).1 ^^^ X))]).bind fun c => shroudref02_Through.l1 k (p53 ps) (bs out) (i : Int) c (ps.length : Int) (i : Int) (ps.length : Int) ((j + 1 : Nat) : Int)) (refmul_ev X _) (Ev.bind (f := fun k c => shroudref02_Through.l1 k (p53 ps) (bs out) (i : Int) c (ps.length : Int) (i : Int) (ps.length : Int) ((j + 1 : Nat) : Int)) (refpmul_ev one [Gf.mul X (Gf.inv ((ps.getD i (0, 0)).1 ^^^ X)), Gf.inv ((ps.getD i (0, 0)).1 ^^^ X)] (by omega) (by simp)) (ih (j + 1) _ (by omega) (by omega) hr hout))))
        simp only [shroudref02_Through.l1]
        rw [if_pos (by omega), if_neg (by omega), if_pos (by omega), if_pos (by rw [p53_length]; omega), if_pos (by omega), if_pos (by rw [p53_length]; omega), rd_p53, rd_p53, hXY]
        simp only
        rw [u8_xor_u, w64s j (by omega)]
  have key : ∀ (d i : Nat) (out : List UInt8), d + i = ps.length → out.length ≤ 200000 → Ev (fun k => shroudref02_Through.l0 k (p53 ps) (bs out) (ps.length : Int) (i : Int)) (bs (Gf.lag ps (ps.drop i) i out)) := by
    intro d
    induction d with
    | zero =>
      intro i out hi ho
      refine ⟨1, fun k hk => ?_⟩
      obtain ⟨k, rfl⟩ : ∃ m, k = m + 1 := ⟨k - 1, by omega⟩
      simp only [shroudref02_Through.l0]
      rw [if_neg (by omega), List.drop_eq_nil_of_le (by omega)]
      rfl
    | succ d ih =>
      intro i out hi ho
      rw [drop_next (by omega)]
      rcases hXY : ps.getD i (0, 0) with ⟨X, Y⟩
      simp only [Gf.lag]
      have h1 := inner i out (bs (Gf.lag ps (ps.drop (i + 1)) (i + 1) (Gf.addT out (Gf.lagOne X ps 0 i [Y])))) (by omega) ps.length 0 [Y] (by omega) (by simp) (fun hl => by
        rw [List.drop_zero, hXY] at hl ⊢
        simp only at hl ⊢
        have a1 := Gf.addT_length out (Gf.lagOne X ps 0 i [Y])
        exact ih (i + 1) _ (by omega) (by omega)) (by omega)
      refine Ev.step (fun k => ?_) h1
      simp only [shroudref02_Through.l0]
      rw [if_pos (by omega), if_pos (by omega), if_pos (by rw [p53_length]; omega), rd_p53, hXY, p53_length]
      rfl
  rw [p53_length]
  exact key ps.length 0 [] (by omega) (by simp)
end Go.Proofs.Ytieiaoknbnkjpaa.Rf

namespace Go.Proofs.Ytieiaoknbnkjpaa.Rf
open Go.RowKit Go.Proofs.YtieiaoknbnkjpaaW.PrintWords

theorem mulc (n : Nat) (a : Int) (hn : n ≤ 4096) (h1 : 1 ≤ a) (h2 : a ≤ 200) : 0 ≤ (n : Int) * (a - 1) ∧ (n : Int) * (a - 1) ≤ 819200 := by
  constructor
  · exact Int.mul_nonneg (by omega) (by omega)
  · calc (n : Int) * (a - 1) ≤ 4096 * (a - 1) := Int.mul_le_mul_of_nonneg_right (by omega) (by omega)
      _ ≤ 4096 * 200 := Int.mul_le_mul_of_nonneg_left (by omega) (by omega)
theorem coins1 (n : Nat) (a : Int) (hn : n ≤ 4096) (h1 : 1 ≤ a) (h2 : a ≤ 200) : shamir_Coins.f (n : Int) a = some ((n : Int) * (a - 1)) := by
  have h := mulc n a hn h1 h2
  unfold shamir_Coins.f shamir_within.f
  by_cases hn0 : n = 0
  · subst hn0
    rw [if_neg (by omega), Option.bind_some, if_neg (by decide)]
    simp
  · rw [if_pos (by omega), Option.bind_some, if_pos (by simp; omega)]
    by_cases ha : a = 1
    · subst ha
      rw [if_neg (by omega), Option.bind_some, if_neg (by decide)]
      simp
    · rw [if_pos (by omega), Option.bind_some, if_pos (by simp; omega), w64 (x := a - 1) (by omega) (by omega), w64 (by omega) (by omega)]
theorem coins2 (n : Nat) (a : Int) (hn : n ≤ 4096) (h1 : 1 ≤ a) (h2 : a ≤ 200) : shroudref05_Coins.f (n : Int) a = some ((n : Int) * (a - 1)) := by
  have h := mulc n a hn h1 h2
  unfold shroudref05_Coins.f
  by_cases hn0 : n = 0
  · subst hn0
    rw [if_pos (by omega)]
    simp
  · rw [if_neg (by omega)]
    by_cases ha : a = 1
    · subst ha
      rw [if_pos (by omega)]
      simp
    · rw [if_neg (by omega), if_neg (by omega), if_neg (by omega), w64 (x := a - 1) (by omega) (by omega), w64 (by omega) (by omega)]

def ptsU (who : List Int) : List (UInt8 × UInt8) := (0, 1) :: who.map fun x => (UInt8.ofNat (x + 1).toNat, 0)
theorem ptsU_p53 {who : List Int} (h : okWho who) : p53 (ptsU who) = ptsOf who := by
  unfold p53 ptsU ptsOf
  rw [List.map_cons, List.map_map]
  congr 1
  refine List.map_congr_left (fun x hx => ?_)
  have := h.1 x hx
  show (⟨uI (UInt8.ofNat (x + 1).toNat), uI 0⟩ : S53) = ⟨x + 1, 0⟩
  rw [uI_of (by omega)]
  rfl
theorem ptsOf_nodup {who : List Int} (h : ∀ x ∈ who, 0 ≤ x ∧ x < 200) : (xs53 (ptsOf who)).Nodup ↔ who.Nodup := by
  unfold xs53 ptsOf
  rw [List.map_cons, List.map_map, List.nodup_cons]
  constructor
  · intro hn
    have h1 := hn.2
    refine (List.pairwise_map.1 h1).imp (fun hab e => hab (by rw [e]))
  · intro hn
    refine ⟨fun hm => ?_, ?_⟩
    · obtain ⟨x, hx, e⟩ := List.mem_map.1 hm
      have := h x hx
      simp only [Function.comp] at e
      omega
    · refine List.pairwise_map.2 (hn.imp (fun {a b} hab e => hab ?_))
      simp only [Function.comp] at e
      omega
theorem ptsU_nodup {who : List Int} (h : okWho who) : ((ptsU who).map (·.1)).Nodup := by
  rw [← bs_nodup, ← xs53_p53, ptsU_p53 h, ptsOf_nodup h.1]
  exact h.2
def turnU (who : List Int) : List UInt8 := Gf.through (ptsU who)
theorem turnU_length {who : List Int} (h : okWho who) : 1 ≤ (turnU who).length ∧ (turnU who).length ≤ who.length + 1 := by
  obtain ⟨h1, h2, h3⟩ := Gf.through_spec (ptsU_nodup h)
  refine ⟨?_, by simpa [ptsU, turnU] using h3⟩
  have h4 := h1 (0, 1) (by simp [ptsU])
  unfold turnU
  cases hp : Gf.through (ptsU who) with
  | nil => rw [hp] at h4; simp [Gf.ev] at h4
  | cons a l => simp
theorem ptsU_length (who : List Int) : (ptsU who).length = who.length + 1 := by simp [ptsU]
theorem turning_ev (p : Nat) (who : List Int) (hl : who.length < 99999) : Ev (fun k => blind_turning.f k p who) (if okWho who then (bs (turnU who), 0) else ([], 1)) := by
  unfold blind_turning.f
  refine Ev.congr (fun k => if_pos (by omega)) ?_
  by_cases h : okWho who
  · rw [if_pos h]
    refine Ev.congr (fun k => if_pos h) ?_
    rw [← ptsU_p53 h]
    exact pthrough_ev p _ (by rw [ptsU_length]; omega) (ptsU_nodup h)
  · rw [if_neg h]
    exact Ev.congr (fun k => if_neg h) (Ev.now _)
def good (s o c : List UInt8) (a : Int) (who : List Int) : Prop := 1 ≤ a ∧ a ≤ 200 ∧ (who.length : Int) < a ∧ s.length = o.length ∧ s.length ≤ 4096 ∧ (c.length : Int) = s.length * (a - 1) ∧ okWho who
instance (s o c : List UInt8) (a : Int) (who : List Int) : Decidable (good s o c a who) := by unfold good; infer_instance
def remapS (s o c : List UInt8) (a : Int) (who : List Int) : List UInt8 := remapL (a.toNat - 1) ((turnU who).drop 1) c 0 (diffs s o)
def RS (s o c : List UInt8) (a : Int) (who : List Int) : List Int × Int := if good s o c a who then (bs (remapS s o c a who), 0) else ([], 1)

theorem blind_ev (p : Nat) (s o c : List UInt8) (a : Int) (who : List Int) : Ev (fun k => blind_Remap.f k p (bs s) (bs o) (bs c) a who) (RS s o c a who) := by
  unfold blind_Remap.f RS
  rw [bs_length, bs_length, bs_length]
  by_cases h1 : a < 1
  · rw [if_neg (fun h => by unfold good at h; omega)]
    exact Ev.congr (fun k => if_pos h1) (Ev.now _)
  refine Ev.congr (fun k => if_neg h1) ?_
  by_cases h2 : 200 < a
  · rw [if_neg (fun h => by unfold good at h; omega)]
    exact Ev.congr (fun k => if_pos h2) (Ev.now _)
  refine Ev.congr (fun k => if_neg h2) ?_
  by_cases h3 : a ≤ (who.length : Int)
  · rw [if_neg (fun h => by unfold good at h; omega)]
    exact Ev.congr (fun k => if_pos h3) (Ev.now _)
  refine Ev.congr (fun k => if_neg h3) ?_
  by_cases h4 : ¬ (s.length : Int) = (o.length : Int)
  · rw [if_neg (fun h => by unfold good at h; omega)]
    exact Ev.congr (fun k => if_pos h4) (Ev.now _)
  refine Ev.congr (fun k => if_neg h4) ?_
  by_cases h5 : 4096 < (s.length : Int)
  · rw [if_neg (fun h => by unfold good at h; omega)]
    exact Ev.congr (fun k => if_pos h5) (Ev.now _)
  refine Ev.congr (fun k => if_neg h5) ?_
  rw [coins1 s.length a (by omega) (by omega) (by omega)]
  refine Ev.congr (fun k => Option.bind_some ..) ?_
  have hm := mulc s.length a (by omega) (by omega) (by omega)
  by_cases h6 : ¬ (c.length : Int) = s.length * (a - 1)
  · rw [if_neg (fun h => h6 h.2.2.2.2.2.1)]
    exact Ev.congr (fun k => if_pos h6) (Ev.now _)
  refine Ev.congr (fun k => if_neg h6) ?_
  refine Ev.bind (turning_ev p who (by omega)) ?_
  by_cases h7 : okWho who
  · rw [if_pos h7, if_pos (show good s o c a who from ⟨by omega, by omega, by omega, by omega, by omega, by omega, h7⟩)]
    have ht := turnU_length h7
    refine ⟨0, fun k _ => ?_⟩
    show (if ¬ (0 : Int) = 0 then _ else _) = _
    rw [if_neg (by decide), if_pos]
    · unfold remapI remapS
      rw [toU_bs, toU_bs, toU_bs, toU_bs]
    · refine ⟨?_, bytes_bs _, bytes_bs _, bytes_bs _, bytes_bs _, ?_, ?_, ?_⟩
      · rw [bs_length]; omega
      · rw [bs_length]; exact ht.1
      · rw [bs_length]; omega
      · rw [bs_length, bs_length]; omega
  · rw [if_neg h7, if_neg (show ¬ good s o c a who from fun h => h7 h.2.2.2.2.2.2)]
    refine ⟨0, fun k _ => ?_⟩
    show (if ¬ (1 : Int) = 0 then _ else _) = _
    rw [if_pos (by decide)]
end Go.Proofs.Ytieiaoknbnkjpaa.Rf

namespace Go.Proofs.Ytieiaoknbnkjpaa.Rf
open Go.RowKit Go.Proofs.YtieiaoknbnkjpaaW.PrintWords

theorem same_ev (l m : List UInt8) (hl : l.length < 1000000000) : Ev (fun k => shroudref01_Same.f k (bs l) (bs m)) (decide (l = m)) := by
  unfold shroudref01_Same.f
  by_cases hlen : l.length = m.length
  · have key : ∀ (d j : Nat), d + j = l.length → (∀ i, i < j → l.getD i 0 = m.getD i 0) → Ev (fun k => shroudref01_Same.l0 k (bs l) (bs m) ((bs l).length : Int) (j : Int)) (decide (l = m)) := by
      intro d
      induction d with
      | zero =>
        intro j hj hp
        refine ⟨1, fun k hk => ?_⟩
        obtain ⟨k, rfl⟩ : ∃ m, k = m + 1 := ⟨k - 1, by omega⟩
        simp only [shroudref01_Same.l0]
        rw [if_neg (by rw [bs_length]; omega), decide_eq_true]
        exact Gf.ext_getD hlen (fun i => by
          by_cases hi : i < j
          · exact hp i hi
          · rw [Gf.getD_big l (by omega), Gf.getD_big m (by omega)])
      | succ d ih =>
        intro j hj hp
        by_cases he : l.getD j 0 = m.getD j 0
        · refine Ev.step (f := fun k => shroudref01_Same.l0 k (bs l) (bs m) ((bs l).length : Int) ((j + 1 : Nat) : Int)) (fun k => ?_) (ih (j + 1) (by omega) (fun i hi => by
            by_cases h : i < j
            · exact hp i h
            · obtain rfl : i = j := by omega
              exact he))
          simp only [shroudref01_Same.l0]
          rw [if_pos (by rw [bs_length]; omega), if_pos (by omega), if_pos (by rw [bs_length]; omega), if_pos (by rw [bs_length]; omega), rd_bs, rd_bs, Int.toNat_natCast, if_pos (by rw [he]), w64 (by omega) (by omega)]
          rfl
        · refine ⟨1, fun k hk => ?_⟩
          obtain ⟨k, rfl⟩ : ∃ m, k = m + 1 := ⟨k - 1, by omega⟩
          simp only [shroudref01_Same.l0]
          rw [if_pos (by rw [bs_length]; omega), if_pos (by omega), if_pos (by rw [bs_length]; omega), if_pos (by rw [bs_length]; omega), rd_bs, rd_bs, Int.toNat_natCast, if_neg (fun e => he (uI_inj e)), decide_eq_false]
          intro e
          rw [e] at he
          exact he rfl
    rw [bs_length, bs_length]
    refine Ev.congr (fun k => if_pos (by omega)) ?_
    have := key l.length 0 (by omega) (fun i hi => by omega)
    rw [bs_length] at this
    exact this
  · rw [bs_length, bs_length]
    refine ⟨0, fun k _ => ?_⟩
    show (if _ then _ else _) = _
    rw [if_neg (by omega), decide_eq_false]
    rintro rfl
    exact hlen rfl

def sealL : List UInt8 → List UInt8 → Nat → List UInt8
  | s, _, 0 => s
  | s, m, n + 1 => (sealL s m n).set n ((sealL s m n).getD n 0 ^^^ m.getD n 0)
def sealU (s m : List UInt8) : List UInt8 := sealL s m m.length
theorem sealL_length (s m : List UInt8) : ∀ n, (sealL s m n).length = s.length
  | 0 => rfl
  | n + 1 => by rw [sealL, List.length_set, sealL_length]
theorem sealL_getD (s m : List UInt8) : ∀ n, n ≤ s.length → ∀ j, (sealL s m n).getD j 0 = if j < n then s.getD j 0 ^^^ m.getD j 0 else s.getD j 0
  | 0, _, j => by simp [sealL]
  | n + 1, hn, j => by
    have ih := sealL_getD s m n (by omega)
    rw [sealL, Gf.getD_set _ _ _ _ (by rw [sealL_length]; omega)]
    by_cases h : n = j
    · subst h
      rw [if_pos rfl, ih, if_neg (by omega), if_pos (by omega)]
    · rw [if_neg h, ih]
      by_cases h2 : j < n
      · rw [if_pos h2, if_pos (by omega)]
      · rw [if_neg h2, if_neg (by omega)]
theorem sealU_getD {s m : List UInt8} (h : s.length = m.length) (j : Nat) : (sealU s m).getD j 0 = s.getD j 0 ^^^ m.getD j 0 := by
  unfold sealU
  rw [sealL_getD s m _ (by omega)]
  split
  · rfl
  · rw [Gf.getD_big s (by omega), Gf.getD_big m (by omega)]; rfl
theorem sealU_length {s m : List UInt8} : (sealU s m).length = s.length := sealL_length _ _ _
theorem seal_twice {s m : List UInt8} (h : s.length = m.length) : sealU (sealU s m) m = s := by
  refine Gf.ext_getD (by rw [sealU_length, sealU_length]) (fun j => ?_)
  rw [sealU_getD (by rw [sealU_length]; exact h), sealU_getD h, Gf.xor_cancel]
theorem seal_other {s m : List UInt8} (h : s.length = m.length) : sealU s (sealU s m) = m := by
  refine Gf.ext_getD (by rw [sealU_length]; exact h) (fun j => ?_)
  rw [sealU_getD (by rw [sealU_length]), sealU_getD h, ← UInt8.xor_assoc, UInt8.xor_self, UInt8.zero_xor]
theorem seal_ev (l m : List UInt8) (hl : l.length < 1000000) (h : l.length = m.length) : Ev (fun k => blind_Seal.f k (bs l) (bs m)) (bs (sealU l m), 0) := by
  unfold blind_Seal.f
  rw [bs_length, bs_length]
  refine Ev.congr (fun k => if_pos (by omega)) ?_
  refine Ev.bind (a := bs l) (Ev.congr (fun k => rfl) ⟨0, fun k _ => by unfold bytes_Clone.f; rw [if_pos (by rw [bs_length]; omega)]⟩) ?_
  have key : ∀ (d j : Nat), d + j = m.length → Ev (fun k => blind_Seal.l0 k (bs (sealL l m j)) (bs m) (m.length : Int) (j : Int)) (bs (sealU l m), 0) := by
    intro d
    induction d with
    | zero =>
      intro j hj
      obtain rfl : j = m.length := by omega
      refine ⟨1, fun k hk => ?_⟩
      obtain ⟨k, rfl⟩ : ∃ m, k = m + 1 := ⟨k - 1, by omega⟩
      simp only [blind_Seal.l0]
      rw [if_neg (by omega)]
      rfl
    | succ d ih =>
      intro j hj
      refine Ev.step (f := fun k => blind_Seal.l0 k (bs (sealL l m (j + 1))) (bs m) (m.length : Int) ((j + 1 : Nat) : Int)) (fun k => ?_) (ih (j + 1) (by omega))
      simp only [blind_Seal.l0]
      rw [if_pos (by omega), if_pos (by omega), if_pos (by rw [bs_length]; omega), if_pos (by rw [bs_length, sealL_length]; omega), rd_bs, rd_bs, Int.toNat_natCast, gf_Add_u, w64 (by omega) (by omega)]
      show blind_Seal.l0 k ((bs (sealL l m j)).set j _) _ _ _ = _
      rw [bs_set]
      rfl
  exact key m.length 0 (by omega)
theorem seal_bad (l m : List UInt8) (h : l.length ≠ m.length) (k : Nat) : blind_Seal.f k (bs l) (bs m) = some ([], 1) := by
  unfold blind_Seal.f
  rw [bs_length, bs_length, if_neg (by omega)]
end Go.Proofs.Ytieiaoknbnkjpaa.Rf

namespace Go.Proofs.Ytieiaoknbnkjpaa.Rf
open Go.RowKit Go.Proofs.YtieiaoknbnkjpaaW.PrintWords

theorem coins_loop (n : Nat) (hn : n < 1000000) : ∀ (d : Nat) (x : List UInt8), x.length < 140737488355328 → d = n - x.length → ∃ u : List UInt8, u.length = n ∧ Ev (fun k => shroudlaw06_coinsOf.l0 k (n : Int) (bs x)) (bs u) := by
  intro d
  induction d with
  | zero =>
    intro x hx hd
    refine ⟨x.take n, by rw [List.length_take]; omega, ⟨1, fun k hk => ?_⟩⟩
    obtain ⟨k, rfl⟩ : ∃ m, k = m + 1 := ⟨k - 1, by omega⟩
    simp only [shroudlaw06_coinsOf.l0]
    rw [if_neg (by rw [bs_length]; omega), if_pos (by omega), if_pos (by rw [bs_length]; omega), Int.toNat_natCast, bs_take]
  | succ d ih =>
    intro x hx hd
    have hv : ∃ u : UInt8, wrap64 (wrap64 (((bs x).length : Int) * 5) + 3) % 256 = uI u := by
      have h1 : 0 ≤ wrap64 (wrap64 (((bs x).length : Int) * 5) + 3) % 256 ∧ wrap64 (wrap64 (((bs x).length : Int) * 5) + 3) % 256 < 256 := by
        generalize wrap64 (wrap64 (((bs x).length : Int) * 5) + 3) = z
        omega
      exact ⟨_, (uI_of h1).symm⟩
    obtain ⟨v, hv⟩ := hv
    obtain ⟨u, hu, hev⟩ := ih (x ++ [v]) (by simp; omega) (by simp; omega)
    refine ⟨u, hu, Ev.step (fun k => ?_) hev⟩
    simp only [shroudlaw06_coinsOf.l0]
    rw [if_pos (by rw [bs_length]; omega), if_pos (by rw [bs_length]; omega), hv, bs_append]
    rfl
theorem coinsOf_ev (x : List UInt8) (n : Nat) (a : Int) (hx : x.length < 140737488355328) (hn : n ≤ 4096) (h1 : 1 ≤ a) (h2 : a ≤ 200) : ∃ u : List UInt8, (u.length : Int) = n * (a - 1) ∧ Ev (fun k => shroudlaw06_coinsOf.f k (bs x) (n : Int) a) (bs u) := by
  have hm := mulc n a hn h1 h2
  obtain ⟨N, hN⟩ : ∃ N : Nat, (n : Int) * (a - 1) = (N : Int) := ⟨((n : Int) * (a - 1)).toNat, by omega⟩
  rw [hN] at hm ⊢
  obtain ⟨u, hu, hev⟩ := coins_loop N (by omega) _ x hx rfl
  refine ⟨u, by omega, ?_⟩
  unfold shroudlaw06_coinsOf.f
  rw [coins2 n a hn h1 h2, hN]
  refine Ev.congr (fun k => Option.bind_some ..) (Ev.congr (fun k => Option.bind_some ..) (Ev.congr (fun k => if_pos (by rw [bs_length]; simpa using hx)) ?_))
  rw [List.nil_append]
  exact hev

theorem few_ok (a : Int) (h1 : 1 ≤ a) : ∀ (l out : List Int), Bytes l → ((∀ x ∈ out, 0 ≤ x ∧ x < 10) ∧ out.Nodup ∧ (out.length : Int) < a) → (∀ x ∈ l.foldl (fewStep a) out, 0 ≤ x ∧ x < 10) ∧ (l.foldl (fewStep a) out).Nodup ∧ ((l.foldl (fewStep a) out).length : Int) < a
  | [], _, _, h => h
  | x :: l, out, hb, h => by
    refine few_ok a h1 l (fewStep a out x) (fun y hy => hb y (List.mem_cons_of_mem _ hy)) ?_
    have hx := hb x List.mem_cons_self
    unfold fewStep
    split
    · rename_i hc
      refine ⟨fun y hy => ?_, ?_, ?_⟩
      · rcases List.mem_append.1 hy with hy | hy
        · exact h.1 y hy
        · rw [List.mem_singleton.1 hy]; omega
      · rw [List.nodup_append]
        refine ⟨h.2.1, by simp, fun p hp q hq e => ?_⟩
        rw [List.mem_singleton.1 hq] at e
        have h3 := hc.1
        rw [e] at hp
        simp at h3
        exact h3 hp
      · simp; omega
    · exact h
theorem few_who (a : Int) (h1 : 1 ≤ a) (l : List Int) (hb : Bytes l) : okWho (fewL a l) ∧ ((fewL a l).length : Int) < a ∧ ∀ x ∈ fewL a l, 0 ≤ x ∧ x < 10 := by
  have h := few_ok a h1 l [] hb ⟨by simp, by simp, by simp; omega⟩
  exact ⟨⟨fun x hx => by have := h.1 x hx; omega, h.2.1⟩, h.2.2, h.1⟩

/-- What is added to place j. -/
def rsum (m : Nat) (t : List UInt8) : List UInt8 → Nat → Nat → UInt8
  | [], _, _ => 0
  | d :: ds, i, j => (if i * m ≤ j then (t.map fun c => Gf.mul c d).getD (j - i * m) 0 else 0) ^^^ rsum m t ds (i + 1) j
theorem remapL_getD (m : Nat) (t : List UInt8) (ht : t.length ≤ m) : ∀ (ds out : List UInt8) (i j : Nat), (i + ds.length) * m ≤ out.length → (remapL m t out i ds).getD j 0 = out.getD j 0 ^^^ rsum m t ds i j
  | [], out, i, j, _ => by simp [remapL, rsum]
  | d :: ds, out, i, j, h => by
    have h1 : (i + 1) * m ≤ (i + (d :: ds).length) * m := Nat.mul_le_mul_right _ (by simp)
    rw [Nat.add_mul i 1, Nat.one_mul] at h1
    rw [remapL, remapL_getD m t ht ds _ (i + 1) j (by rw [Gf.xorAt_length]; refine Nat.le_trans (Nat.le_of_eq ?_) h; rw [List.length_cons]; congr 1; omega), Gf.xorAt_getD _ _ _ _ (by rw [List.length_map]; omega), rsum, UInt8.xor_assoc]
theorem remap_twice (m : Nat) (t ds c : List UInt8) (ht : t.length ≤ m) (hc : ds.length * m ≤ c.length) : remapL m t (remapL m t c 0 ds) 0 ds = c := by
  refine Gf.ext_getD (by rw [remapL_length, remapL_length]) (fun j => ?_)
  rw [remapL_getD m t ht ds _ 0 j (by rw [remapL_length, Nat.zero_add]; exact hc), remapL_getD m t ht ds _ 0 j (by rw [Nat.zero_add]; exact hc), Gf.xor_cancel]
theorem rsum_zero (m : Nat) (t : List UInt8) : ∀ (ds : List UInt8) (i j : Nat), (∀ d ∈ ds, d = 0) → rsum m t ds i j = 0
  | [], _, _, _ => rfl
  | d :: ds, i, j, h => by
    rw [rsum, rsum_zero m t ds (i + 1) j (fun x hx => h x (List.mem_cons_of_mem _ hx)), h d List.mem_cons_self, UInt8.xor_zero]
    split
    · rw [List.getD_eq_getElem?_getD, List.getElem?_map]
      cases t[j - i * m]? with
      | none => rfl
      | some c => simp [Gf.mul_zero]
    · rfl
theorem remap_none (m : Nat) (t ds c : List UInt8) (ht : t.length ≤ m) (hc : ds.length * m ≤ c.length) (h : ∀ d ∈ ds, d = 0) : remapL m t c 0 ds = c := by
  refine Gf.ext_getD (by rw [remapL_length]) (fun j => ?_)
  rw [remapL_getD m t ht ds _ 0 j (by rw [Nat.zero_add]; exact hc), rsum_zero m t ds 0 j h, UInt8.xor_zero]
theorem diffs_comm (s o : List UInt8) : diffs s o = diffs o s := by
  unfold diffs
  rw [List.zipWith_comm]
  congr 1
  funext a b
  exact UInt8.xor_comm b a
theorem diffs_self : ∀ (s : List UInt8), ∀ d ∈ diffs s s, d = 0
  | [], d, h => by simp [diffs] at h
  | a :: s, d, h => by
    simp only [diffs, List.zipWith_cons_cons, List.mem_cons, UInt8.xor_self] at h
    rcases h with h | h
    · exact h
    · exact diffs_self s d h
theorem diffs_length {s o : List UInt8} (h : s.length = o.length) : (diffs s o).length = s.length := by simp [diffs]; omega
end Go.Proofs.Ytieiaoknbnkjpaa.Rf

namespace Go.Proofs.Ytieiaoknbnkjpaa.Rf
open Go.RowKit Go.Proofs.YtieiaoknbnkjpaaW.PrintWords

/-- One byte's polynomial. -/
def blk (s c : List UInt8) (m i : Nat) : List UInt8 := s.getD i 0 :: (c.take ((i + 1) * m)).drop (i * m)
def shr (s c : List UInt8) (m n v : Nat) : List UInt8 := (List.range n).map fun i => Gf.ev (blk s c m i) (UInt8.ofNat (v + 1))
def shs (s c : List UInt8) (m i w : Nat) : List (List Int) := (List.range 10).map fun v => bs (shr s c m (if v < w then i + 1 else i) v)
theorem shs_length (s c : List UInt8) (m i w : Nat) : (shs s c m i w).length = 10 := by simp [shs]
theorem rd_shs (s c : List UInt8) (m i w v : Nat) (hv : v < 10) : rd_L3 (shs s c m i w) (v : Int) = bs (shr s c m (if v < w then i + 1 else i) v) := by
  unfold rd_L3 shs
  rw [Int.toNat_natCast, List.getD_eq_getElem?_getD, List.getElem?_map, List.getElem?_range hv]
  rfl
theorem shs_set (s c : List UInt8) (m i w : Nat) (hw : w < 10) : (shs s c m i w).set w (bs (shr s c m i w) ++ [uI (Gf.ev (blk s c m i) (UInt8.ofNat (w + 1)))]) = shs s c m i (w + 1) := by
  apply List.ext_getElem
  · rw [List.length_set, shs_length, shs_length]
  · intro v h1 h2
    rw [List.getElem_set]
    rw [shs_length] at h2
    by_cases h : w = v
    · subst h
      rw [if_pos rfl]
      simp only [shs, List.getElem_map, List.getElem_range]
      rw [if_pos (by omega)]
      simp only [shr, List.range_succ, List.map_append, List.map_cons, List.map_nil, bs_append]
      rfl
    · rw [if_neg h]
      simp only [shs, List.getElem_map, List.getElem_range]
      by_cases h3 : v < w
      · rw [if_pos h3, if_pos (by omega)]
      · rw [if_neg h3, if_neg (by omega)]
theorem shs_next (s c : List UInt8) (m i : Nat) : shs s c m i 10 = shs s c m (i + 1) 0 := by
  unfold shs
  refine List.map_congr_left (fun v hv => ?_)
  have := List.mem_range.1 hv
  rw [if_pos this, if_neg (by omega)]
theorem shr_length (s c : List UInt8) (m n v : Nat) : (shr s c m n v).length = n := by simp [shr]

theorem curve_u (s c : List UInt8) (m i : Nat) (hm : m ≤ 199) (hi : i < s.length) (hs : s.length ≤ 4096) (hc : c.length = s.length * m) : shamir_curve.f (bs s) (bs c) ((m : Int) + 1) (i : Int) = some (bs (blk s c m i)) := by
  have h1 : (i + 1) * m ≤ s.length * m := Nat.mul_le_mul_right _ (by omega)
  have h2 : s.length * m ≤ 4096 * 199 := Nat.mul_le_mul hs hm
  have h3 : i * m ≤ (i + 1) * m := Nat.mul_le_mul_right _ (by omega)
  have e0 : wrap64 ((m : Int) + 1 - 1) = (m : Int) := by rw [w64 (by omega) (by omega)]; omega
  have e1 : wrap64 ((i : Int) * (m : Int)) = ((i * m : Nat) : Int) := by
    rw [← Int.natCast_mul, w64 (by omega) (by omega)]
  have e2 : wrap64 (((i + 1 : Nat) : Int) * (m : Int)) = (((i + 1) * m : Nat) : Int) := by
    rw [← Int.natCast_mul, w64 (by omega) (by omega)]
  unfold shamir_curve.f blk
  rw [e0, w64s i (by omega), e1, e2]
  clear e0 e1 e2
  generalize i * m = a at *
  generalize (i + 1) * m = b at *
  rw [if_pos (by omega), if_pos (by rw [bs_length]; omega), Option.bind_some, if_pos (by omega), if_pos (by omega), if_pos (by rw [bs_length]; omega), rd_bs, Int.toNat_natCast, Int.toNat_natCast, Int.toNat_natCast, bs_take, bs_drop, if_pos (by rw [bs_length, List.length_drop, List.length_take]; simp; omega)]
  rfl

theorem deal_ev (p : Nat) (s c : List UInt8) (q : Int) (h1 : 1 ≤ q) (h2 : q ≤ 10) (hs : s.length ≤ 4096) (hc : (c.length : Int) = s.length * (q - 1)) : Ev (fun k => shamir_Deal.f k p (bs s) (bs c) q 10) (shs s c (q.toNat - 1) s.length 0, 0) := by
  obtain ⟨m, rfl⟩ : ∃ m : Nat, q = (m : Int) + 1 := ⟨q.toNat - 1, by omega⟩
  rw [show ((m : Int) + 1).toNat - 1 = m by omega]
  have hcm : c.length = s.length * m := by
    have : (c.length : Int) = s.length * m := by rw [hc]; congr 1; omega
    exact_mod_cast this
  have hin : ∀ (i : Nat) (r : List (List Int) × Int), i < s.length → Ev (fun k => shamir_Deal.l0 k p (bs s) (bs c) ((m : Int) + 1) 10 (shs s c m (i + 1) 0) (s.length : Int) ((i + 1 : Nat) : Int)) r →
      ∀ (d w : Nat), d + w = 10 → Ev (fun k => shamir_Deal.l1 k p (bs s) (bs c) ((m : Int) + 1) 10 (shs s c m i w) (bs (blk s c m i)) (s.length : Int) (i : Int) 10 (w : Int)) r := by
    intro i r hi hr d
    induction d with
    | zero =>
      intro w hw
      obtain rfl : w = 10 := by omega
      rw [shs_next]
      refine Ev.step (fun k => ?_) hr
      simp only [shamir_Deal.l1]
      rw [if_neg (by omega), w64s i (by omega)]
    | succ d ih =>
      intro w hw
      have hx : ((w + 1 : Nat) : Int) % 256 = uI (UInt8.ofNat (w + 1)) := by
        unfold uI
        rw [UInt8.toNat_ofNat']
        omega
      have h3 := ih (w + 1) (by omega)
      rw [← shs_set s c m i w (by omega)] at h3
      have hrd := rd_shs s c m i w w (by omega)
      rw [if_neg (Nat.lt_irrefl w)] at hrd
      refine Ev.step (fun k => ?_) h3
      simp only [shamir_Deal.l1]
      rw [if_pos (by omega), if_pos (by omega), if_pos (by rw [shs_length]; omega), w64s w (by omega), hx, eval_u2, Option.bind_some, hrd, if_pos (by rw [bs_length, shr_length]; omega), Int.toNat_natCast]
  have key : ∀ (d i : Nat), d + i = s.length → Ev (fun k => shamir_Deal.l0 k p (bs s) (bs c) ((m : Int) + 1) 10 (shs s c m i 0) (s.length : Int) (i : Int)) (shs s c m s.length 0, 0) := by
    intro d
    induction d with
    | zero =>
      intro i hi
      obtain rfl : i = s.length := by omega
      refine ⟨1, fun k hk => ?_⟩
      obtain ⟨k, rfl⟩ : ∃ m, k = m + 1 := ⟨k - 1, by omega⟩
      simp only [shamir_Deal.l0]
      rw [if_neg (by omega)]
    | succ d ih =>
      intro i hi
      refine Ev.step (fun k => ?_) (hin i _ (by omega) (ih (i + 1) (by omega)) 10 0 (by omega))
      simp only [shamir_Deal.l0]
      rw [if_pos (by omega), curve_u s c m i (by omega) (by omega) hs hcm, Option.bind_some]
      rfl
  unfold shamir_Deal.f shamir_within.f
  rw [if_pos (by omega), bs_length, bs_length, coins1 s.length _ hs (by omega) (by omega)]
  refine Ev.congr (fun k => Option.bind_some ..) (Ev.congr (fun k => if_pos (by simp; omega)) (Ev.congr (fun k => if_neg (by omega)) (Ev.congr (fun k => if_neg (by omega)) (Ev.congr (fun k => Option.bind_some ..) ?_))))
  rw [show (((c.length : Int)) != (s.length : Int) * ((m : Int) + 1 - 1)) = false by rw [bne_eq_false_iff_eq]; exact hc]
  have h0 := key s.length 0 (by omega)
  refine Ev.step (fun k => ?_) h0
  rw [shamir_Deal.j0, if_neg (by decide), if_pos (by decide), if_pos (by decide), bs_length]
  have : shs s c m 0 0 = List.replicate (10 : Int).toNat [] := by
    unfold shs shr
    simp
    rfl
  rw [this]
  rfl

theorem rsum_before (m : Nat) (t : List UInt8) : ∀ (ds : List UInt8) (i j : Nat), j < i * m → rsum m t ds i j = 0
  | [], _, _, _ => rfl
  | d :: ds, i, j, h => by
    have h1 : i * m ≤ (i + 1) * m := Nat.mul_le_mul_right _ (by omega)
    rw [rsum, if_neg (by omega), rsum_before m t ds (i + 1) j (by omega)]
    rfl
theorem rsum_at (m : Nat) (t : List UInt8) (ht : t.length ≤ m) : ∀ (ds : List UInt8) (i0 i j : Nat), i < ds.length → j < m → rsum m t ds i0 ((i0 + i) * m + j) = (t.map fun c => Gf.mul c (ds.getD i 0)).getD j 0
  | [], _, _, _, h, _ => by simp at h
  | d :: ds, i0, 0, j, _, hj => by
    rw [rsum, Nat.add_zero, if_pos (by omega), rsum_before m t ds (i0 + 1) _ (by rw [Nat.add_mul]; omega), UInt8.xor_zero]
    rw [Nat.add_sub_cancel_left]
    rfl
  | d :: ds, i0, i + 1, j, h, hj => by
    have h1 := rsum_at m t ht ds (i0 + 1) i j (by simpa using h) hj
    rw [show i0 + 1 + i = i0 + (i + 1) by omega] at h1
    have h2 : i0 * m + m ≤ (i0 + (i + 1)) * m := by
      rw [← Nat.add_one_mul]
      exact Nat.mul_le_mul_right _ (by omega)
    rw [rsum, h1, if_pos (by omega), Gf.getD_big _ (by rw [List.length_map]; omega), UInt8.zero_xor, List.getD_cons_succ]
theorem blk_length (s c : List UInt8) (m i : Nat) (h : (i + 1) * m ≤ c.length) : (blk s c m i).length = m + 1 := by
  unfold blk
  rw [Nat.add_one_mul] at h ⊢
  rw [List.length_cons, List.length_drop, List.length_take]
  omega
theorem blk_getD (s c : List UInt8) (m i j : Nat) (hj : j < m) : (blk s c m i).getD (j + 1) 0 = c.getD (i * m + j) 0 := by
  unfold blk
  rw [List.getD_cons_succ, List.getD_eq_getElem?_getD, List.getElem?_drop, List.getElem?_take, if_pos (by rw [Nat.add_one_mul]; omega), List.getD_eq_getElem?_getD]
theorem getD_diffs {s o : List UInt8} (h : s.length = o.length) {i : Nat} (hi : i < s.length) : (diffs s o).getD i 0 = s.getD i 0 ^^^ o.getD i 0 := by
  unfold diffs
  simp only [List.getD_eq_getElem?_getD, List.getElem?_zipWith, List.getElem?_eq_getElem hi, List.getElem?_eq_getElem (show i < o.length by omega)]
  rfl
theorem same_share {s o u t : List UInt8} (m i : Nat) (x : UInt8) (hso : s.length = o.length) (hi : i < s.length) (hu : s.length * m ≤ u.length) (ht1 : 1 ≤ t.length) (ht : t.length ≤ m + 1) (h0 : Gf.ev t 0 = 1) (hx : Gf.ev t x = 0) :
    Gf.ev (blk o (remapL m (t.drop 1) u 0 (diffs s o)) m i) x = Gf.ev (blk s u m i) x := by
  have him : (i + 1) * m ≤ s.length * m := Nat.mul_le_mul_right _ (by omega)
  have hdl := diffs_length hso
  cases t with
  | nil => simp at ht1
  | cons t0 tl =>
    have ht0 : t0 = 1 := by
      simp only [Gf.ev, Gf.mul_zero, UInt8.zero_xor] at h0
      exact h0
    rw [List.length_cons] at ht
    have hd : (diffs s o).getD i 0 = s.getD i 0 ^^^ o.getD i 0 := getD_diffs hso hi
    obtain ⟨d, hdd⟩ : ∃ d, (diffs s o).getD i 0 = d := ⟨_, rfl⟩
    have e1 : blk o (remapL m tl u 0 (diffs s o)) m i = Gf.xorAt (blk s u m i) 0 ((t0 :: tl).map (Gf.mul d)) := by
      refine Gf.ext_getD (by rw [Gf.xorAt_length, blk_length _ _ _ _ (by rw [remapL_length]; omega), blk_length _ _ _ _ (by omega)]) (fun j => ?_)
      rw [Gf.xorAt_getD _ _ _ _ (by rw [List.length_map, blk_length _ _ _ _ (by omega), List.length_cons]; omega), if_pos (Nat.zero_le _), Nat.sub_zero]
      cases j with
      | zero =>
        show o.getD i 0 = s.getD i 0 ^^^ Gf.mul d t0
        rw [ht0, Gf.mul_one, ← hdd, hd, ← UInt8.xor_assoc, UInt8.xor_self, UInt8.zero_xor]
      | succ j =>
        rw [List.map_cons, List.getD_cons_succ]
        by_cases hj : j < m
        · rw [blk_getD _ _ _ _ _ hj, blk_getD _ _ _ _ _ hj, remapL_getD m tl (by omega) _ _ _ _ (by rw [Nat.zero_add, hdl]; exact hu)]
          have := rsum_at m tl (by omega) (diffs s o) 0 i j (by omega) hj
          rw [Nat.zero_add] at this
          rw [this, hdd]
          congr 2
          refine List.map_congr_left (fun c _ => Gf.mul_comm _ _)
        · rw [Gf.getD_big _ (by rw [blk_length _ _ _ _ (by rw [remapL_length]; omega)]; omega), Gf.getD_big _ (by rw [blk_length _ _ _ _ (by omega)]; omega), Gf.getD_big _ (by rw [List.length_map]; omega)]
          rfl
    rw [List.drop_one, List.tail_cons, e1, Gf.ev_xorAt _ _ _ _ (by rw [List.length_map, blk_length _ _ _ _ (by omega), List.length_cons]; omega), Gf.ev_map, hx, Gf.mul_zero, Gf.mul_zero, UInt8.xor_zero]
end Go.Proofs.Ytieiaoknbnkjpaa.Rf

namespace Go.Proofs.Ytieiaoknbnkjpaa.Rf
open Go.RowKit Go.Proofs.YtieiaoknbnkjpaaW.PrintWords
set_option maxRecDepth 100000 in
set_option maxHeartbeats 4000000 in
theorem shares (A0 : Option Addr) (c0 : Nat) (l0 : List Int) (A1 : Option Addr) (c1 : Nat) (l1 : List Int) (A2 : Option Addr) (c2 : Nat) (l2 : List Int) (x : Nat) (hx : x < 256) (A4 : Option Addr) (c4 : Nat) (l4 : List Int) (w : World)
    (hr0 : Kd.C (Kd.int .u8) w A0 l0.length l0) (hc0 : l0.length ≤ c0) (hr1 : Kd.C (Kd.int .u8) w A1 l1.length l1) (hc1 : l1.length ≤ c1) (hr2 : Kd.C (Kd.int .u8) w A2 l2.length l2) (hc2 : l2.length ≤ c2) (hr4 : Kd.C (Kd.int .u8) w A4 l4.length l4) (hc4 : l4.length ≤ c4)
    (lo cc dd ll : List Int) (AA BB : List (List Int))
    (hall : l0.length ≤ 20 → l0.length ≤ l1.length → l4.length ≤ 9 → (lo = l1.take l0.length ∧ (∃ k, shroudlaw06_coinsOf.f k l2 (l0.length : Int) (1 + (x : Int) % 5) = some cc) ∧ shroudlaw06_few.f l4 (1 + (x : Int) % 5) = some ll ∧ (∀ p, ∃ k, blind_Remap.f k p l0 lo cc (1 + (x : Int) % 5) ll = some (dd, 0)) ∧ (∀ p, ∃ k, shamir_Deal.f k p l0 cc (1 + (x : Int) % 5) 10 = some (AA, 0)) ∧ (∀ p, ∃ k, shamir_Deal.f k p lo dd (1 + (x : Int) % 5) 10 = some (BB, 0)) ∧ AA.length = 10 ∧ BB.length = 10 ∧ (∀ y ∈ ll, 0 ≤ y ∧ y < 10) ∧ ∀ y ∈ ll, ∃ k, shroudref01_Same.f k (rd_L3 AA y) (rd_L3 BB y) = some true)) :
    Calls Try.prog 6 #[.slice A0 l0.length c0, .slice A1 l1.length c1, .slice A2 l2.length c2, .int .u8 x, .slice A4 l4.length c4] w fun e w' => e = .returned (.bool true) ∧ Below w.heap.size w w' := by
  have HR0 := Aside0.mk hr0
  have HR1 := Aside0.mk hr1
  have HR2 := Aside0.mk hr2
  have HR4 := Aside0.mk hr4
  have HC0 := Aside0.mk hc0
  have HC1 := Aside0.mk hc1
  have HC2 := Aside0.mk hc2
  have HC4 := Aside0.mk hc4
  have HALL := Aside0.mk hall
  clear hr0 hr1 hr2 hr4 hc0 hc1 hc2 hc4 hall
  by_cases x1 : 20 < l0.length
  · have d1 : decide (20 < l0.length) = true := decide_eq_true x1
    have d1' : decide (20 < (l0.length : Int)) = true := decide_eq_true (by omega)
    clear x1
    go_enter Try.func6, Try.ntmps6
    go_wp2_with (first
      | (go_at_call 7
         refine (shroudlaw06_awake.calls true w rfl).mono ?_
         rintro e w1 ⟨rfl, hb⟩
         have B1 := Aside0.mk hb
         clear hb)
      | (go_at_call 7
         refine (shroudlaw06_awake.calls true w1 rfl).mono ?_
         rintro e w2 ⟨rfl, hb⟩
         have B2 := Aside0.mk (below_then B1.out B1.out.size hb)
         clear hb))
    go_ret
    exact ⟨rfl, B2.out⟩
  have y1 : l0.length ≤ 20 := by omega
  have d1 : decide (20 < l0.length) = false := decide_eq_false x1
  have d1' : decide (20 < (l0.length : Int)) = false := decide_eq_false (by omega)
  clear x1
  by_cases x2 : l1.length < l0.length
  · have d2 : decide (l1.length < l0.length) = true := decide_eq_true x2
    have d2' : decide ((l1.length : Int) < (l0.length : Int)) = true := decide_eq_true (by omega)
    clear x2
    go_enter Try.func6, Try.ntmps6
    go_wp2_with (first
      | (go_at_call 7
         refine (shroudlaw06_awake.calls true w rfl).mono ?_
         rintro e w1 ⟨rfl, hb⟩
         have B1 := Aside0.mk hb
         clear hb)
      | (go_at_call 7
         refine (shroudlaw06_awake.calls true w1 rfl).mono ?_
         rintro e w2 ⟨rfl, hb⟩
         have B2 := Aside0.mk (below_then B1.out B1.out.size hb)
         clear hb))
    go_ret
    exact ⟨rfl, B2.out⟩
  have y2 : l0.length ≤ l1.length := by omega
  have d2 : decide (l1.length < l0.length) = false := decide_eq_false x2
  have d2' : decide ((l1.length : Int) < (l0.length : Int)) = false := decide_eq_false (by omega)
  clear x2
  by_cases x3 : 9 < l4.length
  · have d3 : decide (9 < l4.length) = true := decide_eq_true x3
    have d3' : decide (9 < (l4.length : Int)) = true := decide_eq_true (by omega)
    clear x3
    go_enter Try.func6, Try.ntmps6
    go_wp2_with (first
      | (go_at_call 7
         refine (shroudlaw06_awake.calls true w rfl).mono ?_
         rintro e w1 ⟨rfl, hb⟩
         have B1 := Aside0.mk hb
         clear hb)
      | (go_at_call 7
         refine (shroudlaw06_awake.calls true w1 rfl).mono ?_
         rintro e w2 ⟨rfl, hb⟩
         have B2 := Aside0.mk (below_then B1.out B1.out.size hb)
         clear hb))
    go_ret
    exact ⟨rfl, B2.out⟩
  have d3 : decide (9 < l4.length) = false := decide_eq_false x3
  have d3' : decide (9 < (l4.length : Int)) = false := decide_eq_false (by omega)
  obtain ⟨g1, ⟨k1, g2⟩, g3, g4, g5, g6, gA, gB, g7, g8⟩ := HALL.out y1 y2 (by omega)
  clear x3 HALL
  obtain ⟨q, hq⟩ : ∃ q, 1 + (x : Int) % 5 = q := ⟨_, rfl⟩
  rw [hq] at g2 g3 g4 g5 g6
  have n0 : IntKind.i64.wrap (x : Int) = (x : Int) := IntWalk.i64_in _ (by omega)
  have n1 : (x : Int).tmod 5 = (x : Int) % 5 := Int.tmod_eq_emod_of_nonneg (by omega)
  have n2 : IntKind.i64.wrap ((x : Int) % 5) = (x : Int) % 5 := IntWalk.i64_in _ (by omega)
  have n3 : IntKind.i64.wrap (1 + (x : Int) % 5) = q := by rw [hq]; exact IntWalk.i64_in _ (by omega)
  have hlo : lo.length = l0.length := by rw [g1, List.length_take]; omega
  obtain ⟨i05, hi05, hj5, hsz5, hk5⟩ := info_parts info5
  have hcut := cut_to (P := Try.prog) 22 5 .i64 Try.underlying22 hi05 A1 l1.length c1 (l0.length : Int) (by omega) (by omega) HC1.out
  simp only [Int.toNat_natCast] at hcut
  have HLO := Aside0.mk (show Kd.C (Kd.int .u8) w A1 lo.length lo from by rw [g1]; exact Kd.C_of_reads (d := (0 : Int)) (h1 := fun _ => rfl) (reads_take (Kd.reads_of_C (d := (0 : Int)) HR1.out) _ y2))
  have HLC := Aside0.mk (show lo.length ≤ c1 from by have := HC1.out; omega)
  rw [hlo] at HLO HLC
  have G2 := Aside0.mk g2
  have G3 := Aside0.mk g3
  have G4 := Aside0.mk g4
  have G5 := Aside0.mk g5
  have G6 := Aside0.mk g6
  have G7 := Aside0.mk g7
  have G8 := Aside0.mk g8
  have GA := Aside0.mk gA
  have GB := Aside0.mk gB
  have HLN := Aside0.mk hlo
  clear g1 g2 g3 g4 g5 g6 g7 g8 gA gB hlo hq hi05 hj5 hsz5 hk5 i05
  go_enter Try.func6, Try.ntmps6
  go_wp2_with (first
    | (go_at_call 7
       refine (shroudlaw06_awake.calls true w rfl).mono ?_
       rintro e w1 ⟨rfl, hb⟩
       have B1 := Aside0.mk hb
       clear hb)
    | (go_at_call 9
       refine (gf_New w1).mono ?_
       rintro e w2 ⟨p, rfl, hf, hb⟩
       have HF := Aside0.mk hf
       have B2 := Aside0.mk (below_then B1.out B1.out.size hb)
       clear hb hf)
    | (go_at_call 12
       refine (shroudlaw06_coinsOf.calls k1 _ _ l2 _ _ cc _ (Kd.C_below HR2.out B2.out) HC2.out G2.out).mono ?_
       rintro e w3 ⟨v3, rfl, ho, hb⟩
       have B3 := Aside0.mk (below_then B2.out B2.out.size hb)
       have HF3 := Aside0.mk (HF.out.below hb)
       obtain ⟨A5, n5, rfl, l5, C5⟩ := R_cut ho rfl
       have HC5 := Aside0.mk C5
       have HL5 := Aside0.mk l5
       clear ho hb C5 l5 HF)
    | (go_at_call 13
       refine (shroudlaw06_few.calls _ _ l4 _ ll _ (Kd.C_below HR4.out B3.out) HC4.out G3.out).mono ?_
       rintro e w4 ⟨v4, rfl, ho, hb⟩
       have B4 := Aside0.mk (below_then B3.out B3.out.size hb)
       have HF4 := Aside0.mk (HF3.out.below hb)
       have HC54 := Aside0.mk (Kd.C_below HC5.out hb)
       obtain ⟨A6, n6, rfl, l6, C6⟩ := R_cut ho rfl
       have HC6 := Aside0.mk C6
       have HL6 := Aside0.mk l6
       clear ho hb C6 l6 HF3 HC5)
    | (go_at_call 8
       obtain ⟨k, hk⟩ := G4.out p
       have hk2 := blind_Remap.calls k p A0 c0 l0 A1 c1 lo A5 n5 cc q A6 n6 ll dd 0 w4 HF4.out (Kd.C_below HR0.out B4.out) HC0.out (by rw [HLN.out]; exact Kd.C_below HLO.out B4.out) (by rw [HLN.out]; exact HLC.out) HC54.out HL5.out HC6.out HL6.out hk
       rw [HLN.out] at hk2
       refine hk2.mono ?_
       rintro e w5 ⟨v5, rfl, ho, hb⟩
       have B5 := Aside0.mk (below_then B4.out B4.out.size hb)
       have HF5 := Aside0.mk (HF4.out.below hb)
       have HC55 := Aside0.mk (Kd.C_below HC54.out hb)
       have HC65 := Aside0.mk (Kd.C_below HC6.out hb)
       obtain ⟨A7, n7, rfl, l7, C7⟩ := R_cut ho rfl
       have HC7 := Aside0.mk C7
       have HL7 := Aside0.mk l7
       clear ho hb hk hk2 C7 l7 HF4 HC54 HC6 G4)
    | (go_at_call 16
       obtain ⟨k, hk⟩ := G5.out p
       refine (shamir_Deal.calls k p _ _ l0 _ _ cc q 10 AA 0 _ HF5.out (Kd.C_below HR0.out B5.out) HC0.out HC55.out HL5.out hk).mono ?_
       rintro e w6 ⟨v6, rfl, ho, hb⟩
       have B6 := Aside0.mk (below_then B5.out B5.out.size hb)
       have HF6 := Aside0.mk (HF5.out.below hb)
       have HC66 := Aside0.mk (Kd.C_below HC65.out hb)
       have HC76 := Aside0.mk (Kd.C_below HC7.out hb)
       obtain ⟨A8, n8, rfl, l8, C8⟩ := R_cut (Kd.S_R ho) GA.out
       have HC8 := Aside0.mk C8
       have HL8 := Aside0.mk l8
       clear ho hb hk C8 l8 HF5 HC55 HC65 HC7 G5)
    | (go_at_call 16
       obtain ⟨k, hk⟩ := G6.out p
       have hk2 := shamir_Deal.calls k p A1 c1 lo A7 n7 dd q 10 BB 0 w6 HF6.out (by rw [HLN.out]; exact Kd.C_below HLO.out B6.out) (by rw [HLN.out]; exact HLC.out) HC76.out HL7.out hk
       rw [HLN.out] at hk2
       refine hk2.mono ?_
       rintro e w7 ⟨v7, rfl, ho, hb⟩
       have B7 := Aside0.mk (below_then B6.out B6.out.size hb)
       have HC67 := Aside0.mk (Kd.C_below HC66.out hb)
       have HC87 := Aside0.mk (Kd.C_below HC8.out hb)
       obtain ⟨A9, n9, rfl, l9, C9⟩ := R_cut (Kd.S_R ho) GB.out
       have HC9 := Aside0.mk C9
       have HL9 := Aside0.mk l9
       clear ho hb hk hk2 C9 l9 HF6 HC66 HC8 HC76 G6))
  have hm6 : ll.length ≤ 9223372036854775807 := HC67.out.2.1
  go_loopw [107] (fun j wr => ∃ (i : Nat), i ≤ ll.length ∧ j = .int .i64 i ∧ Aside0 (Below w7.heap.size w7 wr)) (fun j _ => ll.length - (intOf j).toNat)
  case atStart => exact ⟨0, Nat.zero_le _, rfl, ⟨Below.refl _ _⟩⟩
  case round =>
    obtain ⟨i, hi, rfl, hB⟩ := hrel
    by_cases hlt : i < ll.length
    · have i1 : (i : Int) < (ll.length : Int) := by omega
      have i0 : (0 : Int) ≤ (i : Int) := by omega
      obtain ⟨ad6, e6, x0⟩ := Kd.at_int (Kd.C_below HC67.out hB.out) (i : Int) i0 i1
      subst e6
      unfold rd at x0
      simp only [Int.toNat_natCast] at x0
      have hmem : ll.getD i 0 ∈ ll := by rw [List.getD_eq_getElem?_getD, List.getElem?_eq_getElem hlt]; exact List.getElem_mem _
      have hb10 := G7.out _ hmem
      obtain ⟨ks, hks⟩ := G8.out _ hmem
      obtain ⟨y, hy⟩ : ∃ y : Nat, ll.getD i 0 = (y : Int) := ⟨(ll.getD i 0).toNat, by omega⟩
      rw [hy] at x0 hb10 hks
      obtain ⟨ad8, cs8, e8, hl8, ⟨A10, c10, e10, hc10, C10⟩, hx8⟩ := Kd.C_get (Kd.C_below HC87.out hB.out) ([] : List Int) (y : Int) (by omega) (by omega)
      obtain ⟨ad9, cs9, e9, hl9, ⟨A11, c11, e11, hc11, C11⟩, hx9⟩ := Kd.C_get (Kd.C_below HC9.out hB.out) ([] : List Int) (y : Int) (by omega) (by omega)
      subst e8 e9 e10 e11
      have x8 := hx8 0 _ rfl
      have x9 := hx9 0 _ rfl
      simp only [Int.toNat_natCast, Kd.slice, Nat.mul_one, Nat.add_zero] at x8 x9
      change wr.cell? (ad8.add y) = some (.slice A10 (rd_L3 AA (y : Int)).length c10) at x8
      change wr.cell? (ad9.add y) = some (.slice A11 (rd_L3 BB (y : Int)).length c11) at x9
      have XC10 := Aside0.mk (show Kd.C (Kd.int .u8) wr A10 (rd_L3 AA (y : Int)).length (rd_L3 AA (y : Int)) from C10)
      have XC11 := Aside0.mk (show Kd.C (Kd.int .u8) wr A11 (rd_L3 BB (y : Int)).length (rd_L3 BB (y : Int)) from C11)
      have XL10 := Aside0.mk (show (rd_L3 AA (y : Int)).length ≤ c10 from hc10)
      have XL11 := Aside0.mk (show (rd_L3 BB (y : Int)).length ≤ c11 from hc11)
      have HKS := Aside0.mk hks
      have y1 : (y : Int) < 10 := hb10.2
      have y0 : (0 : Int) ≤ (y : Int) := hb10.1
      have y3 : y < 10 := by omega
      clear hx8 hx9 C10 C11 hc10 hc11 hl8 hl9 hks hmem hb10 hy
      generalize rd_L3 AA (y : Int) = ra at *
      generalize rd_L3 BB (y : Int) = rb at *
      go_wp2_with fail
      refine Seq.start (fun _ => True) (Seq.but [14]) (Seq.these []) (by kernel_rfl) ?_
      refine Seq.calm (i := 0) (d := some 110) (v := ?_) rfl rfl (by kernel_rfl) (by rfl) (fun w9 => ?_) ?_
      rotate_left
      · go_simp; try with_reducible rfl
      (try simp only [Act.put, List.setIfInBounds_toArray, List.set_cons_zero, List.set_cons_succ])
      refine Seq.calm (i := 1) (d := some 111) (v := ?_) rfl rfl (by kernel_rfl) (by rfl) (fun w9 => ?_) ?_
      rotate_left
      · go_simp; try with_reducible rfl
      (try simp only [Act.put, List.setIfInBounds_toArray, List.set_cons_zero, List.set_cons_succ])
      refine Seq.calm (i := 2) (d := some 112) (v := ?_) rfl rfl (by kernel_rfl) (by rfl) (fun w9 => ?_) ?_
      rotate_left
      · go_simp; try with_reducible rfl
      (try simp only [Act.put, List.setIfInBounds_toArray, List.set_cons_zero, List.set_cons_succ])
      refine Seq.calm (i := 3) (d := some 113) (v := ?_) rfl rfl (by kernel_rfl) (by rfl) (fun w9 => ?_) ?_
      rotate_left
      · go_simp; try with_reducible rfl
      (try simp only [Act.put, List.setIfInBounds_toArray, List.set_cons_zero, List.set_cons_succ])
      refine Seq.held (i := 4) (d := some 114) (v := ?_) rfl rfl (by kernel_rfl) (by kernel_rfl) (by rfl) ?_ ?_
      rotate_left
      · go_simp; try with_reducible rfl
      (try simp only [Act.put, List.setIfInBounds_toArray, List.set_cons_zero, List.set_cons_succ])
      refine Seq.calm (i := 5) (d := some 115) (v := ?_) rfl rfl (by kernel_rfl) (by rfl) (fun w9 => ?_) ?_
      rotate_left
      · go_simp; try with_reducible rfl
      (try simp only [Act.put, List.setIfInBounds_toArray, List.set_cons_zero, List.set_cons_succ])
      refine Seq.held (i := 6) (d := some 116) (v := ?_) rfl rfl (by kernel_rfl) (by kernel_rfl) (by rfl) ?_ ?_
      rotate_left
      · go_simp; try with_reducible rfl
      (try simp only [Act.put, List.setIfInBounds_toArray, List.set_cons_zero, List.set_cons_succ])
      refine Seq.calm (i := 7) (d := some 117) (v := ?_) rfl rfl (by kernel_rfl) (by rfl) (fun w9 => ?_) ?_
      rotate_left
      · go_simp; try with_reducible rfl
      (try simp only [Act.put, List.setIfInBounds_toArray, List.set_cons_zero, List.set_cons_succ])
      refine Seq.calm (i := 8) (d := some 118) (v := ?_) rfl rfl (by kernel_rfl) (by rfl) (fun w9 => ?_) ?_
      rotate_left
      · go_simp; try with_reducible rfl
      (try simp only [Act.put, List.setIfInBounds_toArray, List.set_cons_zero, List.set_cons_succ])
      refine Seq.calm (i := 9) (d := some 119) (v := ?_) rfl rfl (by kernel_rfl) (by rfl) (fun w9 => ?_) ?_
      rotate_left
      · go_simp; try with_reducible rfl
      (try simp only [Act.put, List.setIfInBounds_toArray, List.set_cons_zero, List.set_cons_succ])
      refine Seq.calm (i := 10) (d := some 120) (v := ?_) rfl rfl (by kernel_rfl) (by rfl) (fun w9 => ?_) ?_
      rotate_left
      · go_simp; try with_reducible rfl
      (try simp only [Act.put, List.setIfInBounds_toArray, List.set_cons_zero, List.set_cons_succ])
      refine Seq.held (i := 11) (d := some 121) (v := ?_) rfl rfl (by kernel_rfl) (by kernel_rfl) (by rfl) ?_ ?_
      rotate_left
      · go_simp; try with_reducible rfl
      (try simp only [Act.put, List.setIfInBounds_toArray, List.set_cons_zero, List.set_cons_succ])
      refine Seq.calm (i := 12) (d := some 122) (v := ?_) rfl rfl (by kernel_rfl) (by rfl) (fun w9 => ?_) ?_
      rotate_left
      · go_simp; try with_reducible rfl
      (try simp only [Act.put, List.setIfInBounds_toArray, List.set_cons_zero, List.set_cons_succ])
      refine Seq.held (i := 13) (d := some 123) (v := ?_) rfl rfl (by kernel_rfl) (by kernel_rfl) (by rfl) ?_ ?_
      rotate_left
      · go_simp; try with_reducible rfl
      (try simp only [Act.put, List.setIfInBounds_toArray, List.set_cons_zero, List.set_cons_succ])
      refine Seq.drop (i := 14) rfl (by kernel_rfl) (by kernel_rfl) (by rfl) (fun K9 hK9 => ?_)
      go_simp
      (with_reducible refine (shroudref01_Same.calls ks _ _ ra _ _ rb true _ (Kd.C_below XC10.out (Below.refl _ _).drew) XL10.out (Kd.C_below XC11.out (Below.refl _ _).drew) XL11.out HKS.out).mono ?_)
      rintro e1 w5 ⟨rfl, ⟨n1, rfl⟩⟩
      refine hK9.out _ _ ?_
      clear hK9 K9
      (try simp only [Act.put, List.setIfInBounds_toArray, List.set_cons_zero, List.set_cons_succ])
      refine Seq.calm (i := 15) (d := some 125) (v := ?_) rfl rfl (by kernel_rfl) (by rfl) (fun w9 => ?_) ?_
      rotate_left
      · go_simp; try with_reducible rfl
      (try simp only [Act.put, List.setIfInBounds_toArray, List.set_cons_zero, List.set_cons_succ])
      refine Seq.done (by kernel_rfl) ?_
      go_wp2_with fail
      go_roundw
      case rel => exact ⟨i + 1, by omega, by go_num, ⟨pw_below_drewN hB.out _⟩⟩
      case measure => simp [intOf]; omega
    · obtain rfl : i = ll.length := by omega
      go_wp2_with fail
      go_ret
      exact ⟨rfl, below_then B7.out B7.out.size hB.out⟩
end Go.Proofs.Ytieiaoknbnkjpaa.Rf

namespace Go.Proofs.Ytieiaoknbnkjpaa.Rf
open Go.RowKit Go.Proofs.YtieiaoknbnkjpaaW.PrintWords
theorem bytes_wf {l : List Int} (h : ∀ x ∈ l, (Lit.int .u8 x).wf = true) : Bytes l := fun x hx => by
  have h1 : 0 ≤ x ∧ x ≤ 255 := by
    have := h x hx
    simp [Lit.wf, IntKind.min, IntKind.max, IntKind.signed, IntKind.bits] at this
    omega
  omega
theorem good_RS {s o c : List UInt8} {a : Int} {who : List Int} (h : good s o c a who) : RS s o c a who = (bs (remapS s o c a who), 0) := by unfold RS; rw [if_pos h]
theorem shares_walk (A0 : Option Addr) (c0 : Nat) (l0 : List Int) (A1 : Option Addr) (c1 : Nat) (l1 : List Int) (A2 : Option Addr) (c2 : Nat) (l2 : List Int) (a : Int) (ha : (Lit.int .u8 a).wf = true) (A4 : Option Addr) (c4 : Nat) (l4 : List Int) (w : World)
    (hr0 : ReadsInt w .u8 A0 l0.length l0) (hc0 : l0.length ≤ c0) (hw0 : ∀ x ∈ l0, (Lit.int .u8 x).wf = true) (hr1 : ReadsInt w .u8 A1 l1.length l1) (hc1 : l1.length ≤ c1) (hw1 : ∀ x ∈ l1, (Lit.int .u8 x).wf = true) (hr2 : ReadsInt w .u8 A2 l2.length l2) (hc2 : l2.length ≤ c2) (hw2 : ∀ x ∈ l2, (Lit.int .u8 x).wf = true) (hm2 : l2.length * 1 ≤ 140737488351232) (hr4 : ReadsInt w .u8 A4 l4.length l4) (hc4 : l4.length ≤ c4) (hw4 : ∀ x ∈ l4, (Lit.int .u8 x).wf = true) :
    Calls Try.prog 6 #[.slice A0 l0.length c0, .slice A1 l1.length c1, .slice A2 l2.length c2, .int .u8 a, .slice A4 l4.length c4] w fun e w' => e = .returned (.bool true) ∧ Below w.heap.size w w' := by
  have C0 : Kd.C (Kd.int .u8) w A0 l0.length l0 := Kd.C_of_reads (d := (0 : Int)) (h1 := fun _ => rfl) hr0
  have C1 : Kd.C (Kd.int .u8) w A1 l1.length l1 := Kd.C_of_reads (d := (0 : Int)) (h1 := fun _ => rfl) hr1
  have C2 : Kd.C (Kd.int .u8) w A2 l2.length l2 := Kd.C_of_reads (d := (0 : Int)) (h1 := fun _ => rfl) hr2
  have C4 : Kd.C (Kd.int .u8) w A4 l4.length l4 := Kd.C_of_reads (d := (0 : Int)) (h1 := fun _ => rfl) hr4
  have hab : 0 ≤ a ∧ a < 256 := bytes_wf (l := [a]) (by simpa using ha) a (by simp)
  obtain ⟨x, rfl⟩ : ∃ x : Nat, a = (x : Int) := ⟨a.toNat, by omega⟩
  obtain ⟨q, hq⟩ : ∃ q, 1 + (x : Int) % 5 = q := ⟨_, rfl⟩
  have q1 : 1 ≤ q := by omega
  have q2 : q ≤ 5 := by omega
  by_cases hs : l0.length ≤ 20 ∧ l0.length ≤ l1.length
  · obtain ⟨s, rfl⟩ : ∃ s, l0 = bs s := ⟨toU l0, (bs_toU (bytes_wf hw0)).symm⟩
    obtain ⟨o, rfl⟩ : ∃ s, l1 = bs s := ⟨toU l1, (bs_toU (bytes_wf hw1)).symm⟩
    obtain ⟨c, rfl⟩ : ∃ s, l2 = bs s := ⟨toU l2, (bs_toU (bytes_wf hw2)).symm⟩
    rw [bs_length, bs_length] at hs
    rw [bs_length] at hm2
    obtain ⟨u, hu, hev⟩ := coinsOf_ev c s.length q (by omega) (by omega) q1 (by omega)
    obtain ⟨g1, g2, g3⟩ := few_who q q1 l4 (bytes_wf hw4)
    have hlen : s.length = (o.take s.length).length := by rw [List.length_take]; omega
    have G1 : good s (o.take s.length) u q (fewL q l4) := ⟨q1, by omega, g2, hlen, by omega, hu, g1⟩
    have hd : (remapS s (o.take s.length) u q (fewL q l4)).length = u.length := by unfold remapS; rw [remapL_length]
    have ht := turnU_length g1
    have hdm : s.length * (q.toNat - 1) ≤ u.length := by
      have h1 : ((s.length * (q.toNat - 1) : Nat) : Int) = s.length * (q - 1) := by
        rw [Int.natCast_mul]; congr 1; omega
      omega
    have hu2 : u.length ≤ 80 := by
      have h4 : (s.length : Int) * (q - 1) ≤ 20 * (q - 1) := Int.mul_le_mul_of_nonneg_right (by omega) (by omega)
      omega
    obtain ⟨p1, p2, p3⟩ := Gf.through_spec (ptsU_nodup g1)
    have E0 : Gf.ev (turnU (fewL q l4)) 0 = 1 := p1 (0, 1) (by simp [ptsU])
    have EX : ∀ y ∈ fewL q l4, Gf.ev (turnU (fewL q l4)) (UInt8.ofNat (y.toNat + 1)) = 0 := fun y hy => by
      have h1 := p1 (UInt8.ofNat (y + 1).toNat, 0) (by
        unfold ptsU
        exact List.mem_cons_of_mem _ (List.mem_map.2 ⟨y, hy, rfl⟩))
      have h2 := g3 y hy
      rw [show (y + 1).toNat = y.toNat + 1 by omega] at h1
      exact h1
    refine shares A0 c0 (bs s) A1 c1 (bs o) A2 c2 (bs c) x (by omega) A4 c4 l4 w C0 hc0 C1 hc1 C2 hc2 C4 hc4 (bs (o.take s.length)) (bs u) (bs (remapS s (o.take s.length) u q (fewL q l4))) (fewL q l4) (shs s u (q.toNat - 1) s.length 0) (shs (o.take s.length) (remapS s (o.take s.length) u q (fewL q l4)) (q.toNat - 1) s.length 0) (fun _ _ h9 => ?_)
    rw [hq]
    refine ⟨by rw [bs_length, bs_take], ?_, ?_, fun p => ?_, fun p => ?_, fun p => ?_, shs_length .., shs_length .., g3, fun y hy => ?_⟩
    · rw [bs_length]; exact hev.rounds
    · unfold shroudlaw06_few.f
      rw [if_pos ⟨by omega, bytes_wf hw4⟩]
    · have := (blind_ev p s (o.take s.length) u q (fewL q l4)).rounds
      rwa [good_RS G1] at this
    · exact (deal_ev p s u q q1 (by omega) (by omega) hu).rounds
    · have := (deal_ev p (o.take s.length) (remapS s (o.take s.length) u q (fewL q l4)) q q1 (by omega) (by omega) (by rw [hd, ← hlen]; exact hu)).rounds
      rwa [← hlen] at this
    · have h2 := g3 y hy
      have hx := EX y hy
      obtain ⟨v, rfl⟩ : ∃ v : Nat, y = (v : Int) := ⟨y.toNat, by omega⟩
      rw [Int.toNat_natCast] at hx
      rw [rd_shs _ _ _ _ _ v (by omega), rd_shs _ _ _ _ _ v (by omega), if_neg (by omega)]
      have e : shr (o.take s.length) (remapS s (o.take s.length) u q (fewL q l4)) (q.toNat - 1) s.length v = shr s u (q.toNat - 1) s.length v := by
        unfold shr
        refine List.map_congr_left (fun i hi => ?_)
        have hi' := List.mem_range.1 hi
        unfold remapS
        exact same_share _ i _ hlen hi' hdm ht.1 (by omega) E0 hx
      rw [e]
      have := (same_ev (shr s u (q.toNat - 1) s.length v) (shr s u (q.toNat - 1) s.length v) (by rw [shr_length]; omega)).rounds
      rwa [decide_eq_true rfl] at this
  · exact shares A0 c0 l0 A1 c1 l1 A2 c2 l2 x (by omega) A4 c4 l4 w C0 hc0 C1 hc1 C2 hc2 C4 hc4 [] [] [] [] [] [] (fun h1 h2 _ => absurd ⟨h1, h2⟩ hs)
end Go.Proofs.Ytieiaoknbnkjpaa.Rf
