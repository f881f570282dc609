/- Bytes: lists of them as lists of whole numbers; the field's operations on bytes. -/
import Derived.Test.YtieiaoknbnkjpaaFMul
import Derived.Test.YtieiaoknbnkjpaaRf3
import Derived.Test.YtieiaoknbnkjpaaP
namespace Go.Proofs.Ytieiaoknbnkjpaa.Rf
open Go.RowKit Go.Proofs.YtieiaoknbnkjpaaW.PrintWords

def uI (u : UInt8) : Int := (u.toNat : Int)
def bs (l : List UInt8) : List Int := l.map uI
theorem uI_bd (u : UInt8) : 0 ≤ uI u ∧ uI u < 256 := by have := u.toNat_lt; unfold uI; omega
theorem bs_length (l : List UInt8) : (bs l).length = l.length := by simp [bs]
theorem bs_append (l m : List UInt8) : bs (l ++ m) = bs l ++ bs m := by simp [bs]
theorem rd_bs (l : List UInt8) (i : Int) : rd (bs l) i = uI (l.getD i.toNat 0) := by
  unfold rd bs
  rw [List.getD_eq_getElem?_getD, List.getElem?_map, List.getD_eq_getElem?_getD]
  cases l[i.toNat]? <;> rfl
theorem bs_set (l : List UInt8) (i : Nat) (u : UInt8) : (bs l).set i (uI u) = bs (l.set i u) := by simp [bs, List.map_set]
theorem bs_take (l : List UInt8) (n : Nat) : (bs l).take n = bs (l.take n) := by simp [bs, List.map_take]
theorem bs_drop (l : List UInt8) (n : Nat) : (bs l).drop n = bs (l.drop n) := by simp [bs, List.map_drop]
theorem bs_inj {l m : List UInt8} (h : bs l = bs m) : l = m := by
  have : ∀ u v : UInt8, uI u = uI v → u = v := fun u v h => by
    unfold uI at h
    exact UInt8.toNat_inj.1 (by omega)
  unfold bs at h
  exact (List.map_inj_right (fun u v => this u v)).1 h
/-- All are bytes. -/
def Bytes (l : List Int) : Prop := ∀ x ∈ l, 0 ≤ x ∧ x < 256
instance (l : List Int) : Decidable (Bytes l) := by unfold Bytes; infer_instance
def toU (l : List Int) : List UInt8 := l.map fun x => UInt8.ofNat x.toNat
theorem uI_of {x : Int} (h : 0 ≤ x ∧ x < 256) : uI (UInt8.ofNat x.toNat) = x := by
  unfold uI
  rw [UInt8.toNat_ofNat']
  omega
theorem bs_toU {l : List Int} (h : Bytes l) : bs (toU l) = l := by
  induction l with
  | nil => rfl
  | cons x l ih =>
    have h1 := ih (fun y hy => h y (List.mem_cons_of_mem _ hy))
    simp only [toU, bs, List.map_cons] at h1 ⊢
    rw [h1, uI_of (h x List.mem_cons_self)]
theorem bytes_bs (l : List UInt8) : Bytes (bs l) := fun x hx => by
  obtain ⟨u, _, rfl⟩ := List.mem_map.1 hx
  exact uI_bd u
theorem toU_bs (l : List UInt8) : toU (bs l) = l := bs_inj (bs_toU (bytes_bs l))
theorem toU_length (l : List Int) : (toU l).length = l.length := by simp [toU]

theorem gf_Mul_u (p : Nat) (a b : UInt8) : gf_Mul.f p (uI a) (uI b) = some (uI (Gf.mul a b)) := by
  have ha := uI_bd a
  have hb := uI_bd b
  unfold gf_Mul.f
  rw [if_pos ⟨ha.1, ha.2, hb.1, hb.2⟩]
  unfold uI
  rw [Gf.mul_toNat]; rfl
theorem gf_Div_u (p : Nat) (a b : UInt8) : gf_Div.f p (uI a) (uI b) = some (uI (Gf.dv a b), if b = 0 then 1 else 0) := by
  have ha := uI_bd a
  have hb := uI_bd b
  unfold gf_Div.f Gf.dv
  rw [if_pos ⟨ha.1, ha.2, hb.1, hb.2⟩]
  by_cases h : b = 0
  · subst h
    rfl
  · have h0 : ¬ uI b = 0 := fun e => h (UInt8.toNat_inj.1 (by unfold uI at e; simpa using e))
    rw [if_neg h0, if_neg h, if_neg h]
    unfold uI
    rw [Gf.div_toNat]; rfl
theorem gf_Add_u (a b : UInt8) : gf_Add.f (uI a) (uI b) = some (uI (a ^^^ b)) := by
  unfold gf_Add.f uI
  rw [u8_xor_nat _ _ a.toNat_lt b.toNat_lt, UInt8.toNat_xor]
end Go.Proofs.Ytieiaoknbnkjpaa.Rf
