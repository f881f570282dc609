/- Polynomials over the field with 256 elements, as the code makes them; that few points tell one. -/
import Derived.Test.YtieiaoknbnkjpaaG
namespace Gf
def pw (x : UInt8) : Nat → UInt8
  | 0 => 1
  | n + 1 => mul (pw x n) x
def ev : List UInt8 → UInt8 → UInt8
  | [], _ => 0
  | c :: p, x => mul (ev p x) x ^^^ c
/-- l is added from place i on -/
def xorAt : List UInt8 → Nat → List UInt8 → List UInt8
  | out, _, [] => out
  | out, i, c :: l => xorAt (out.set i (out.getD i 0 ^^^ c)) (i + 1) l
/-- how many coefficients are left without zeros at the end, of the first n -/
def top (l : List UInt8) : Nat → Nat
  | 0 => 0
  | n + 1 => if l.getD n 0 = 0 then top l n else n + 1
def trimP (l : List UInt8) : List UInt8 := l.take (top l l.length)
def addP (a b : List UInt8) : List UInt8 := if a.length < b.length then xorAt b 0 a else xorAt a 0 b
def mulTo : List UInt8 → Nat → List UInt8 → List UInt8 → List UInt8
  | out, _, [], _ => out
  | out, i, x :: a, b => mulTo (xorAt out i (b.map (mul x))) (i + 1) a b
def mulP (a b : List UInt8) : List UInt8 := mulTo (List.replicate (a.length + b.length) 0) 0 a b
def addT (a b : List UInt8) : List UInt8 := trimP (addP a b)
def mulT (a b : List UInt8) : List UInt8 := trimP (mulP a b)

theorem xx (a b c d : UInt8) : (a ^^^ b) ^^^ (c ^^^ d) = (a ^^^ c) ^^^ (b ^^^ d) := by
  rw [UInt8.xor_assoc, UInt8.xor_assoc, ← UInt8.xor_assoc b, UInt8.xor_comm b c, UInt8.xor_assoc c]
theorem ev_append (a b : List UInt8) (x : UInt8) : ev (a ++ b) x = ev a x ^^^ mul (pw x a.length) (ev b x) := by
  induction a with
  | nil => simp [ev, pw, one_mul]
  | cons c a ih =>
    simp only [List.cons_append, ev, List.length_cons, pw]
    rw [ih, add_mul, UInt8.xor_assoc, UInt8.xor_comm _ c, ← UInt8.xor_assoc, mul_assoc, mul_assoc, mul_comm (ev b x) x]
theorem ev_zeros : ∀ (l : List UInt8) (x : UInt8), (∀ c ∈ l, c = 0) → ev l x = 0
  | [], _, _ => rfl
  | c :: l, x, h => by
    rw [ev, ev_zeros l x (fun c hc => h c (List.mem_cons_of_mem _ hc)), h c List.mem_cons_self, zero_mul]; rfl
theorem ev_set : ∀ (l : List UInt8) (i : Nat) (v x : UInt8), i < l.length → ev (l.set i v) x = ev l x ^^^ mul (pw x i) (l.getD i 0 ^^^ v)
  | [], _, _, _, h => by simp at h
  | c :: l, 0, v, x, _ => by
    simp only [List.set_cons_zero, ev, pw, one_mul, List.getD_cons_zero]
    rw [UInt8.xor_assoc, ← UInt8.xor_assoc c, xor_self, UInt8.zero_xor]
  | c :: l, i + 1, v, x, h => by
    simp only [List.set_cons_succ, ev, pw, List.getD_cons_succ]
    rw [ev_set l i v x (by simpa using h), add_mul, UInt8.xor_assoc, UInt8.xor_comm _ c, ← UInt8.xor_assoc, mul_assoc, mul_assoc, mul_comm x]
theorem xorAt_length : ∀ (l out : List UInt8) (i : Nat), (xorAt out i l).length = out.length
  | [], _, _ => rfl
  | c :: l, out, i => by rw [xorAt, xorAt_length l]; simp
theorem getD_set (l : List UInt8) (i j : Nat) (v : UInt8) (h : i < l.length) : (l.set i v).getD j 0 = if i = j then v else l.getD j 0 := by
  rw [List.getD_eq_getElem?_getD, List.getElem?_set]
  split
  · rename_i e
    subst e
    simp
  · rw [List.getD_eq_getElem?_getD]
theorem xorAt_getD : ∀ (l out : List UInt8) (i j : Nat), i + l.length ≤ out.length → (xorAt out i l).getD j 0 = out.getD j 0 ^^^ (if i ≤ j then l.getD (j - i) 0 else 0)
  | [], out, i, j, _ => by
    simp [xorAt]
  | c :: l, out, i, j, h => by
    simp only [List.length_cons] at h
    rw [xorAt, xorAt_getD l _ (i + 1) j (by simp; omega), getD_set _ _ _ _ (by omega)]
    by_cases h1 : i = j
    · subst h1
      rw [if_pos rfl, if_neg (by omega), if_pos (Nat.le_refl _)]
      simp
    · rw [if_neg h1]
      by_cases h2 : i ≤ j
      · rw [if_pos (by omega), if_pos h2, show j - i = (j - (i + 1)) + 1 by omega, List.getD_cons_succ]
      · rw [if_neg (by omega), if_neg h2]
theorem xorAt_snoc : ∀ (l out : List UInt8) (i : Nat) (c : UInt8), xorAt out i (l ++ [c]) = (xorAt out i l).set (i + l.length) ((xorAt out i l).getD (i + l.length) 0 ^^^ c)
  | [], out, i, c => by simp [xorAt]
  | d :: l, out, i, c => by
    rw [List.cons_append, xorAt, xorAt_snoc l, xorAt, List.length_cons, show i + 1 + l.length = i + (l.length + 1) by omega]
theorem ev_xorAt : ∀ (l out : List UInt8) (i : Nat) (x : UInt8), i + l.length ≤ out.length → ev (xorAt out i l) x = ev out x ^^^ mul (pw x i) (ev l x)
  | [], out, i, x, _ => by simp [xorAt, ev, mul_zero]
  | c :: l, out, i, x, h => by
    simp only [List.length_cons] at h
    rw [xorAt, ev_xorAt l _ (i + 1) x (by simp; omega), ev_set _ _ _ _ (by omega), ← UInt8.xor_assoc (out.getD i 0), xor_self, UInt8.zero_xor]
    simp only [ev, pw]
    rw [mul_add, UInt8.xor_assoc, UInt8.xor_comm (mul (pw x i) c), mul_assoc, mul_comm x (ev l x)]
theorem mulTo_length : ∀ (a out b : List UInt8) (i : Nat), (mulTo out i a b).length = out.length
  | [], _, _, _ => rfl
  | x :: a, out, b, i => by rw [mulTo, mulTo_length a, xorAt_length]
theorem ev_map (y : UInt8) (b : List UInt8) (x : UInt8) : ev (b.map (mul y)) x = mul y (ev b x) := by
  induction b with
  | nil => simp [ev, mul_zero]
  | cons c b ih => simp only [List.map_cons, ev, ih]; rw [mul_add, mul_assoc]
theorem ev_mulTo : ∀ (a out b : List UInt8) (i : Nat) (x : UInt8), (a ≠ [] → i + a.length + b.length ≤ out.length + 1) → ev (mulTo out i a b) x = ev out x ^^^ mul (pw x i) (mul (ev a x) (ev b x))
  | [], out, b, i, x, _ => by simp [mulTo, ev, zero_mul, mul_zero]
  | y :: a, out, b, i, x, h => by
    have h1 := h (by simp)
    simp only [List.length_cons] at h1
    rw [mulTo, ev_mulTo a _ b (i + 1) x (fun _ => by rw [xorAt_length]; omega), ev_xorAt _ _ _ _ (by simp; omega), ev_map]
    simp only [ev, pw]
    rw [add_mul, mul_add, UInt8.xor_assoc, UInt8.xor_comm (mul (pw x i) (mul y _))]
    simp only [mul_assoc]
    rw [← mul_assoc x (ev a x), mul_comm x (ev a x), mul_assoc]
theorem mulP_length (a b : List UInt8) : (mulP a b).length = a.length + b.length := by unfold mulP; rw [mulTo_length]; simp
theorem ev_replicate (n : Nat) (x : UInt8) : ev (List.replicate n 0) x = 0 := ev_zeros _ _ (fun _ hc => (List.mem_replicate.1 hc).2)
theorem ev_mulP (a b : List UInt8) (x : UInt8) : ev (mulP a b) x = mul (ev a x) (ev b x) := by
  unfold mulP
  rw [ev_mulTo _ _ _ _ _ (fun _ => by simp), ev_replicate, UInt8.zero_xor, pw, one_mul]
theorem mulTo_getD : ∀ (a out b : List UInt8) (i j : Nat), (a ≠ [] → i + a.length + b.length ≤ out.length + 1) → i + a.length + b.length ≤ j + 1 → (mulTo out i a b).getD j 0 = out.getD j 0
  | [], _, _, _, _, _, _ => rfl
  | y :: a, out, b, i, j, h, hj => by
    have h1 := h (by simp)
    simp only [List.length_cons] at h1 hj
    rw [mulTo, mulTo_getD a _ b (i + 1) j (fun _ => by rw [xorAt_length]; omega) (by omega), xorAt_getD _ _ _ _ (by simp; omega)]
    have : (if i ≤ j then (b.map (mul y)).getD (j - i) 0 else 0) = 0 := by
      split
      · rw [List.getD_eq_getElem?_getD, List.getElem?_eq_none (by simp; omega)]; rfl
      · rfl
    rw [this, UInt8.xor_zero]
theorem mulP_last (a b : List UInt8) (h : 0 < a.length + b.length) : (mulP a b).getD (a.length + b.length - 1) 0 = 0 := by
  unfold mulP
  rw [mulTo_getD _ _ _ _ _ (fun _ => by simp) (by omega), List.getD_eq_getElem?_getD, List.getElem?_replicate]
  rw [if_pos (by omega)]; rfl

/-! trimmed -/
theorem top_le (l : List UInt8) : ∀ n, top l n ≤ n
  | 0 => Nat.le_refl _
  | n + 1 => by
    rw [top]
    have := top_le l n
    split <;> omega
theorem top_zero (l : List UInt8) : ∀ n j, top l n ≤ j → j < n → l.getD j 0 = 0
  | 0, _, _, h => by omega
  | n + 1, j, h, hj => by
    rw [top] at h
    split at h
    · rename_i h0
      rcases Nat.lt_or_ge j n with h1 | h1
      · exact top_zero l n j h h1
      · have : j = n := by omega
        rw [this]; exact h0
    · omega
theorem top_ne (l : List UInt8) : ∀ n m, top l n = m + 1 → l.getD m 0 ≠ 0
  | 0, m, h => by simp [top] at h
  | n + 1, m, h => by
    rw [top] at h
    split at h
    · exact top_ne l n m h
    · rename_i h0
      have : n = m := by omega
      rw [← this]; exact h0
theorem getD_take (l : List UInt8) (n j : Nat) : (l.take n).getD j 0 = if j < n then l.getD j 0 else 0 := by
  rw [List.getD_eq_getElem?_getD, List.getElem?_take]
  split
  · rw [List.getD_eq_getElem?_getD]
  · rfl
theorem getD_big (l : List UInt8) {j : Nat} (h : l.length ≤ j) : l.getD j 0 = 0 := by
  rw [List.getD_eq_getElem?_getD, List.getElem?_eq_none h]; rfl
theorem trimP_getD (l : List UInt8) (j : Nat) : (trimP l).getD j 0 = l.getD j 0 := by
  unfold trimP
  rw [getD_take]
  split
  · rfl
  · rename_i h
    rcases Nat.lt_or_ge j l.length with h1 | h1
    · exact (top_zero l l.length j (by omega) h1).symm
    · exact (getD_big l h1).symm
theorem trimP_length (l : List UInt8) : (trimP l).length = top l l.length := by
  unfold trimP; rw [List.length_take]; have := top_le l l.length; omega
theorem trimP_le (l : List UInt8) : (trimP l).length ≤ l.length := by rw [trimP_length]; exact top_le _ _
/-- No zero at the end. -/
def Tr (l : List UInt8) : Prop := ∀ m, l.length = m + 1 → l.getD m 0 ≠ 0
theorem trimP_tr (l : List UInt8) : Tr (trimP l) := fun m h => by
  rw [trimP_getD]
  rw [trimP_length] at h
  exact top_ne l _ m h
theorem trimP_of_tr {l : List UInt8} (h : Tr l) : trimP l = l := by
  unfold trimP
  cases hl : l.length with
  | zero => rw [List.length_eq_zero_iff.1 hl]; rfl
  | succ m =>
    rw [top, if_neg (h m hl), ← hl, List.take_length]
theorem ev_take (l : List UInt8) (n : Nat) (x : UInt8) (h : ∀ j, n ≤ j → j < l.length → l.getD j 0 = 0) : ev (l.take n) x = ev l x := by
  conv => rhs; rw [← List.take_append_drop n l, ev_append]
  rw [ev_zeros (l.drop n) x, mul_zero, UInt8.xor_zero]
  intro c hc
  obtain ⟨j, hj, rfl⟩ := List.mem_iff_getElem.1 hc
  rw [List.length_drop] at hj
  have := h (n + j) (by omega) (by omega)
  rw [List.getD_eq_getElem?_getD, List.getElem?_eq_getElem (by omega)] at this
  simpa using this
theorem ev_trimP (l : List UInt8) (x : UInt8) : ev (trimP l) x = ev l x := ev_take l _ x (fun j h h' => top_zero l _ j h h')
theorem top_mono_le {l : List UInt8} : ∀ {n m : Nat}, (∀ j, m ≤ j → j < n → l.getD j 0 = 0) → top l n ≤ m
  | 0, _, _ => Nat.zero_le _
  | n + 1, m, h => by
    rw [top]
    by_cases hn : m ≤ n
    · rw [if_pos (h n hn (by omega))]
      exact top_mono_le (fun j h1 h2 => h j h1 (by omega))
    · split
      · have := top_le l n; omega
      · omega
theorem trimP_short {l : List UInt8} {m : Nat} (h : ∀ j, m ≤ j → j < l.length → l.getD j 0 = 0) : (trimP l).length ≤ m := by
  rw [trimP_length]; exact top_mono_le h
theorem mulT_short (a b : List UInt8) : (mulT a b).length ≤ a.length + b.length - 1 := by
  unfold mulT
  refine trimP_short (fun j h1 h2 => ?_)
  rw [mulP_length] at h2
  obtain rfl : j = a.length + b.length - 1 := by omega
  exact mulP_last a b (by omega)
theorem addP_length (a b : List UInt8) : (addP a b).length = max a.length b.length := by
  unfold addP
  split <;> rw [xorAt_length] <;> omega
theorem addP_getD (a b : List UInt8) (j : Nat) : (addP a b).getD j 0 = a.getD j 0 ^^^ b.getD j 0 := by
  unfold addP
  split
  · rw [xorAt_getD _ _ _ _ (by omega), if_pos (Nat.zero_le _), Nat.sub_zero, UInt8.xor_comm]
  · rw [xorAt_getD _ _ _ _ (by omega), if_pos (Nat.zero_le _), Nat.sub_zero]
theorem ev_addP (a b : List UInt8) (x : UInt8) : ev (addP a b) x = ev a x ^^^ ev b x := by
  unfold addP
  split
  · rw [ev_xorAt _ _ _ _ (by omega), pw, one_mul, UInt8.xor_comm]
  · rw [ev_xorAt _ _ _ _ (by omega), pw, one_mul]
theorem ev_addT (a b : List UInt8) (x : UInt8) : ev (addT a b) x = ev a x ^^^ ev b x := by unfold addT; rw [ev_trimP, ev_addP]
theorem ev_mulT (a b : List UInt8) (x : UInt8) : ev (mulT a b) x = mul (ev a x) (ev b x) := by unfold mulT; rw [ev_trimP, ev_mulP]
theorem addT_length (a b : List UInt8) : (addT a b).length ≤ max a.length b.length := by
  unfold addT; have := trimP_le (addP a b); rw [addP_length] at this; exact this
theorem ext_getD {a b : List UInt8} (hl : a.length = b.length) (h : ∀ j, a.getD j 0 = b.getD j 0) : a = b := by
  apply List.ext_getElem hl
  intro i h1 h2
  have := h i
  rw [List.getD_eq_getElem?_getD, List.getD_eq_getElem?_getD, List.getElem?_eq_getElem h1, List.getElem?_eq_getElem h2] at this
  simpa using this
/-- as the document's program adds -/
theorem add_ref (a b : List UInt8) : xorAt (xorAt (List.replicate (max a.length b.length) 0) 0 a) 0 b = addP a b := by
  refine ext_getD (by rw [xorAt_length, xorAt_length, addP_length]; simp) (fun j => ?_)
  rw [xorAt_getD _ _ _ _ (by rw [xorAt_length]; simp; omega), xorAt_getD _ _ _ _ (by simp; omega), addP_getD, if_pos (Nat.zero_le _), if_pos (Nat.zero_le _), Nat.sub_zero]
  have : (List.replicate (max a.length b.length) (0 : UInt8)).getD j 0 = 0 := by
    rw [List.getD_eq_getElem?_getD, List.getElem?_replicate]
    split <;> rfl
  rw [this, UInt8.zero_xor]
theorem tr_ext {a b : List UInt8} (ha : Tr a) (hb : Tr b) (h : ∀ j, a.getD j 0 = b.getD j 0) : a = b := by
  refine ext_getD ?_ h
  rcases Nat.lt_trichotomy a.length b.length with h1 | h1 | h1
  · refine absurd ?_ (hb (b.length - 1) (by omega))
    rw [← h, getD_big a (by omega)]
  · exact h1
  · refine absurd ?_ (ha (a.length - 1) (by omega))
    rw [h, getD_big b (by omega)]

/-! few points tell a polynomial -/
/-- divided by what is 0 at r -/
def dvd (r : UInt8) : List UInt8 → List UInt8
  | [] => []
  | [_] => []
  | _ :: d :: t => ev (d :: t) r :: dvd r (d :: t)
theorem dvd_length (r : UInt8) : ∀ p : List UInt8, (dvd r p).length = p.length - 1
  | [] => rfl
  | [_] => rfl
  | _ :: d :: t => by rw [dvd, List.length_cons, dvd_length r (d :: t)]; simp
theorem mid (a b c : UInt8) : (a ^^^ c) ^^^ (c ^^^ b) = a ^^^ b := by rw [UInt8.xor_assoc, ← UInt8.xor_assoc c, xor_self, UInt8.zero_xor]
theorem dvd_ev (r x : UInt8) : ∀ p : List UInt8, ev p x ^^^ ev p r = mul (x ^^^ r) (ev (dvd r p) x)
  | [] => by simp [ev, dvd, mul_zero]
  | [c] => by simp [ev, dvd, mul_zero, zero_mul]
  | c :: d :: t => by
    have ih := dvd_ev r x (d :: t)
    have e1 : ev (c :: d :: t) x = mul (ev (d :: t) x) x ^^^ c := rfl
    have e2 : ev (c :: d :: t) r = mul (ev (d :: t) r) r ^^^ c := rfl
    have e3 : ev (dvd r (c :: d :: t)) x = mul (ev (dvd r (d :: t)) x) x ^^^ ev (d :: t) r := rfl
    rw [e1, e2, e3]
    generalize ev (d :: t) x = A at *
    generalize ev (d :: t) r = B at *
    generalize ev (dvd r (d :: t)) x = C at *
    rw [mul_add, ← mul_assoc, ← ih, add_mul, add_mul, mul_comm x B, mul_comm r B, UInt8.xor_comm (mul B r) c, mid, mid]
theorem ev_one0 (c x : UInt8) : ev [c] x = c := by simp [ev, zero_mul]
theorem dvd_zero (r : UInt8) : ∀ p : List UInt8, (∀ c ∈ dvd r p, c = 0) → ev p r = 0 → ∀ c ∈ p, c = 0
  | [], _, _ => by simp
  | [c], _, h => by
    rw [ev_one0] at h
    simpa using h
  | c :: d :: t, h, h0 => by
    have h1 : ev (d :: t) r = 0 := h _ (by rw [dvd]; exact List.mem_cons_self)
    have h2 := dvd_zero r (d :: t) (fun c hc => h c (by rw [dvd]; exact List.mem_cons_of_mem _ hc)) h1
    have e1 : ev (c :: d :: t) r = mul (ev (d :: t) r) r ^^^ c := rfl
    rw [e1, h1, zero_mul, UInt8.zero_xor] at h0
    intro x hx
    rcases List.mem_cons.1 hx with hx | hx
    · rw [hx, h0]
    · exact h2 x hx
theorem zero_of_roots : ∀ (rs p : List UInt8), rs.Nodup → p.length ≤ rs.length → (∀ r ∈ rs, ev p r = 0) → ∀ c ∈ p, c = 0
  | [], p, _, hl, _ => by
    obtain rfl : p = [] := List.length_eq_zero_iff.1 (by simpa using hl)
    simp
  | r :: rs, p, hn, hl, hr => by
    rw [List.nodup_cons] at hn
    have hq := zero_of_roots rs (dvd r p) hn.2 (by rw [dvd_length]; simp at hl; omega) (fun s hs => by
      have h1 := dvd_ev r s p
      rw [hr s (List.mem_cons_of_mem _ hs), hr r List.mem_cons_self, xor_self] at h1
      rcases mul_eq_zero h1.symm with h2 | h2
      · exact absurd (xor_eq_zero h2) (fun e => hn.1 (e ▸ hs))
      · exact h2)
    exact dvd_zero r p hq (hr r List.mem_cons_self)
theorem getD_zero {p : List UInt8} (h : ∀ c ∈ p, c = 0) (j : Nat) : p.getD j 0 = 0 := by
  rcases Nat.lt_or_ge j p.length with h1 | h1
  · rw [List.getD_eq_getElem?_getD, List.getElem?_eq_getElem h1]
    exact h _ (List.getElem_mem h1)
  · exact getD_big p h1
theorem uniq {p q rs : List UInt8} (hp : Tr p) (hq : Tr q) (hn : rs.Nodup) (hpl : p.length ≤ rs.length) (hql : q.length ≤ rs.length) (h : ∀ r ∈ rs, ev p r = ev q r) : p = q := by
  refine tr_ext hp hq (fun j => ?_)
  have hz := zero_of_roots rs (addP p q) hn (by rw [addP_length]; omega) (fun r hr => by rw [ev_addP, h r hr, xor_self])
  have := getD_zero hz j
  rw [addP_getD] at this
  exact xor_eq_zero this

/-! Newton's way -/
/-- a quotient; none is 0 -/
def dv (a b : UInt8) : UInt8 := if b = 0 then 0 else div a b
def newton : List (UInt8 × UInt8) → List UInt8 → List UInt8 → List UInt8
  | [], out, _ => out
  | (X, Y) :: ps, out, nodes => newton ps (addT out (mulT nodes [dv (Y ^^^ ev out X) (ev nodes X)])) (mulT nodes [X, 1])
theorem ev_lin (X x : UInt8) : ev [X, 1] x = x ^^^ X := by simp [ev, zero_mul, one_mul]
theorem ev_one (c x : UInt8) : ev [c] x = c := by simp [ev, zero_mul]
theorem addT_tr (a b : List UInt8) : Tr (addT a b) := trimP_tr _
/-- what was gone through stays; what comes is gone through -/
theorem newton_spec : ∀ (ps : List (UInt8 × UInt8)) (out nodes : List UInt8) (ds : List (UInt8 × UInt8)),
    (∀ d ∈ ds, ev out d.1 = d.2 ∧ ev nodes d.1 = 0) → (∀ x, (∀ d ∈ ds, d.1 ≠ x) → ev nodes x ≠ 0) → (ps.map (·.1)).Nodup → (∀ p ∈ ps, ∀ d ∈ ds, d.1 ≠ p.1) →
    Tr out → out.length ≤ ds.length → nodes.length ≤ ds.length + 1 →
    (∀ d ∈ ds ++ ps, ev (newton ps out nodes) d.1 = d.2) ∧ Tr (newton ps out nodes) ∧ (newton ps out nodes).length ≤ (ds ++ ps).length
  | [], out, nodes, ds, h1, _, _, _, ht, hl, _ => by
    simp only [newton, List.append_nil]
    exact ⟨fun d hd => (h1 d hd).1, ht, hl⟩
  | (X, Y) :: ps, out, nodes, ds, h1, h2, h3, h4, ht, hl, hln => by
    simp only [List.map_cons, List.nodup_cons] at h3
    have hne : ev nodes X ≠ 0 := h2 X (h4 _ List.mem_cons_self)
    have hnew : ∀ x, ev (mulT nodes [X, 1]) x = mul (ev nodes x) (x ^^^ X) := fun x => by rw [ev_mulT, ev_lin]
    have hout : ∀ x, ev (addT out (mulT nodes [dv (Y ^^^ ev out X) (ev nodes X)])) x = ev out x ^^^ mul (ev nodes x) (dv (Y ^^^ ev out X) (ev nodes X)) := fun x => by rw [ev_addT, ev_mulT, ev_one]
    have := newton_spec ps (addT out (mulT nodes [dv (Y ^^^ ev out X) (ev nodes X)])) (mulT nodes [X, 1]) (ds ++ [(X, Y)])
      (fun d hd => by
        rw [hnew, hout]
        rcases List.mem_append.1 hd with hd | hd
        · obtain ⟨ha, hb⟩ := h1 d hd
          rw [ha, hb, zero_mul, zero_mul, UInt8.xor_zero]; exact ⟨rfl, rfl⟩
        · obtain rfl := List.mem_singleton.1 hd
          refine ⟨?_, by rw [xor_self, mul_zero]⟩
          show ev out X ^^^ mul (ev nodes X) _ = Y
          unfold dv
          rw [if_neg hne, mul_comm, div_mul _ hne, UInt8.xor_comm Y, ← UInt8.xor_assoc, xor_self, UInt8.zero_xor])
      (fun x hx => by
        rw [hnew]
        refine mul_ne (h2 x (fun d hd => hx d (List.mem_append_left _ hd))) (fun e => ?_)
        exact hx (X, Y) (by simp) (xor_eq_zero e).symm)
      h3.2
      (fun p hp d hd => by
        rcases List.mem_append.1 hd with hd | hd
        · exact h4 p (List.mem_cons_of_mem _ hp) d hd
        · obtain rfl := List.mem_singleton.1 hd
          exact fun e => h3.1 (List.mem_map.2 ⟨p, hp, e.symm⟩))
      (addT_tr _ _)
      (by
        have a1 := addT_length out (mulT nodes [dv (Y ^^^ ev out X) (ev nodes X)])
        have a2 := mulT_short nodes [dv (Y ^^^ ev out X) (ev nodes X)]
        simp only [List.length_append, List.length_cons, List.length_nil] at *
        omega)
      (by
        have a2 := mulT_short nodes [X, 1]
        simp only [List.length_append, List.length_cons, List.length_nil] at *
        omega)
    simp only [newton]
    rwa [List.append_assoc] at this
def through (ps : List (UInt8 × UInt8)) : List UInt8 := newton ps [] [1]
theorem through_spec {ps : List (UInt8 × UInt8)} (h : (ps.map (·.1)).Nodup) : (∀ d ∈ ps, ev (through ps) d.1 = d.2) ∧ Tr (through ps) ∧ (through ps).length ≤ ps.length := by
  have := newton_spec ps [] [1] [] (by simp) (fun x _ => by rw [ev_one]; decide) h (by simp) (fun m hm => by simp at hm) (by simp) (by simp)
  unfold through
  simpa using this

/-! Lagrange's way -/
def inv (a : UInt8) : UInt8 := div 1 a
/-- 1 at x, 0 at the others -/
def lagOne (x : UInt8) : List (UInt8 × UInt8) → Nat → Nat → List UInt8 → List UInt8
  | [], _, _, one => one
  | (X, _) :: ps, k, i, one => lagOne x ps (k + 1) i (if k = i then one else mulT one [mul X (inv (x ^^^ X)), inv (x ^^^ X)])
def lag (all : List (UInt8 × UInt8)) : List (UInt8 × UInt8) → Nat → List UInt8 → List UInt8
  | [], _, out => out
  | (X, Y) :: ps, i, out => lag all ps (i + 1) (addT out (lagOne X all 0 i [Y]))
def lagP (ps : List (UInt8 × UInt8)) : List UInt8 := lag ps ps 0 []
theorem mul_inv {a : UInt8} (h : a ≠ 0) : mul a (inv a) = 1 := by unfold inv; rw [mul_comm, div_mul _ h]
theorem ev_fac (x X z : UInt8) : ev [mul X (inv (x ^^^ X)), inv (x ^^^ X)] z = mul (z ^^^ X) (inv (x ^^^ X)) := by
  simp only [ev, zero_mul, UInt8.zero_xor]
  rw [add_mul, mul_comm _ z]
theorem lagOne_zero : ∀ (ps : List (UInt8 × UInt8)) (x : UInt8) (k i : Nat) (one : List UInt8) (z : UInt8),
    ev one z = 0 ∨ (∃ j X Y, ps[j]? = some (X, Y) ∧ k + j ≠ i ∧ z = X) → ev (lagOne x ps k i one) z = 0
  | [], x, k, i, one, z, h => by
    rcases h with h | ⟨j, X, Y, h, _⟩
    · exact h
    · simp at h
  | (X, Y) :: ps, x, k, i, one, z, h => by
    rw [lagOne]
    refine lagOne_zero ps x (k + 1) i _ z ?_
    rcases h with h | ⟨j, X', Y', h1, h2, h3⟩
    · left
      split
      · exact h
      · rw [ev_mulT, h, zero_mul]
    · cases j with
      | zero =>
        left
        obtain ⟨rfl, rfl⟩ : X = X' ∧ Y = Y' := by simpa using h1
        rw [if_neg (by omega), ev_mulT, ev_fac, h3, xor_self, zero_mul, mul_zero]
      | succ j =>
        right
        exact ⟨j, X', Y', by simpa using h1, by omega, h3⟩
theorem lagOne_one : ∀ (ps : List (UInt8 × UInt8)) (x : UInt8) (k i : Nat) (one : List UInt8),
    (∀ j X Y, ps[j]? = some (X, Y) → k + j ≠ i → X ≠ x) → ev (lagOne x ps k i one) x = ev one x
  | [], _, _, _, _, _ => rfl
  | (X, Y) :: ps, x, k, i, one, h => by
    rw [lagOne, lagOne_one ps x (k + 1) i _ (fun j X' Y' h1 h2 => h (j + 1) X' Y' (by simpa using h1) (by omega))]
    split
    · rfl
    · rename_i hk
      have hx := h 0 X Y rfl (by omega)
      rw [ev_mulT, ev_fac, mul_inv (fun e => hx (xor_eq_zero e).symm), mul_one]
theorem lagOne_length2 : ∀ (ps : List (UInt8 × UInt8)) (x : UInt8) (k i : Nat) (one : List UInt8), i < k → (lagOne x ps k i one).length ≤ one.length + ps.length
  | [], _, _, _, _, _ => by simp [lagOne]
  | (X, Y) :: ps, x, k, i, one, h => by
    rw [lagOne, if_neg (by omega)]
    have := lagOne_length2 ps x (k + 1) i (mulT one [mul X (inv (x ^^^ X)), inv (x ^^^ X)]) (by omega)
    have a2 := mulT_short one [mul X (inv (x ^^^ X)), inv (x ^^^ X)]
    simp only [List.length_cons, List.length_nil] at *
    omega
theorem lagOne_length : ∀ (ps : List (UInt8 × UInt8)) (x : UInt8) (k i : Nat) (one : List UInt8), k ≤ i → i < k + ps.length → (lagOne x ps k i one).length + 1 ≤ one.length + ps.length
  | [], _, _, _, _, h1, h2 => by simp at h2; omega
  | (X, Y) :: ps, x, k, i, one, h1, h2 => by
    rw [lagOne]
    simp only [List.length_cons] at h2 ⊢
    by_cases hk : k = i
    · rw [if_pos hk]
      have := lagOne_length2 ps x (k + 1) i one (by omega)
      omega
    · rw [if_neg hk]
      have := lagOne_length ps x (k + 1) i (mulT one [mul X (inv (x ^^^ X)), inv (x ^^^ X)]) (by omega) (by omega)
      have a2 := mulT_short one [mul X (inv (x ^^^ X)), inv (x ^^^ X)]
      simp only [List.length_cons, List.length_nil] at a2
      omega
theorem lag_spec (all : List (UInt8 × UInt8)) (hn : (all.map (·.1)).Nodup) : ∀ (ps : List (UInt8 × UInt8)) (i : Nat) (out : List UInt8), all.drop i = ps →
    (∀ j X Y, all[j]? = some (X, Y) → ev out X = if j < i then Y else 0) → (out.length ≤ all.length) → Tr out →
    (∀ d ∈ all, ev (lag all ps i out) d.1 = d.2) ∧ Tr (lag all ps i out) ∧ (lag all ps i out).length ≤ all.length
  | [], i, out, hd, h, hl, ht => by
    simp only [lag]
    refine ⟨fun d hd' => ?_, ht, hl⟩
    obtain ⟨j, hj, rfl⟩ := List.mem_iff_getElem.1 hd'
    have h1 := h j _ _ (List.getElem?_eq_getElem hj)
    have : all.length ≤ i := by simpa using hd
    rw [if_pos (by omega)] at h1
    exact h1
  | (X, Y) :: ps, i, out, hd, h, hl, ht => by
    have hi : all[i]? = some (X, Y) := by
      have := congrArg (·[0]?) hd
      simpa using this
    have hil : i < all.length := (List.getElem?_eq_some_iff.1 hi).1
    have hdis : ∀ j X' Y', all[j]? = some (X', Y') → j ≠ i → X' ≠ X := fun j X' Y' hj hji e => by
      have hjl := (List.getElem?_eq_some_iff.1 hj).1
      have hp := List.pairwise_iff_getElem.1 hn
      have e1 : (all.map (·.1))[j]'(by simpa using hjl) = X' := by simp [(List.getElem?_eq_some_iff.1 hj).2]
      have e2 : (all.map (·.1))[i]'(by simpa using hil) = X := by simp [(List.getElem?_eq_some_iff.1 hi).2]
      rcases Nat.lt_or_gt_of_ne hji with h1 | h1
      · exact hp j i (by simpa using hjl) (by simpa using hil) h1 (e1.trans (e.trans e2.symm))
      · exact hp i j (by simpa using hil) (by simpa using hjl) h1 (e2.trans (e.symm.trans e1.symm))
    rw [lag]
    refine lag_spec all hn ps (i + 1) _ ?_ (fun j X' Y' hj => ?_) ?_ (addT_tr _ _)
    · rw [← List.drop_drop, hd]; rfl
    · rw [ev_addT, h j X' Y' hj]
      by_cases hji : j = i
      · subst hji
        rw [hi] at hj
        obtain ⟨rfl, rfl⟩ : X = X' ∧ Y = Y' := by simpa using hj
        rw [if_neg (by omega), if_pos (by omega), UInt8.zero_xor, lagOne_one all X 0 j [Y] (fun k X' Y' hk hne => hdis k X' Y' hk (by omega)), ev_one]
      · rw [lagOne_zero all X 0 i [Y] X' (.inr ⟨j, X', Y', hj, by omega, rfl⟩), UInt8.xor_zero]
        by_cases h1 : j < i
        · rw [if_pos h1, if_pos (by omega)]
        · rw [if_neg h1, if_neg (by omega)]
    · have a1 := addT_length out (lagOne X all 0 i [Y])
      have a2 := lagOne_length all X 0 i [Y] (Nat.zero_le _) (by omega)
      simp only [List.length_cons, List.length_nil] at a2
      omega
theorem lagP_eq {ps : List (UInt8 × UInt8)} (h : (ps.map (·.1)).Nodup) : lagP ps = through ps := by
  obtain ⟨a1, a2, a3⟩ := lag_spec ps h ps 0 [] rfl (fun j X Y _ => by simp [ev]) (by simp) (fun m hm => by simp at hm)
  obtain ⟨b1, b2, b3⟩ := through_spec h
  refine uniq (rs := ps.map (·.1)) a2 b2 h (by rw [List.length_map]; exact a3) (by rw [List.length_map]; exact b3) (fun r hr => ?_)
  obtain ⟨d, hd, rfl⟩ := List.mem_map.1 hr
  exact (a1 d hd).trans (b1 d hd).symm
end Gf
