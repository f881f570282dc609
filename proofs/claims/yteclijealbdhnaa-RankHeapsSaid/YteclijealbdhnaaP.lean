/- The plain laws of a heap: no Go in sight. -/
import Derived.Test.YteclijealbdhnaaDown
namespace Go.Proofs.Yteclijealbdhnaa
/-- A strict order in which what neither is ahead is alike. -/
structure Ord (lt : Ent → Ent → Bool) : Prop where
  irr : ∀ x, lt x x = false
  tr : ∀ x y z, lt x y = true → lt y z = true → lt x z = true
  ntr : ∀ x y z, lt x y = false → lt y z = false → lt x z = false

theorem Ord.asym {lt : Ent → Ent → Bool} (h : Ord lt) {x y : Ent} (hxy : lt x y = true) : lt y x = false := by
  cases e : lt y x with
  | false => rfl
  | true => have := h.tr x y x hxy e; rw [h.irr] at this; cases this

abbrev at' (l : List Ent) (i : Nat) : Ent := l.getD i (0, 0, 0)
/-- From parent s on the heap is in order. -/
def HeapFrom (lt : Ent → Ent → Bool) (s : Nat) (l : List Ent) : Prop := ∀ j, 0 < j → j < l.length → s ≤ (j - 1) / 2 → lt (at' l j) (at' l ((j - 1) / 2)) = false

theorem at_swap (l : List Ent) (i o j : Nat) (hi : i < l.length) (ho : o < l.length) : at' ((l.set i (at' l o)).set o (at' l i)) j = if j = o then at' l i else if j = i then at' l o else at' l j := by
  simp only [at', List.getD_eq_getElem?_getD, List.getElem?_set, List.length_set]
  by_cases h1 : o = j
  · subst h1; simp [ho]
  · rw [if_neg h1, if_neg (Ne.symm h1)]
    by_cases h2 : i = j
    · subst h2; simp [hi]
    · rw [if_neg h2, if_neg (Ne.symm h2)]

theorem getD_cons_drop : ∀ (l : List Ent) (i : Nat), i < l.length → l = l.take i ++ at' l i :: l.drop (i + 1)
  | [], _, h => by simp at h
  | x :: l, 0, _ => by simp
  | x :: l, i + 1, h => by
    have := getD_cons_drop l i (by simpa using h)
    simp only [List.take_succ_cons, List.drop_succ_cons, List.cons_append, at', List.getD_cons_succ]
    exact congrArg (x :: ·) this
theorem perm_set (l : List Ent) (i : Nat) (x : Ent) (h : i < l.length) : (at' l i :: l.set i x).Perm (x :: l) := by
  have e1 := getD_cons_drop l i h
  have e2 : l.set i x = l.take i ++ x :: l.drop (i + 1) := List.set_eq_take_append_cons_drop .. |>.trans (by rw [if_pos h])
  rw [e2]
  conv => rhs; rw [e1]
  refine (List.Perm.cons _ List.perm_middle).trans ((List.Perm.swap _ _ _).trans ?_)
  exact (List.Perm.cons _ List.perm_middle.symm)
theorem perm_swap (l : List Ent) (i o : Nat) (hi : i < l.length) (ho : o < l.length) : ((l.set i (at' l o)).set o (at' l i)).Perm l := by
  have h1 := perm_set l i (at' l o) hi
  have h2 := perm_set (l.set i (at' l o)) o (at' l i) (by simpa using ho)
  have e : at' (l.set i (at' l o)) o = at' l o := by
    simp only [at', List.getD_eq_getElem?_getD, List.getElem?_set]
    by_cases h : i = o
    · subst h; simp [hi]
    · rw [if_neg h]
  rw [e] at h2
  exact List.Perm.cons_inv (h2.trans h1)

theorem upF_perm (lt : Ent → Ent → Bool) : ∀ (f : Nat) (l : List Ent) (i : Nat), i < l.length → (upF lt f l i).Perm l
  | 0, _, _, _ => List.Perm.refl _
  | f + 1, l, i, hi => by
    simp only [upF]
    split
    · exact List.Perm.refl _
    · split
      · exact (upF_perm lt f _ _ (by simp; omega)).trans (perm_swap l i ((i - 1) / 2) hi (by omega))
      · exact List.Perm.refl _

/-- The heap is in order but for place i. -/
def UpInv (lt : Ent → Ent → Bool) (l : List Ent) (i : Nat) : Prop :=
  (∀ j, 0 < j → j < l.length → j ≠ i → lt (at' l j) (at' l ((j - 1) / 2)) = false) ∧
  (∀ j, 0 < j → j < l.length → (j - 1) / 2 = i → 0 < i → lt (at' l j) (at' l ((i - 1) / 2)) = false)

theorem upF_heap {lt : Ent → Ent → Bool} (O : Ord lt) : ∀ (f : Nat) (l : List Ent) (i : Nat), i < l.length → i < f → UpInv lt l i → HeapFrom lt 0 (upF lt f l i)
  | 0, _, _, _, hf, _ => by omega
  | f + 1, l, i, hi, hf, ⟨h1, h2⟩ => by
    simp only [upF]
    split
    · rename_i h0
      exact fun j hj hjl _ => h1 j hj hjl (by omega)
    · rename_i h0
      split
      · rename_i hlt
        obtain ⟨o, ho⟩ : ∃ o, o = (i - 1) / 2 := ⟨_, rfl⟩
        rw [← ho] at hlt ⊢
        have hol : o < l.length := by omega
        have hoi : o < i := by omega
        refine upF_heap O f _ o (by simpa using hol) (by omega) ⟨?_, ?_⟩
        · intro j hj hjl hjo
          rw [List.length_set, List.length_set] at hjl
          rw [at_swap l i o j hi hol, at_swap l i o _ hi hol, if_neg hjo]
          by_cases hji : j = i
          · subst hji
            rw [if_pos rfl, ← ho, if_pos rfl]
            exact O.asym hlt
          · rw [if_neg hji]
            by_cases hp : (j - 1) / 2 = o
            · rw [if_pos hp]
              have hj0 := h1 j hj hjl hji
              rw [hp] at hj0
              cases e : lt (at' l j) (at' l i) with
              | false => rfl
              | true => rw [O.tr _ _ _ e hlt] at hj0; cases hj0
            · rw [if_neg hp]
              by_cases hp2 : (j - 1) / 2 = i
              · rw [if_pos hp2]
                have := h2 j hj hjl hp2 (by omega)
                rwa [← ho] at this
              · rw [if_neg hp2]
                exact h1 j hj hjl hji
        · intro j hj hjl hp h0o
          rw [List.length_set, List.length_set] at hjl
          rw [at_swap l i o j hi hol, at_swap l i o _ hi hol, if_neg (by omega : ¬ j = o), if_neg (by omega : ¬ (o - 1) / 2 = o), if_neg (by omega : ¬ (o - 1) / 2 = i)]
          have hoo := h1 o h0o hol (by omega)
          by_cases hji : j = i
          · subst hji; rw [if_pos rfl]; exact hoo
          · rw [if_neg hji]
            have := h1 j hj hjl hji
            rw [hp] at this
            exact O.ntr _ _ _ this hoo
      · rename_i hlt
        intro j hj hjl _
        by_cases hji : j = i
        · subst hji; simpa using hlt
        · exact h1 j hj hjl hji

theorem root_min {lt : Ent → Ent → Bool} (O : Ord lt) {l : List Ent} (h : HeapFrom lt 0 l) : ∀ i, i < l.length → lt (at' l i) (at' l 0) = false := by
  intro i
  induction i using Nat.strongRecOn with
  | _ i ih =>
    intro hi
    by_cases h0 : i = 0
    · subst h0; exact O.irr _
    · exact O.ntr _ _ _ (h i (by omega) hi (Nat.zero_le _)) (ih ((i - 1) / 2) (by omega) (by omega))

theorem stepF_ge (lt : Ent → Ent → Bool) (l : List Ent) (c m : Nat) : stepF lt l c m = c ∧ c < l.length ∧ lt (at' l c) (at' l m) = true ∨ stepF lt l c m = m ∧ (c < l.length → lt (at' l c) (at' l m) = false) := by
  unfold stepF
  by_cases h : c < l.length ∧ lt (l.getD c (0, 0, 0)) (l.getD m (0, 0, 0)) = true
  · rw [if_pos h]; exact .inl ⟨rfl, h⟩
  · rw [if_neg h]; exact .inr ⟨rfl, fun hc => by simpa using fun e => h ⟨hc, e⟩⟩

/-- The least of three. -/
theorem rest_least {lt : Ent → Ent → Bool} (O : Ord lt) (l : List Ent) (a : Nat) :
    (restF lt l a 2 a = a ∧ ∀ j, 0 < j → j < l.length → (j - 1) / 2 = a → lt (at' l j) (at' l a) = false) ∨
    (0 < restF lt l a 2 a ∧ restF lt l a 2 a < l.length ∧ (restF lt l a 2 a - 1) / 2 = a ∧ restF lt l a 2 a ≠ a ∧ lt (at' l (restF lt l a 2 a)) (at' l a) = true ∧
      ∀ j, 0 < j → j < l.length → (j - 1) / 2 = a → lt (at' l j) (at' l (restF lt l a 2 a)) = false) := by
  simp only [restF]
  rcases stepF_ge lt l (2 * a + 1) a with ⟨e1, c1, t1⟩ | ⟨e1, t1⟩
  · rw [e1]
    rcases stepF_ge lt l (2 * a + 2) (2 * a + 1) with ⟨e2, c2, t2⟩ | ⟨e2, t2⟩
    · rw [e2]
      refine .inr ⟨by omega, c2, by omega, by omega, O.tr _ _ _ t2 t1, fun j hj hjl hp => ?_⟩
      rcases (by omega : j = 2 * a + 1 ∨ j = 2 * a + 2) with rfl | rfl
      · exact O.asym t2
      · exact O.irr _
    · rw [e2]
      refine .inr ⟨by omega, c1, by omega, by omega, t1, fun j hj hjl hp => ?_⟩
      rcases (by omega : j = 2 * a + 1 ∨ j = 2 * a + 2) with rfl | rfl
      · exact O.irr _
      · exact t2 hjl
  · rw [e1]
    rcases stepF_ge lt l (2 * a + 2) a with ⟨e2, c2, t2⟩ | ⟨e2, t2⟩
    · rw [e2]
      refine .inr ⟨by omega, c2, by omega, by omega, t2, fun j hj hjl hp => ?_⟩
      rcases (by omega : j = 2 * a + 1 ∨ j = 2 * a + 2) with rfl | rfl
      · have h1 := t1 hjl
        cases e : lt (at' l (2 * a + 1)) (at' l (2 * a + 2)) with
        | false => rfl
        | true => rw [O.tr _ _ _ e t2] at h1; cases h1
      · exact O.irr _
    · rw [e2]
      refine .inl ⟨rfl, fun j hj hjl hp => ?_⟩
      rcases (by omega : j = 2 * a + 1 ∨ j = 2 * a + 2) with rfl | rfl
      · exact t1 hjl
      · exact t2 hjl

theorem downF_perm {lt : Ent → Ent → Bool} (O : Ord lt) : ∀ (f : Nat) (l : List Ent) (a : Nat), (downF lt f l a).Perm l
  | 0, _, _ => List.Perm.refl _
  | f + 1, l, a => by
    simp only [downF]
    split
    · exact List.Perm.refl _
    · rename_i h
      rcases rest_least O l a with ⟨h1, _⟩ | ⟨h1, h2, h3, h4, _⟩
      · exact absurd h1 h
      · exact (downF_perm O f _ _).trans (perm_swap l a _ (by omega) h2)

/-- From s on the heap is in order but for what lies right below a. -/
def DownInv (lt : Ent → Ent → Bool) (s : Nat) (l : List Ent) (a : Nat) : Prop :=
  (∀ j, 0 < j → j < l.length → s ≤ (j - 1) / 2 → (j - 1) / 2 ≠ a → lt (at' l j) (at' l ((j - 1) / 2)) = false) ∧
  (0 < a → s ≤ (a - 1) / 2 → ∀ j, 0 < j → j < l.length → (j - 1) / 2 = a → lt (at' l j) (at' l ((a - 1) / 2)) = false)

theorem downF_heap {lt : Ent → Ent → Bool} (O : Ord lt) (s : Nat) : ∀ (f : Nat) (l : List Ent) (a : Nat), l.length + 1 ≤ f + a → 1 ≤ f → s ≤ a → DownInv lt s l a → HeapFrom lt s (downF lt f l a)
  | 0, _, _, _, hf, _, _ => by omega
  | f + 1, l, a, hf, _, hs, ⟨h1, h2⟩ => by
    simp only [downF]
    rcases rest_least O l a with ⟨e, hno⟩ | ⟨m0, ml, mp, mne, mlt, mle⟩
    · rw [if_pos e]
      intro j hj hjl hsj
      by_cases hp : (j - 1) / 2 = a
      · rw [hp]; exact hno j hj hjl hp
      · exact h1 j hj hjl hsj hp
    · rw [if_neg mne]
      generalize restF lt l a 2 a = m at *
      have hal : a < l.length := by omega
      refine downF_heap O s f _ m (by simp; omega) (by omega) (by omega) ⟨?_, ?_⟩
      · intro j hj hjl hsj hpm
        rw [List.length_set, List.length_set] at hjl
        rw [at_swap l a m j hal ml, at_swap l a m _ hal ml, if_neg hpm]
        by_cases hp : (j - 1) / 2 = a
        · rw [if_pos hp]
          by_cases hjm : j = m
          · subst hjm; rw [if_pos rfl]; exact O.asym mlt
          · rw [if_neg hjm, if_neg (by omega : ¬ j = a)]
            exact mle j hj hjl hp
        · rw [if_neg hp]
          by_cases hjm : j = m
          · exact absurd (by rw [hjm]; exact mp) hp
          · rw [if_neg hjm]
            by_cases hja : j = a
            · subst hja
              rw [if_pos rfl]
              exact h2 hj hsj m m0 ml mp
            · rw [if_neg hja]
              exact h1 j hj hjl hsj hp
      · intro hm0 hsm j hj hjl hp
        rw [List.length_set, List.length_set] at hjl
        rw [at_swap l a m j hal ml, at_swap l a m _ hal ml, if_neg (by omega : ¬ j = m), if_neg (by omega : ¬ j = a), if_neg (by omega : ¬ (m - 1) / 2 = m), if_pos mp]
        have := h1 j hj hjl (by omega) (by omega)
        rwa [hp] at this

/-- Pushed, popped. -/
def pushG (lt : Ent → Ent → Bool) (l : List Ent) (x : Ent) : List Ent := upF lt (l.length + 1) (l ++ [x]) l.length
def popG (lt : Ent → Ent → Bool) (l : List Ent) : List Ent := downF lt ((l.set 0 (l.getD (l.length - 1) (0, 0, 0))).dropLast.length + 1) (l.set 0 (l.getD (l.length - 1) (0, 0, 0))).dropLast 0

theorem at_append_left (l m : List Ent) (j : Nat) (h : j < l.length) : at' (l ++ m) j = at' l j := by
  simp only [at', List.getD_eq_getElem?_getD]; rw [List.getElem?_append_left h]

theorem push_perm (lt : Ent → Ent → Bool) (l : List Ent) (x : Ent) : (pushG lt l x).Perm (x :: l) :=
  (upF_perm lt _ _ _ (by simp)).trans (List.perm_append_singleton x l)
theorem push_heap {lt : Ent → Ent → Bool} (O : Ord lt) {l : List Ent} (h : HeapFrom lt 0 l) (x : Ent) : HeapFrom lt 0 (pushG lt l x) := by
  refine upF_heap O _ _ _ (by simp) (by omega) ⟨?_, ?_⟩
  · intro j hj hjl hjn
    have hjl' : j < l.length := by simp at hjl; omega
    rw [at_append_left _ _ _ hjl', at_append_left _ _ _ (by omega)]
    exact h j hj hjl' (Nat.zero_le _)
  · intro j hj hjl hp
    simp at hjl; omega

theorem pop_perm {lt : Ent → Ent → Bool} (O : Ord lt) (x : Ent) (r : List Ent) : (x :: popG lt (x :: r)).Perm (x :: r) := by
  refine List.Perm.cons x ?_
  refine (downF_perm O _ _ _).trans ?_
  rcases List.eq_nil_or_concat r with rfl | ⟨s, y, rfl⟩
  · simp
  · have : (x :: (s ++ [y])).getD ((x :: (s ++ [y])).length - 1) (0, 0, 0) = y := by simp
    simp only [List.concat_eq_append] at *
    rw [this, List.set_cons_zero, ← List.cons_append, List.dropLast_concat]
    exact (List.perm_append_singleton y s).symm
theorem pop_heap {lt : Ent → Ent → Bool} (O : Ord lt) {l : List Ent} (h : HeapFrom lt 0 l) : HeapFrom lt 0 (popG lt l) := by
  refine downF_heap O 0 _ _ 0 (by omega) (by omega) (Nat.le_refl _) ⟨?_, fun h0 => by omega⟩
  intro j hj hjl _ hp
  have hl : j < l.length - 1 := by simpa using hjl
  have g : ∀ k, 0 < k → k < l.length - 1 → at' (l.set 0 (l.getD (l.length - 1) (0, 0, 0))).dropLast k = at' l k := fun k hk hkl => by
    simp only [at', List.getD_eq_getElem?_getD]
    rw [List.getElem?_dropLast, List.length_set, if_pos hkl, List.getElem?_set_ne (by omega)]
  rw [g j hj hl, g _ (by omega) (by omega)]
  exact h j hj (by omega) (Nat.zero_le _)

/-- In strict order. -/
def Sorted (lt : Ent → Ent → Bool) (l : List Ent) : Prop := l.Pairwise fun x y => lt x y = true

theorem head_same {lt : Ent → Ent → Bool} (O : Ord lt) {x : Ent} {r W : List Ent} (h : HeapFrom lt 0 (x :: r)) (hp : (x :: r).Perm W) (hs : Sorted lt W) :
    ∃ W', W = x :: W' ∧ Sorted lt W' ∧ (popG lt (x :: r)).Perm W' := by
  cases W with
  | nil => simp at hp
  | cons w W' =>
    have hw : w ∈ x :: r := hp.symm.subset (by simp)
    obtain ⟨i, hi, hiw⟩ := List.mem_iff_getElem.1 hw
    have hmin := root_min O h i hi
    have ei : at' (x :: r) i = w := by simp only [at', List.getD_eq_getElem?_getD]; rw [List.getElem?_eq_getElem hi, hiw]; rfl
    rw [ei] at hmin
    have hx : x ∈ w :: W' := hp.subset (by simp)
    have hxw : x = w := by
      rcases List.mem_cons.1 hx with h | h
      · exact h
      · have := (List.pairwise_cons.1 hs).1 x h
        rw [show at' (x :: r) 0 = x from rfl, this] at hmin
        cases hmin
    subst hxw
    exact ⟨W', rfl, (List.pairwise_cons.1 hs).2, List.Perm.cons_inv ((pop_perm O x r).trans hp)⟩

/-- All of them, taken out one by one. -/
def drainG (lt : Ent → Ent → Bool) : Nat → List Ent → List Ent
  | 0, _ => []
  | _ + 1, [] => []
  | f + 1, x :: r => x :: drainG lt f (popG lt (x :: r))
theorem drain_sorted {lt : Ent → Ent → Bool} (O : Ord lt) : ∀ (f : Nat) (l W : List Ent), HeapFrom lt 0 l → l.Perm W → Sorted lt W → l.length ≤ f → drainG lt f l = W
  | 0, l, W, _, hp, _, hf => by
    have : l = [] := List.length_eq_zero_iff.1 (by omega)
    subst this
    simp [drainG, hp.nil_eq.symm]
  | f + 1, [], W, _, hp, _, _ => by simp [drainG, hp.nil_eq.symm]
  | f + 1, x :: r, W, h, hp, hs, hf => by
    obtain ⟨W', rfl, hs', hp'⟩ := head_same O h hp hs
    simp only [drainG]
    rw [drain_sorted O f _ W' (pop_heap O h) hp' hs' (by rw [hp'.length_eq]; have := hp.length_eq; simp at this hf ⊢; omega)]
end Go.Proofs.Yteclijealbdhnaa
