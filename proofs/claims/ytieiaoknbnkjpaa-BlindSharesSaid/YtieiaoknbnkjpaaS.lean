/- Words for a region whose order is drawn: an operation that yields the same whenever it comes up is taken first; one that is not wanted is passed over; the only one that may come up is carried out. 'S' is what every world of the region meets; an operation marked still leaves the world as it is. -/
import Derived.Deep.RegionHeld3
import Derived.StillTail
import Derived.Below
namespace Go.Proofs.Ytieiaoknbnkjpaa.Seq
open Go Go.RowKit

section
variable {P : Program} {ops : Array Oper} {Q : Exit → Act → World → Prop} {S : World → Prop} {md : Region.Mode} {st ks : Nat → Bool}

/-- Whatever order is picked from here on: S behind every operation that keeps it, and a still one leaves the world. -/
def wpR (P : Program) (md : Region.Mode) (ops : Array Oper) (Q : Exit → Act → World → Prop) (S : World → Prop) (st ks : Nat → Bool) : Nat → Array Bool → Act → World → Prop
  | 0, listed, a, w => Region.ready md ops listed = [] ∧ Q .normal a w
  | fuel + 1, listed, a, w =>
    (Region.ready md ops listed = [] → Q .normal a w) ∧
    ∀ i ∈ Region.ready md ops listed, wpOp P ops Q i (fun a' w' => (ks i = true → S w') ∧ (st i = true → w' = w) ∧ wpR P md ops Q S st ks fuel (listed.setIfInBounds i true) a' w') a w

theorem wpAny_of_wpR : ∀ (fuel : Nat) (listed : Array Bool) (a : Act) (w : World), wpR P md ops Q S st ks fuel listed a w → wpAny P md ops Q fuel listed a w
  | 0, _, _, _, h => h
  | fuel + 1, _, _, _, h => ⟨h.1, fun i hi => wpOp_mono (fun a' w' h' => wpAny_of_wpR fuel _ a' w' h'.2.2) (h.2 i hi)⟩

theorem unlisted_of_set {listed : Array Bool} {j k : Nat} (h : (listed.setIfInBounds j true).getD k true = false) : listed.getD k true = false := by
  by_cases hjk : j = k
  · subst hjk
    rcases Nat.lt_or_ge j listed.size with h' | h'
    · simp [h'] at h
    · simp [Array.getElem?_eq_none h'] at h
  · rwa [getD_set_ne true hjk] at h

/-- What is listed had all that it waits for listed. -/
def Closed (md : Region.Mode) (ops : Array Oper) (listed : Array Bool) : Prop :=
  ∀ j oj, ops[j]? = some oj → listed.getD j false = true → ∀ e ∈ oj.after, Region.binds md e = true → listed.getD e.on false = true
def closedB (md : Region.Mode) (ops : Array Oper) (listed : Array Bool) : Bool :=
  (List.range ops.size).all fun j => !listed.getD j false || ((ops[j]?).map (·.after.all fun e => !Region.binds md e || listed.getD e.on false)).getD true

theorem closed_of {listed : Array Bool} (h : closedB md ops listed = true) : Closed md ops listed := fun j oj hj hl e he hb => by
  have hjl : j < ops.size := (Array.getElem?_eq_some_iff.1 hj).1
  have h1 := List.all_eq_true.1 h j (List.mem_range.2 hjl)
  rw [hl, hj] at h1
  simp only [Bool.not_true, Bool.false_or, Option.map_some, Option.getD_some] at h1
  have h2 := Array.all_eq_true'.1 h1 e he
  rw [hb] at h2
  simpa using h2

theorem Closed.set {listed : Array Bool} {i : Nat} (hc : Closed md ops listed) (hi : i ∈ Region.ready md ops listed) : Closed md ops (listed.setIfInBounds i true) := fun j oj hj hl e he hb => by
  obtain ⟨_, oi, hoi, hall⟩ := mem_ready.1 hi
  by_cases hij : i = j
  · subst hij
    obtain rfl := Option.some.inj (hj.symm.trans hoi)
    exact getD_set_true (hall e he hb)
  · rw [getD_set_ne false hij] at hl
    exact getD_set_true (hc j oj hj hl e he hb)

/-- j waits for i, through whatever steps. -/
def reach (md : Region.Mode) (ops : Array Oper) : Nat → Nat → Nat → Bool
  | 0, _, _ => false
  | f + 1, j, i => Region.waitsFor md ops j i || (List.range ops.size).any fun k => Region.waitsFor md ops j k && reach md ops f k i

theorem reach_listed {listed : Array Bool} (hc : Closed md ops listed) : ∀ (f j i : Nat), reach md ops f j i = true → (∀ oj, ops[j]? = some oj → ∀ e ∈ oj.after, Region.binds md e = true → listed.getD e.on false = true) → listed.getD i false = true
  | 0, _, _, h, _ => by simp [reach] at h
  | f + 1, j, i, h, hd => by
    simp only [reach, Bool.or_eq_true] at h
    rcases h with h | h
    · obtain ⟨oj, hoj, e, he, hb, hon⟩ := Region.waitsFor_spec h
      rw [← hon]; exact hd oj hoj e he hb
    · obtain ⟨k, _, hk⟩ := List.any_eq_true.1 h
      simp only [Bool.and_eq_true] at hk
      obtain ⟨oj, hoj, e, he, hb, hon⟩ := Region.waitsFor_spec hk.1
      have hkl : listed.getD k false = true := by rw [← hon]; exact hd oj hoj e he hb
      exact reach_listed hc f k i hk.2 (fun ok hok e he hb => hc k ok hok hkl e he hb)

/-- Take i first. T: what holds of the world until i comes up; whoever may come before i keeps it. -/
theorem wpR_first {i : Nat} {oi : Oper} {v : Value} {T : World → Prop} (hi : ops[i]? = some oi) (hsel : ∀ (j : Nat) (o : Oper) cs b, ops[j]? = some o → o.op ≠ .select cs b)
    (hQ : ∀ c a w, Q (.panic c) (a.put oi.dst v) w → Q (.panic c) a w) (listed0 : Array Bool)
    (hT : ∀ listed', Closed md ops listed' → listed'.getD i true = false → ∀ j, j ∈ Region.ready md ops listed' → j ≠ i → listed0.getD j true = false → ∀ w w' : World, (ks j = true → S w') → (st j = true → w' = w) → T w → T w') :
    ∀ (fuel : Nat) (listed : Array Bool) (a : Act) (w : World), Closed md ops listed → (∀ j, listed.getD j true = false → listed0.getD j true = false) →
      (∀ j oj, ops[j]? = some oj → j ≠ i → listed.getD j true = false → (∀ e ∈ oj.after, Region.binds md e = true → e.on ≠ i) → oi.apart ops oj = true) →
      i ∈ Region.ready md ops listed → YieldsIf P ops T oi v a → T w → ks i = false →
      wpR P md ops Q S st ks fuel (listed.setIfInBounds i true) (a.put oi.dst v) w → wpR P md ops Q S st ks (fuel + 1) listed a w := by
  intro fuel
  induction fuel with
  | zero =>
    intro listed a w _ _ _ hr hy hTw hS H
    refine ⟨fun h => (by rw [h] at hr; cases hr), fun j hj => ?_⟩
    by_cases hji : j = i
    · subst hji; exact hy.wpOp hi hTw ⟨fun h1 => (by rw [hS] at h1; cases h1), fun _ => rfl, H⟩
    · have := ready_mono hj hji
      rw [H.1] at this
      cases this
  | succ fuel ih =>
    intro listed a w hcl hsub hfree hr hy hTw hS H
    refine ⟨fun h => (by rw [h] at hr; cases hr), fun j hj => ?_⟩
    by_cases hji : j = i
    · subst hji; exact hy.wpOp hi hTw ⟨fun h1 => (by rw [hS] at h1; cases h1), fun _ => rfl, H⟩
    · have h1 := H.2 j (ready_mono hj hji)
      obtain ⟨hjun, oj, hoj, hall⟩ := mem_ready.1 hj
      have hnot : ∀ e ∈ oj.after, Region.binds md e = true → e.on ≠ i := fun e he hb heq => by
        have h1 := hall e he hb
        have h0 := (mem_ready.1 hr).1
        rw [heq] at h1
        rcases Nat.lt_or_ge i listed.size with h' | h'
        · simp [h'] at h0 h1; rw [h0] at h1; cases h1
        · simp [Array.getElem?_eq_none h'] at h1
      have h2 := wpOp_putIf hoj (hfree j oj hoj hji hjun hnot) (fun cs b => hsel i oi cs b hi) (fun cs b => hsel j oj cs b hoj) hQ hy h1
      have hfree' : ∀ k ok, ops[k]? = some ok → k ≠ i → (listed.setIfInBounds j true).getD k true = false →
          (∀ e ∈ ok.after, Region.binds md e = true → e.on ≠ i) → oi.apart ops ok = true := fun k ok hk hki hun hno =>
        hfree k ok hk hki (unlisted_of_set hun) hno
      refine wpOp_mono (fun a' w' h3 => ⟨h3.2.1, h3.2.2.1, ih (listed.setIfInBounds j true) a' w' (hcl.set hj) (fun k hk => hsub k (unlisted_of_set hk)) hfree' (ready_mono hr (Ne.symm hji)) h3.1
        (hT listed hcl (mem_ready.1 hr).1 j hj hji (hsub j hjun) w w' h3.2.1 h3.2.2.1 hTw) hS ?_⟩) h2
      rw [Array.setIfInBounds_comm _ _ hji]
      exact h3.2.2.2

/-- It may come up, and nobody who could come before it touches its temporaries. -/
def takeOK (md : Region.Mode) (ops : Array Oper) (ks : Nat → Bool) (listed : Array Bool) (i : Nat) : Bool :=
  Region.noSelect ops && closedB md ops listed && Region.free md ops listed i && (Region.ready md ops listed).contains i && !ks i
/-- And nobody who is not one of these can come before it. -/
def heldOK (md : Region.Mode) (ops : Array Oper) (st : Nat → Bool) (listed : Array Bool) (i : Nat) : Bool :=
  (List.range ops.size).all fun j => st j || j == i || listed.getD j true || reach md ops ops.size j i

theorem heldOK_spec {listed : Array Bool} {i : Nat} (hh : heldOK md ops st listed i = true) {l' : Array Bool} (hcl : Closed md ops l') (hun' : l'.getD i true = false) {j : Nat} (hj : j ∈ Region.ready md ops l')
    (hji : j ≠ i) (hun : listed.getD j true = false) : st j = true := by
  obtain ⟨_, oj, hoj, hall⟩ := mem_ready.1 hj
  have hjl : j < ops.size := (Array.getElem?_eq_some_iff.1 hoj).1
  have := List.all_eq_true.1 hh j (List.mem_range.2 hjl)
  simp only [Bool.or_eq_true, beq_iff_eq] at this
  rcases this with ((h3 | h3) | h3) | h3
  · exact h3
  · exact absurd h3 hji
  · rw [hun] at h3; cases h3
  · have h4 := reach_listed hcl _ j i h3 (fun oj' hoj' e he hb => by
      rw [hoj] at hoj'
      obtain rfl := Option.some.inj hoj'
      exact hall e he hb)
    rw [getD_both hun'] at h4
    cases h4

/-- All but these. -/
def but (l : List Nat) : Nat → Bool := fun j => !l.contains j
/-- These. -/
def these (l : List Nat) : Nat → Bool := fun j => l.contains j

theorem start {id : Nat} {a : Act} {w : World} (S : World → Prop) (st ks : Nat → Bool) (hm : P.follows .mixedOrders = true)
    (h : wpR P .any ops (NoPanic Q) S st ks ops.size (Array.replicate ops.size false) a w.drew) : (Code.region id ops true).wp P Q a w :=
  wp_region_noPanic (wp_region_any hm (wpAny_of_wpR _ _ _ _ h))

section
variable {i : Nat} {oi : Oper} {d : Option Tmp} {v : Value} {fuel : Nat} {listed : Array Bool} {a : Act} {w : World}

/-- It yields v in whatever world. -/
theorem calm (hi : ops[i]? = some oi) (hd : oi.dst = d) (hk : takeOK md ops ks listed i = true)
    (hw : Region.wanted oi (yielded ops a.tmps) = true) (hy : ∀ w, (execOp a.eval oi).run P w = .ok (.value v) w)
    (h : wpR P md ops (NoPanic Q) S st ks fuel (listed.setIfInBounds i true) (a.put d v) w) : wpR P md ops (NoPanic Q) S st ks (fuel + 1) listed a w := by
  subst hd
  simp only [takeOK, Bool.and_eq_true, Bool.not_eq_true'] at hk
  exact wpR_first (T := fun _ => True) hi (Region.noSelect_spec hk.1.1.1.1) (fun _ _ _ h => h) listed (fun _ _ _ _ _ _ _ _ _ _ _ _ => trivial) fuel listed a w (closed_of hk.1.1.1.2) (fun _ h => h) (Region.free_spec hi hk.1.1.2) (by simpa using hk.1.2)
    (Or.inl ⟨hw, fun w _ => hy w⟩) trivial hk.2 h

/-- It yields v in the world at hand, and nobody who writes can come before it. -/
theorem held (hi : ops[i]? = some oi) (hd : oi.dst = d) (hk : takeOK md ops ks listed i = true)
    (hh : heldOK md ops st listed i = true) (hw : Region.wanted oi (yielded ops a.tmps) = true) (hy : (execOp a.eval oi).run P w = .ok (.value v) w)
    (h : wpR P md ops (NoPanic Q) S st ks fuel (listed.setIfInBounds i true) (a.put d v) w) : wpR P md ops (NoPanic Q) S st ks (fuel + 1) listed a w := by
  subst hd
  simp only [takeOK, Bool.and_eq_true, Bool.not_eq_true'] at hk
  exact wpR_first (T := fun x => x = w) hi (Region.noSelect_spec hk.1.1.1.1) (fun _ _ _ h => h) listed (fun l' hcl hun' j hj hji hun w1 w2 _ hst h1 => (hst (heldOK_spec hh hcl hun' hj hji hun)).trans h1) fuel listed a w (closed_of hk.1.1.1.2) (fun _ h => h) (Region.free_spec hi hk.1.1.2) (by simpa using hk.1.2)
    (Or.inl ⟨hw, fun x hx => by rw [hx]; exact hy⟩) rfl hk.2 h

/-- It yields v in every world that meets S; who may come before it keeps S. -/
theorem yes (hi : ops[i]? = some oi) (hd : oi.dst = d) (hk : takeOK md ops ks listed i = true)
    (hh : heldOK md ops (fun j => st j || ks j) listed i = true) (hw : Region.wanted oi (yielded ops a.tmps) = true) (hy : ∀ w, S w → (execOp a.eval oi).run P w = .ok (.value v) w) (hS : S w)
    (h : wpR P md ops (NoPanic Q) S st ks fuel (listed.setIfInBounds i true) (a.put d v) w) : wpR P md ops (NoPanic Q) S st ks (fuel + 1) listed a w := by
  subst hd
  simp only [takeOK, Bool.and_eq_true, Bool.not_eq_true'] at hk
  refine wpR_first (T := S) hi (Region.noSelect_spec hk.1.1.1.1) (fun _ _ _ h => h) listed (fun l' hcl hun' j hj hji hun w1 w2 hkj hst h1 => ?_) fuel listed a w (closed_of hk.1.1.1.2) (fun _ h => h) (Region.free_spec hi hk.1.1.2) (by simpa using hk.1.2)
    (Or.inl ⟨hw, hy⟩) hS hk.2 h
  have := heldOK_spec hh hcl hun' hj hji hun
  simp only [Bool.or_eq_true] at this
  rcases this with h3 | h3
  · rw [hst h3]; exact h1
  · exact hkj h3

theorem no (hi : ops[i]? = some oi) (hd : oi.dst = d) (hk : takeOK md ops ks listed i = true)
    (hw : Region.wanted oi (yielded ops a.tmps) = false)
    (h : wpR P md ops (NoPanic Q) S st ks fuel (listed.setIfInBounds i true) (a.put d undef) w) : wpR P md ops (NoPanic Q) S st ks (fuel + 1) listed a w := by
  subst hd
  simp only [takeOK, Bool.and_eq_true, Bool.not_eq_true'] at hk
  exact wpR_first (T := fun _ => True) hi (Region.noSelect_spec hk.1.1.1.1) (fun _ _ _ h => h) listed (fun _ _ _ _ _ _ _ _ _ _ _ _ => trivial) fuel listed a w (closed_of hk.1.1.1.2) (fun _ h => h) (Region.free_spec hi hk.1.1.2) (by simpa using hk.1.2)
    (Or.inr ⟨hw, rfl⟩) trivial hk.2 h

/-- The only one that may come up; it keeps S. -/
theorem keep {o : Oper} (ho : ops[i]? = some o) (hr : Region.ready md ops listed = [i]) (hst : st i = false)
    (hw : Region.wanted o (yielded ops a.tmps) = true)
    (h : ∀ K' : Act → World → Prop, Shut (∀ a w, S w → (S w → wpR P md ops (NoPanic Q) S st ks fuel (listed.setIfInBounds i true) a w) → K' a w) → Oper.wp P o a w K' (NoPanic Q)) :
    wpR P md ops (NoPanic Q) S st ks (fuel + 1) listed a w := by
  refine ⟨fun h0 => (by rw [hr] at h0; cases h0), fun j hj => ?_⟩
  rw [hr] at hj
  obtain rfl : j = i := by simpa using hj
  refine wpOp_step ho (fun K' hK => ?_)
  rw [if_pos hw]
  exact h K' (fun a w hS hW => hK a w ⟨fun _ => hS, fun h1 => (by rw [hst] at h1; cases h1), hW hS⟩)

/-- The only one that may come up; S isn't asked for behind it. -/
theorem drop {o : Oper} (ho : ops[i]? = some o) (hr : Region.ready md ops listed = [i]) (hst : (st i || ks i) = false)
    (hw : Region.wanted o (yielded ops a.tmps) = true)
    (h : ∀ K' : Act → World → Prop, Shut (∀ a w, wpR P md ops (NoPanic Q) S st ks fuel (listed.setIfInBounds i true) a w → K' a w) → Oper.wp P o a w K' (NoPanic Q)) :
    wpR P md ops (NoPanic Q) S st ks (fuel + 1) listed a w := by
  simp only [Bool.or_eq_false_iff] at hst
  refine ⟨fun h0 => (by rw [hr] at h0; cases h0), fun j hj => ?_⟩
  rw [hr] at hj
  obtain rfl : j = i := by simpa using hj
  refine wpOp_step ho (fun K' hK => ?_)
  rw [if_pos hw]
  exact h K' (fun a w hW => hK a w ⟨fun h1 => (by rw [hst.2] at h1; cases h1), fun h1 => (by rw [hst.1] at h1; cases h1), hW⟩)

theorem done (hr : Region.ready md ops listed = []) (h : Q .normal a w) : wpR P md ops (NoPanic Q) S st ks fuel listed a w := by
  cases fuel with
  | zero => exact ⟨hr, NoPanic.normal h⟩
  | succ n => exact ⟨fun _ => NoPanic.normal h, fun j hj => (by rw [hr] at hj; cases hj)⟩
end
end

theorem bcell {B : Nat} {W w1 : World} (hb : Below B W w1) : (∀ b o, b < B → w1.cell? ⟨b, o, none⟩ = W.cell? ⟨b, o, none⟩) ∧ (∀ b o, b < B → w1.frozen? ⟨b, o, none⟩ = W.frozen? ⟨b, o, none⟩) :=
  ⟨fun b o h => hb.cell (p := ⟨b, o, none⟩) h, fun b o h => hb.frozen (p := ⟨b, o, none⟩) h⟩

end Go.Proofs.Ytieiaoknbnkjpaa.Seq
