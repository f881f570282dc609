/- Heap.up: an entry rises to its place. -/
import Derived.Test.YteclijealbdhnaaH
import Derived.Test.YteclijealbdhnaaM
namespace Go.Proofs.Yteclijealbdhnaa
open Go.RowKit

abbrev Ent := Int × Int × Int
def encT (x : Ent) : List Value := [.int .i64 x.1, .int .i64 x.2.1, .int .i64 x.2.2]
theorem encT_len (x : Ent) : (encT x).length = 3 := rfl
def ltT (x y : Ent) : Bool := decide (x.1 < y.1 ∨ x.1 = y.1 ∧ x.2.2 < y.2.2)
def upF (lt : Ent → Ent → Bool) : Nat → List Ent → Nat → List Ent
  | 0, l, _ => l
  | f + 1, l, i => if i = 0 then l else if lt (l.getD i (0, 0, 0)) (l.getD ((i - 1) / 2) (0, 0, 0)) then upF lt f ((l.set i (l.getD ((i - 1) / 2) (0, 0, 0))).set ((i - 1) / 2) (l.getD i (0, 0, 0))) ((i - 1) / 2) else l

theorem first_lt (p : Nat) (k n a k' n' a' : Int) (w : World) (hc : w.cell? ⟨p, 0, none⟩ = some (.func (.func 19) #[] #[])) (hp : p < w.heap.size) :
    Calls Try.prog 51 #[.pointer (some ⟨p, 0, none⟩), ent k n a, ent k' n' a'] w fun e w' => e = .returned (.bool (ltT (k, n, a) (k', n', a'))) ∧ Below w.heap.size w w' := first_any p k n a k' n' a' w hc hp

/-- The three cells of entry i. -/
theorem ent_cells {w : World} {base b n cap : Nat} {l : List Ent} (h : w.ownsRow base 78 3 (.slice (some ⟨b, 0, none⟩) n cap) n (flat encT l)) (i : Nat) (hi : i < l.length) :
    w.cell? ⟨b, i * 3, none⟩ = some (.int .i64 (l.getD i (0, 0, 0)).1) ∧ w.cell? ⟨b, i * 3 + 1, none⟩ = some (.int .i64 (l.getD i (0, 0, 0)).2.1) ∧ w.cell? ⟨b, i * 3 + 2, none⟩ = some (.int .i64 (l.getD i (0, 0, 0)).2.2) := by
  have hn : (flat encT l).length = n * 3 := h.1
  rw [flat_length encT 3 encT_len] at hn
  have hx : l[i]? = some (l.getD i (0, 0, 0)) := by simp [hi]
  refine ⟨?_, ?_, ?_⟩
  · rw [h.cellAt (i * 3) (by omega)]; exact flat_get encT 3 encT_len l i 0 _ hx (by omega)
  · rw [h.cellAt (i * 3 + 1) (by omega)]; exact flat_get encT 3 encT_len l i 1 _ hx (by omega)
  · rw [h.cellAt (i * 3 + 2) (by omega)]; exact flat_get encT 3 encT_len l i 2 _ hx (by omega)

theorem set3 {w : World} {base b n cap : Nat} {l : List Ent} (h : w.ownsRow base 78 3 (.slice (some ⟨b, 0, none⟩) n cap) n (flat encT l)) (k : Nat) (x : Ent) (hk : k < l.length) :
    (((w.setCell ⟨b, k * 3, none⟩ (.int .i64 x.1)).setCell ⟨b, k * 3 + 1, none⟩ (.int .i64 x.2.1)).setCell ⟨b, k * 3 + 2, none⟩ (.int .i64 x.2.2)).ownsRow base 78 3 (.slice (some ⟨b, 0, none⟩) n cap) n (flat encT (l.set k x)) ∧
      w.grownBy (((w.setCell ⟨b, k * 3, none⟩ (.int .i64 x.1)).setCell ⟨b, k * 3 + 1, none⟩ (.int .i64 x.2.1)).setCell ⟨b, k * 3 + 2, none⟩ (.int .i64 x.2.2)) (some b) := by
  rw [flat_set encT 3 encT_len l k x hk]
  have h1 := h.stored (k * 3) (.int .i64 x.1)
  have h2 := h1.1.stored (k * 3 + 1) (.int .i64 x.2.1)
  have h3 := h2.1.stored (k * 3 + 2) (.int .i64 x.2.2)
  exact ⟨h3.1, grown_trans (grown_trans h1.2 h2.2) h3.2⟩

theorem upF_stop {f : Nat} {l : List Ent} {k : Nat} {X Y : Ent} (hk : k ≠ 0) (hX : l.getD k (0, 0, 0) = X) (hY : l.getD ((k - 1) / 2) (0, 0, 0) = Y) (h : ltT X Y = false) : upF ltT f l k = l := by
  cases f with
  | zero => rfl
  | succ f => simp only [upF]; rw [if_neg hk, hX, hY, if_neg (by rw [h]; simp)]
theorem upF_go {f : Nat} {l : List Ent} {k : Nat} {X Y : Ent} (hk : k ≠ 0) (hf : 1 ≤ f) (hX : l.getD k (0, 0, 0) = X) (hY : l.getD ((k - 1) / 2) (0, 0, 0) = Y) (h : ltT X Y = true) : upF ltT f l k = upF ltT (f - 1) ((l.set k Y).set ((k - 1) / 2) X) ((k - 1) / 2) := by
  obtain ⟨f, rfl⟩ : ∃ g, f = g + 1 := ⟨f - 1, by omega⟩
  simp only [upF]; rw [if_neg hk, hX, hY, if_pos h]; rfl

set_option maxHeartbeats 4000000 in
theorem up_any (p b n cap base : Nat) (l : List Ent) (at0 : Nat) (w : World) (hat : at0 < l.length) (hlen : l.length ≤ 1000000000000)
    (hp : w.heap[p]? = some (.cells #[.func (.func 19) #[] #[], .slice (some ⟨b, 0, none⟩) l.length cap, .int .i64 n] 76 (0, 0)))
    (hown : w.ownsRow base 78 3 (.slice (some ⟨b, 0, none⟩) l.length cap) l.length (flat encT l)) (hpb : p ≠ b) :
    Calls Try.prog 41 #[.pointer (some ⟨p, 0, none⟩), .int .i64 at0] w fun e w' => e = .returned (.tuple #[]) ∧
      w'.ownsRow base 78 3 (.slice (some ⟨b, 0, none⟩) l.length cap) l.length (flat encT (upF ltT (at0 + 1) l at0)) ∧ w.grownBy w' (some b) := by
  go_enter Try.func41, Try.ntmps41
  go_wp2_with fail
  go_loopw [1] (fun i wr => ∃ (k f : Nat) (l' : List Ent), i = .int .i64 k ∧ k < l.length ∧ k + 1 ≤ f ∧ l'.length = l.length ∧ Hid (upF ltT (at0 + 1) l at0 = upF ltT f l' k) ∧
      wr.ownsRow base 78 3 (.slice (some ⟨b, 0, none⟩) l.length cap) l.length (flat encT l') ∧ w.grownBy wr (some b)) (fun i _ => (intOf i).toNat)
  case atStart => exact ⟨at0, at0 + 1, l, rfl, hat, Nat.le_refl _, rfl, rfl, hown, grown_refl _ _⟩
  case round =>
    obtain ⟨k, f, l', rfl, hk, hf, hl, HU, hown', hg⟩ := hrel
    obtain ⟨c0, c1, c2, fz, hpl⟩ := cells3 ((hg.block p (cells3 hp).2.2.2.2 (fun e => hpb (Option.some.inj e))).trans hp)
    by_cases hk0 : k = 0
    · subst hk0
      go_wp2_with fail
      go_end0
      obtain ⟨f, rfl⟩ : ∃ g, f = g + 1 := ⟨f - 1, by omega⟩
      refine ⟨rfl, ?_, hg⟩
      rw [HU.out]
      exact hown'
    · have hk1 : 0 < k := by omega
      obtain ⟨o, ho'⟩ : ∃ o, o = (k - 1) / 2 := ⟨_, rfl⟩
      have ho : ((k : Int) - 1) / 2 = (o : Int) := by omega
      have hol : o < l.length := by omega
      have hbp : b ≠ p := Ne.symm hpb
      obtain ⟨x0, x1, x2⟩ := ent_cells hown' k (by omega)
      obtain ⟨y0, y1, y2⟩ := ent_cells hown' o (by omega)
      obtain ⟨X, HX⟩ : ∃ X, Hid (l'.getD k (0, 0, 0) = X) := ⟨_, rfl⟩
      obtain ⟨Y, HY⟩ : ∃ Y, Hid (l'.getD o (0, 0, 0) = Y) := ⟨_, rfl⟩
      rw [HX.out] at x0 x1 x2
      rw [HY.out] at y0 y1 y2
      obtain ⟨X1, X2, X3⟩ := X
      obtain ⟨Y1, Y2, Y3⟩ := Y
      have Ho := Lib.hid ho'
      have HY' : Hid (l'.getD ((k - 1) / 2) (0, 0, 0) = (Y1, Y2, Y3)) := by rw [← ho']; exact HY
      have HU2 : ltT (X1, X2, X3) (Y1, Y2, Y3) = true → Hid (upF ltT (at0 + 1) l at0 = upF ltT (f - 1) ((l'.set k (Y1, Y2, Y3)).set o (X1, X2, X3)) o) := fun h => by
        unfold Hid
        rw [HU.out, upF_go hk0 (by omega) HX.out HY'.out h, ← ho']
      clear ho'
      by_cases hlt : ltT (X1, X2, X3) (Y1, Y2, Y3) = true
      · have HU2 := HU2 hlt
        go_wp2_with fail
        refine Seq.start (fun _ => True) (Seq.but [15]) (Seq.these []) (by kernel_rfl) ?_
        refine Seq.calm (i := 0) (d := some 10) (v := ?_) rfl rfl (by kernel_rfl) (by rfl) (fun w9 => ?_) ?_
        rotate_left
        · go_simp; try with_reducible rfl
        (try simp only [Act.put, List.setIfInBounds_toArray, List.set_cons_zero, List.set_cons_succ])
        refine Seq.calm (i := 1) (d := some 11) (v := ?_) rfl rfl (by kernel_rfl) (by rfl) (fun w9 => ?_) ?_
        rotate_left
        · go_simp; try with_reducible rfl
        (try simp only [Act.put, List.setIfInBounds_toArray, List.set_cons_zero, List.set_cons_succ])
        refine Seq.calm (i := 2) (d := some 12) (v := ?_) rfl rfl (by kernel_rfl) (by rfl) (fun w9 => ?_) ?_
        rotate_left
        · go_simp; try with_reducible rfl
        (try simp only [Act.put, List.setIfInBounds_toArray, List.set_cons_zero, List.set_cons_succ])
        refine Seq.calm (i := 3) (d := some 13) (v := ?_) rfl rfl (by kernel_rfl) (by rfl) (fun w9 => ?_) ?_
        rotate_left
        · go_simp; try with_reducible rfl
        (try simp only [Act.put, List.setIfInBounds_toArray, List.set_cons_zero, List.set_cons_succ])
        refine Seq.held (i := 4) (d := some 14) (v := ?_) rfl rfl (by kernel_rfl) (by kernel_rfl) (by rfl) ?_ ?_
        rotate_left
        · go_simp; try with_reducible rfl
        (try simp only [Act.put, List.setIfInBounds_toArray, List.set_cons_zero, List.set_cons_succ])
        refine Seq.calm (i := 5) (d := some 15) (v := ?_) rfl rfl (by kernel_rfl) (by rfl) (fun w9 => ?_) ?_
        rotate_left
        · go_simp; try with_reducible rfl
        (try simp only [Act.put, List.setIfInBounds_toArray, List.set_cons_zero, List.set_cons_succ])
        refine Seq.calm (i := 6) (d := some 16) (v := ?_) rfl rfl (by kernel_rfl) (by rfl) (fun w9 => ?_) ?_
        rotate_left
        · go_simp; try with_reducible rfl
        (try simp only [Act.put, List.setIfInBounds_toArray, List.set_cons_zero, List.set_cons_succ])
        refine Seq.held (i := 7) (d := some 17) (v := ?_) rfl rfl (by kernel_rfl) (by kernel_rfl) (by rfl) ?_ ?_
        rotate_left
        · go_simp; try with_reducible rfl
        (try simp only [Act.put, List.setIfInBounds_toArray, List.set_cons_zero, List.set_cons_succ])
        refine Seq.calm (i := 8) (d := some 18) (v := ?_) rfl rfl (by kernel_rfl) (by rfl) (fun w9 => ?_) ?_
        rotate_left
        · go_simp; try with_reducible rfl
        (try simp only [Act.put, List.setIfInBounds_toArray, List.set_cons_zero, List.set_cons_succ])
        refine Seq.calm (i := 9) (d := some 19) (v := ?_) rfl rfl (by kernel_rfl) (by rfl) (fun w9 => ?_) ?_
        rotate_left
        · go_simp; try with_reducible rfl
        (try simp only [Act.put, List.setIfInBounds_toArray, List.set_cons_zero, List.set_cons_succ])
        refine Seq.calm (i := 10) (d := some 20) (v := ?_) rfl rfl (by kernel_rfl) (by rfl) (fun w9 => ?_) ?_
        rotate_left
        · go_simp; try with_reducible rfl
        (try simp only [Act.put, List.setIfInBounds_toArray, List.set_cons_zero, List.set_cons_succ])
        refine Seq.held (i := 11) (d := some 21) (v := ?_) rfl rfl (by kernel_rfl) (by kernel_rfl) (by rfl) ?_ ?_
        rotate_left
        · go_simp; try with_reducible rfl
        (try simp only [Act.put, List.setIfInBounds_toArray, List.set_cons_zero, List.set_cons_succ])
        refine Seq.calm (i := 12) (d := some 22) (v := ?_) rfl rfl (by kernel_rfl) (by rfl) (fun w9 => ?_) ?_
        rotate_left
        · go_simp; try with_reducible rfl
        (try simp only [Act.put, List.setIfInBounds_toArray, List.set_cons_zero, List.set_cons_succ])
        refine Seq.calm (i := 13) (d := some 23) (v := ?_) rfl rfl (by kernel_rfl) (by rfl) (fun w9 => ?_) ?_
        rotate_left
        · go_simp; try with_reducible rfl
        (try simp only [Act.put, List.setIfInBounds_toArray, List.set_cons_zero, List.set_cons_succ])
        refine Seq.held (i := 14) (d := some 24) (v := ?_) rfl rfl (by kernel_rfl) (by kernel_rfl) (by rfl) ?_ ?_
        rotate_left
        · go_simp; try with_reducible rfl
        (try simp only [Act.put, List.setIfInBounds_toArray, List.set_cons_zero, List.set_cons_succ])
        refine Seq.drop (i := 15) rfl (by kernel_rfl) (by kernel_rfl) (by rfl) (fun K9 hK9 => ?_)
        go_simp
        (with_reducible refine (first_lt p _ _ _ _ _ _ _ (by simp [c0]) (by simp [hpl])).mono ?_)
        rintro e w2 ⟨rfl, hb2⟩
        refine hK9.out _ _ ?_
        clear hK9 K9
        (try simp only [Act.put, List.setIfInBounds_toArray, List.set_cons_zero, List.set_cons_succ])
        refine Seq.calm (i := 16) (d := some 26) (v := ?_) rfl rfl (by kernel_rfl) (by rfl) (fun w9 => ?_) ?_
        rotate_left
        · go_simp; try with_reducible rfl
        (try simp only [Act.put, List.setIfInBounds_toArray, List.set_cons_zero, List.set_cons_succ])
        refine Seq.done (by kernel_rfl) ?_
        have hb3 : Below wr.heap.size wr w2 := (Below.refl _ _).drew.trans (hb2.mono (by simp))
        clear hb2
        have hown2 := own_below hown' hb3
        obtain ⟨c0, c1, c2, fz, hpl⟩ := cells3 ((hb3.block p hpl).trans ((hg.block p (cells3 hp).2.2.2.2 (fun e => hpb (Option.some.inj e))).trans hp))
        have hg2 := grown_trans hg (grown_below (some b) hb3)
        have x0 := cell_later hb3 x0
        have x1 := cell_later hb3 x1
        have x2 := cell_later hb3 x2
        have y0 := cell_later hb3 y0
        have y1 := cell_later hb3 y1
        have y2 := cell_later hb3 y2
        have fb := hown2.frozenAt
        have Hb3 := Lib.hid hb3
        have Hg := Lib.hid hg
        have Hg2 := Lib.hid hg2
        have Hown2 := Lib.hid hown2
        have Hown' := Lib.hid hown'
        clear hb3 hg hg2 hown2 hown'
        go_wp2_with fail
        refine Seq.start (fun w' => w'.cell? ⟨p, 1, none⟩ = some (.slice (some ⟨b, 0, none⟩) l.length cap)) (Seq.but [25, 27]) (Seq.these []) (by kernel_rfl) ?_
        refine Seq.calm (i := 0) (d := some 27) (v := ?_) rfl rfl (by kernel_rfl) (by rfl) (fun w9 => ?_) ?_
        rotate_left
        · go_simp; try with_reducible rfl
        (try simp only [Act.put, List.setIfInBounds_toArray, List.set_cons_zero, List.set_cons_succ])
        refine Seq.calm (i := 1) (d := some 28) (v := ?_) rfl rfl (by kernel_rfl) (by rfl) (fun w9 => ?_) ?_
        rotate_left
        · go_simp; try with_reducible rfl
        (try simp only [Act.put, List.setIfInBounds_toArray, List.set_cons_zero, List.set_cons_succ])
        refine Seq.calm (i := 2) (d := some 29) (v := ?_) rfl rfl (by kernel_rfl) (by rfl) (fun w9 => ?_) ?_
        rotate_left
        · go_simp; try with_reducible rfl
        (try simp only [Act.put, List.setIfInBounds_toArray, List.set_cons_zero, List.set_cons_succ])
        refine Seq.held (i := 3) (d := some 30) (v := ?_) rfl rfl (by kernel_rfl) (by kernel_rfl) (by rfl) ?_ ?_
        rotate_left
        · go_simp; try with_reducible rfl
        (try simp only [Act.put, List.setIfInBounds_toArray, List.set_cons_zero, List.set_cons_succ])
        refine Seq.calm (i := 4) (d := some 31) (v := ?_) rfl rfl (by kernel_rfl) (by rfl) (fun w9 => ?_) ?_
        rotate_left
        · go_simp; try with_reducible rfl
        (try simp only [Act.put, List.setIfInBounds_toArray, List.set_cons_zero, List.set_cons_succ])
        refine Seq.calm (i := 5) (d := some 32) (v := ?_) rfl rfl (by kernel_rfl) (by rfl) (fun w9 => ?_) ?_
        rotate_left
        · go_simp; try with_reducible rfl
        (try simp only [Act.put, List.setIfInBounds_toArray, List.set_cons_zero, List.set_cons_succ])
        refine Seq.calm (i := 6) (d := some 33) (v := ?_) rfl rfl (by kernel_rfl) (by rfl) (fun w9 => ?_) ?_
        rotate_left
        · go_simp; try with_reducible rfl
        (try simp only [Act.put, List.setIfInBounds_toArray, List.set_cons_zero, List.set_cons_succ])
        refine Seq.calm (i := 7) (d := some 34) (v := ?_) rfl rfl (by kernel_rfl) (by rfl) (fun w9 => ?_) ?_
        rotate_left
        · go_simp; try with_reducible rfl
        (try simp only [Act.put, List.setIfInBounds_toArray, List.set_cons_zero, List.set_cons_succ])
        refine Seq.held (i := 8) (d := some 35) (v := ?_) rfl rfl (by kernel_rfl) (by kernel_rfl) (by rfl) ?_ ?_
        rotate_left
        · go_simp; try with_reducible rfl
        (try simp only [Act.put, List.setIfInBounds_toArray, List.set_cons_zero, List.set_cons_succ])
        refine Seq.calm (i := 9) (d := some 36) (v := ?_) rfl rfl (by kernel_rfl) (by rfl) (fun w9 => ?_) ?_
        rotate_left
        · go_simp; try with_reducible rfl
        (try simp only [Act.put, List.setIfInBounds_toArray, List.set_cons_zero, List.set_cons_succ])
        refine Seq.calm (i := 10) (d := some 37) (v := ?_) rfl rfl (by kernel_rfl) (by rfl) (fun w9 => ?_) ?_
        rotate_left
        · go_simp; try with_reducible rfl
        (try simp only [Act.put, List.setIfInBounds_toArray, List.set_cons_zero, List.set_cons_succ])
        refine Seq.calm (i := 11) (d := some 38) (v := ?_) rfl rfl (by kernel_rfl) (by rfl) (fun w9 => ?_) ?_
        rotate_left
        · go_simp; try with_reducible rfl
        (try simp only [Act.put, List.setIfInBounds_toArray, List.set_cons_zero, List.set_cons_succ])
        refine Seq.calm (i := 12) (d := some 39) (v := ?_) rfl rfl (by kernel_rfl) (by rfl) (fun w9 => ?_) ?_
        rotate_left
        · go_simp; try with_reducible rfl
        (try simp only [Act.put, List.setIfInBounds_toArray, List.set_cons_zero, List.set_cons_succ])
        refine Seq.held (i := 13) (d := some 40) (v := ?_) rfl rfl (by kernel_rfl) (by kernel_rfl) (by rfl) ?_ ?_
        rotate_left
        · go_simp; try with_reducible rfl
        (try simp only [Act.put, List.setIfInBounds_toArray, List.set_cons_zero, List.set_cons_succ])
        refine Seq.calm (i := 14) (d := some 41) (v := ?_) rfl rfl (by kernel_rfl) (by rfl) (fun w9 => ?_) ?_
        rotate_left
        · go_simp; try with_reducible rfl
        (try simp only [Act.put, List.setIfInBounds_toArray, List.set_cons_zero, List.set_cons_succ])
        refine Seq.calm (i := 15) (d := some 42) (v := ?_) rfl rfl (by kernel_rfl) (by rfl) (fun w9 => ?_) ?_
        rotate_left
        · go_simp; try with_reducible rfl
        (try simp only [Act.put, List.setIfInBounds_toArray, List.set_cons_zero, List.set_cons_succ])
        refine Seq.held (i := 16) (d := some 43) (v := ?_) rfl rfl (by kernel_rfl) (by kernel_rfl) (by rfl) ?_ ?_
        rotate_left
        · go_simp; try with_reducible rfl
        (try simp only [Act.put, List.setIfInBounds_toArray, List.set_cons_zero, List.set_cons_succ])
        refine Seq.calm (i := 17) (d := some 44) (v := ?_) rfl rfl (by kernel_rfl) (by rfl) (fun w9 => ?_) ?_
        rotate_left
        · go_simp; try with_reducible rfl
        (try simp only [Act.put, List.setIfInBounds_toArray, List.set_cons_zero, List.set_cons_succ])
        refine Seq.calm (i := 18) (d := some 45) (v := ?_) rfl rfl (by kernel_rfl) (by rfl) (fun w9 => ?_) ?_
        rotate_left
        · go_simp; try with_reducible rfl
        (try simp only [Act.put, List.setIfInBounds_toArray, List.set_cons_zero, List.set_cons_succ])
        refine Seq.calm (i := 19) (d := some 46) (v := ?_) rfl rfl (by kernel_rfl) (by rfl) (fun w9 => ?_) ?_
        rotate_left
        · go_simp; try with_reducible rfl
        (try simp only [Act.put, List.setIfInBounds_toArray, List.set_cons_zero, List.set_cons_succ])
        refine Seq.held (i := 20) (d := some 47) (v := ?_) rfl rfl (by kernel_rfl) (by kernel_rfl) (by rfl) ?_ ?_
        rotate_left
        · go_simp; try with_reducible rfl
        (try simp only [Act.put, List.setIfInBounds_toArray, List.set_cons_zero, List.set_cons_succ])
        refine Seq.calm (i := 21) (d := some 48) (v := ?_) rfl rfl (by kernel_rfl) (by rfl) (fun w9 => ?_) ?_
        rotate_left
        · go_simp; try with_reducible rfl
        (try simp only [Act.put, List.setIfInBounds_toArray, List.set_cons_zero, List.set_cons_succ])
        refine Seq.calm (i := 22) (d := some 49) (v := ?_) rfl rfl (by kernel_rfl) (by rfl) (fun w9 => ?_) ?_
        rotate_left
        · go_simp; try with_reducible rfl
        (try simp only [Act.put, List.setIfInBounds_toArray, List.set_cons_zero, List.set_cons_succ])
        refine Seq.held (i := 23) (d := some 50) (v := ?_) rfl rfl (by kernel_rfl) (by kernel_rfl) (by rfl) ?_ ?_
        rotate_left
        · go_simp; try with_reducible rfl
        (try simp only [Act.put, List.setIfInBounds_toArray, List.set_cons_zero, List.set_cons_succ])
        refine Seq.calm (i := 24) (d := some 51) (v := ?_) rfl rfl (by kernel_rfl) (by rfl) (fun w9 => ?_) ?_
        rotate_left
        · go_simp; try with_reducible rfl
        (try simp only [Act.put, List.setIfInBounds_toArray, List.set_cons_zero, List.set_cons_succ])
        refine Seq.drop (i := 25) rfl (by kernel_rfl) (by kernel_rfl) (by rfl) (fun K9 hK9 => ?_)
        go_simp
        refine hK9.out _ _ ?_
        clear hK9 K9
        (try simp only [Act.put, List.setIfInBounds_toArray, List.set_cons_zero, List.set_cons_succ])
        refine Seq.calm (i := 26) (d := some 52) (v := ?_) rfl rfl (by kernel_rfl) (by rfl) (fun w9 => ?_) ?_
        rotate_left
        · go_simp; try with_reducible rfl
        (try simp only [Act.put, List.setIfInBounds_toArray, List.set_cons_zero, List.set_cons_succ])
        refine Seq.drop (i := 27) rfl (by kernel_rfl) (by kernel_rfl) (by rfl) (fun K9 hK9 => ?_)
        go_simp
        refine hK9.out _ _ ?_
        clear hK9 K9
        (try simp only [Act.put, List.setIfInBounds_toArray, List.set_cons_zero, List.set_cons_succ])
        refine Seq.done (by kernel_rfl) ?_
        go_wp2_with fail
        go_roundw
        case rel =>
          have hs1 := set3 Hown2.out k (Y1, Y2, Y3) (by omega)
          have hs2 := set3 hs1.1 o (X1, X2, X3) (by simp; omega)
          dsimp only at hs1 hs2
          have ho3 : o + 1 ≤ f - 1 := by have := Ho.out; omega
          exact ⟨o, f - 1, (l'.set k (Y1, Y2, Y3)).set o (X1, X2, X3), rfl, hol, ho3, by simp [hl], HU2, own_drew hs2.1, grown_drew (grown_trans Hg2.out (grown_trans hs1.2 hs2.2))⟩
        case measure => have := Ho.out; simp [intOf]; omega
      · have hlt' : ltT (X1, X2, X3) (Y1, Y2, Y3) = false := by simpa using hlt
        clear hlt
        go_wp2_with fail
        refine Seq.start (fun _ => True) (Seq.but [15]) (Seq.these []) (by kernel_rfl) ?_
        refine Seq.calm (i := 0) (d := some 10) (v := ?_) rfl rfl (by kernel_rfl) (by rfl) (fun w9 => ?_) ?_
        rotate_left
        · go_simp; try with_reducible rfl
        (try simp only [Act.put, List.setIfInBounds_toArray, List.set_cons_zero, List.set_cons_succ])
        refine Seq.calm (i := 1) (d := some 11) (v := ?_) rfl rfl (by kernel_rfl) (by rfl) (fun w9 => ?_) ?_
        rotate_left
        · go_simp; try with_reducible rfl
        (try simp only [Act.put, List.setIfInBounds_toArray, List.set_cons_zero, List.set_cons_succ])
        refine Seq.calm (i := 2) (d := some 12) (v := ?_) rfl rfl (by kernel_rfl) (by rfl) (fun w9 => ?_) ?_
        rotate_left
        · go_simp; try with_reducible rfl
        (try simp only [Act.put, List.setIfInBounds_toArray, List.set_cons_zero, List.set_cons_succ])
        refine Seq.calm (i := 3) (d := some 13) (v := ?_) rfl rfl (by kernel_rfl) (by rfl) (fun w9 => ?_) ?_
        rotate_left
        · go_simp; try with_reducible rfl
        (try simp only [Act.put, List.setIfInBounds_toArray, List.set_cons_zero, List.set_cons_succ])
        refine Seq.held (i := 4) (d := some 14) (v := ?_) rfl rfl (by kernel_rfl) (by kernel_rfl) (by rfl) ?_ ?_
        rotate_left
        · go_simp; try with_reducible rfl
        (try simp only [Act.put, List.setIfInBounds_toArray, List.set_cons_zero, List.set_cons_succ])
        refine Seq.calm (i := 5) (d := some 15) (v := ?_) rfl rfl (by kernel_rfl) (by rfl) (fun w9 => ?_) ?_
        rotate_left
        · go_simp; try with_reducible rfl
        (try simp only [Act.put, List.setIfInBounds_toArray, List.set_cons_zero, List.set_cons_succ])
        refine Seq.calm (i := 6) (d := some 16) (v := ?_) rfl rfl (by kernel_rfl) (by rfl) (fun w9 => ?_) ?_
        rotate_left
        · go_simp; try with_reducible rfl
        (try simp only [Act.put, List.setIfInBounds_toArray, List.set_cons_zero, List.set_cons_succ])
        refine Seq.held (i := 7) (d := some 17) (v := ?_) rfl rfl (by kernel_rfl) (by kernel_rfl) (by rfl) ?_ ?_
        rotate_left
        · go_simp; try with_reducible rfl
        (try simp only [Act.put, List.setIfInBounds_toArray, List.set_cons_zero, List.set_cons_succ])
        refine Seq.calm (i := 8) (d := some 18) (v := ?_) rfl rfl (by kernel_rfl) (by rfl) (fun w9 => ?_) ?_
        rotate_left
        · go_simp; try with_reducible rfl
        (try simp only [Act.put, List.setIfInBounds_toArray, List.set_cons_zero, List.set_cons_succ])
        refine Seq.calm (i := 9) (d := some 19) (v := ?_) rfl rfl (by kernel_rfl) (by rfl) (fun w9 => ?_) ?_
        rotate_left
        · go_simp; try with_reducible rfl
        (try simp only [Act.put, List.setIfInBounds_toArray, List.set_cons_zero, List.set_cons_succ])
        refine Seq.calm (i := 10) (d := some 20) (v := ?_) rfl rfl (by kernel_rfl) (by rfl) (fun w9 => ?_) ?_
        rotate_left
        · go_simp; try with_reducible rfl
        (try simp only [Act.put, List.setIfInBounds_toArray, List.set_cons_zero, List.set_cons_succ])
        refine Seq.held (i := 11) (d := some 21) (v := ?_) rfl rfl (by kernel_rfl) (by kernel_rfl) (by rfl) ?_ ?_
        rotate_left
        · go_simp; try with_reducible rfl
        (try simp only [Act.put, List.setIfInBounds_toArray, List.set_cons_zero, List.set_cons_succ])
        refine Seq.calm (i := 12) (d := some 22) (v := ?_) rfl rfl (by kernel_rfl) (by rfl) (fun w9 => ?_) ?_
        rotate_left
        · go_simp; try with_reducible rfl
        (try simp only [Act.put, List.setIfInBounds_toArray, List.set_cons_zero, List.set_cons_succ])
        refine Seq.calm (i := 13) (d := some 23) (v := ?_) rfl rfl (by kernel_rfl) (by rfl) (fun w9 => ?_) ?_
        rotate_left
        · go_simp; try with_reducible rfl
        (try simp only [Act.put, List.setIfInBounds_toArray, List.set_cons_zero, List.set_cons_succ])
        refine Seq.held (i := 14) (d := some 24) (v := ?_) rfl rfl (by kernel_rfl) (by kernel_rfl) (by rfl) ?_ ?_
        rotate_left
        · go_simp; try with_reducible rfl
        (try simp only [Act.put, List.setIfInBounds_toArray, List.set_cons_zero, List.set_cons_succ])
        refine Seq.drop (i := 15) rfl (by kernel_rfl) (by kernel_rfl) (by rfl) (fun K9 hK9 => ?_)
        go_simp
        (with_reducible refine (first_lt p _ _ _ _ _ _ _ (by simp [c0]) (by simp [hpl])).mono ?_)
        rintro e w2 ⟨rfl, hb2⟩
        refine hK9.out _ _ ?_
        clear hK9 K9
        (try simp only [Act.put, List.setIfInBounds_toArray, List.set_cons_zero, List.set_cons_succ])
        refine Seq.calm (i := 16) (d := some 26) (v := ?_) rfl rfl (by kernel_rfl) (by rfl) (fun w9 => ?_) ?_
        rotate_left
        · go_simp; try with_reducible rfl
        (try simp only [Act.put, List.setIfInBounds_toArray, List.set_cons_zero, List.set_cons_succ])
        refine Seq.done (by kernel_rfl) ?_
        have hb3 : Below wr.heap.size wr w2 := (Below.refl _ _).drew.trans (hb2.mono (by simp))
        go_wp2_with fail
        refine bodyPost_ret (results_none rfl _ _ _) rfl ?_
        refine ⟨rfl, ?_, grown_trans hg (grown_below (some b) hb3)⟩
        rw [HU.out, upF_stop hk0 HX.out HY'.out hlt']
        exact own_below hown' hb3
end Go.Proofs.Yteclijealbdhnaa
