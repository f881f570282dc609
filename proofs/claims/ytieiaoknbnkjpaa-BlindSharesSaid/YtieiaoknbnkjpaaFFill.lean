/- A text of a fixed length. -/
import Derived.Test.YtieiaoknbnkjpaaFU
import Derived.Laws.CopyOwn
namespace Go.Proofs.Ytieiaoknbnkjpaa.Rf
open Go.RowKit Go.Proofs.YtieiaoknbnkjpaaW.PrintWords

def blind_Fill.f (l0 : List Int) (a1 : Int) : Option (List Int × Int) :=
  if a1 < 1 then some ([], 6) else if 256 < a1 then some ([], 6) else if a1 ≤ (l0.length : Int) then some ([], 6) else some ((l0.length : Int) :: l0 ++ List.replicate (a1.toNat - 1 - l0.length) 0, 0)
theorem mk_eq (n : Nat) (v : Value) : (madeCells #[Value.int .u8 0] (n + 1)).setIfInBounds 0 v = (v :: List.replicate n (Value.int .u8 0)).toArray := by
  have h : madeCells #[Value.int .u8 0] (n + 1) = (List.replicate (n + 1) (Value.int .u8 0)).toArray := by
    apply Array.ext'
    apply List.ext_getElem
    · simp [madeCells]
    · intro i h1 h2
      simp [madeCells, Nat.mod_one]
  rw [h]
  simp [List.replicate_succ]
theorem own_block {W : World} {g base : Nat} {xs : List Int} (h : W.heap[g]? = some (.cells (nums .u8 xs).toArray 5 (0, 0))) (hb : base ≤ g) (hl : xs.length ≤ 1000000) : Kd.R (Kd.int .u8) 5 W base (fun _ => True) (.slice (some ⟨g, 0, none⟩) xs.length xs.length) xs := by
  refine Kd.R_of_own ⟨by simp [encs], .inr ⟨g, xs.length, _, rfl, hb, h, Nat.le_refl _, by unfold maxLen; omega, by simp [nums], ?_⟩⟩ (fun _ _ => trivial)
  show List.take (xs.length * 1) (nums .u8 xs) = encs (Value.int .u8) xs
  rw [Nat.mul_one, List.take_of_length_le (by simp [nums])]
  rfl
set_option maxRecDepth 100000 in
set_option maxHeartbeats 4000000 in
theorem blind_Fill.calls (A0 : Option Addr) (c0 : Nat) (l0 : List Int) (a1 : Int) (r1 : List Int) (r2 : Int) (w : World) (hr0 : Kd.C (Kd.int .u8) w A0 l0.length l0) (hc0 : l0.length ≤ c0) (h : blind_Fill.f l0 a1 = some (r1, r2)) :
    Calls Try.prog 17 #[.slice A0 l0.length c0, .int .i64 a1] w fun e w' => ∃ v0_ : Value, e = .returned (.tuple #[v0_, .int .i64 r2]) ∧ Kd.R (Kd.int .u8) 5 w' w.heap.size (fun _ => True) v0_ r1 ∧ Below w.heap.size w w' := by
  have HR0 := Aside0.mk hr0
  have hm := hr0.2.1
  clear hr0 hc0
  unfold blind_Fill.f at h
  split at h
  · rename_i x1
    obtain ⟨rfl, rfl⟩ : [] = r1 ∧ 6 = r2 := by simpa using h
    clear h
    go_enter Try.func17, Try.ntmps17
    go_wp2_with fail
    go_ret2
    exact ⟨_, rfl, Kd.R_nil _ _ _ _ _, Below.refl _ _⟩
  rename_i x1
  have d1 : decide (a1 < 1) = false := decide_eq_false x1
  split at h
  · rename_i x2
    obtain ⟨rfl, rfl⟩ : [] = r1 ∧ 6 = r2 := by simpa using h
    clear h x1
    go_enter Try.func17, Try.ntmps17
    go_wp2_with fail
    go_ret2
    exact ⟨_, rfl, Kd.R_nil _ _ _ _ _, Below.refl _ _⟩
  rename_i x2
  have d2 : decide (256 < a1) = false := decide_eq_false x2
  split at h
  · rename_i x3
    obtain ⟨rfl, rfl⟩ : [] = r1 ∧ 6 = r2 := by simpa using h
    clear h x1 x2
    go_enter Try.func17, Try.ntmps17
    go_wp2_with fail
    go_ret2
    exact ⟨_, rfl, Kd.R_nil _ _ _ _ _, Below.refl _ _⟩
  rename_i x3
  have d3 : decide (a1 ≤ (l0.length : Int)) = false := decide_eq_false x3
  obtain ⟨n, rfl⟩ : ∃ n : Nat, a1 = (n : Int) + 1 := ⟨a1.toNat - 1, by omega⟩
  have n1 : (n : Int) < 256 := by omega
  have n2 : l0.length ≤ n := by omega
  have n3 : (l0.length : Int) < 256 := by omega
  obtain ⟨rfl, rfl⟩ : (l0.length : Int) :: l0 ++ List.replicate (((n : Int) + 1).toNat - 1 - l0.length) 0 = r1 ∧ 0 = r2 := by simpa using h
  have hmk := print_make (P := Try.prog) 22 5 .u8 1 Try.underlying22 info5 (by omega) (n + 1) (by omega)
  rw [show ((n + 1 : Nat) : Int) = (n : Int) + 1 by omega] at hmk
  have hsz : 0 < (madeCells #[Value.int .u8 0] (n + 1)).size := by rw [size_madeCells]; omega
  clear h x1 x2 x3
  have hz5 : (Try.prog.info? 5).map (·.size) = some 1 := by
    have := info5
    rw [Option.map_eq_some_iff] at this ⊢
    obtain ⟨a, ha, hb⟩ := this
    exact ⟨a, ha, by simpa using congrArg (fun x => x.2.1) hb⟩
  have hend : nums .u8 ((l0.length : Int) :: l0 ++ List.replicate (((n : Int) + 1).toNat - 1 - l0.length) 0) = splice (Value.int .u8 l0.length :: List.replicate n (Value.int .u8 0)) 1 (nums .u8 l0) := by
    rw [show ((n : Int) + 1).toNat - 1 - l0.length = n - l0.length by omega]
    simp only [splice, nums, List.map_cons, List.map_append, List.cons_append, List.map_replicate, List.take_succ_cons, List.take_zero, List.nil_append, List.length_map]
    rw [show 1 + l0.length = l0.length + 1 by omega, List.drop_succ_cons, List.drop_replicate]
  have hlen : ((l0.length : Int) :: l0 ++ List.replicate (((n : Int) + 1).toNat - 1 - l0.length) 0).length = n + 1 := by
    simp only [List.cons_append, List.length_cons, List.length_append, List.length_replicate]
    omega
  have HE := Aside0.mk hend
  have HLE := Aside0.mk hlen
  have HG := Aside0.mk (show ∀ W : World, (W.alloc (.cells ((madeCells #[Value.int .u8 0] (n + 1)).setIfInBounds 0 (.int .u8 l0.length)) 5)).heap[W.heap.size]? = some (.cells (Value.int .u8 l0.length :: List.replicate n (Value.int .u8 0)).toArray 5 (0, 0)) from fun W => (heap_alloc_new W _).trans (by rw [mk_eq]))
  clear hend hlen
  have hcell : ∀ (W : World), Below w.heap.size w W → 0 < (nums .u8 l0).length → ∃ ad, A0 = some ad ∧ ∀ j v, (nums .u8 l0)[j]? = some v → W.cell? (ad.add j) = some v := fun W hW hp => by
    have hr := Kd.reads_of_C (d := (0 : Int)) HR0.out
    obtain ⟨ad, e, hc⟩ := hr.2.2 (by simpa [nums] using hp)
    refine ⟨ad, e, fun j v hv => ?_⟩
    have hj : j < l0.length := by
      have := (List.getElem?_eq_some_iff.1 hv).1
      simpa [nums] using this
    have h1 := hc j hj
    have h2 : v = .int .u8 (l0.getD j 0) := by
      simp [nums, List.getElem?_eq_getElem hj] at hv
      rw [← hv, List.getD_eq_getElem?_getD, List.getElem?_eq_getElem hj]; rfl
    rw [h2]
    exact (hW.cell (World.block_lt_of_cell? w _ h1)).trans h1
  have HCELL := Aside0.mk hcell
  clear hcell
  by_cases hn0 : n = 0
  · subst hn0
    obtain rfl : l0 = [] := List.eq_nil_of_length_eq_zero (by omega)
    have hg0 : ∀ W : World, (W.alloc (.cells ((madeCells #[Value.int .u8 0] 1).setIfInBounds 0 (.int .u8 0)) 5)).heap[W.heap.size]? = some (.cells [Value.int .u8 0].toArray 5 (0, 0)) := HG.out
    have HG0 := Aside0.mk hg0
    clear hg0
    rw [show ((0 : Nat) : Int) + 1 = 1 from rfl] at hmk ⊢
    go_enter Try.func17, Try.ntmps17
    go_wp2_with ((with_reducible refine gate_builtin (b := .copy) (xs := #[.tmp 27, .tmp 28]) rfl ?_); refine wpList_copy_splice (w := w.alloc _) rfl (.tmp 27) (.tmp 28) 22 22 rfl 5 Try.underlying22 hz5 (some ⟨w.heap.size, 0, none⟩) A0 0 0 0 c0 rfl rfl w.heap.size 0 _ 5 (HG0.out w) [] rfl (fun h => absurd h (by simp)) (by simp) (by simp) w.heap.size w ((Below.refl _ _).alloc (Nat.le_refl _) _) (Nat.le_refl _) ?_; intro w2 hg2 hb2)
    go_ret2
    refine ⟨_, rfl, ?_, hb2⟩
    have h1 := hg2.out
    exact own_block (xs := [0]) h1 (Nat.le_refl _) (by simp)
  · have hnp : 0 < n := by omega
    go_enter Try.func17, Try.ntmps17
    go_wp2_with ((with_reducible refine gate_builtin (b := .copy) (xs := #[.tmp 27, .tmp 28]) rfl ?_); refine wpList_copy_splice (w := w.alloc _) rfl (.tmp 27) (.tmp 28) 22 22 rfl 5 Try.underlying22 hz5 (some ⟨w.heap.size, 1, none⟩) A0 n n l0.length c0 rfl rfl w.heap.size 1 _ 5 (HG.out w) (nums .u8 l0) (by rw [nums_length]; exact (Nat.min_eq_left n2).symm) (fun h => ⟨rfl, HCELL.out _ ((Below.refl _ _).alloc (Nat.le_refl _) _) h⟩) (by simp [nums]; omega) (by intro v hv; obtain ⟨x, _, rfl⟩ := List.mem_map.1 hv; rfl) w.heap.size w ((Below.refl _ _).alloc (Nat.le_refl _) _) (Nat.le_refl _) ?_; intro w2 hg2 hb2)
    go_ret2
    refine ⟨_, rfl, ?_, hb2⟩
    have h1 := hg2.out
    rw [← HE.out] at h1
    rw [← HLE.out]
    exact own_block h1 (Nat.le_refl _) (by rw [HLE.out]; omega)
end Go.Proofs.Ytieiaoknbnkjpaa.Rf
