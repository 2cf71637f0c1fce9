/- Chapter 20: what fits (chapter 03's texts). -/
import Derived.Test.YtoeamofemepgpaaRight
import Derived.IntWalk
import Derived.Deep.DeepCutAuto
import Derived.OwnWalk
namespace Go.Proofs.Ytoeamofemepgpaa
open Go.RowKit

/-- An amount in a box. -/
def VAt (w : World) (b : Nat) (d : Nat → Int) : Prop := w.heap[b]? = some (.cells #[.int .i64 (d 0), .int .i64 (d 1), .int .i64 (d 2), .int .i64 (d 3)] 26 (0, 0))
theorem VAt.cell {w : World} {b : Nat} {d : Nat → Int} (h : VAt w b d) {i : Nat} (hi : i < 4) : w.cell? ⟨b, i, none⟩ = some (.int .i64 (d i)) := by
  have hi : i = 0 ∨ i = 1 ∨ i = 2 ∨ i = 3 := by omega
  rcases hi with rfl | rfl | rfl | rfl <;> exact cellb h rfl
theorem VAt.below {w w' : World} {b B : Nat} {d : Nat → Int} (h : VAt w b d) (hb : Below B w w') (hB : b < B) : VAt w' b d := (hb.block b hB).trans h
theorem VAt.drewN {w : World} {b : Nat} {d : Nat → Int} (h : VAt w b d) (n : Nat) : VAt (w.drewN n) b d := h
theorem VAt.new (w : World) (d : Nat → Int) : VAt (w.alloc (.cells #[.int .i64 (d 0), .int .i64 (d 1), .int .i64 (d 2), .int .i64 (d 3)] 26)) w.heap.size d := heap_alloc_new w _
theorem below_drewN {B : Nat} {a w : World} (h : Below B a w) (n : Nat) : Below B a (w.drewN n) := ⟨h.os, h.tape, h.output, h.size, h.block⟩
theorem fits1 (S R i : Nat) (a b : Nat → Int) (w : World) (hi : i < 4) (ha : VAt w S a) (hb : VAt w R b) :
    Calls Try.prog 50 #[.int .i64 i, .pointer (some ⟨S, 0, none⟩), .pointer (some ⟨R, 0, none⟩)] w fun e w' => e = .returned (.bool (decide (a i ≤ b i))) ∧ ∃ n, w' = w.drewN n := by
  have h0 : (0 : Int) ≤ (i : Int) := by omega
  have h4 : (i : Int) < 4 := by omega
  have hx := ha.cell hi
  have hy := hb.cell hi
  clear ha hb
  generalize a i = x at hx ⊢
  generalize b i = y at hy ⊢
  go_enter Try.func50, Try.ntmps50
  go_wp2_with fail
  go_quiet (fail)
  go_wp2_with fail
  go_ret
  exact ⟨rfl, nq, rfl⟩
theorem vall_fits (S R : Nat) (p : Nat → Bool) (w : World) (h : ∀ k (i : Nat), i < 4 → Calls Try.prog 50 #[.int .i64 i, .pointer (some ⟨S, 0, none⟩), .pointer (some ⟨R, 0, none⟩)] (w.drewN k) fun e w' => e = .returned (.bool (p i)) ∧ ∃ n, w' = (w.drewN k).drewN n) :
    Calls Try.prog 28 #[.func (.func 50) #[] #[.pointer (some ⟨S, 0, none⟩), .pointer (some ⟨R, 0, none⟩)]] w fun e w' => e = .returned (.bool (p 0 && p 1 && p 2 && p 3)) ∧ ∃ n, w' = w.drewN n := by
  have HC := Lib.hid h
  clear h
  go_enter Try.func28, Try.ntmps28
  go_wp2_with fail
  go_loopw [4] (fun i wr => ∃ j k : Nat, j ≤ 4 ∧ i = .int .i64 j ∧ wr = w.drewN k ∧ Hid (∀ i, i < j → p i = true)) (fun i _ => 4 - (intOf i).toNat)
  case atStart => exact ⟨0, 0, by omega, rfl, rfl, Lib.hid (fun i hi => by omega)⟩
  case round =>
    obtain ⟨j, k, hj, rfl, rfl, HA⟩ := hrel
    by_cases hj4 : j < 4
    · have hj' : (j : Int) < 4 := by omega
      have H1 := Lib.hid (HC.out k j hj4)
      obtain ⟨b, hb⟩ : ∃ b, p j = b := ⟨_, rfl⟩
      rw [hb] at H1
      have HBb := Lib.hid hb
      clear hb
      cases b
      · go_wp2_with fail
        refine H1.out.mono ?_
        rintro e w' ⟨rfl, n, rfl⟩
        go_wp2_with fail
        go_ret
        refine ⟨?_, k + n, by simp⟩
        have hj : j = 0 ∨ j = 1 ∨ j = 2 ∨ j = 3 := by omega
        rcases hj with rfl | rfl | rfl | rfl <;> simp [HBb.out]
      · go_wp2_with fail
        refine H1.out.mono ?_
        rintro e w' ⟨rfl, n, rfl⟩
        rw [World.drewN_drewN]
        go_wp2_with fail
        go_roundw
        case rel => exact ⟨j + 1, k + n, by omega, by go_num, rfl, Lib.hid (fun i hi => by
          by_cases e : i = j
          · rw [e]; exact HBb.out
          · exact HA.out i (by omega))⟩
        case measure => simp [intOf]; omega
    · go_wp2_with fail
      go_ret
      have h0 := HA.out 0 (by omega)
      have h1 := HA.out 1 (by omega)
      have h2 := HA.out 2 (by omega)
      have h3 := HA.out 3 (by omega)
      exact ⟨by simp [h0, h1, h2, h3], k, rfl⟩
def fitB (a b : Nat → Int) : Bool := decide (a 0 ≤ b 0) && decide (a 1 ≤ b 1) && decide (a 2 ≤ b 2) && decide (a 3 ≤ b 3)
theorem fits_any (a b : Nat → Int) (w : World) :
    Calls Try.prog 47 #[.agg #[.int .i64 (a 0), .int .i64 (a 1), .int .i64 (a 2), .int .i64 (a 3)], .agg #[.int .i64 (b 0), .int .i64 (b 1), .int .i64 (b 2), .int .i64 (b 3)]] w fun e w' => e = .returned (.bool (fitB a b)) ∧ Below w.heap.size w w' := by
  obtain ⟨S, hS⟩ : ∃ S, S = w.heap.size := ⟨_, rfl⟩
  obtain ⟨w1, hw1⟩ : ∃ x, x = ((w.alloc (.cells #[.int .i64 (a 0), .int .i64 (a 1), .int .i64 (a 2), .int .i64 (a 3)] 26)).alloc (.cells #[.int .i64 (b 0), .int .i64 (b 1), .int .i64 (b 2), .int .i64 (b 3)] 26)) := ⟨_, rfl⟩
  have HB_1 : Hid (Below w.heap.size w w1) := Lib.hid (by rw [hw1]; exact (((Below.refl w.heap.size w).alloc (by simp) _).alloc (by simp) _))
  have HS_1 : Hid (VAt w1 S a) := Lib.hid (by
    rw [hw1, hS]
    have h := heap_alloc_new w (.cells #[.int .i64 (a 0), .int .i64 (a 1), .int .i64 (a 2), .int .i64 (a 3)] 26)
    replace h := (Below.heap_alloc (w.alloc (.cells #[.int .i64 (a 0), .int .i64 (a 1), .int .i64 (a 2), .int .i64 (a 3)] 26)) (.cells #[.int .i64 (b 0), .int .i64 (b 1), .int .i64 (b 2), .int .i64 (b 3)] 26) _ (by simp)).trans h
    exact h)
  have HR_1 : Hid (VAt w1 (S + 1) b) := Lib.hid (by
    rw [hw1, hS]
    have h := heap_alloc_new (w.alloc (.cells #[.int .i64 (a 0), .int .i64 (a 1), .int .i64 (a 2), .int .i64 (a 3)] 26)) (.cells #[.int .i64 (b 0), .int .i64 (b 1), .int .i64 (b 2), .int .i64 (b 3)] 26)
    simp only [World.size_alloc] at h
    exact h)
  go_enter Try.func47, Try.ntmps47
  go_upto_region 1 with (fail)
  rw [← hw1, ← hS]
  clear hw1 hS
  go_wp2_with fail
  refine (vall_fits S (S + 1) (fun i => decide (a i ≤ b i)) w1 (fun k i hi => fits1 S (S + 1) i a b _ hi (HS_1.out.drewN k) (HR_1.out.drewN k))).mono ?_
  rintro e w' ⟨rfl, n, rfl⟩
  have HB' := Lib.hid (below_drewN HB_1.out n)
  go_wp2_with fail
  go_ret
  exact ⟨rfl, HB'.out⟩
set_option maxHeartbeats 1000000 in
theorem rfits_any (a b : Nat → Int) (w : World) :
    Calls Try.prog 17 #[.agg #[.int .i64 (a 0), .int .i64 (a 1), .int .i64 (a 2), .int .i64 (a 3)], .agg #[.int .i64 (b 0), .int .i64 (b 1), .int .i64 (b 2), .int .i64 (b 3)]] w fun e w' => e = .returned (.bool (fitB a b)) ∧ Below w.heap.size w w' := by
  obtain ⟨S, hS⟩ : ∃ S, S = w.heap.size := ⟨_, rfl⟩
  obtain ⟨w1, hw1⟩ : ∃ x, x = ((w.alloc (.cells #[.int .i64 (a 0), .int .i64 (a 1), .int .i64 (a 2), .int .i64 (a 3)] 26)).alloc (.cells #[.int .i64 (b 0), .int .i64 (b 1), .int .i64 (b 2), .int .i64 (b 3)] 26)) := ⟨_, rfl⟩
  have HB_1 : Hid (Below w.heap.size w w1) := Lib.hid (by rw [hw1]; exact (((Below.refl w.heap.size w).alloc (by simp) _).alloc (by simp) _))
  have HS_1 : Hid (VAt w1 S a) := Lib.hid (by
    rw [hw1, hS]
    have h := heap_alloc_new w (.cells #[.int .i64 (a 0), .int .i64 (a 1), .int .i64 (a 2), .int .i64 (a 3)] 26)
    replace h := (Below.heap_alloc (w.alloc (.cells #[.int .i64 (a 0), .int .i64 (a 1), .int .i64 (a 2), .int .i64 (a 3)] 26)) (.cells #[.int .i64 (b 0), .int .i64 (b 1), .int .i64 (b 2), .int .i64 (b 3)] 26) _ (by simp)).trans h
    exact h)
  have HR_1 : Hid (VAt w1 (S + 1) b) := Lib.hid (by
    rw [hw1, hS]
    have h := heap_alloc_new (w.alloc (.cells #[.int .i64 (a 0), .int .i64 (a 1), .int .i64 (a 2), .int .i64 (a 3)] 26)) (.cells #[.int .i64 (b 0), .int .i64 (b 1), .int .i64 (b 2), .int .i64 (b 3)] 26)
    simp only [World.size_alloc] at h
    exact h)
  have x0 : w1.cell? ⟨S, 0, none⟩ = some (.int .i64 (a 0)) := HS_1.out.cell (by decide)
  have y0 : w1.cell? ⟨S + 1, 0, none⟩ = some (.int .i64 (b 0)) := HR_1.out.cell (by decide)
  have x1 : w1.cell? ⟨S, 1, none⟩ = some (.int .i64 (a 1)) := HS_1.out.cell (by decide)
  have y1 : w1.cell? ⟨S + 1, 1, none⟩ = some (.int .i64 (b 1)) := HR_1.out.cell (by decide)
  have x2 : w1.cell? ⟨S, 2, none⟩ = some (.int .i64 (a 2)) := HS_1.out.cell (by decide)
  have y2 : w1.cell? ⟨S + 1, 2, none⟩ = some (.int .i64 (b 2)) := HR_1.out.cell (by decide)
  have x3 : w1.cell? ⟨S, 3, none⟩ = some (.int .i64 (a 3)) := HS_1.out.cell (by decide)
  have y3 : w1.cell? ⟨S + 1, 3, none⟩ = some (.int .i64 (b 3)) := HR_1.out.cell (by decide)
  clear HS_1 HR_1
  unfold fitB
  have key : ¬ a 0 ≤ b 0 ∨ (a 0 ≤ b 0 ∧ ¬ a 1 ≤ b 1) ∨ (a 0 ≤ b 0 ∧ a 1 ≤ b 1 ∧ ¬ a 2 ≤ b 2) ∨ (a 0 ≤ b 0 ∧ a 1 ≤ b 1 ∧ a 2 ≤ b 2 ∧ ¬ a 3 ≤ b 3) ∨ (a 0 ≤ b 0 ∧ a 1 ≤ b 1 ∧ a 2 ≤ b 2 ∧ a 3 ≤ b 3) := by omega
  rcases key with h1 | ⟨h1, h2⟩ | ⟨h1, h2, h3⟩ | ⟨h1, h2, h3, h4⟩ | ⟨h1, h2, h3, h4⟩
  all_goals
    go_enter Try.func17, Try.ntmps17
    go_upto_region 1 with (fail)
    rw [← hw1, ← hS]
    clear hw1 hS
    go_wp2_with fail
    go_ret
    exact ⟨by simp [*] <;> omega, HB_1.out⟩
end Go.Proofs.Ytoeamofemepgpaa
