/- Chapter 20: Running, Step and Hear of an agent that is none or not up. -/
import Derived.Test.YtoeamofemepgpaaAg1
namespace Go.Proofs.Ytoeamofemepgpaa
open Go.RowKit

theorem Running_nil (w : World) (now : Int) : Calls Try.prog 12 #[.pointer none, .int .i64 now] w fun e w' => e = .returned (.slice none 0 0) ∧ Below w.heap.size w w' := by
  go_enter Try.func12, Try.ntmps12
  go_wp2_with fail
  refine (up_nil _).mono ?_
  rintro e w' ⟨rfl, rfl⟩
  go_wp2_with fail
  go_ret
  exact ⟨rfl, ((Below.refl _ w).alloc (Nat.le_refl _) _).alloc (by simp) _⟩
theorem Running_down (w : World) (A : Nat) (now : Int) (h : w.cell? ⟨A, 6, none⟩ = some (.bool false)) : Calls Try.prog 12 #[.pointer (some ⟨A, 0, none⟩), .int .i64 now] w fun e w' => e = .returned (.slice none 0 0) ∧ Below w.heap.size w w' := by
  have hlt : A < w.heap.size := World.block_lt_of_cell? w _ h
  go_enter Try.func12, Try.ntmps12
  go_wp2_with fail
  refine (up_any _ A false ((((Below.refl _ w).alloc (Nat.le_refl _) _).alloc (by simp) _).cell (p := ⟨A, 6, none⟩) hlt |>.trans h)).mono ?_
  rintro e w' ⟨rfl, rfl⟩
  go_wp2_with fail
  go_ret
  exact ⟨rfl, ((Below.refl _ w).alloc (Nat.le_refl _) _).alloc (by simp) _⟩
/-- The clock's answer where an agent isn't up: whatever it is, nothing but the tick's cell turns. -/
theorem clock_down (w : World) (A : Nat) (now tick : Int) (h : w.cell? ⟨A, 7, none⟩ = some (.int .i64 tick)) (hf : w.frozen? ⟨A, 7, none⟩ = false) :
    Calls Try.prog 23 #[.pointer (some ⟨A, 0, none⟩), .int .i64 now] w fun e w' => e = .returned (.bool (decide (¬ now < tick ∧ ¬ (1099511627776 : Int) ≤ now))) ∧ (if ¬ now < tick ∧ ¬ (1099511627776 : Int) ≤ now then w.setCell ⟨A, 7, none⟩ (.int .i64 now) else w) = w' := by
  by_cases h0 : now < tick
  · refine (clock_early w A now tick h h0).mono ?_
    rintro e w' ⟨rfl, rfl⟩
    simp [h0]
  · by_cases h1 : (1099511627776 : Int) ≤ now
    · refine (clock_late w A now tick h h0 h1).mono ?_
      rintro e w' ⟨rfl, rfl⟩
      simp [h1]
    · refine (clock_ok w A now tick h hf h0 h1).mono ?_
      rintro e w' ⟨rfl, rfl⟩
      simp [h0, h1]
theorem Step_nil (w : World) (now : Int) : Calls Try.prog 13 #[.pointer none, .int .i64 now] w fun e w' => e = .returned (.slice none 0 0) ∧ w = w' := by
  go_enter Try.func13, Try.ntmps13
  go_wp2_with fail
  refine (clock_nil _ _).mono ?_
  rintro e w' ⟨rfl, rfl⟩
  go_wp2_with fail
  go_ret
  exact ⟨rfl, rfl⟩
theorem Step_early (w : World) (A : Nat) (now tick : Int) (h : w.cell? ⟨A, 7, none⟩ = some (.int .i64 tick)) (hn : now < tick) : Calls Try.prog 13 #[.pointer (some ⟨A, 0, none⟩), .int .i64 now] w fun e w' => e = .returned (.slice none 0 0) ∧ w = w' := by
  go_enter Try.func13, Try.ntmps13
  go_wp2_with fail
  refine (clock_early w A now tick h hn).mono ?_
  rintro e w' ⟨rfl, rfl⟩
  go_wp2_with fail
  go_ret
  exact ⟨rfl, rfl⟩
theorem Step_late (w : World) (A : Nat) (now tick : Int) (h : w.cell? ⟨A, 7, none⟩ = some (.int .i64 tick)) (h0 : ¬ now < tick) (hn : (1099511627776 : Int) ≤ now) : Calls Try.prog 13 #[.pointer (some ⟨A, 0, none⟩), .int .i64 now] w fun e w' => e = .returned (.slice none 0 0) ∧ w = w' := by
  go_enter Try.func13, Try.ntmps13
  go_wp2_with fail
  refine (clock_late w A now tick h (by omega) hn).mono ?_
  rintro e w' ⟨rfl, rfl⟩
  go_wp2_with fail
  go_ret
  exact ⟨rfl, rfl⟩
end Go.Proofs.Ytoeamofemepgpaa
