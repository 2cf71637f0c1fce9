/- Chapter 20: Up, Lease, Crash, clock. -/
import Derived.Test.YtoeamofemepgpaaAg0
import Derived.Deep.DrawnRows
namespace Go.Proofs.Ytoeamofemepgpaa
open Go.RowKit
attribute [local go_sem ↓] Go.wp_at_zero Go.wp_at_succ

theorem up_nil (w : World) : Calls Try.prog 18 #[.pointer none] w fun e w' => e = .returned (.bool false) ∧ w = w' := by
  go_enter Try.func18, Try.ntmps18
  go_wp2_with fail
  go_ret
  exact ⟨rfl, rfl⟩
theorem up_any (w : World) (A : Nat) (v : Bool) (h : w.cell? ⟨A, 6, none⟩ = some (.bool v)) : Calls Try.prog 18 #[.pointer (some ⟨A, 0, none⟩)] w fun e w' => e = .returned (.bool v) ∧ w = w' := by
  go_enter Try.func18, Try.ntmps18
  go_wp2_with fail
  go_ret
  exact ⟨rfl, rfl⟩
theorem crash_nil (w : World) : Calls Try.prog 20 #[.pointer none] w fun e w' => (∃ v, e = .returned v) ∧ w = w' := by
  go_enter Try.func20, Try.ntmps20
  go_wp2_with fail
  go_end0
  exact ⟨⟨_, rfl⟩, rfl⟩
theorem crash_any (w : World) (A : Nat) (v : Bool) (h : w.cell? ⟨A, 6, none⟩ = some (.bool v)) (hf : w.frozen? ⟨A, 6, none⟩ = false) : Calls Try.prog 20 #[.pointer (some ⟨A, 0, none⟩)] w fun e w' => (∃ v, e = .returned v) ∧ w.setCell ⟨A, 6, none⟩ (.bool false) = w' := by
  go_enter Try.func20, Try.ntmps20
  go_wp2_with fail
  go_end0
  exact ⟨⟨_, rfl⟩, rfl⟩
theorem lease_nil (w : World) : Calls Try.prog 19 #[.pointer none] w fun e w' => e = .returned (.tuple #[.int .i64 0, .int .i64 0]) ∧ w = w' := by
  go_enter Try.func19, Try.ntmps19
  go_wp2_with fail
  refine (up_nil w).mono ?_
  rintro e w' ⟨rfl, rfl⟩
  go_wp2_with fail
  refine bodyPost_ret (v := .tuple #[.int .i64 0, .int .i64 0]) (by simp [results, Try.results19, go_sem]) rfl ?_
  exact ⟨rfl, rfl⟩
theorem lease_down (w : World) (A : Nat) (h : w.cell? ⟨A, 6, none⟩ = some (.bool false)) : Calls Try.prog 19 #[.pointer (some ⟨A, 0, none⟩)] w fun e w' => e = .returned (.tuple #[.int .i64 0, .int .i64 0]) ∧ w = w' := by
  go_enter Try.func19, Try.ntmps19
  go_wp2_with fail
  refine (up_any w A false h).mono ?_
  rintro e w' ⟨rfl, rfl⟩
  go_wp2_with fail
  refine bodyPost_ret (v := .tuple #[.int .i64 0, .int .i64 0]) (by simp [results, Try.results19, go_sem]) rfl ?_
  exact ⟨rfl, rfl⟩
theorem clock_nil (w : World) (now : Int) : Calls Try.prog 23 #[.pointer none, .int .i64 now] w fun e w' => e = .returned (.bool false) ∧ w = w' := by
  go_enter Try.func23, Try.ntmps23
  go_wp2_with fail
  go_ret
  exact ⟨rfl, rfl⟩
theorem clock_early (w : World) (A : Nat) (now tick : Int) (h : w.cell? ⟨A, 7, none⟩ = some (.int .i64 tick)) (hn : now < tick) : Calls Try.prog 23 #[.pointer (some ⟨A, 0, none⟩), .int .i64 now] w fun e w' => e = .returned (.bool false) ∧ w = w' := by
  go_enter Try.func23, Try.ntmps23
  go_wp2_with fail
  go_ret
  exact ⟨rfl, rfl⟩
theorem clock_late (w : World) (A : Nat) (now tick : Int) (h : w.cell? ⟨A, 7, none⟩ = some (.int .i64 tick)) (h0 : ¬ now < tick) (hn : (1099511627776 : Int) ≤ now) : Calls Try.prog 23 #[.pointer (some ⟨A, 0, none⟩), .int .i64 now] w fun e w' => e = .returned (.bool false) ∧ w = w' := by
  go_enter Try.func23, Try.ntmps23
  go_wp2_with fail
  go_ret
  exact ⟨rfl, rfl⟩
theorem clock_ok (w : World) (A : Nat) (now tick : Int) (h : w.cell? ⟨A, 7, none⟩ = some (.int .i64 tick)) (hf : w.frozen? ⟨A, 7, none⟩ = false) (h0 : ¬ now < tick) (hn : ¬ (1099511627776 : Int) ≤ now) : Calls Try.prog 23 #[.pointer (some ⟨A, 0, none⟩), .int .i64 now] w fun e w' => e = .returned (.bool true) ∧ w.setCell ⟨A, 7, none⟩ (.int .i64 now) = w' := by
  go_enter Try.func23, Try.ntmps23
  go_wp2_with fail
  go_ret
  exact ⟨rfl, rfl⟩
end Go.Proofs.Ytoeamofemepgpaa
