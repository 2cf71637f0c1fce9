/- Chapter 20: Boot refused. -/
import Derived.Test.YtoeamofemepgpaaAg1
namespace Go.Proofs.Ytoeamofemepgpaa
open Go.RowKit

theorem Boot_nil (w : World) (now : Int) : Calls Try.prog 10 #[.pointer none, .int .i64 now] w fun e w' => e = .returned (.int .i64 1) ∧ w = w' := by
  go_enter Try.func10, Try.ntmps10
  go_wp2_with fail
  go_ret
  exact ⟨rfl, rfl⟩
theorem Boot_early (w : World) (A : Nat) (now tick : Int) (h : w.cell? ⟨A, 7, none⟩ = some (.int .i64 tick)) (hn : now < tick) : Calls Try.prog 10 #[.pointer (some ⟨A, 0, none⟩), .int .i64 now] w fun e w' => e = .returned (.int .i64 1) ∧ w = w' := by
  go_enter Try.func10, Try.ntmps10
  go_wp2_with fail
  go_ret
  exact ⟨rfl, rfl⟩
theorem Boot_late (w : World) (A : Nat) (now tick : Int) (h : w.cell? ⟨A, 7, none⟩ = some (.int .i64 tick)) (h0 : ¬ now < tick) (hn : (1099511627776 : Int) ≤ now) : Calls Try.prog 10 #[.pointer (some ⟨A, 0, none⟩), .int .i64 now] w fun e w' => e = .returned (.int .i64 1) ∧ w = w' := by
  go_enter Try.func10, Try.ntmps10
  go_wp2_with fail
  go_ret
  exact ⟨rfl, rfl⟩
theorem Boot_up (w : World) (A : Nat) (now tick : Int) (h : w.cell? ⟨A, 7, none⟩ = some (.int .i64 tick)) (h0 : ¬ now < tick) (hn : ¬ (1099511627776 : Int) ≤ now) (hu : w.cell? ⟨A, 6, none⟩ = some (.bool true)) : Calls Try.prog 10 #[.pointer (some ⟨A, 0, none⟩), .int .i64 now] w fun e w' => e = .returned (.int .i64 100) ∧ w = w' := by
  go_enter Try.func10, Try.ntmps10
  go_wp2_with fail
  go_ret
  exact ⟨rfl, rfl⟩
end Go.Proofs.Ytoeamofemepgpaa
