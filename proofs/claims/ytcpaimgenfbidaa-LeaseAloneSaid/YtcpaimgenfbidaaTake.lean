/- Who may take the lead; taking it. -/
import Derived.Test.YtcpaimgenfbidaaDisk
namespace Go.Proofs.Ytcpaimgenfbidaa
open Go.RowKit

def tk (n : Int) : Bool := decide (0 ≤ n) && decide (n < 1099511627776)
def heldS (c : Cl) (h n : Int) : Bool := !decide (c.e ≤ 0) && (!decide (c.h = h) && (decide (2199023255552 < c.u) || decide (n < c.u + 2)))
def leadsS (c : Cl) (n : Int) : Bool := decide (0 < c.e) && decide (n < c.u)

set_option maxHeartbeats 400000 in
theorem tick_any (n : Int) (w : World) : Calls Try.prog 24 #[.int .i64 n] w fun e w' => e = .returned (.bool (tk n)) ∧ w = w' := by
  by_cases h1 : 0 ≤ n
  · have e1 : tk n = decide (n < 1099511627776) := by unfold tk; rw [decide_eq_true h1]; rfl
    have E1 := Lib.hid e1
    clear e1
    go_enter Try.func24, Try.ntmps24
    go_wp2
    go_ret
    exact ⟨by rw [E1.out]; rfl, rfl⟩
  · have e1 : tk n = false := by unfold tk; rw [decide_eq_false h1]; rfl
    have E1 := Lib.hid e1
    clear e1
    go_enter Try.func24, Try.ntmps24
    go_wp2
    go_ret
    exact ⟨by rw [E1.out]; rfl, rfl⟩
set_option maxHeartbeats 400000 in
theorem rtick_any (n : Int) (w : World) : Calls Try.prog 16 #[.int .i64 n] w fun e w' => e = .returned (.bool (tk n)) ∧ w = w' := by
  by_cases h1 : 0 ≤ n
  · have e1 : tk n = decide (n < 1099511627776) := by unfold tk; rw [decide_eq_true h1]; rfl
    have E1 := Lib.hid e1
    clear e1
    go_enter Try.func16, Try.ntmps16
    go_wp2
    go_ret
    exact ⟨by rw [E1.out]; rfl, rfl⟩
  · have e1 : tk n = false := by unfold tk; rw [decide_eq_false h1]; rfl
    have E1 := Lib.hid e1
    clear e1
    go_enter Try.func16, Try.ntmps16
    go_wp2
    go_ret
    exact ⟨by rw [E1.out]; rfl, rfl⟩
set_option maxHeartbeats 400000 in
theorem leads_any (c : Cl) (n : Int) (w : World) : Calls Try.prog 14 #[.agg #[.int .i64 c.e, .int .i64 c.h, .int .i64 c.u], .int .i64 n] w fun e w' => e = .returned (.bool (leadsS c n)) ∧ w.alloc (.cells #[.int .i64 c.e, .int .i64 c.h, .int .i64 c.u] 23) = w' := by
  by_cases h1 : 0 < c.e
  · have e1 : leadsS c n = decide (n < c.u) := by unfold leadsS; rw [decide_eq_true h1]; rfl
    have E1 := Lib.hid e1
    clear e1
    go_enter Try.func14, Try.ntmps14
    go_wp2
    go_ret
    exact ⟨by rw [E1.out]; rfl, rfl⟩
  · have e1 : leadsS c n = false := by unfold leadsS; rw [decide_eq_false h1]; rfl
    have E1 := Lib.hid e1
    clear e1
    go_enter Try.func14, Try.ntmps14
    go_wp2
    go_ret
    exact ⟨by rw [E1.out]; rfl, rfl⟩
set_option maxHeartbeats 400000 in
theorem rleads_any (c : Cl) (n : Int) (w : World) : Calls Try.prog 23 #[.agg #[.int .i64 c.e, .int .i64 c.h, .int .i64 c.u], .int .i64 n] w fun e w' => e = .returned (.bool (leadsS c n)) ∧ w.alloc (.cells #[.int .i64 c.e, .int .i64 c.h, .int .i64 c.u] 23) = w' := by
  by_cases h1 : 0 < c.e
  · have e1 : leadsS c n = decide (n < c.u) := by unfold leadsS; rw [decide_eq_true h1]; rfl
    have E1 := Lib.hid e1
    clear e1
    go_enter Try.func23, Try.ntmps23
    go_wp2
    go_ret
    exact ⟨by rw [E1.out]; rfl, rfl⟩
  · have e1 : leadsS c n = false := by unfold leadsS; rw [decide_eq_false h1]; rfl
    have E1 := Lib.hid e1
    clear e1
    go_enter Try.func23, Try.ntmps23
    go_wp2
    go_ret
    exact ⟨by rw [E1.out]; rfl, rfl⟩
set_option maxHeartbeats 400000 in
theorem held_any (c : Cl) (h n : Int) (w : World) (hb : -9223372036854775808 ≤ c.u) : Calls Try.prog 25 #[.agg #[.int .i64 c.e, .int .i64 c.h, .int .i64 c.u], .int .i64 h, .int .i64 n] w fun e w' => e = .returned (.bool (heldS c h n)) ∧ w.alloc (.cells #[.int .i64 c.e, .int .i64 c.h, .int .i64 c.u] 23) = w' := by
  by_cases h1 : c.e ≤ 0
  · have e1 : (heldS c h n) = false := by unfold heldS; rw [decide_eq_true h1]; rfl
    have E1 := Lib.hid e1
    clear e1
    go_enter Try.func25, Try.ntmps25
    go_wp2
    go_ret
    exact ⟨by rw [E1.out]; rfl, rfl⟩
  by_cases h2 : c.h = h
  · have e1 : (heldS c h n) = false := by unfold heldS; rw [decide_eq_true h2, decide_eq_false h1]; rfl
    have E1 := Lib.hid e1
    clear e1
    have q : (c.h == h) = true := by simpa using h2
    clear h2
    go_enter Try.func25, Try.ntmps25
    go_wp2
    go_ret
    exact ⟨by rw [E1.out]; rfl, rfl⟩
  have q : (c.h == h) = false := by simpa using h2
  by_cases h3 : 2199023255552 < c.u
  · have e1 : (heldS c h n) = true := by unfold heldS; rw [decide_eq_false h1, decide_eq_false h2, decide_eq_true h3]; rfl
    have E1 := Lib.hid e1
    clear e1
    go_enter Try.func25, Try.ntmps25
    go_wp2
    go_ret
    exact ⟨by rw [E1.out]; rfl, rfl⟩
  · have e1 : (heldS c h n) = decide (n < c.u + 2) := by unfold heldS; rw [decide_eq_false h1, decide_eq_false h2, decide_eq_false h3]; rfl
    have E1 := Lib.hid e1
    clear e1
    go_enter Try.func25, Try.ntmps25
    go_wp2
    go_ret
    exact ⟨by rw [E1.out]; rfl, rfl⟩
set_option maxHeartbeats 400000 in
theorem rfree_any (c : Cl) (h n : Int) (w : World) (hb : -9223372036854775808 ≤ c.u) : Calls Try.prog 26 #[.agg #[.int .i64 c.e, .int .i64 c.h, .int .i64 c.u], .int .i64 h, .int .i64 n] w fun e w' => e = .returned (.bool (!heldS c h n)) ∧ w.alloc (.cells #[.int .i64 c.e, .int .i64 c.h, .int .i64 c.u] 23) = w' := by
  by_cases h1 : c.e ≤ 0
  · have e1 : (!heldS c h n) = true := by unfold heldS; rw [decide_eq_true h1]; rfl
    have E1 := Lib.hid e1
    clear e1
    go_enter Try.func26, Try.ntmps26
    go_wp2
    go_ret
    exact ⟨by rw [E1.out]; rfl, rfl⟩
  by_cases h2 : c.h = h
  · have e1 : (!heldS c h n) = true := by unfold heldS; rw [decide_eq_true h2, decide_eq_false h1]; rfl
    have E1 := Lib.hid e1
    clear e1
    have q : (c.h == h) = true := by simpa using h2
    clear h2
    go_enter Try.func26, Try.ntmps26
    go_wp2
    go_ret
    exact ⟨by rw [E1.out]; rfl, rfl⟩
  have q : (c.h == h) = false := by simpa using h2
  by_cases h3 : 2199023255552 < c.u
  · have e1 : (!heldS c h n) = false := by unfold heldS; rw [decide_eq_false h1, decide_eq_false h2, decide_eq_true h3]; rfl
    have E1 := Lib.hid e1
    clear e1
    go_enter Try.func26, Try.ntmps26
    go_wp2
    go_ret
    exact ⟨by rw [E1.out]; rfl, rfl⟩
  · have e1 : (!heldS c h n) = decide (c.u + 2 ≤ n) := by unfold heldS; rw [decide_eq_false h1, decide_eq_false h2, decide_eq_false h3]; simp; by_cases h4 : n < c.u + 2 <;> simp [h4] <;> omega
    have E1 := Lib.hid e1
    clear e1
    go_enter Try.func26, Try.ntmps26
    go_wp2
    go_ret
    exact ⟨by rw [E1.out]; rfl, rfl⟩
end Go.Proofs.Ytcpaimgenfbidaa
