/- The document's May: its small parts. -/
import Derived.Test.YtkenaoejijpgpaaDoorRight
namespace Go.Proofs.YtkenaoejijpgpaaDoor
open Go.RowKit

def wB (n lo hi : Int) : Bool := decide (lo ≤ n) && decide (n ≤ hi)
def oB (is : Bool) (n lo hi : Int) : Bool := if is then wB n lo hi else n == 0
def epB (k : Int) : Bool := k == 2 || k == 3 || k == 4 || k == 6 || k == 7 || k == 8
def clB (k : Int) : Bool := k == 7 || k == 8
theorem within_any (n lo hi : Int) (w : World) : Calls Tryd.prog 27 #[.int .i64 n, .int .i64 lo, .int .i64 hi] w fun e w' => e = .returned (.bool (wB n lo hi)) ∧ w = w' := by
  by_cases h1 : lo ≤ n <;> by_cases h2 : n ≤ hi
  all_goals
    obtain ⟨b, hr⟩ : ∃ b, wB n lo hi = b := ⟨_, rfl⟩
    have HR := Lib.hid hr
    have hb : b = (decide (lo ≤ n) && decide (n ≤ hi)) := hr.symm
    have HB := Lib.hid hb
    clear hr hb
    go_enter Tryd.func27, Tryd.ntmps27
    go_wp2_with fail
    go_ret
    exact ⟨by rw [HR.out, HB.out]; simp; omega, rfl⟩
theorem own_any (is : Bool) (n lo hi : Int) (w : World) : Calls Tryd.prog 28 #[.bool is, .int .i64 n, .int .i64 lo, .int .i64 hi] w fun e w' => e = .returned (.bool (oB is n lo hi)) ∧ w = w' := by
  cases is
  · go_enter Tryd.func28, Tryd.ntmps28
    go_wp2_with fail
    go_ret
    exact ⟨rfl, rfl⟩
  · go_enter Tryd.func28, Tryd.ntmps28
    go_wp2_with fail
    refine (within_any _ _ _ _).mono ?_
    rintro e w' ⟨rfl, rfl⟩
    go_wp2_with fail
    go_ret
    exact ⟨rfl, rfl⟩
theorem node_any (k : Int) (w : World) : Calls Tryd.prog 30 #[.int .i64 k] w fun e w' => e = .returned (.bool (wB k 1 6)) ∧ w = w' := by
  go_enter Tryd.func30, Tryd.ntmps30
  go_wp2_with fail
  refine (within_any _ _ _ _).mono ?_
  rintro e w' ⟨rfl, rfl⟩
  go_wp2_with fail
  go_ret
  exact ⟨rfl, rfl⟩
theorem job_any (k : Int) (w : World) : Calls Tryd.prog 31 #[.int .i64 k] w fun e w' => e = .returned (.bool (wB k 3 6)) ∧ w = w' := by
  go_enter Tryd.func31, Tryd.ntmps31
  go_wp2_with fail
  refine (within_any _ _ _ _).mono ?_
  rintro e w' ⟨rfl, rfl⟩
  go_wp2_with fail
  go_ret
  exact ⟨rfl, rfl⟩
theorem client_any (k : Int) (w : World) : Calls Tryd.prog 32 #[.int .i64 k] w fun e w' => e = .returned (.bool (clB k)) ∧ w = w' := by
  unfold clB
  rcases Classical.em (k = 7) with rfl | h1
  · go_enter Tryd.func32, Tryd.ntmps32
    go_wp2_with fail
    go_ret
    exact ⟨rfl, rfl⟩
  · have b1 : (k == 7) = false := by simpa using h1
    go_enter Tryd.func32, Tryd.ntmps32
    go_wp2_with fail
    go_ret
    exact ⟨by simp [h1], rfl⟩
theorem epoch_any (k : Int) (w : World) : Calls Tryd.prog 29 #[.int .i64 k] w fun e w' => e = .returned (.bool (epB k)) ∧ w = w' := by
  unfold epB
  rcases Classical.em (k = 2) with rfl | h1
  · go_enter Tryd.func29, Tryd.ntmps29
    go_wp2_with fail
    go_ret
    exact ⟨rfl, rfl⟩
  rcases Classical.em (k = 3) with rfl | h2
  · go_enter Tryd.func29, Tryd.ntmps29
    go_wp2_with fail
    go_ret
    exact ⟨rfl, rfl⟩
  rcases Classical.em (k = 4) with rfl | h3
  · go_enter Tryd.func29, Tryd.ntmps29
    go_wp2_with fail
    go_ret
    exact ⟨rfl, rfl⟩
  rcases Classical.em (k = 6) with rfl | h4
  · go_enter Tryd.func29, Tryd.ntmps29
    go_wp2_with fail
    go_ret
    exact ⟨rfl, rfl⟩
  rcases Classical.em (k = 7) with rfl | h5
  · go_enter Tryd.func29, Tryd.ntmps29
    go_wp2_with fail
    go_ret
    exact ⟨rfl, rfl⟩
  · have b1 : (k == 2) = false := by simpa using h1
    have b2 : (k == 3) = false := by simpa using h2
    have b3 : (k == 4) = false := by simpa using h3
    have b4 : (k == 6) = false := by simpa using h4
    have b5 : (k == 7) = false := by simpa using h5
    go_enter Tryd.func29, Tryd.ntmps29
    go_wp2_with fail
    go_ret
    exact ⟨by simp [h1, h2, h3, h4, h5], rfl⟩
def rB (a b c d : Int) : Bool := okb a && okb b && okb c && okb d
set_option maxHeartbeats 1000000 in
theorem rright_any (a b c d : Int) (w : World) : Calls Tryd.prog 33 #[.agg #[.int .i64 a, .int .i64 b, .int .i64 c, .int .i64 d]] w fun e w' => e = .returned (.bool (rB a b c d)) ∧ Below w.heap.size w w' := by
  have HB := Lib.hid ((Below.refl w.heap.size w).alloc (Nat.le_refl _) (.cells #[.int .i64 a, .int .i64 b, .int .i64 c, .int .i64 d] 23))
  have hr : rB a b c d = (((decide (0 ≤ a) && decide (0 ≤ b) && decide (0 ≤ c) && decide (0 ≤ d)) && decide (a ≤ 1073741824) && decide (b ≤ 1073741824) && decide (c ≤ 1073741824) && decide (d ≤ 1073741824))) := by
    unfold rB okb
    cases decide (0 ≤ a) <;> cases decide (0 ≤ b) <;> cases decide (0 ≤ c) <;> cases decide (0 ≤ d) <;> cases decide (a ≤ 1073741824) <;> cases decide (b ≤ 1073741824) <;> cases decide (c ≤ 1073741824) <;> cases decide (d ≤ 1073741824) <;> rfl
  rw [hr]
  clear hr
  rcases Classical.em (0 ≤ a) with h0 | h0
  rotate_left
  ·
    go_enter Tryd.func33, Tryd.ntmps33
    go_wp2_with fail
    go_ret
    exact ⟨by simp [*] <;> omega, HB.out⟩
  rcases Classical.em (0 ≤ b) with h1 | h1
  rotate_left
  ·
    go_enter Tryd.func33, Tryd.ntmps33
    go_wp2_with fail
    go_ret
    exact ⟨by simp [*] <;> omega, HB.out⟩
  rcases Classical.em (0 ≤ c) with h2 | h2
  rotate_left
  ·
    go_enter Tryd.func33, Tryd.ntmps33
    go_wp2_with fail
    go_ret
    exact ⟨by simp [*] <;> omega, HB.out⟩
  rcases Classical.em (0 ≤ d) with h3 | h3
  rotate_left
  ·
    go_enter Tryd.func33, Tryd.ntmps33
    go_wp2_with fail
    go_ret
    exact ⟨by simp [*] <;> omega, HB.out⟩
  rcases Classical.em (a ≤ 1073741824) with h4 | h4
  rotate_left
  ·
    go_enter Tryd.func33, Tryd.ntmps33
    go_wp2_with fail
    go_ret
    exact ⟨by simp [*] <;> omega, HB.out⟩
  rcases Classical.em (b ≤ 1073741824) with h5 | h5
  rotate_left
  ·
    go_enter Tryd.func33, Tryd.ntmps33
    go_wp2_with fail
    go_ret
    exact ⟨by simp [*] <;> omega, HB.out⟩
  rcases Classical.em (c ≤ 1073741824) with h6 | h6
  rotate_left
  ·
    go_enter Tryd.func33, Tryd.ntmps33
    go_wp2_with fail
    go_ret
    exact ⟨by simp [*] <;> omega, HB.out⟩
  rcases Classical.em (d ≤ 1073741824) with h7 | h7
  rotate_left
  ·
    go_enter Tryd.func33, Tryd.ntmps33
    go_wp2_with fail
    go_ret
    exact ⟨by simp [*] <;> omega, HB.out⟩
  go_enter Tryd.func33, Tryd.ntmps33
  go_wp2_with fail
  go_ret
  exact ⟨by simp [*] <;> omega, HB.out⟩
end Go.Proofs.YtkenaoejijpgpaaDoor
