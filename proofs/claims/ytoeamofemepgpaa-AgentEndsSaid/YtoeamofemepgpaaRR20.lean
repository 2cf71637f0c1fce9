/- Chapter 20: the document's Right (chapter 03). -/
import Derived.Test.YtoeamofemepgpaaRight
namespace Go.Proofs.Ytoeamofemepgpaa
open Go.RowKit

def rB (a b c d : Int) : Bool := okb a && okb b && okb c && okb d
set_option maxHeartbeats 1000000 in
theorem rright_any (a b c d : Int) (w : World) : Calls Try.prog 15 #[.agg #[.int .i64 a, .int .i64 b, .int .i64 c, .int .i64 d]] w fun e w' => e = .returned (.bool (rB a b c d)) ∧ Below w.heap.size w w' := by
  have HB := Lib.hid ((Below.refl w.heap.size w).alloc (Nat.le_refl _) (.cells #[.int .i64 a, .int .i64 b, .int .i64 c, .int .i64 d] 26))
  have hr : rB a b c d = (((decide (0 ≤ a) && decide (0 ≤ b) && decide (0 ≤ c) && decide (0 ≤ d)) && decide (a ≤ 1073741824) && decide (b ≤ 1073741824) && decide (c ≤ 1073741824) && decide (d ≤ 1073741824))) := by
    unfold rB okb
    cases decide (0 ≤ a) <;> cases decide (0 ≤ b) <;> cases decide (0 ≤ c) <;> cases decide (0 ≤ d) <;> cases decide (a ≤ 1073741824) <;> cases decide (b ≤ 1073741824) <;> cases decide (c ≤ 1073741824) <;> cases decide (d ≤ 1073741824) <;> rfl
  rw [hr]
  clear hr
  rcases Classical.em (0 ≤ a) with h0 | h0
  rotate_left
  ·
    go_enter Try.func15, Try.ntmps15
    go_wp2_with fail
    go_ret
    exact ⟨by simp [*] <;> omega, HB.out⟩
  rcases Classical.em (0 ≤ b) with h1 | h1
  rotate_left
  ·
    go_enter Try.func15, Try.ntmps15
    go_wp2_with fail
    go_ret
    exact ⟨by simp [*] <;> omega, HB.out⟩
  rcases Classical.em (0 ≤ c) with h2 | h2
  rotate_left
  ·
    go_enter Try.func15, Try.ntmps15
    go_wp2_with fail
    go_ret
    exact ⟨by simp [*] <;> omega, HB.out⟩
  rcases Classical.em (0 ≤ d) with h3 | h3
  rotate_left
  ·
    go_enter Try.func15, Try.ntmps15
    go_wp2_with fail
    go_ret
    exact ⟨by simp [*] <;> omega, HB.out⟩
  rcases Classical.em (a ≤ 1073741824) with h4 | h4
  rotate_left
  ·
    go_enter Try.func15, Try.ntmps15
    go_wp2_with fail
    go_ret
    exact ⟨by simp [*] <;> omega, HB.out⟩
  rcases Classical.em (b ≤ 1073741824) with h5 | h5
  rotate_left
  ·
    go_enter Try.func15, Try.ntmps15
    go_wp2_with fail
    go_ret
    exact ⟨by simp [*] <;> omega, HB.out⟩
  rcases Classical.em (c ≤ 1073741824) with h6 | h6
  rotate_left
  ·
    go_enter Try.func15, Try.ntmps15
    go_wp2_with fail
    go_ret
    exact ⟨by simp [*] <;> omega, HB.out⟩
  rcases Classical.em (d ≤ 1073741824) with h7 | h7
  rotate_left
  ·
    go_enter Try.func15, Try.ntmps15
    go_wp2_with fail
    go_ret
    exact ⟨by simp [*] <;> omega, HB.out⟩
  go_enter Try.func15, Try.ntmps15
  go_wp2_with fail
  go_ret
  exact ⟨by simp [*] <;> omega, HB.out⟩
end Go.Proofs.Ytoeamofemepgpaa
