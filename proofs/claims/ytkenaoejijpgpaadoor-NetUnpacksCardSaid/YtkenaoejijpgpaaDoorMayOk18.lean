/- What May says, and what Check says, of any message. -/
import Derived.Test.YtkenaoejijpgpaaDoorMay
import Derived.Test.YtkenaoejijpgpaaDoorChk
namespace Go.Proofs.YtkenaoejijpgpaaDoor
open Go.RowKit

theorem mayk_1 (v : Nat → Int) (n : Nat) (hk : v 0 = 1) : mayB v n = true ↔ OkL (flK (v 0)) v n (mostK (v 0)) := by
  unfold mayB mB4 mB5 mB6 mB7 rgB lnB mostK
  rw [hk, flK_1]
  unfold OkL Nil zap noL fitV
  simp [oB, wB, epB, clB, okb]
  constructor
  · intro h; omega
  · intro h; omega
theorem mayk_2 (v : Nat → Int) (n : Nat) (hk : v 0 = 2) : mayB v n = true ↔ OkL (flK (v 0)) v n (mostK (v 0)) := by
  unfold mayB mB4 mB5 mB6 mB7 rgB lnB mostK
  rw [hk, flK_2]
  unfold OkL Nil zap noL fitV
  simp [oB, wB, epB, clB, okb]
  constructor
  · intro h; omega
  · intro h; omega
theorem mayk_3 (v : Nat → Int) (n : Nat) (hk : v 0 = 3) : mayB v n = true ↔ OkL (flK (v 0)) v n (mostK (v 0)) := by
  unfold mayB mB4 mB5 mB6 mB7 rgB lnB mostK
  rw [hk, flK_3]
  unfold OkL Nil zap noL fitV
  simp [oB, wB, epB, clB, okb, rB]
  constructor
  · intro h; omega
  · intro h; omega
theorem mayk_4 (v : Nat → Int) (n : Nat) (hk : v 0 = 4) : mayB v n = true ↔ OkL (flK (v 0)) v n (mostK (v 0)) := by
  unfold mayB mB4 mB5 mB6 mB7 rgB lnB mostK
  rw [hk, flK_4]
  unfold OkL Nil zap noL fitV
  simp [oB, wB, epB, clB, okb]
  constructor
  · intro h; omega
  · intro h; omega
theorem mayk_5 (v : Nat → Int) (n : Nat) (hk : v 0 = 5) : mayB v n = true ↔ OkL (flK (v 0)) v n (mostK (v 0)) := by
  unfold mayB mB4 mB5 mB6 mB7 rgB lnB mostK
  rw [hk, flK_5]
  unfold OkL Nil zap noL fitV
  simp [oB, wB, epB, clB, okb]
  constructor
  · intro h; omega
  · intro h; omega
theorem mayk_6 (v : Nat → Int) (n : Nat) (hk : v 0 = 6) : mayB v n = true ↔ OkL (flK (v 0)) v n (mostK (v 0)) := by
  unfold mayB mB4 mB5 mB6 mB7 rgB lnB mostK
  rw [hk, flK_6]
  unfold OkL Nil zap noL fitV
  simp [oB, wB, epB, clB, okb]
  constructor
  · intro h; omega
  · intro h; omega
theorem mayk_7 (v : Nat → Int) (n : Nat) (hk : v 0 = 7) : mayB v n = true ↔ OkL (flK (v 0)) v n (mostK (v 0)) := by
  unfold mayB mB4 mB5 mB6 mB7 rgB lnB mostK
  rw [hk, flK_7]
  unfold OkL Nil zap noL fitV
  simp [oB, wB, epB, clB, okb]
  constructor
  · intro h; omega
  · intro h; omega
theorem mayk_8 (v : Nat → Int) (n : Nat) (hk : v 0 = 8) : mayB v n = true ↔ OkL (flK (v 0)) v n (mostK (v 0)) := by
  unfold mayB mB4 mB5 mB6 mB7 rgB lnB mostK
  rw [hk, flK_8]
  unfold OkL Nil zap noL fitV
  simp [oB, wB, epB, clB, okb]
  constructor
  · intro h; omega
  · intro h; omega
theorem may_ok (v : Nat → Int) (n : Nat) : mayB v n = true ↔ OkM v n := by
  cases hk : kB (v 0)
  · have h1 : wB (v 0) 1 8 = false := hk
    unfold mayB OkM
    rw [h1, hk]
    simp
  · unfold OkM
    rw [hk]
    rcases kB_cases hk with h | h | h | h | h | h | h | h
    · exact (mayk_1 v n h).trans ⟨fun h => ⟨rfl, h⟩, fun h => h.2⟩
    · exact (mayk_2 v n h).trans ⟨fun h => ⟨rfl, h⟩, fun h => h.2⟩
    · exact (mayk_3 v n h).trans ⟨fun h => ⟨rfl, h⟩, fun h => h.2⟩
    · exact (mayk_4 v n h).trans ⟨fun h => ⟨rfl, h⟩, fun h => h.2⟩
    · exact (mayk_5 v n h).trans ⟨fun h => ⟨rfl, h⟩, fun h => h.2⟩
    · exact (mayk_6 v n h).trans ⟨fun h => ⟨rfl, h⟩, fun h => h.2⟩
    · exact (mayk_7 v n h).trans ⟨fun h => ⟨rfl, h⟩, fun h => h.2⟩
    · exact (mayk_8 v n h).trans ⟨fun h => ⟨rfl, h⟩, fun h => h.2⟩
end Go.Proofs.YtkenaoejijpgpaaDoor
