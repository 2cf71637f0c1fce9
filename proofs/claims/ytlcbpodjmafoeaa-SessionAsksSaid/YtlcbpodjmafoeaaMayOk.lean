/- What May says, and what Check says, of a message that asks and of a reply. -/
import Derived.Test.YtlcbpodjmafoeaaMay
import Derived.Test.YtlcbpodjmafoeaaCheck
namespace Go.Proofs.Ytlcbpodjmafoeaa
open Go.RowKit

theorem may7 (v : Nat → Int) (n : Nat) (hk : v 0 = 7) : mayB v n = true ↔ OkL [⟨1, 0, 1099511627776⟩, ⟨15, 1, 16⟩, ⟨16, 1, 1099511627776⟩] v n 4096 := by
  unfold mayB mB4 mB5 mB6 mB7 rgB lnB OkL Nil zap noL fitV
  rw [hk]
  simp [oB, wB, epB, clB, okb]
  constructor
  · intro h; omega
  · intro h; omega
theorem may8 (v : Nat → Int) (n : Nat) (hk : v 0 = 8) : mayB v n = true ↔ OkL [⟨1, 0, 1099511627776⟩, ⟨15, 1, 16⟩, ⟨16, 1, 1099511627776⟩, ⟨18, 0, 999⟩, ⟨19, 0, 100⟩, ⟨20, 0, 100⟩] v n 0 := by
  unfold mayB mB4 mB5 mB6 mB7 rgB lnB OkL Nil zap noL fitV
  rw [hk]
  simp [oB, wB, epB, clB, okb]
  constructor
  · intro h; omega
  · intro h; omega
end Go.Proofs.Ytlcbpodjmafoeaa
