/- The law DiskSnaps: small parts. -/
import Derived.Test.YtpkefkoimlecjaaDoorCommit2
import Derived.Test.YtpkefkoimlecjaaDoorAwake
import Derived.Test.YtpkefkoimlecjaaDoorHeldW
import Derived.Deep.RegionHeld3
namespace Go.Proofs.YtpkefkoimlecjaaDoor
open Go.RowKit

/-- The bytes of b that a cut behind n lets through. -/
def thru (cut : Int) (n : Nat) : Nat := (min (max cut 0) (n : Int)).toNat
theorem thru_le (cut : Int) (n : Nat) : thru cut n ≤ n := by unfold thru; omega
theorem thru_int (cut : Int) (n : Nat) : min (max cut 0) (n : Int) = (thru cut n : Int) := by unfold thru; omega
theorem thru_lt (cut : Int) (n : Nat) : max cut 0 < (n : Int) ↔ thru cut n < n := by unfold thru; omega

/-- A slice of bytes turned to a text, wherever it is read. -/
theorem zc {w : World} {B c n : Nat} {A : Option Addr} {l : List UInt8} (h : BytesIn w B A c l) (hn : n = l.length) : (convert 22 9 (.slice A n c)).run Tryd.prog w = .ok (.string (str l)) w :=
  run_string h hn 22 5 9 Tryd.underlying22 Tryd.underlying5 Tryd.underlying9

end Go.Proofs.YtpkefkoimlecjaaDoor
