/- The law DiskSnaps: the walk. -/
import Derived.Test.YtpkefkoimlecjaaDoorSnapF
import Derived.Test.YtpkefkoimlecjaaDoorSnapA
import Derived.Test.YtpkefkoimlecjaaDoorSnapB
import Derived.Test.YtpkefkoimlecjaaDoorSnapC
namespace Go.Proofs.YtpkefkoimlecjaaDoor
open Go.RowKit

theorem law_snaps (A1 A2 : Option Addr) (c1 c2 n1 n2 : Nat) (l1 l2 : List UInt8) (cut at_ : Int) (cuts : Bool) (w : World) (h1 : BytesIn w w.heap.size A1 c1 l1) (hn1 : n1 = l1.length) (h2 : BytesIn w w.heap.size A2 c2 l2) (hn2 : n2 = l2.length) (h0 : 0 < w.heap.size) (hh : Hal w) :
    Calls Tryd.prog 3 #[.slice A1 n1 c1, .slice A2 n2 c2, .agg #[.int .i64 cut, .int .i64 at_, .bool cuts]] w fun e w' => e = .returned (.bool true) ∧ Below w.heap.size w w' := by
  cases cuts
  · exact snaps_f A1 A2 c1 c2 n1 n2 l1 l2 cut at_ w h1 hn1 h2 hn2 h0 hh
  · by_cases h : thru cut n2 < n2
    · by_cases hc : crc (l2.take (thru cut n2)) = crc l2
      · exact snaps_a A1 A2 c1 c2 n1 n2 l1 l2 cut at_ w h1 hn1 h2 hn2 h0 hh h hc
      · exact snaps_b A1 A2 c1 c2 n1 n2 l1 l2 cut at_ w h1 hn1 h2 hn2 h0 hh h hc
    · exact snaps_c A1 A2 c1 c2 n1 n2 l1 l2 cut at_ w h1 hn1 h2 hn2 h0 hh h
end Go.Proofs.YtpkefkoimlecjaaDoor
