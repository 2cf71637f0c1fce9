/- The document unpacks any bytes. -/
import Derived.Test.YtkenaoejijpgpaaDoorRUnpA
import Derived.Test.YtkenaoejijpgpaaDoorRUnpB
import Derived.Test.YtkenaoejijpgpaaDoorRUnpC
import Derived.Test.YtkenaoejijpgpaaDoorRUnpD
namespace Go.Proofs.YtkenaoejijpgpaaDoor
open Go.RowKit

theorem runpack_any (A : Option Addr) (n c : Nat) (l : List UInt8) (w : World) (hb : BytesIn w w.heap.size A c l) (hn : n = l.length) :
    Calls Tryd.prog 16 #[.slice A n c] w fun e w' => UnpAt l w e w' := by
  by_cases hE : lookE l = 0
  · by_cases hr : num4 l + 8 < l.length
    · exact runp_rest A n c l w hb hn hE hr
    · by_cases he : (ruS (bodyRd l)).e = 0
      · cases hk : kB (upK l)
        · exact runp_bad A n c l w hb hn hE hr hk he
        · rcases kB_cases hk with h | h | h | h | h | h | h | h
          · exact runp_1 A n c l w hb hn hE hr h
          · exact runp_2 A n c l w hb hn hE hr h
          · exact runp_3 A n c l w hb hn hE hr h
          · exact runp_4 A n c l w hb hn hE hr h
          · exact runp_5 A n c l w hb hn hE hr h
          · exact runp_6 A n c l w hb hn hE hr h
          · exact runp_7 A n c l w hb hn hE hr h
          · exact runp_8 A n c l w hb hn hE hr h
      · exact runp_err A n c l w hb hn hE hr he
  · exact runp_no A n c l w hb hn hE
end Go.Proofs.YtkenaoejijpgpaaDoor
