/- Chapter 20: AgentTells. -/
import Derived.Test.YtoeamofemepgpaaTellsA
import Derived.Test.YtoeamofemepgpaaTellsB
namespace Go.Proofs.Ytoeamofemepgpaa
open Go.RowKit

theorem law_tells (w : World) (j tk wl : Int) :
    Calls Try.prog 3 #[.int .i64 j, .int .i64 tk, .int .i64 wl] w fun e w' => e = .returned (.bool true) ∧ Below w.heap.size w w' := by
  by_cases h : j < 1 ∨ 100 < j ∨ tk < 1 ∨ 20 < tk ∨ wl < 1 ∨ 20 < wl
  · exact tells_out w j tk wl h
  · by_cases hc : tk ≤ wl
    · exact tells_done w j tk wl (by omega) (by omega) (by omega) hc
    · exact tells_wall w j tk wl (by omega) (by omega) (by omega) (by omega)
end Go.Proofs.Ytoeamofemepgpaa
