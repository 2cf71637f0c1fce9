/- A drawn region's condition may grow. -/
import Derived.Test.YtoeamofemepgpaaBase
import Derived.Deep.RegionHeld3
namespace Go.Proofs.Ytoeamofemepgpaa
open Go.RowKit

theorem wpAnyH_weaken {P : Program} {md : Region.Mode} {ops : Array Oper} {Q : Exit → Act → World → Prop} {S S' : World → Prop} (h : ∀ w, S' w → S w) :
    ∀ {fuel : Nat} {listed : Array Bool} {a : Act} {w : World}, wpAnyH P md ops Q S' fuel listed a w → wpAnyH P md ops Q S fuel listed a w := by
  intro fuel
  induction fuel with
  | zero => intro listed a w hw; exact hw
  | succ n ih =>
    intro listed a w hw
    refine ⟨hw.1, fun i hi => ?_⟩
    exact wpOp_mono (fun a' w' hk => ⟨h _ hk.1, ih hk.2⟩) (hw.2 i hi)
theorem str_append (a b : List UInt8) : str a ++ str b = str (a ++ b) := by
  unfold str
  ext1
  simp
end Go.Proofs.Ytoeamofemepgpaa
