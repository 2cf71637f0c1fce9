/- A region that draws its order, inside a round of a range over a function: by the plain walk of its orders. -/
import Derived.Test.YtoeamofemepgpaaOver
import Derived.OrdersIn
import Derived.Deep.RegionHeld3
import Derived.RangeFuncCalls
namespace Go.Proofs.Ytoeamofemepgpaa
open Go.RowKit

/-- Q where it goes on, else 'False'. -/
def OnlyN (Q : Exit → Act → World → Prop) : Exit → Act → World → Prop
  | .normal, a, w => Q .normal a w
  | _, _, _ => False
theorem OnlyN.normal {Q : Exit → Act → World → Prop} {a : Act} {w : World} (h : Q .normal a w) : OnlyN Q .normal a w := h
theorem OnlyN.noOut {Q : Exit → Act → World → Prop} : ¬ LetsOut (OnlyN Q) := fun ⟨_, _, h⟩ => h
/-- No operation defers a call. -/
def noDefers (ops : Array Oper) : Bool := ops.all fun o => match o.op with | .defer _ => false | _ => true
theorem upon_in {P : Program} {o : Oper} {a : Act} {next : Act → World → Prop} {Q : Exit → Act → World → Prop} {l n : Nat} {r : Result Next} (h : o.upon P a next (OnlyN Q) r) : o.uponIn (Fence.wide.inRound l) n P a next (OnlyN Q) r := by
  cases r with
  | ok v w' =>
    cases v with
    | value v => exact h
    | skip => exact h
    | defer d => exact h
    | enter f args => exact ⟨fun hd => by simp [Fence.wide] at hd, CallsIn.inRound l (callsIn_wide.2 (Calls.mono h (fun e w'' h' => by cases e <;> exact h')))⟩
    | row r args => exact ⟨fun hd => by simp [Fence.wide] at hd, fun c cs _ => let ⟨v, w'', r, s⟩ := h c cs; ⟨v, w'', r, stepsIn_wide.2 s⟩⟩
    | _ => exact h.elim
  | halt x w' =>
    cases x with
    | panic v => exact h
    | _ => exact h.elim
theorem any_in {P : Program} {ops : Array Oper} {S : World → Prop} {Q : Exit → Act → World → Prop} {l n : Nat} (hd : noDefers ops = true) : ∀ (fuel : Nat) (listed : Array Bool) (a : Act) (w : World), wpAnyH P .any ops (OnlyN Q) S fuel listed a w → wpAnyIn (Fence.wide.inRound l) n P .any ops (OnlyN Q) fuel listed a w
  | 0, _, _, _, h => h
  | fuel + 1, listed, a, w, h => ⟨h.1, fun i hi => by
      have h2 := h.2 i hi
      have ih := fun a w => any_in (P := P) (S := S) (Q := Q) (l := l) (n := n) hd fuel (listed.setIfInBounds i true) a w
      unfold wpOp at h2
      unfold wpOpIn
      cases ho : ops[i]? with
      | none => rw [ho] at h2; exact ih _ _ h2.2
      | some o =>
        rw [ho] at h2
        have hmem : o ∈ ops := Array.mem_of_getElem? ho
        have hnd : ∀ c, o.op ≠ .defer c := fun c e => by
          have := (Array.all_eq_true_iff_forall_mem.1 hd) o hmem
          rw [e] at this
          cases this
        dsimp only at h2 ⊢
        split at h2
        · rename_i hw
          rw [if_pos hw]
          rcases h2 with h2 | h2
          · refine ⟨fun _ _ => trivial, ?_⟩
            rw [Oper.semAt_eq _ _ _ hnd]
            refine upon_in ?_
            exact Oper.wp_mono (fun a w h => ih a w h.2) h2
          · exact (OnlyN.noOut h2.2).elim
        · rename_i hw
          rw [if_neg hw]
          exact ⟨fun _ _ => trivial, ih _ _ h2.2⟩⟩
theorem region_in {P : Program} {id : Nat} {ops : Array Oper} {S : World → Prop} {Q : Exit → Act → World → Prop} {l n : Nat} {a : Act} {w : World} (hm : P.follows .mixedOrders = true) (hd : noDefers ops = true) (hS : S w.drew)
    (h : S w.drew → wpAnyH P .any ops (OnlyN Q) S ops.size (Array.replicate ops.size false) a w.drew) : (Code.region id ops true).wpIn (Fence.wide.inRound l) n P Q a w := by
  have := wpIn_region_any (id := id) (w := w) hm (any_in (l := l) (n := n) hd _ _ _ _ (h hS))
  exact wpIn_mono this (fun e a w h => by cases e <;> first | exact h | exact (h : False).elim)
end Go.Proofs.Ytoeamofemepgpaa
