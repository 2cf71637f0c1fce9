/- Chapter 20: the iterator over what runs. -/
import Derived.RangeFuncNested
import Derived.RangeFuncBound
import Derived.RangeFuncCalls
import Derived.RangeFuncLeaves
import Derived.WalkKit
import Derived.OwnWalkIn
import Derived.TacticsInMore
import Derived.LoopNIn
import Derived.LoopIn
import Derived.Test.YtoeamofemepgpaaAg0
namespace Go.Proofs.Ytoeamofemepgpaa
open Go.RowKit
attribute [local go_sem] Oper.semAt_some

def Run0 (A bx : Nat) (RA : Option Addr) (n c : Nat) (W : World) : Prop := W.cell? ⟨bx, 0, none⟩ = some (.pointer (some ⟨A, 0, none⟩)) ∧ W.cell? ⟨A, 15, none⟩ = some (.slice RA n c)
def RunRd (A rb i : Nat) (W : World) (o : Option (Array Value)) : Prop :=
  ∃ b p u, W.cell? ⟨rb, i, none⟩ = some (.pointer (some ⟨b, 0, none⟩)) ∧ PtAt W b p ∧ W.cell? ⟨A, 10, none⟩ = some (.int .i64 u) ∧
    (match o with | none => p.how ≠ 0 | some vs => p.how = 0 ∧ vs = #[.pointer (some ⟨b, 0, none⟩), .int .i64 (p.upto u)])

set_option maxHeartbeats 2000000 in
theorem run_iter (A bx rb n c : Nat) (RA : Option Addr) (hRA : 0 < n → RA = some ⟨rb, 0, none⟩) (hn : n ≤ 100000000) :
    Iter Try.prog 37 #[.pointer (some ⟨bx, 0, none⟩)] n (Run0 A bx RA n c) (RunRd A rb) := by
  intro m l J W hdr h0 hY hJ
  refine callsIn_of_wp Try.func37 rfl trivial ?_ rfl
  simp only [Try.ntmps37, List.size_toArray, List.length_cons, List.length_nil, Nat.reduceAdd, Nat.reduceSub, Array.replicate_succ, Array.replicate_zero, List.push_toArray, List.append_toArray, List.nil_append, List.cons_append]
  obtain ⟨g0, g1⟩ := h0 0 W hJ
  gi_wp2
  gi_loopw [10] (fun v wr => ∃ i : Nat, i ≤ n ∧ v = .int .i64 i ∧ J i wr) (fun v _ => n - (intOf v).toNat)
  case atStart => exact ⟨0, Nat.zero_le _, rfl, hJ⟩
  case round =>
    obtain ⟨i, hi, rfl, hJi⟩ := hrel
    by_cases hin : i < n
    · have hi0 : (0 : Int) ≤ (i : Int) := by omega
      have hi1 : (i : Int) < (n : Int) := by omega
      obtain rfl := hRA (by omega)
      rcases hY i wr hJi hin with ⟨⟨b, p, u, c0, hp, c1, hw⟩, hJ1⟩ | ⟨vs, ⟨b, p, u, c0, hp, c1, hw, rfl⟩, fn, tmps, assign, body, hy, hR⟩
      · have c2 := cellb (i := 9) hp rfl
        have hw' : ¬ p.how = 0 := hw
        gi_wp2
        refine ⟨trivial, ?_⟩
        gi_wp2
        refine ⟨fun _ h => (by cases h), ?_⟩
        gi_wp2
        go_roundw
        case rel => exact ⟨i + 1, by omega, by go_num, hJ1⟩
        case measure => simp [intOf]; omega
      · clear hR hy
        have c2 : wr.cell? ⟨b, 9, none⟩ = some (.int .i64 p.how) := cellb (i := 9) hp rfl
        rw [hw] at c2
        have g2 := (h0 i wr hJi).1
        have HU := Lib.hid (upto_any wr A b p u hp c1)
        have hk : RunRd A rb i wr.drew (some #[.pointer (some ⟨b, 0, none⟩), .int .i64 (p.upto u)]) ∧ YieldAt Fence.wide m Try.prog l #[.pointer (some ⟨b, 0, none⟩), .int .i64 (p.upto u)] wr.drew (fun e W' => e = .returned (.bool true) ∧ J (i + 1) W') := by
          rcases hY i wr.drew (hdr i wr hJi) hin with ⟨⟨b', p', u', d0, dp, d1, dw⟩, _⟩ | ⟨vs, ⟨b', p', u', d0, dp, d1, dw, rfl⟩, hyy⟩
          · exfalso
            have e0 := c0.symm.trans d0
            injection e0 with e0; injection e0 with e0; injection e0 with e0; injection e0 with e0
            subst e0
            have e2 := (cellb (i := 9) (show wr.heap[b]? = _ from dp) rfl).symm.trans c2
            injection e2 with e2; injection e2 with _ e2
            exact dw e2
          · have e0 := c0.symm.trans d0
            injection e0 with e0; injection e0 with e0; injection e0 with e0; injection e0 with e0
            subst e0
            have e1 := c1.symm.trans d1
            injection e1 with e1; injection e1 with _ e1
            subst e1
            have ep : p.upto u = p'.upto u := by
              have a7 := (cellb (i := 7) hp rfl).symm.trans (cellb (i := 7) (show wr.heap[b]? = _ from dp) rfl)
              have a8 := (cellb (i := 8) hp rfl).symm.trans (cellb (i := 8) (show wr.heap[b]? = _ from dp) rfl)
              injection a7 with a7; injection a7 with _ a7
              injection a8 with a8; injection a8 with _ a8
              unfold Pt.upto; rw [a7, a8]
            rw [ep]
            exact ⟨⟨b, p', u, d0, dp, d1, dw, rfl⟩, hyy⟩
        obtain ⟨_, fn, tmps, assign, body, hy, hR⟩ := hk
        gi_wp2_with (refine ⟨trivial, ?_⟩; gi_at_call 38; refine (callsIn_wide.2 HU.out).mono ?_; clear HU; rintro e w' ⟨rfl, rfl⟩)
        refine hR.mono ?_
        rintro e W' ⟨rfl, hJ'⟩
        gi_wp2
        go_roundw
        case rel => exact ⟨i + 1, by omega, by go_num, hJ'⟩
        case measure => simp [intOf]; omega
    · have hi1 : ¬ (i : Int) < (n : Int) := by omega
      obtain rfl : i = n := by omega
      gi_wp2
      go_end0
      exact ⟨⟨_, rfl⟩, hJi⟩
end Go.Proofs.Ytoeamofemepgpaa
