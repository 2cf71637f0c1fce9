/-
  No cell of these rows narrows 'for every input' (looked for: loops, veiled, ifaces, maps, wideKeys, modest, calm, conditions, laid).
  DERIVED. THE GIVEN ROWS OF THIS SEAT. 5 by the template 'for every input the law returns true; each argument reads behind the call as it read before'; 0 by the template 'total and deterministic' (their statements: YtcpaimgenfbidaaTotals.lean).
  GIVEN WITH THE SEED: the statements are not yours to turn. If you find one false, say at which input.
  Laid BY PROGRAM, IN A SANDBOX (cutbox-rows.mjs): the forced cells as the released guide's own fill.sh prints them over the translation c5e3ce7405807571… (all of the seat's roots in one cut). By AI agents, Wed Nov 11 2026. No macro, syntax, notation, axiom, sorry.
-/
import Derived.Test.YtcpaimgenfbidaaChecked
import GoSem.Claim
import GoSem.ClaimJoined
import GoSem.ClaimMapViews
import Derived.JoinedTies
import Derived.KernelRfl
namespace Go.Proofs.Ytcpaimgenfbidaa
/- THE CELL 'sum', in the pinned program and in every row, IS THE sha256 OF THE DUMP (.gsa) THAT YtcpaimgenfbidaaProg.lean LOADS. Nothing in Lean hashes anything: it is a label: what it is worth is what the hold of that sum in a sandbox is worth. -/
noncomputable def Try.pinned : Pinned := { name := "ytcpaimgenfbidaa", sum := "c5e3ce7405807571d2384263fd24b15b115297c6f9761c55a7fc50c66f8cea97", checked := Try.checked }
namespace Rows
def none {H : Type} : Left H := { results := [], args := [] }

/-- 'corveelaw17.LeaseTakes': WHATEVER THE INPUT: true; the input reads as it did. -/
def leaseTakesSpec : ChangeSpec := { name := "leaseTakes", fn := fun _ => fun
  | [d1, d2, d3] => { results := [.lit (.bool true)], args := [d1, d2, d3] }
  | _ => none }
def leaseTakesRow : OpenClaim := { program := "ytcpaimgenfbidaa", sum := "c5e3ce7405807571d2384263fd24b15b115297c6f9761c55a7fc50c66f8cea97", func := "corvee/corveelaw17.LeaseTakes", spec := "leaseTakes", apart := false }
def LeaseTakesSaid : Prop := leaseTakesRow.holds Try.pinned (OpenSpec.ofChange leaseTakesSpec)

/-- ITS FALSE NEIGHBOUR: 'it returns false'. Refute it at one input. -/
def leaseTakesWrong : ChangeSpec := { name := "leaseTakes", fn := fun _ => fun
  | [d1, d2, d3] => { results := [.lit (.bool false)], args := [d1, d2, d3] }
  | _ => none }
def LeaseTakesWrongFalsely : Prop := leaseTakesRow.holds Try.pinned (OpenSpec.ofChange leaseTakesWrong)

/-- 'corveelaw17.LeaseKeeps': WHATEVER THE INPUT: true; the input reads as it did. -/
def leaseKeepsSpec : ChangeSpec := { name := "leaseKeeps", fn := fun _ => fun
  | [d1, d2, d3] => { results := [.lit (.bool true)], args := [d1, d2, d3] }
  | _ => none }
def leaseKeepsRow : OpenClaim := { program := "ytcpaimgenfbidaa", sum := "c5e3ce7405807571d2384263fd24b15b115297c6f9761c55a7fc50c66f8cea97", func := "corvee/corveelaw17.LeaseKeeps", spec := "leaseKeeps", apart := false }
def LeaseKeepsSaid : Prop := leaseKeepsRow.holds Try.pinned (OpenSpec.ofChange leaseKeepsSpec)

/-- ITS FALSE NEIGHBOUR: 'it returns false'. Refute it at one input. -/
def leaseKeepsWrong : ChangeSpec := { name := "leaseKeeps", fn := fun _ => fun
  | [d1, d2, d3] => { results := [.lit (.bool false)], args := [d1, d2, d3] }
  | _ => none }
def LeaseKeepsWrongFalsely : Prop := leaseKeepsRow.holds Try.pinned (OpenSpec.ofChange leaseKeepsWrong)

/-- 'corveelaw17.LeaseRenews': WHATEVER THE INPUT: true; the input reads as it did. -/
def leaseRenewsSpec : ChangeSpec := { name := "leaseRenews", fn := fun _ => fun
  | [d1, d2, d3] => { results := [.lit (.bool true)], args := [d1, d2, d3] }
  | _ => none }
def leaseRenewsRow : OpenClaim := { program := "ytcpaimgenfbidaa", sum := "c5e3ce7405807571d2384263fd24b15b115297c6f9761c55a7fc50c66f8cea97", func := "corvee/corveelaw17.LeaseRenews", spec := "leaseRenews", apart := false }
def LeaseRenewsSaid : Prop := leaseRenewsRow.holds Try.pinned (OpenSpec.ofChange leaseRenewsSpec)

/-- ITS FALSE NEIGHBOUR: 'it returns false'. Refute it at one input. -/
def leaseRenewsWrong : ChangeSpec := { name := "leaseRenews", fn := fun _ => fun
  | [d1, d2, d3] => { results := [.lit (.bool false)], args := [d1, d2, d3] }
  | _ => none }
def LeaseRenewsWrongFalsely : Prop := leaseRenewsRow.holds Try.pinned (OpenSpec.ofChange leaseRenewsWrong)

/-- 'corveelaw17.LeaseAlone': WHATEVER THE INPUT: true; the input reads as it did. -/
def leaseAloneSpec : ChangeSpec := { name := "leaseAlone", fn := fun _ => fun
  | [d] => { results := [.lit (.bool true)], args := [d] }
  | _ => none }
def leaseAloneRow : OpenClaim := { program := "ytcpaimgenfbidaa", sum := "c5e3ce7405807571d2384263fd24b15b115297c6f9761c55a7fc50c66f8cea97", func := "corvee/corveelaw17.LeaseAlone", spec := "leaseAlone", apart := false }
def LeaseAloneSaid : Prop := leaseAloneRow.holds Try.pinned (OpenSpec.ofChange leaseAloneSpec)

/-- ITS FALSE NEIGHBOUR: 'it returns false'. Refute it at one input. -/
def leaseAloneWrong : ChangeSpec := { name := "leaseAlone", fn := fun _ => fun
  | [d] => { results := [.lit (.bool false)], args := [d] }
  | _ => none }
def LeaseAloneWrongFalsely : Prop := leaseAloneRow.holds Try.pinned (OpenSpec.ofChange leaseAloneWrong)

/-- 'corveelaw17.LeaseNone': WHATEVER THE INPUT: true; the input reads as it did. -/
def leaseNoneSpec : ChangeSpec := { name := "leaseNone", fn := fun _ => fun
  | [d1, d2, d3] => { results := [.lit (.bool true)], args := [d1, d2, d3] }
  | _ => none }
def leaseNoneRow : OpenClaim := { program := "ytcpaimgenfbidaa", sum := "c5e3ce7405807571d2384263fd24b15b115297c6f9761c55a7fc50c66f8cea97", func := "corvee/corveelaw17.LeaseNone", spec := "leaseNone", apart := false }
def LeaseNoneSaid : Prop := leaseNoneRow.holds Try.pinned (OpenSpec.ofChange leaseNoneSpec)

/-- ITS FALSE NEIGHBOUR: 'it returns false'. Refute it at one input. -/
def leaseNoneWrong : ChangeSpec := { name := "leaseNone", fn := fun _ => fun
  | [d1, d2, d3] => { results := [.lit (.bool false)], args := [d1, d2, d3] }
  | _ => none }
def LeaseNoneWrongFalsely : Prop := leaseNoneRow.holds Try.pinned (OpenSpec.ofChange leaseNoneWrong)

/- THE SECOND FORM. 'bulk': how many values and letters a reading holds, each counted each time it is reached (what is shared counts as often as it is met; a slice's spare places count too). A statement '..UptoSaid' is the law's where the arguments, and the package variables that the reading takes, are together of bulk at most 1048576: NARROWER than '..Said'. Prove '..Said' where nothing that the law and all that it calls make is longer than what came in: it says more and counts as full. Else prove '..UptoSaid'. A law counts once. -/
mutual
def uptoBulk {H : Type} : DataW H → Nat
  | .lit (.string bytes) => bytes.length + 1
  | .lit _ => 1
  | .nil => 1
  | .ptr d => uptoBulk d + 1
  | .slice elems spare => uptoBulkAll elems + uptoBulkAll spare + 1
  | .agg parts => uptoBulkAll parts + 1
  | .iface _ d => uptoBulk d + 1
  | .map entries => uptoBulkEntries entries + 1
  | .held _ => 1
def uptoBulkAll {H : Type} : List (DataW H) → Nat
  | [] => 0
  | d :: r => uptoBulk d + uptoBulkAll r
def uptoBulkEntries {H : Type} : List (Lit × DataW H) → Nat
  | [] => 0
  | x :: r => uptoBulkEntry x + uptoBulkEntries r
def uptoBulkEntry {H : Type} : Lit × DataW H → Nat
  | (.string bytes, d) => bytes.length + uptoBulk d + 1
  | (_, d) => uptoBulk d + 1
 end
def uptoSmall : (H : Type) → List (DataW H) → Bool := fun _ ds => decide (uptoBulkAll ds ≤ 1048576)
def OpenSpec.upto (s : _root_.Go.ChangeSpec) : _root_.Go.OpenSpec := { _root_.Go.OpenSpec.ofChange s with cond := some uptoSmall }

/-- 'corveelaw17.LeaseTakes', WHERE WHAT IT READS IS OF BULK AT MOST 1048576: true; the input reads as it did. -/
def leaseTakesUptoRow : OpenClaim := { program := "ytcpaimgenfbidaa", sum := "c5e3ce7405807571d2384263fd24b15b115297c6f9761c55a7fc50c66f8cea97", func := "corvee/corveelaw17.LeaseTakes", spec := "leaseTakes", apart := false, narrowed := true }
def LeaseTakesUptoSaid : Prop := leaseTakesUptoRow.holds Try.pinned (OpenSpec.upto leaseTakesSpec)

/-- 'corveelaw17.LeaseKeeps', WHERE WHAT IT READS IS OF BULK AT MOST 1048576: true; the input reads as it did. -/
def leaseKeepsUptoRow : OpenClaim := { program := "ytcpaimgenfbidaa", sum := "c5e3ce7405807571d2384263fd24b15b115297c6f9761c55a7fc50c66f8cea97", func := "corvee/corveelaw17.LeaseKeeps", spec := "leaseKeeps", apart := false, narrowed := true }
def LeaseKeepsUptoSaid : Prop := leaseKeepsUptoRow.holds Try.pinned (OpenSpec.upto leaseKeepsSpec)

/-- 'corveelaw17.LeaseRenews', WHERE WHAT IT READS IS OF BULK AT MOST 1048576: true; the input reads as it did. -/
def leaseRenewsUptoRow : OpenClaim := { program := "ytcpaimgenfbidaa", sum := "c5e3ce7405807571d2384263fd24b15b115297c6f9761c55a7fc50c66f8cea97", func := "corvee/corveelaw17.LeaseRenews", spec := "leaseRenews", apart := false, narrowed := true }
def LeaseRenewsUptoSaid : Prop := leaseRenewsUptoRow.holds Try.pinned (OpenSpec.upto leaseRenewsSpec)

/-- 'corveelaw17.LeaseAlone', WHERE WHAT IT READS IS OF BULK AT MOST 1048576: true; the input reads as it did. -/
def leaseAloneUptoRow : OpenClaim := { program := "ytcpaimgenfbidaa", sum := "c5e3ce7405807571d2384263fd24b15b115297c6f9761c55a7fc50c66f8cea97", func := "corvee/corveelaw17.LeaseAlone", spec := "leaseAlone", apart := false, narrowed := true }
def LeaseAloneUptoSaid : Prop := leaseAloneUptoRow.holds Try.pinned (OpenSpec.upto leaseAloneSpec)

/-- 'corveelaw17.LeaseNone', WHERE WHAT IT READS IS OF BULK AT MOST 1048576: true; the input reads as it did. -/
def leaseNoneUptoRow : OpenClaim := { program := "ytcpaimgenfbidaa", sum := "c5e3ce7405807571d2384263fd24b15b115297c6f9761c55a7fc50c66f8cea97", func := "corvee/corveelaw17.LeaseNone", spec := "leaseNone", apart := false, narrowed := true }
def LeaseNoneUptoSaid : Prop := leaseNoneUptoRow.holds Try.pinned (OpenSpec.upto leaseNoneSpec)

end Rows
end Go.Proofs.Ytcpaimgenfbidaa
