/-
  No cell of these rows narrows 'for every input' (looked for: loops, veiled, ifaces, maps, wideKeys, modest, calm, conditions, laid).
  DERIVED. THE GIVEN ROWS OF THIS SEAT. 5 by the template 'for every input the law returns true; each argument reads behind the call as it read before'; 0 by the template 'total and deterministic' (their statements: YtoeamofemepgpaaTotals.lean).
  GIVEN WITH THE SEED: the statements are not yours to turn. If you find one false, say at which input.
  Laid BY PROGRAM, IN A SANDBOX (cutbox-rows.mjs): the forced cells as the released guide's own fill.sh prints them over the translation ce1ba07b7a2a7a94… (all of the seat's roots in one cut). By AI agents, Wed Nov 11 2026. No macro, syntax, notation, axiom, sorry.
-/
import Derived.Test.YtoeamofemepgpaaChecked
import GoSem.Claim
import GoSem.ClaimJoined
import GoSem.ClaimMapViews
import Derived.JoinedTies
import Derived.KernelRfl
namespace Go.Proofs.Ytoeamofemepgpaa
/- THE CELL 'sum', in the pinned program and in every row, IS THE sha256 OF THE DUMP (.gsa) THAT YtoeamofemepgpaaProg.lean LOADS. Nothing in Lean hashes anything: it is a label: what it is worth is what the hold of that sum in a sandbox is worth. -/
noncomputable def Try.pinned : Pinned := { name := "ytoeamofemepgpaa", sum := "ce1ba07b7a2a7a94e67576dc3f94a648088dec1cf9c6b571d815f493fdca0a58", checked := Try.checked }
namespace Rows
def none {H : Type} : Left H := { results := [], args := [] }

/-- 'corveelaw20.AgentTells': WHATEVER THE INPUT: true; the input reads as it did. -/
def agentTellsSpec : ChangeSpec := { name := "agentTells", fn := fun _ => fun
  | [d1, d2, d3] => { results := [.lit (.bool true)], args := [d1, d2, d3] }
  | _ => none }
def agentTellsRow : OpenClaim := { program := "ytoeamofemepgpaa", sum := "ce1ba07b7a2a7a94e67576dc3f94a648088dec1cf9c6b571d815f493fdca0a58", func := "corvee/corveelaw20.AgentTells", spec := "agentTells", unfollowed := true, recurses := true, plainKeys := false, apart := false }
def AgentTellsSaid : Prop := agentTellsRow.holds Try.pinned (OpenSpec.ofChange agentTellsSpec)

/-- ITS FALSE NEIGHBOUR: 'it returns false'. Refute it at one input. -/
def agentTellsWrong : ChangeSpec := { name := "agentTells", fn := fun _ => fun
  | [d1, d2, d3] => { results := [.lit (.bool false)], args := [d1, d2, d3] }
  | _ => none }
def AgentTellsWrongFalsely : Prop := agentTellsRow.holds Try.pinned (OpenSpec.ofChange agentTellsWrong)

/-- 'corveelaw20.AgentFits': WHATEVER THE INPUT: true; the input reads as it did. -/
def agentFitsSpec : ChangeSpec := { name := "agentFits", fn := fun _ => fun
  | [d1, d2, d3] => { results := [.lit (.bool true)], args := [d1, d2, d3] }
  | _ => none }
def agentFitsRow : OpenClaim := { program := "ytoeamofemepgpaa", sum := "ce1ba07b7a2a7a94e67576dc3f94a648088dec1cf9c6b571d815f493fdca0a58", func := "corvee/corveelaw20.AgentFits", spec := "agentFits", unfollowed := true, recurses := true, plainKeys := false, apart := false }
def AgentFitsSaid : Prop := agentFitsRow.holds Try.pinned (OpenSpec.ofChange agentFitsSpec)

/-- ITS FALSE NEIGHBOUR: 'it returns false'. Refute it at one input. -/
def agentFitsWrong : ChangeSpec := { name := "agentFits", fn := fun _ => fun
  | [d1, d2, d3] => { results := [.lit (.bool false)], args := [d1, d2, d3] }
  | _ => none }
def AgentFitsWrongFalsely : Prop := agentFitsRow.holds Try.pinned (OpenSpec.ofChange agentFitsWrong)

/-- 'corveelaw20.AgentEnds': WHATEVER THE INPUT: true; the input reads as it did. -/
def agentEndsSpec : ChangeSpec := { name := "agentEnds", fn := fun _ => fun
  | [d1, d2, d3] => { results := [.lit (.bool true)], args := [d1, d2, d3] }
  | _ => none }
def agentEndsRow : OpenClaim := { program := "ytoeamofemepgpaa", sum := "ce1ba07b7a2a7a94e67576dc3f94a648088dec1cf9c6b571d815f493fdca0a58", func := "corvee/corveelaw20.AgentEnds", spec := "agentEnds", unfollowed := true, recurses := true, plainKeys := false, apart := false }
def AgentEndsSaid : Prop := agentEndsRow.holds Try.pinned (OpenSpec.ofChange agentEndsSpec)

/-- ITS FALSE NEIGHBOUR: 'it returns false'. Refute it at one input. -/
def agentEndsWrong : ChangeSpec := { name := "agentEnds", fn := fun _ => fun
  | [d1, d2, d3] => { results := [.lit (.bool false)], args := [d1, d2, d3] }
  | _ => none }
def AgentEndsWrongFalsely : Prop := agentEndsRow.holds Try.pinned (OpenSpec.ofChange agentEndsWrong)

/-- 'corveelaw20.AgentEpochs': WHATEVER THE INPUT: true; the input reads as it did. -/
def agentEpochsSpec : ChangeSpec := { name := "agentEpochs", fn := fun _ => fun
  | [d1, d2, d3] => { results := [.lit (.bool true)], args := [d1, d2, d3] }
  | _ => none }
def agentEpochsRow : OpenClaim := { program := "ytoeamofemepgpaa", sum := "ce1ba07b7a2a7a94e67576dc3f94a648088dec1cf9c6b571d815f493fdca0a58", func := "corvee/corveelaw20.AgentEpochs", spec := "agentEpochs", unfollowed := true, recurses := true, plainKeys := false, apart := false }
def AgentEpochsSaid : Prop := agentEpochsRow.holds Try.pinned (OpenSpec.ofChange agentEpochsSpec)

/-- ITS FALSE NEIGHBOUR: 'it returns false'. Refute it at one input. -/
def agentEpochsWrong : ChangeSpec := { name := "agentEpochs", fn := fun _ => fun
  | [d1, d2, d3] => { results := [.lit (.bool false)], args := [d1, d2, d3] }
  | _ => none }
def AgentEpochsWrongFalsely : Prop := agentEpochsRow.holds Try.pinned (OpenSpec.ofChange agentEpochsWrong)

/-- 'corveelaw20.AgentNone': WHATEVER THE INPUT: true; the input reads as it did. -/
def agentNoneSpec : ChangeSpec := { name := "agentNone", fn := fun _ => fun
  | [d1, d2] => { results := [.lit (.bool true)], args := [d1, d2] }
  | _ => none }
def agentNoneRow : OpenClaim := { program := "ytoeamofemepgpaa", sum := "ce1ba07b7a2a7a94e67576dc3f94a648088dec1cf9c6b571d815f493fdca0a58", func := "corvee/corveelaw20.AgentNone", spec := "agentNone", unfollowed := true, recurses := true, plainKeys := false, apart := false }
def AgentNoneSaid : Prop := agentNoneRow.holds Try.pinned (OpenSpec.ofChange agentNoneSpec)

/-- ITS FALSE NEIGHBOUR: 'it returns false'. Refute it at one input. -/
def agentNoneWrong : ChangeSpec := { name := "agentNone", fn := fun _ => fun
  | [d1, d2] => { results := [.lit (.bool false)], args := [d1, d2] }
  | _ => none }
def AgentNoneWrongFalsely : Prop := agentNoneRow.holds Try.pinned (OpenSpec.ofChange agentNoneWrong)

/- THE SECOND FORM. 'bulk': how many values and letters a reading holds, each counted each time it is reached (what is shared counts as often as it is met; a slice's spare places count too). A statement '..UptoSaid' is the law's where the arguments, and the package variables that the reading takes, are together of bulk at most 1048576: NARROWER than '..Said'. Prove '..Said' where nothing that the law and all that it calls make is longer than what came in: it says more and counts as full. Else prove '..UptoSaid'. A law counts once. -/
mutual
def uptoBulk {H : Type} : DataW H → Nat
  | .lit (.string bytes) => bytes.length + 1
  | .lit _ => 1
  | .nil => 1
  | .ptr d => uptoBulk d + 1
  | .slice elems spare => uptoBulkAll elems + uptoBulkAll spare + 1
  | .agg parts => uptoBulkAll parts + 1
  | .iface _ d => uptoBulk d + 1
  | .map entries => uptoBulkEntries entries + 1
  | .held _ => 1
def uptoBulkAll {H : Type} : List (DataW H) → Nat
  | [] => 0
  | d :: r => uptoBulk d + uptoBulkAll r
def uptoBulkEntries {H : Type} : List (Lit × DataW H) → Nat
  | [] => 0
  | x :: r => uptoBulkEntry x + uptoBulkEntries r
def uptoBulkEntry {H : Type} : Lit × DataW H → Nat
  | (.string bytes, d) => bytes.length + uptoBulk d + 1
  | (_, d) => uptoBulk d + 1
 end
def uptoSmall : (H : Type) → List (DataW H) → Bool := fun _ ds => decide (uptoBulkAll ds ≤ 1048576)
def OpenSpec.upto (s : _root_.Go.ChangeSpec) : _root_.Go.OpenSpec := { _root_.Go.OpenSpec.ofChange s with cond := some uptoSmall }

/-- 'corveelaw20.AgentTells', WHERE WHAT IT READS IS OF BULK AT MOST 1048576: true; the input reads as it did. -/
def agentTellsUptoRow : OpenClaim := { program := "ytoeamofemepgpaa", sum := "ce1ba07b7a2a7a94e67576dc3f94a648088dec1cf9c6b571d815f493fdca0a58", func := "corvee/corveelaw20.AgentTells", spec := "agentTells", unfollowed := true, recurses := true, plainKeys := false, apart := false, narrowed := true }
def AgentTellsUptoSaid : Prop := agentTellsUptoRow.holds Try.pinned (OpenSpec.upto agentTellsSpec)

/-- 'corveelaw20.AgentFits', WHERE WHAT IT READS IS OF BULK AT MOST 1048576: true; the input reads as it did. -/
def agentFitsUptoRow : OpenClaim := { program := "ytoeamofemepgpaa", sum := "ce1ba07b7a2a7a94e67576dc3f94a648088dec1cf9c6b571d815f493fdca0a58", func := "corvee/corveelaw20.AgentFits", spec := "agentFits", unfollowed := true, recurses := true, plainKeys := false, apart := false, narrowed := true }
def AgentFitsUptoSaid : Prop := agentFitsUptoRow.holds Try.pinned (OpenSpec.upto agentFitsSpec)

/-- 'corveelaw20.AgentEnds', WHERE WHAT IT READS IS OF BULK AT MOST 1048576: true; the input reads as it did. -/
def agentEndsUptoRow : OpenClaim := { program := "ytoeamofemepgpaa", sum := "ce1ba07b7a2a7a94e67576dc3f94a648088dec1cf9c6b571d815f493fdca0a58", func := "corvee/corveelaw20.AgentEnds", spec := "agentEnds", unfollowed := true, recurses := true, plainKeys := false, apart := false, narrowed := true }
def AgentEndsUptoSaid : Prop := agentEndsUptoRow.holds Try.pinned (OpenSpec.upto agentEndsSpec)

/-- 'corveelaw20.AgentEpochs', WHERE WHAT IT READS IS OF BULK AT MOST 1048576: true; the input reads as it did. -/
def agentEpochsUptoRow : OpenClaim := { program := "ytoeamofemepgpaa", sum := "ce1ba07b7a2a7a94e67576dc3f94a648088dec1cf9c6b571d815f493fdca0a58", func := "corvee/corveelaw20.AgentEpochs", spec := "agentEpochs", unfollowed := true, recurses := true, plainKeys := false, apart := false, narrowed := true }
def AgentEpochsUptoSaid : Prop := agentEpochsUptoRow.holds Try.pinned (OpenSpec.upto agentEpochsSpec)

/-- 'corveelaw20.AgentNone', WHERE WHAT IT READS IS OF BULK AT MOST 1048576: true; the input reads as it did. -/
def agentNoneUptoRow : OpenClaim := { program := "ytoeamofemepgpaa", sum := "ce1ba07b7a2a7a94e67576dc3f94a648088dec1cf9c6b571d815f493fdca0a58", func := "corvee/corveelaw20.AgentNone", spec := "agentNone", unfollowed := true, recurses := true, plainKeys := false, apart := false, narrowed := true }
def AgentNoneUptoSaid : Prop := agentNoneUptoRow.holds Try.pinned (OpenSpec.upto agentNoneSpec)

end Rows
end Go.Proofs.Ytoeamofemepgpaa
