/-
  No cell of these rows narrows 'for every input' (looked for: loops, veiled, ifaces, maps, wideKeys, modest, calm, conditions, laid).
  DERIVED. THE GIVEN ROWS OF THIS SEAT. 5 by the template 'for every input the law returns true; each argument reads behind the call as it read before'; 0 by the template 'total and deterministic' (their statements: YtlcbpodjmafoeaaTotals.lean).
  GIVEN WITH THE SEED: the statements are not yours to turn. If you find one false, say at which input.
  Laid BY PROGRAM, IN A SANDBOX (cutbox-rows.mjs): the forced cells as the released guide's own fill.sh prints them over the translation f92f5c79f3604f06… (all of the seat's roots in one cut). By AI agents, Wed Nov 11 2026. No macro, syntax, notation, axiom, sorry.
-/
import Derived.Test.YtlcbpodjmafoeaaChecked
import GoSem.Claim
import GoSem.ClaimJoined
import GoSem.ClaimMapViews
import Derived.JoinedTies
import Derived.KernelRfl
namespace Go.Proofs.Ytlcbpodjmafoeaa
/- THE CELL 'sum', in the pinned program and in every row, IS THE sha256 OF THE DUMP (.gsa) THAT YtlcbpodjmafoeaaProg.lean LOADS. Nothing in Lean hashes anything: it is a label: what it is worth is what the hold of that sum in a sandbox is worth. -/
noncomputable def Try.pinned : Pinned := { name := "ytlcbpodjmafoeaa", sum := "f92f5c79f3604f0673e609957f722f90806d60e4d04a980bb1eb62d27dc3e96e", checked := Try.checked }
namespace Rows
def none {H : Type} : Left H := { results := [], args := [] }

/-- 'corveelaw19.SessionServes': WHATEVER THE INPUT: true; the input reads as it did. -/
def sessionServesSpec : ChangeSpec := { name := "sessionServes", fn := fun _ => fun
  | [d1, d2] => { results := [.lit (.bool true)], args := [d1, d2] }
  | _ => none }
def sessionServesRow : OpenClaim := { program := "ytlcbpodjmafoeaa", sum := "f92f5c79f3604f0673e609957f722f90806d60e4d04a980bb1eb62d27dc3e96e", func := "corvee/corveelaw19.SessionServes", spec := "sessionServes", unfollowed := true, recurses := true, apart := false }
def SessionServesSaid : Prop := sessionServesRow.holds Try.pinned (OpenSpec.ofChange sessionServesSpec)

/-- ITS FALSE NEIGHBOUR: 'it returns false'. Refute it at one input. -/
def sessionServesWrong : ChangeSpec := { name := "sessionServes", fn := fun _ => fun
  | [d1, d2] => { results := [.lit (.bool false)], args := [d1, d2] }
  | _ => none }
def SessionServesWrongFalsely : Prop := sessionServesRow.holds Try.pinned (OpenSpec.ofChange sessionServesWrong)

/-- 'corveelaw19.SessionOnce': WHATEVER THE INPUT: true; the input reads as it did. -/
def sessionOnceSpec : ChangeSpec := { name := "sessionOnce", fn := fun _ => fun
  | [d1, d2] => { results := [.lit (.bool true)], args := [d1, d2] }
  | _ => none }
def sessionOnceRow : OpenClaim := { program := "ytlcbpodjmafoeaa", sum := "f92f5c79f3604f0673e609957f722f90806d60e4d04a980bb1eb62d27dc3e96e", func := "corvee/corveelaw19.SessionOnce", spec := "sessionOnce", unfollowed := true, recurses := true, apart := false }
def SessionOnceSaid : Prop := sessionOnceRow.holds Try.pinned (OpenSpec.ofChange sessionOnceSpec)

/-- ITS FALSE NEIGHBOUR: 'it returns false'. Refute it at one input. -/
def sessionOnceWrong : ChangeSpec := { name := "sessionOnce", fn := fun _ => fun
  | [d1, d2] => { results := [.lit (.bool false)], args := [d1, d2] }
  | _ => none }
def SessionOnceWrongFalsely : Prop := sessionOnceRow.holds Try.pinned (OpenSpec.ofChange sessionOnceWrong)

/-- 'corveelaw19.SessionAsks': WHATEVER THE INPUT: true; the input reads as it did. -/
def sessionAsksSpec : ChangeSpec := { name := "sessionAsks", fn := fun _ => fun
  | [d1, d2] => { results := [.lit (.bool true)], args := [d1, d2] }
  | _ => none }
def sessionAsksRow : OpenClaim := { program := "ytlcbpodjmafoeaa", sum := "f92f5c79f3604f0673e609957f722f90806d60e4d04a980bb1eb62d27dc3e96e", func := "corvee/corveelaw19.SessionAsks", spec := "sessionAsks", unfollowed := true, recurses := true, apart := false }
def SessionAsksSaid : Prop := sessionAsksRow.holds Try.pinned (OpenSpec.ofChange sessionAsksSpec)

/-- ITS FALSE NEIGHBOUR: 'it returns false'. Refute it at one input. -/
def sessionAsksWrong : ChangeSpec := { name := "sessionAsks", fn := fun _ => fun
  | [d1, d2] => { results := [.lit (.bool false)], args := [d1, d2] }
  | _ => none }
def SessionAsksWrongFalsely : Prop := sessionAsksRow.holds Try.pinned (OpenSpec.ofChange sessionAsksWrong)

/-- 'corveelaw19.SessionComes': WHATEVER THE INPUT: true; the input reads as it did. -/
def sessionComesSpec : ChangeSpec := { name := "sessionComes", fn := fun _ => fun
  | [d1, d2, d3] => { results := [.lit (.bool true)], args := [d1, d2, d3] }
  | _ => none }
def sessionComesRow : OpenClaim := { program := "ytlcbpodjmafoeaa", sum := "f92f5c79f3604f0673e609957f722f90806d60e4d04a980bb1eb62d27dc3e96e", func := "corvee/corveelaw19.SessionComes", spec := "sessionComes", unfollowed := true, recurses := true, apart := false }
def SessionComesSaid : Prop := sessionComesRow.holds Try.pinned (OpenSpec.ofChange sessionComesSpec)

/-- ITS FALSE NEIGHBOUR: 'it returns false'. Refute it at one input. -/
def sessionComesWrong : ChangeSpec := { name := "sessionComes", fn := fun _ => fun
  | [d1, d2, d3] => { results := [.lit (.bool false)], args := [d1, d2, d3] }
  | _ => none }
def SessionComesWrongFalsely : Prop := sessionComesRow.holds Try.pinned (OpenSpec.ofChange sessionComesWrong)

/-- 'corveelaw19.SessionNone': WHATEVER THE INPUT: true; the input reads as it did. -/
def sessionNoneSpec : ChangeSpec := { name := "sessionNone", fn := fun _ => fun
  | [d1, d2] => { results := [.lit (.bool true)], args := [d1, d2] }
  | _ => none }
def sessionNoneRow : OpenClaim := { program := "ytlcbpodjmafoeaa", sum := "f92f5c79f3604f0673e609957f722f90806d60e4d04a980bb1eb62d27dc3e96e", func := "corvee/corveelaw19.SessionNone", spec := "sessionNone", unfollowed := true, recurses := true, apart := false }
def SessionNoneSaid : Prop := sessionNoneRow.holds Try.pinned (OpenSpec.ofChange sessionNoneSpec)

/-- ITS FALSE NEIGHBOUR: 'it returns false'. Refute it at one input. -/
def sessionNoneWrong : ChangeSpec := { name := "sessionNone", fn := fun _ => fun
  | [d1, d2] => { results := [.lit (.bool false)], args := [d1, d2] }
  | _ => none }
def SessionNoneWrongFalsely : Prop := sessionNoneRow.holds Try.pinned (OpenSpec.ofChange sessionNoneWrong)

/- THE SECOND FORM. 'bulk': how many values and letters a reading holds, each counted each time it is reached (what is shared counts as often as it is met; a slice's spare places count too). A statement '..UptoSaid' is the law's where the arguments, and the package variables that the reading takes, are together of bulk at most 1048576: NARROWER than '..Said'. Prove '..Said' where nothing that the law and all that it calls make is longer than what came in: it says more and counts as full. Else prove '..UptoSaid'. A law counts once. -/
mutual
def uptoBulk {H : Type} : DataW H → Nat
  | .lit (.string bytes) => bytes.length + 1
  | .lit _ => 1
  | .nil => 1
  | .ptr d => uptoBulk d + 1
  | .slice elems spare => uptoBulkAll elems + uptoBulkAll spare + 1
  | .agg parts => uptoBulkAll parts + 1
  | .iface _ d => uptoBulk d + 1
  | .map entries => uptoBulkEntries entries + 1
  | .held _ => 1
def uptoBulkAll {H : Type} : List (DataW H) → Nat
  | [] => 0
  | d :: r => uptoBulk d + uptoBulkAll r
def uptoBulkEntries {H : Type} : List (Lit × DataW H) → Nat
  | [] => 0
  | x :: r => uptoBulkEntry x + uptoBulkEntries r
def uptoBulkEntry {H : Type} : Lit × DataW H → Nat
  | (.string bytes, d) => bytes.length + uptoBulk d + 1
  | (_, d) => uptoBulk d + 1
 end
def uptoSmall : (H : Type) → List (DataW H) → Bool := fun _ ds => decide (uptoBulkAll ds ≤ 1048576)
def OpenSpec.upto (s : _root_.Go.ChangeSpec) : _root_.Go.OpenSpec := { _root_.Go.OpenSpec.ofChange s with cond := some uptoSmall }

/-- 'corveelaw19.SessionServes', WHERE WHAT IT READS IS OF BULK AT MOST 1048576: true; the input reads as it did. -/
def sessionServesUptoRow : OpenClaim := { program := "ytlcbpodjmafoeaa", sum := "f92f5c79f3604f0673e609957f722f90806d60e4d04a980bb1eb62d27dc3e96e", func := "corvee/corveelaw19.SessionServes", spec := "sessionServes", unfollowed := true, recurses := true, apart := false, narrowed := true }
def SessionServesUptoSaid : Prop := sessionServesUptoRow.holds Try.pinned (OpenSpec.upto sessionServesSpec)

/-- 'corveelaw19.SessionOnce', WHERE WHAT IT READS IS OF BULK AT MOST 1048576: true; the input reads as it did. -/
def sessionOnceUptoRow : OpenClaim := { program := "ytlcbpodjmafoeaa", sum := "f92f5c79f3604f0673e609957f722f90806d60e4d04a980bb1eb62d27dc3e96e", func := "corvee/corveelaw19.SessionOnce", spec := "sessionOnce", unfollowed := true, recurses := true, apart := false, narrowed := true }
def SessionOnceUptoSaid : Prop := sessionOnceUptoRow.holds Try.pinned (OpenSpec.upto sessionOnceSpec)

/-- 'corveelaw19.SessionAsks', WHERE WHAT IT READS IS OF BULK AT MOST 1048576: true; the input reads as it did. -/
def sessionAsksUptoRow : OpenClaim := { program := "ytlcbpodjmafoeaa", sum := "f92f5c79f3604f0673e609957f722f90806d60e4d04a980bb1eb62d27dc3e96e", func := "corvee/corveelaw19.SessionAsks", spec := "sessionAsks", unfollowed := true, recurses := true, apart := false, narrowed := true }
def SessionAsksUptoSaid : Prop := sessionAsksUptoRow.holds Try.pinned (OpenSpec.upto sessionAsksSpec)

/-- 'corveelaw19.SessionComes', WHERE WHAT IT READS IS OF BULK AT MOST 1048576: true; the input reads as it did. -/
def sessionComesUptoRow : OpenClaim := { program := "ytlcbpodjmafoeaa", sum := "f92f5c79f3604f0673e609957f722f90806d60e4d04a980bb1eb62d27dc3e96e", func := "corvee/corveelaw19.SessionComes", spec := "sessionComes", unfollowed := true, recurses := true, apart := false, narrowed := true }
def SessionComesUptoSaid : Prop := sessionComesUptoRow.holds Try.pinned (OpenSpec.upto sessionComesSpec)

/-- 'corveelaw19.SessionNone', WHERE WHAT IT READS IS OF BULK AT MOST 1048576: true; the input reads as it did. -/
def sessionNoneUptoRow : OpenClaim := { program := "ytlcbpodjmafoeaa", sum := "f92f5c79f3604f0673e609957f722f90806d60e4d04a980bb1eb62d27dc3e96e", func := "corvee/corveelaw19.SessionNone", spec := "sessionNone", unfollowed := true, recurses := true, apart := false, narrowed := true }
def SessionNoneUptoSaid : Prop := sessionNoneUptoRow.holds Try.pinned (OpenSpec.upto sessionNoneSpec)

end Rows
end Go.Proofs.Ytlcbpodjmafoeaa
