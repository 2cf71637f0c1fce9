/-
  NARROWER THAN 'FOR EVERY INPUT', by the rows' own cells (each row's printed sentence says how): FrameSums: laid · FrameScans: laid · FrameBack: laid · FrameNexts: laid · FrameTurned: laid · FrameLimit: laid.
  DERIVED. THE GIVEN ROWS OF THIS SEAT. 6 by the template 'for every input the law returns true; each argument reads behind the call as it read before'; 0 by the template 'total and deterministic' (their statements: YthocckhpkfcemaaDoorTotals.lean).
  GIVEN WITH THE SEED: the statements are not yours to turn. If you find one false, say at which input.
  Laid BY PROGRAM, IN A SANDBOX (cutbox-rows.mjs): the forced cells as the released guide's own fill.sh prints them over the translation e4788b24e83c3281… (all of the seat's roots in one cut). By AI agents, Wed Nov 11 2026. No macro, syntax, notation, axiom, sorry.
-/
import Derived.Test.YthocckhpkfcemaaDoorChecked
import GoSem.Claim
import GoSem.ClaimJoined
import GoSem.ClaimMapViews
import Derived.JoinedTies
import Derived.KernelRfl
namespace Go.Proofs.YthocckhpkfcemaaDoor
/- THE CELL 'sum', in the pinned program and in every row, IS THE sha256 OF THE DUMP (.gsa) THAT YthocckhpkfcemaaDoorProg.lean LOADS. Nothing in Lean hashes anything: it is a label: what it is worth is what the hold of that sum in a sandbox is worth. -/
noncomputable def Tryd.pinned : Pinned := { name := "ythocckhpkfcemaadoor", sum := "e4788b24e83c3281dad3029aa28e879fcca3526a64726228a200d40439549789", checked := Tryd.checked }
namespace Rows
def none {H : Type} : Left H := { results := [], args := [] }

/- WHAT THE LISTED PACKAGE-LEVEL VARIABLES READ AS WHEN THE CALL BEGINS. Each datum BY PROGRAM (the guide's laid-datum.mjs) off the statement by which the dump's own 'gosem.cut.vars' lays the variable. In a bare row this is a premise. The card (YthocckhpkfcemaaDoorCards.lean) ties it to the program's text. -/
def laid_corvee_frame_halves {H : Type} : DataW H := .agg [.lit (.int .u32 0), .lit (.int .u32 498536548), .lit (.int .u32 997073096), .lit (.int .u32 651767980), .lit (.int .u32 1994146192), .lit (.int .u32 1802195444), .lit (.int .u32 1303535960), .lit (.int .u32 1342533948), .lit (.int .u32 3988292384), .lit (.int .u32 4027552580), .lit (.int .u32 3604390888), .lit (.int .u32 3412177804), .lit (.int .u32 2607071920), .lit (.int .u32 2262029012), .lit (.int .u32 2685067896), .lit (.int .u32 3183342108)]

/-- 'corveelaw02.FrameSums': WHATEVER THE INPUT: true; the input reads as it did. -/
def frameSumsSpec : ChangeSpec := { name := "frameSums", fn := fun _ => fun
  | [d] => { results := [.lit (.bool true)], args := [d] }
  | _ => none }
def frameSumsRow : OpenClaim := { program := "ythocckhpkfcemaadoor", sum := "e4788b24e83c3281dad3029aa28e879fcca3526a64726228a200d40439549789", func := "corvee/corveelaw02.FrameSums", spec := "frameSums", unfollowed := true, recurses := true, named := ["corvee/frame.halves"], apart := false, laid := [("corvee/frame.halves", laid_corvee_frame_halves)] }
def FrameSumsSaid : Prop := frameSumsRow.holds Tryd.pinned (OpenSpec.ofChange frameSumsSpec)

/-- ITS FALSE NEIGHBOUR: 'it returns false'. Refute it at one input. -/
def frameSumsWrong : ChangeSpec := { name := "frameSums", fn := fun _ => fun
  | [d] => { results := [.lit (.bool false)], args := [d] }
  | _ => none }
def FrameSumsWrongFalsely : Prop := frameSumsRow.holds Tryd.pinned (OpenSpec.ofChange frameSumsWrong)

/-- 'corveelaw02.FrameScans': WHATEVER THE INPUT: true; the input reads as it did. -/
def frameScansSpec : ChangeSpec := { name := "frameScans", fn := fun _ => fun
  | [d] => { results := [.lit (.bool true)], args := [d] }
  | _ => none }
def frameScansRow : OpenClaim := { program := "ythocckhpkfcemaadoor", sum := "e4788b24e83c3281dad3029aa28e879fcca3526a64726228a200d40439549789", func := "corvee/corveelaw02.FrameScans", spec := "frameScans", unfollowed := true, recurses := true, named := ["corvee/frame.halves"], apart := false, laid := [("corvee/frame.halves", laid_corvee_frame_halves)] }
def FrameScansSaid : Prop := frameScansRow.holds Tryd.pinned (OpenSpec.ofChange frameScansSpec)

/-- ITS FALSE NEIGHBOUR: 'it returns false'. Refute it at one input. -/
def frameScansWrong : ChangeSpec := { name := "frameScans", fn := fun _ => fun
  | [d] => { results := [.lit (.bool false)], args := [d] }
  | _ => none }
def FrameScansWrongFalsely : Prop := frameScansRow.holds Tryd.pinned (OpenSpec.ofChange frameScansWrong)

/-- 'corveelaw02.FrameBack': WHATEVER THE INPUT: true; the input reads as it did. -/
def frameBackSpec : ChangeSpec := { name := "frameBack", fn := fun _ => fun
  | [d1, d2] => { results := [.lit (.bool true)], args := [d1, d2] }
  | _ => none }
def frameBackRow : OpenClaim := { program := "ythocckhpkfcemaadoor", sum := "e4788b24e83c3281dad3029aa28e879fcca3526a64726228a200d40439549789", func := "corvee/corveelaw02.FrameBack", spec := "frameBack", unfollowed := true, recurses := true, named := ["corvee/frame.halves"], apart := false, laid := [("corvee/frame.halves", laid_corvee_frame_halves)] }
def FrameBackSaid : Prop := frameBackRow.holds Tryd.pinned (OpenSpec.ofChange frameBackSpec)

/-- ITS FALSE NEIGHBOUR: 'it returns false'. Refute it at one input. -/
def frameBackWrong : ChangeSpec := { name := "frameBack", fn := fun _ => fun
  | [d1, d2] => { results := [.lit (.bool false)], args := [d1, d2] }
  | _ => none }
def FrameBackWrongFalsely : Prop := frameBackRow.holds Tryd.pinned (OpenSpec.ofChange frameBackWrong)

/-- 'corveelaw02.FrameNexts': WHATEVER THE INPUT: true; the input reads as it did. -/
def frameNextsSpec : ChangeSpec := { name := "frameNexts", fn := fun _ => fun
  | [d] => { results := [.lit (.bool true)], args := [d] }
  | _ => none }
def frameNextsRow : OpenClaim := { program := "ythocckhpkfcemaadoor", sum := "e4788b24e83c3281dad3029aa28e879fcca3526a64726228a200d40439549789", func := "corvee/corveelaw02.FrameNexts", spec := "frameNexts", unfollowed := true, recurses := true, named := ["corvee/frame.halves"], apart := false, laid := [("corvee/frame.halves", laid_corvee_frame_halves)] }
def FrameNextsSaid : Prop := frameNextsRow.holds Tryd.pinned (OpenSpec.ofChange frameNextsSpec)

/-- ITS FALSE NEIGHBOUR: 'it returns false'. Refute it at one input. -/
def frameNextsWrong : ChangeSpec := { name := "frameNexts", fn := fun _ => fun
  | [d] => { results := [.lit (.bool false)], args := [d] }
  | _ => none }
def FrameNextsWrongFalsely : Prop := frameNextsRow.holds Tryd.pinned (OpenSpec.ofChange frameNextsWrong)

/-- 'corveelaw02.FrameTurned': WHATEVER THE INPUT: true; the input reads as it did. -/
def frameTurnedSpec : ChangeSpec := { name := "frameTurned", fn := fun _ => fun
  | [d1, d2, d3] => { results := [.lit (.bool true)], args := [d1, d2, d3] }
  | _ => none }
def frameTurnedRow : OpenClaim := { program := "ythocckhpkfcemaadoor", sum := "e4788b24e83c3281dad3029aa28e879fcca3526a64726228a200d40439549789", func := "corvee/corveelaw02.FrameTurned", spec := "frameTurned", unfollowed := true, recurses := true, named := ["corvee/frame.halves"], apart := false, laid := [("corvee/frame.halves", laid_corvee_frame_halves)] }
def FrameTurnedSaid : Prop := frameTurnedRow.holds Tryd.pinned (OpenSpec.ofChange frameTurnedSpec)

/-- ITS FALSE NEIGHBOUR: 'it returns false'. Refute it at one input. -/
def frameTurnedWrong : ChangeSpec := { name := "frameTurned", fn := fun _ => fun
  | [d1, d2, d3] => { results := [.lit (.bool false)], args := [d1, d2, d3] }
  | _ => none }
def FrameTurnedWrongFalsely : Prop := frameTurnedRow.holds Tryd.pinned (OpenSpec.ofChange frameTurnedWrong)

/-- 'corveelaw02.FrameLimit': WHATEVER THE INPUT: true; the input reads as it did. -/
def frameLimitSpec : ChangeSpec := { name := "frameLimit", fn := fun _ => fun
  | [d1, d2] => { results := [.lit (.bool true)], args := [d1, d2] }
  | _ => none }
def frameLimitRow : OpenClaim := { program := "ythocckhpkfcemaadoor", sum := "e4788b24e83c3281dad3029aa28e879fcca3526a64726228a200d40439549789", func := "corvee/corveelaw02.FrameLimit", spec := "frameLimit", unfollowed := true, recurses := true, named := ["corvee/frame.halves"], apart := false, laid := [("corvee/frame.halves", laid_corvee_frame_halves)] }
def FrameLimitSaid : Prop := frameLimitRow.holds Tryd.pinned (OpenSpec.ofChange frameLimitSpec)

/-- ITS FALSE NEIGHBOUR: 'it returns false'. Refute it at one input. -/
def frameLimitWrong : ChangeSpec := { name := "frameLimit", fn := fun _ => fun
  | [d1, d2] => { results := [.lit (.bool false)], args := [d1, d2] }
  | _ => none }
def FrameLimitWrongFalsely : Prop := frameLimitRow.holds Tryd.pinned (OpenSpec.ofChange frameLimitWrong)

/- THE SECOND FORM. 'bulk': how many values and letters a reading holds, each counted each time it is reached (what is shared counts as often as it is met; a slice's spare places count too). A statement '..UptoSaid' is the law's where the arguments, and the package variables that the reading takes, are together of bulk at most 1048576: NARROWER than '..Said'. Prove '..Said' where nothing that the law and all that it calls make is longer than what came in: it says more and counts as full. Else prove '..UptoSaid'. A law counts once. -/
mutual
def uptoBulk {H : Type} : DataW H → Nat
  | .lit (.string bytes) => bytes.length + 1
  | .lit _ => 1
  | .nil => 1
  | .ptr d => uptoBulk d + 1
  | .slice elems spare => uptoBulkAll elems + uptoBulkAll spare + 1
  | .agg parts => uptoBulkAll parts + 1
  | .iface _ d => uptoBulk d + 1
  | .map entries => uptoBulkEntries entries + 1
  | .held _ => 1
def uptoBulkAll {H : Type} : List (DataW H) → Nat
  | [] => 0
  | d :: r => uptoBulk d + uptoBulkAll r
def uptoBulkEntries {H : Type} : List (Lit × DataW H) → Nat
  | [] => 0
  | x :: r => uptoBulkEntry x + uptoBulkEntries r
def uptoBulkEntry {H : Type} : Lit × DataW H → Nat
  | (.string bytes, d) => bytes.length + uptoBulk d + 1
  | (_, d) => uptoBulk d + 1
 end
def uptoSmall : (H : Type) → List (DataW H) → Bool := fun _ ds => decide (uptoBulkAll ds ≤ 1048576)
def OpenSpec.upto (s : _root_.Go.ChangeSpec) : _root_.Go.OpenSpec := { _root_.Go.OpenSpec.ofChange s with cond := some uptoSmall }

/-- 'corveelaw02.FrameSums', WHERE WHAT IT READS IS OF BULK AT MOST 1048576: true; the input reads as it did. -/
def frameSumsUptoRow : OpenClaim := { program := "ythocckhpkfcemaadoor", sum := "e4788b24e83c3281dad3029aa28e879fcca3526a64726228a200d40439549789", func := "corvee/corveelaw02.FrameSums", spec := "frameSums", unfollowed := true, recurses := true, named := ["corvee/frame.halves"], apart := false, laid := [("corvee/frame.halves", laid_corvee_frame_halves)], narrowed := true }
def FrameSumsUptoSaid : Prop := frameSumsUptoRow.holds Tryd.pinned (OpenSpec.upto frameSumsSpec)

/-- 'corveelaw02.FrameScans', WHERE WHAT IT READS IS OF BULK AT MOST 1048576: true; the input reads as it did. -/
def frameScansUptoRow : OpenClaim := { program := "ythocckhpkfcemaadoor", sum := "e4788b24e83c3281dad3029aa28e879fcca3526a64726228a200d40439549789", func := "corvee/corveelaw02.FrameScans", spec := "frameScans", unfollowed := true, recurses := true, named := ["corvee/frame.halves"], apart := false, laid := [("corvee/frame.halves", laid_corvee_frame_halves)], narrowed := true }
def FrameScansUptoSaid : Prop := frameScansUptoRow.holds Tryd.pinned (OpenSpec.upto frameScansSpec)

/-- 'corveelaw02.FrameBack', WHERE WHAT IT READS IS OF BULK AT MOST 1048576: true; the input reads as it did. -/
def frameBackUptoRow : OpenClaim := { program := "ythocckhpkfcemaadoor", sum := "e4788b24e83c3281dad3029aa28e879fcca3526a64726228a200d40439549789", func := "corvee/corveelaw02.FrameBack", spec := "frameBack", unfollowed := true, recurses := true, named := ["corvee/frame.halves"], apart := false, laid := [("corvee/frame.halves", laid_corvee_frame_halves)], narrowed := true }
def FrameBackUptoSaid : Prop := frameBackUptoRow.holds Tryd.pinned (OpenSpec.upto frameBackSpec)

/-- 'corveelaw02.FrameNexts', WHERE WHAT IT READS IS OF BULK AT MOST 1048576: true; the input reads as it did. -/
def frameNextsUptoRow : OpenClaim := { program := "ythocckhpkfcemaadoor", sum := "e4788b24e83c3281dad3029aa28e879fcca3526a64726228a200d40439549789", func := "corvee/corveelaw02.FrameNexts", spec := "frameNexts", unfollowed := true, recurses := true, named := ["corvee/frame.halves"], apart := false, laid := [("corvee/frame.halves", laid_corvee_frame_halves)], narrowed := true }
def FrameNextsUptoSaid : Prop := frameNextsUptoRow.holds Tryd.pinned (OpenSpec.upto frameNextsSpec)

/-- 'corveelaw02.FrameTurned', WHERE WHAT IT READS IS OF BULK AT MOST 1048576: true; the input reads as it did. -/
def frameTurnedUptoRow : OpenClaim := { program := "ythocckhpkfcemaadoor", sum := "e4788b24e83c3281dad3029aa28e879fcca3526a64726228a200d40439549789", func := "corvee/corveelaw02.FrameTurned", spec := "frameTurned", unfollowed := true, recurses := true, named := ["corvee/frame.halves"], apart := false, laid := [("corvee/frame.halves", laid_corvee_frame_halves)], narrowed := true }
def FrameTurnedUptoSaid : Prop := frameTurnedUptoRow.holds Tryd.pinned (OpenSpec.upto frameTurnedSpec)

/-- 'corveelaw02.FrameLimit', WHERE WHAT IT READS IS OF BULK AT MOST 1048576: true; the input reads as it did. -/
def frameLimitUptoRow : OpenClaim := { program := "ythocckhpkfcemaadoor", sum := "e4788b24e83c3281dad3029aa28e879fcca3526a64726228a200d40439549789", func := "corvee/corveelaw02.FrameLimit", spec := "frameLimit", unfollowed := true, recurses := true, named := ["corvee/frame.halves"], apart := false, laid := [("corvee/frame.halves", laid_corvee_frame_halves)], narrowed := true }
def FrameLimitUptoSaid : Prop := frameLimitUptoRow.holds Tryd.pinned (OpenSpec.upto frameLimitSpec)

end Rows
end Go.Proofs.YthocckhpkfcemaaDoor
