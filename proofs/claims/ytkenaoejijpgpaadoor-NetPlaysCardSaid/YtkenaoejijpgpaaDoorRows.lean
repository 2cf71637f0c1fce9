/-
  NARROWER THAN 'FOR EVERY INPUT', by the rows' own cells (each row's printed sentence says how): NetPacks: laid · NetUnpacks: laid · NetBack: laid · NetOne: laid · NetFull: laid · NetPlays: laid · NetOwn: laid.
  DERIVED. THE GIVEN ROWS OF THIS SEAT. 7 by the template 'for every input the law returns true; each argument reads behind the call as it read before'; 0 by the template 'total and deterministic' (their statements: YtkenaoejijpgpaaDoorTotals.lean).
  GIVEN WITH THE SEED: the statements are not yours to turn. If you find one false, say at which input.
  Laid BY PROGRAM, IN A SANDBOX (cutbox-rows.mjs): the forced cells as the released guide's own fill.sh prints them over the translation ea34b2cfc2fe037c… (all of the seat's roots in one cut). By AI agents, Wed Nov 11 2026. No macro, syntax, notation, axiom, sorry.
-/
import Derived.Test.YtkenaoejijpgpaaDoorChecked
import GoSem.Claim
import GoSem.ClaimJoined
import GoSem.ClaimMapViews
import Derived.JoinedTies
import Derived.KernelRfl
namespace Go.Proofs.YtkenaoejijpgpaaDoor
/- THE CELL 'sum', in the pinned program and in every row, IS THE sha256 OF THE DUMP (.gsa) THAT YtkenaoejijpgpaaDoorProg.lean LOADS. Nothing in Lean hashes anything: it is a label: what it is worth is what the hold of that sum in a sandbox is worth. -/
noncomputable def Tryd.pinned : Pinned := { name := "ytkenaoejijpgpaadoor", sum := "ea34b2cfc2fe037cd8e73a0a3dbb8118ddda48396d39c4a0be9e139ad7a3c320", checked := Tryd.checked }
namespace Rows
def none {H : Type} : Left H := { results := [], args := [] }

/- WHAT THE LISTED PACKAGE-LEVEL VARIABLES READ AS WHEN THE CALL BEGINS. Each datum BY PROGRAM (the guide's laid-datum.mjs) off the statement by which the dump's own 'gosem.cut.vars' lays the variable. In a bare row this is a premise. The card (YtkenaoejijpgpaaDoorCards.lean) ties it to the program's text. -/
def laid_corvee_frame_halves {H : Type} : DataW H := .agg [.lit (.int .u32 0), .lit (.int .u32 498536548), .lit (.int .u32 997073096), .lit (.int .u32 651767980), .lit (.int .u32 1994146192), .lit (.int .u32 1802195444), .lit (.int .u32 1303535960), .lit (.int .u32 1342533948), .lit (.int .u32 3988292384), .lit (.int .u32 4027552580), .lit (.int .u32 3604390888), .lit (.int .u32 3412177804), .lit (.int .u32 2607071920), .lit (.int .u32 2262029012), .lit (.int .u32 2685067896), .lit (.int .u32 3183342108)]

/-- 'corveelaw18.NetPacks': WHATEVER THE INPUT: true; the input reads as it did. -/
def netPacksSpec : ChangeSpec := { name := "netPacks", fn := fun _ => fun
  | [d] => { results := [.lit (.bool true)], args := [d] }
  | _ => none }
def netPacksRow : OpenClaim := { program := "ytkenaoejijpgpaadoor", sum := "ea34b2cfc2fe037cd8e73a0a3dbb8118ddda48396d39c4a0be9e139ad7a3c320", func := "corvee/corveelaw18.NetPacks", spec := "netPacks", unfollowed := true, recurses := true, named := ["corvee/frame.halves"], apart := false, laid := [("corvee/frame.halves", laid_corvee_frame_halves)] }
def NetPacksSaid : Prop := netPacksRow.holds Tryd.pinned (OpenSpec.ofChange netPacksSpec)

/-- ITS FALSE NEIGHBOUR: 'it returns false'. Refute it at one input. -/
def netPacksWrong : ChangeSpec := { name := "netPacks", fn := fun _ => fun
  | [d] => { results := [.lit (.bool false)], args := [d] }
  | _ => none }
def NetPacksWrongFalsely : Prop := netPacksRow.holds Tryd.pinned (OpenSpec.ofChange netPacksWrong)

/-- 'corveelaw18.NetUnpacks': WHATEVER THE INPUT: true; the input reads as it did. -/
def netUnpacksSpec : ChangeSpec := { name := "netUnpacks", fn := fun _ => fun
  | [d] => { results := [.lit (.bool true)], args := [d] }
  | _ => none }
def netUnpacksRow : OpenClaim := { program := "ytkenaoejijpgpaadoor", sum := "ea34b2cfc2fe037cd8e73a0a3dbb8118ddda48396d39c4a0be9e139ad7a3c320", func := "corvee/corveelaw18.NetUnpacks", spec := "netUnpacks", unfollowed := true, recurses := true, named := ["corvee/frame.halves"], apart := false, laid := [("corvee/frame.halves", laid_corvee_frame_halves)] }
def NetUnpacksSaid : Prop := netUnpacksRow.holds Tryd.pinned (OpenSpec.ofChange netUnpacksSpec)

/-- ITS FALSE NEIGHBOUR: 'it returns false'. Refute it at one input. -/
def netUnpacksWrong : ChangeSpec := { name := "netUnpacks", fn := fun _ => fun
  | [d] => { results := [.lit (.bool false)], args := [d] }
  | _ => none }
def NetUnpacksWrongFalsely : Prop := netUnpacksRow.holds Tryd.pinned (OpenSpec.ofChange netUnpacksWrong)

/-- 'corveelaw18.NetBack': WHATEVER THE INPUT: true; the input reads as it did. -/
def netBackSpec : ChangeSpec := { name := "netBack", fn := fun _ => fun
  | [d] => { results := [.lit (.bool true)], args := [d] }
  | _ => none }
def netBackRow : OpenClaim := { program := "ytkenaoejijpgpaadoor", sum := "ea34b2cfc2fe037cd8e73a0a3dbb8118ddda48396d39c4a0be9e139ad7a3c320", func := "corvee/corveelaw18.NetBack", spec := "netBack", unfollowed := true, recurses := true, named := ["corvee/frame.halves"], apart := false, laid := [("corvee/frame.halves", laid_corvee_frame_halves)] }
def NetBackSaid : Prop := netBackRow.holds Tryd.pinned (OpenSpec.ofChange netBackSpec)

/-- ITS FALSE NEIGHBOUR: 'it returns false'. Refute it at one input. -/
def netBackWrong : ChangeSpec := { name := "netBack", fn := fun _ => fun
  | [d] => { results := [.lit (.bool false)], args := [d] }
  | _ => none }
def NetBackWrongFalsely : Prop := netBackRow.holds Tryd.pinned (OpenSpec.ofChange netBackWrong)

/-- 'corveelaw18.NetOne': WHATEVER THE INPUT: true; the input reads as it did. -/
def netOneSpec : ChangeSpec := { name := "netOne", fn := fun _ => fun
  | [d1, d2] => { results := [.lit (.bool true)], args := [d1, d2] }
  | _ => none }
def netOneRow : OpenClaim := { program := "ytkenaoejijpgpaadoor", sum := "ea34b2cfc2fe037cd8e73a0a3dbb8118ddda48396d39c4a0be9e139ad7a3c320", func := "corvee/corveelaw18.NetOne", spec := "netOne", unfollowed := true, recurses := true, named := ["corvee/frame.halves"], apart := false, laid := [("corvee/frame.halves", laid_corvee_frame_halves)] }
def NetOneSaid : Prop := netOneRow.holds Tryd.pinned (OpenSpec.ofChange netOneSpec)

/-- ITS FALSE NEIGHBOUR: 'it returns false'. Refute it at one input. -/
def netOneWrong : ChangeSpec := { name := "netOne", fn := fun _ => fun
  | [d1, d2] => { results := [.lit (.bool false)], args := [d1, d2] }
  | _ => none }
def NetOneWrongFalsely : Prop := netOneRow.holds Tryd.pinned (OpenSpec.ofChange netOneWrong)

/-- 'corveelaw18.NetFull': WHATEVER THE INPUT: true; the input reads as it did. -/
def netFullSpec : ChangeSpec := { name := "netFull", fn := fun _ => fun
  | [d1, d2] => { results := [.lit (.bool true)], args := [d1, d2] }
  | _ => none }
def netFullRow : OpenClaim := { program := "ytkenaoejijpgpaadoor", sum := "ea34b2cfc2fe037cd8e73a0a3dbb8118ddda48396d39c4a0be9e139ad7a3c320", func := "corvee/corveelaw18.NetFull", spec := "netFull", unfollowed := true, recurses := true, named := ["corvee/frame.halves"], apart := false, laid := [("corvee/frame.halves", laid_corvee_frame_halves)] }
def NetFullSaid : Prop := netFullRow.holds Tryd.pinned (OpenSpec.ofChange netFullSpec)

/-- ITS FALSE NEIGHBOUR: 'it returns false'. Refute it at one input. -/
def netFullWrong : ChangeSpec := { name := "netFull", fn := fun _ => fun
  | [d1, d2] => { results := [.lit (.bool false)], args := [d1, d2] }
  | _ => none }
def NetFullWrongFalsely : Prop := netFullRow.holds Tryd.pinned (OpenSpec.ofChange netFullWrong)

/-- 'corveelaw18.NetPlays': WHATEVER THE INPUT: true; the input reads as it did. -/
def netPlaysSpec : ChangeSpec := { name := "netPlays", fn := fun _ => fun
  | [d] => { results := [.lit (.bool true)], args := [d] }
  | _ => none }
def netPlaysRow : OpenClaim := { program := "ytkenaoejijpgpaadoor", sum := "ea34b2cfc2fe037cd8e73a0a3dbb8118ddda48396d39c4a0be9e139ad7a3c320", func := "corvee/corveelaw18.NetPlays", spec := "netPlays", unfollowed := true, recurses := true, named := ["corvee/frame.halves"], apart := false, laid := [("corvee/frame.halves", laid_corvee_frame_halves)] }
def NetPlaysSaid : Prop := netPlaysRow.holds Tryd.pinned (OpenSpec.ofChange netPlaysSpec)

/-- ITS FALSE NEIGHBOUR: 'it returns false'. Refute it at one input. -/
def netPlaysWrong : ChangeSpec := { name := "netPlays", fn := fun _ => fun
  | [d] => { results := [.lit (.bool false)], args := [d] }
  | _ => none }
def NetPlaysWrongFalsely : Prop := netPlaysRow.holds Tryd.pinned (OpenSpec.ofChange netPlaysWrong)

/-- 'corveelaw18.NetOwn': WHATEVER THE INPUT: true; the input reads as it did. -/
def netOwnSpec : ChangeSpec := { name := "netOwn", fn := fun _ => fun
  | [d1, d2] => { results := [.lit (.bool true)], args := [d1, d2] }
  | _ => none }
def netOwnRow : OpenClaim := { program := "ytkenaoejijpgpaadoor", sum := "ea34b2cfc2fe037cd8e73a0a3dbb8118ddda48396d39c4a0be9e139ad7a3c320", func := "corvee/corveelaw18.NetOwn", spec := "netOwn", unfollowed := true, recurses := true, named := ["corvee/frame.halves"], apart := false, laid := [("corvee/frame.halves", laid_corvee_frame_halves)] }
def NetOwnSaid : Prop := netOwnRow.holds Tryd.pinned (OpenSpec.ofChange netOwnSpec)

/-- ITS FALSE NEIGHBOUR: 'it returns false'. Refute it at one input. -/
def netOwnWrong : ChangeSpec := { name := "netOwn", fn := fun _ => fun
  | [d1, d2] => { results := [.lit (.bool false)], args := [d1, d2] }
  | _ => none }
def NetOwnWrongFalsely : Prop := netOwnRow.holds Tryd.pinned (OpenSpec.ofChange netOwnWrong)

/- THE SECOND FORM. 'bulk': how many values and letters a reading holds, each counted each time it is reached (what is shared counts as often as it is met; a slice's spare places count too). A statement '..UptoSaid' is the law's where the arguments, and the package variables that the reading takes, are together of bulk at most 1048576: NARROWER than '..Said'. Prove '..Said' where nothing that the law and all that it calls make is longer than what came in: it says more and counts as full. Else prove '..UptoSaid'. A law counts once. -/
mutual
def uptoBulk {H : Type} : DataW H → Nat
  | .lit (.string bytes) => bytes.length + 1
  | .lit _ => 1
  | .nil => 1
  | .ptr d => uptoBulk d + 1
  | .slice elems spare => uptoBulkAll elems + uptoBulkAll spare + 1
  | .agg parts => uptoBulkAll parts + 1
  | .iface _ d => uptoBulk d + 1
  | .map entries => uptoBulkEntries entries + 1
  | .held _ => 1
def uptoBulkAll {H : Type} : List (DataW H) → Nat
  | [] => 0
  | d :: r => uptoBulk d + uptoBulkAll r
def uptoBulkEntries {H : Type} : List (Lit × DataW H) → Nat
  | [] => 0
  | x :: r => uptoBulkEntry x + uptoBulkEntries r
def uptoBulkEntry {H : Type} : Lit × DataW H → Nat
  | (.string bytes, d) => bytes.length + uptoBulk d + 1
  | (_, d) => uptoBulk d + 1
 end
def uptoSmall : (H : Type) → List (DataW H) → Bool := fun _ ds => decide (uptoBulkAll ds ≤ 1048576)
def OpenSpec.upto (s : _root_.Go.ChangeSpec) : _root_.Go.OpenSpec := { _root_.Go.OpenSpec.ofChange s with cond := some uptoSmall }

/-- 'corveelaw18.NetPacks', WHERE WHAT IT READS IS OF BULK AT MOST 1048576: true; the input reads as it did. -/
def netPacksUptoRow : OpenClaim := { program := "ytkenaoejijpgpaadoor", sum := "ea34b2cfc2fe037cd8e73a0a3dbb8118ddda48396d39c4a0be9e139ad7a3c320", func := "corvee/corveelaw18.NetPacks", spec := "netPacks", unfollowed := true, recurses := true, named := ["corvee/frame.halves"], apart := false, laid := [("corvee/frame.halves", laid_corvee_frame_halves)], narrowed := true }
def NetPacksUptoSaid : Prop := netPacksUptoRow.holds Tryd.pinned (OpenSpec.upto netPacksSpec)

/-- 'corveelaw18.NetUnpacks', WHERE WHAT IT READS IS OF BULK AT MOST 1048576: true; the input reads as it did. -/
def netUnpacksUptoRow : OpenClaim := { program := "ytkenaoejijpgpaadoor", sum := "ea34b2cfc2fe037cd8e73a0a3dbb8118ddda48396d39c4a0be9e139ad7a3c320", func := "corvee/corveelaw18.NetUnpacks", spec := "netUnpacks", unfollowed := true, recurses := true, named := ["corvee/frame.halves"], apart := false, laid := [("corvee/frame.halves", laid_corvee_frame_halves)], narrowed := true }
def NetUnpacksUptoSaid : Prop := netUnpacksUptoRow.holds Tryd.pinned (OpenSpec.upto netUnpacksSpec)

/-- 'corveelaw18.NetBack', WHERE WHAT IT READS IS OF BULK AT MOST 1048576: true; the input reads as it did. -/
def netBackUptoRow : OpenClaim := { program := "ytkenaoejijpgpaadoor", sum := "ea34b2cfc2fe037cd8e73a0a3dbb8118ddda48396d39c4a0be9e139ad7a3c320", func := "corvee/corveelaw18.NetBack", spec := "netBack", unfollowed := true, recurses := true, named := ["corvee/frame.halves"], apart := false, laid := [("corvee/frame.halves", laid_corvee_frame_halves)], narrowed := true }
def NetBackUptoSaid : Prop := netBackUptoRow.holds Tryd.pinned (OpenSpec.upto netBackSpec)

/-- 'corveelaw18.NetOne', WHERE WHAT IT READS IS OF BULK AT MOST 1048576: true; the input reads as it did. -/
def netOneUptoRow : OpenClaim := { program := "ytkenaoejijpgpaadoor", sum := "ea34b2cfc2fe037cd8e73a0a3dbb8118ddda48396d39c4a0be9e139ad7a3c320", func := "corvee/corveelaw18.NetOne", spec := "netOne", unfollowed := true, recurses := true, named := ["corvee/frame.halves"], apart := false, laid := [("corvee/frame.halves", laid_corvee_frame_halves)], narrowed := true }
def NetOneUptoSaid : Prop := netOneUptoRow.holds Tryd.pinned (OpenSpec.upto netOneSpec)

/-- 'corveelaw18.NetFull', WHERE WHAT IT READS IS OF BULK AT MOST 1048576: true; the input reads as it did. -/
def netFullUptoRow : OpenClaim := { program := "ytkenaoejijpgpaadoor", sum := "ea34b2cfc2fe037cd8e73a0a3dbb8118ddda48396d39c4a0be9e139ad7a3c320", func := "corvee/corveelaw18.NetFull", spec := "netFull", unfollowed := true, recurses := true, named := ["corvee/frame.halves"], apart := false, laid := [("corvee/frame.halves", laid_corvee_frame_halves)], narrowed := true }
def NetFullUptoSaid : Prop := netFullUptoRow.holds Tryd.pinned (OpenSpec.upto netFullSpec)

/-- 'corveelaw18.NetPlays', WHERE WHAT IT READS IS OF BULK AT MOST 1048576: true; the input reads as it did. -/
def netPlaysUptoRow : OpenClaim := { program := "ytkenaoejijpgpaadoor", sum := "ea34b2cfc2fe037cd8e73a0a3dbb8118ddda48396d39c4a0be9e139ad7a3c320", func := "corvee/corveelaw18.NetPlays", spec := "netPlays", unfollowed := true, recurses := true, named := ["corvee/frame.halves"], apart := false, laid := [("corvee/frame.halves", laid_corvee_frame_halves)], narrowed := true }
def NetPlaysUptoSaid : Prop := netPlaysUptoRow.holds Tryd.pinned (OpenSpec.upto netPlaysSpec)

/-- 'corveelaw18.NetOwn', WHERE WHAT IT READS IS OF BULK AT MOST 1048576: true; the input reads as it did. -/
def netOwnUptoRow : OpenClaim := { program := "ytkenaoejijpgpaadoor", sum := "ea34b2cfc2fe037cd8e73a0a3dbb8118ddda48396d39c4a0be9e139ad7a3c320", func := "corvee/corveelaw18.NetOwn", spec := "netOwn", unfollowed := true, recurses := true, named := ["corvee/frame.halves"], apart := false, laid := [("corvee/frame.halves", laid_corvee_frame_halves)], narrowed := true }
def NetOwnUptoSaid : Prop := netOwnUptoRow.holds Tryd.pinned (OpenSpec.upto netOwnSpec)

end Rows
end Go.Proofs.YtkenaoejijpgpaaDoor
