/-
  DERIVED. GIVEN WITH THE SEED: THE CARDS: each row of YthocckhpkfcemaaDoorRows.lean that lists a variable, with what it lists TIED to the program's text (the seventh form; the later family's looks); each row that meets fmt, with fmt's text TOLD by the authors' own Lean function (tested against real Go, not proved from fmt's source: count such statements apart). THE CARD IS WHAT COUNTS. Prove the row's statement (the work); the ties are given (YthocckhpkfcemaaDoorTie.lean); close each card by the builder's one call (the guide's Derived/Test/ToyasCard.lean, 'card_holds'). Laid BY PROGRAM, IN A SANDBOX (cutbox-door.mjs). By AI agents, Wed Nov 11 2026. No macro, syntax, notation, axiom, sorry.
-/
import Derived.Test.YthocckhpkfcemaaDoorRows
import GoSem.ClaimSeven
namespace Go.Proofs.YthocckhpkfcemaaDoor
namespace Rows

/-- THE TIED CARD OF 'corveelaw02.FrameSums'. -/
def frameSumsCard : Claim7 := { stood := { row := frameSumsRow, standIns := [], harness := (true, "2c04ac90f36ef1294f2792161ca136f6c79d1a911a3ffeff971d7b5bfbb8f7c4"), looks := false }, kinds := [], alts := [], laidByText := true, laidKinds := [.data], laidTests := true, laidLooks := .later }
def FrameSumsCardSaid : Prop := Claim7.holds Tryd.pinned (.plain (OpenSpec.ofChange frameSumsSpec)) frameSumsCard

/-- THE TIED CARD OF 'corveelaw02.FrameScans'. -/
def frameScansCard : Claim7 := { stood := { row := frameScansRow, standIns := [], harness := (true, "2c04ac90f36ef1294f2792161ca136f6c79d1a911a3ffeff971d7b5bfbb8f7c4"), looks := false }, kinds := [], alts := [], laidByText := true, laidKinds := [.data], laidTests := true, laidLooks := .later }
def FrameScansCardSaid : Prop := Claim7.holds Tryd.pinned (.plain (OpenSpec.ofChange frameScansSpec)) frameScansCard

/-- THE TIED CARD OF 'corveelaw02.FrameBack'. -/
def frameBackCard : Claim7 := { stood := { row := frameBackRow, standIns := [], harness := (true, "2c04ac90f36ef1294f2792161ca136f6c79d1a911a3ffeff971d7b5bfbb8f7c4"), looks := false }, kinds := [], alts := [], laidByText := true, laidKinds := [.data], laidTests := true, laidLooks := .later }
def FrameBackCardSaid : Prop := Claim7.holds Tryd.pinned (.plain (OpenSpec.ofChange frameBackSpec)) frameBackCard

/-- THE TIED CARD OF 'corveelaw02.FrameNexts'. -/
def frameNextsCard : Claim7 := { stood := { row := frameNextsRow, standIns := [], harness := (true, "2c04ac90f36ef1294f2792161ca136f6c79d1a911a3ffeff971d7b5bfbb8f7c4"), looks := false }, kinds := [], alts := [], laidByText := true, laidKinds := [.data], laidTests := true, laidLooks := .later }
def FrameNextsCardSaid : Prop := Claim7.holds Tryd.pinned (.plain (OpenSpec.ofChange frameNextsSpec)) frameNextsCard

/-- THE TIED CARD OF 'corveelaw02.FrameTurned'. -/
def frameTurnedCard : Claim7 := { stood := { row := frameTurnedRow, standIns := [], harness := (true, "2c04ac90f36ef1294f2792161ca136f6c79d1a911a3ffeff971d7b5bfbb8f7c4"), looks := false }, kinds := [], alts := [], laidByText := true, laidKinds := [.data], laidTests := true, laidLooks := .later }
def FrameTurnedCardSaid : Prop := Claim7.holds Tryd.pinned (.plain (OpenSpec.ofChange frameTurnedSpec)) frameTurnedCard

/-- THE TIED CARD OF 'corveelaw02.FrameLimit'. -/
def frameLimitCard : Claim7 := { stood := { row := frameLimitRow, standIns := [], harness := (true, "2c04ac90f36ef1294f2792161ca136f6c79d1a911a3ffeff971d7b5bfbb8f7c4"), looks := false }, kinds := [], alts := [], laidByText := true, laidKinds := [.data], laidTests := true, laidLooks := .later }
def FrameLimitCardSaid : Prop := Claim7.holds Tryd.pinned (.plain (OpenSpec.ofChange frameLimitSpec)) frameLimitCard

/-- THE SECOND FORM's CARD OF 'corveelaw02.FrameSums'. -/
def frameSumsUptoCard : Claim7 := { stood := { row := frameSumsUptoRow, standIns := [], harness := (true, "2c04ac90f36ef1294f2792161ca136f6c79d1a911a3ffeff971d7b5bfbb8f7c4"), looks := false }, kinds := [], alts := [], laidByText := true, laidKinds := [.data], laidTests := true, laidLooks := .later }
def FrameSumsUptoCardSaid : Prop := Claim7.holds Tryd.pinned (.plain (OpenSpec.upto frameSumsSpec)) frameSumsUptoCard

/-- THE SECOND FORM's CARD OF 'corveelaw02.FrameScans'. -/
def frameScansUptoCard : Claim7 := { stood := { row := frameScansUptoRow, standIns := [], harness := (true, "2c04ac90f36ef1294f2792161ca136f6c79d1a911a3ffeff971d7b5bfbb8f7c4"), looks := false }, kinds := [], alts := [], laidByText := true, laidKinds := [.data], laidTests := true, laidLooks := .later }
def FrameScansUptoCardSaid : Prop := Claim7.holds Tryd.pinned (.plain (OpenSpec.upto frameScansSpec)) frameScansUptoCard

/-- THE SECOND FORM's CARD OF 'corveelaw02.FrameBack'. -/
def frameBackUptoCard : Claim7 := { stood := { row := frameBackUptoRow, standIns := [], harness := (true, "2c04ac90f36ef1294f2792161ca136f6c79d1a911a3ffeff971d7b5bfbb8f7c4"), looks := false }, kinds := [], alts := [], laidByText := true, laidKinds := [.data], laidTests := true, laidLooks := .later }
def FrameBackUptoCardSaid : Prop := Claim7.holds Tryd.pinned (.plain (OpenSpec.upto frameBackSpec)) frameBackUptoCard

/-- THE SECOND FORM's CARD OF 'corveelaw02.FrameNexts'. -/
def frameNextsUptoCard : Claim7 := { stood := { row := frameNextsUptoRow, standIns := [], harness := (true, "2c04ac90f36ef1294f2792161ca136f6c79d1a911a3ffeff971d7b5bfbb8f7c4"), looks := false }, kinds := [], alts := [], laidByText := true, laidKinds := [.data], laidTests := true, laidLooks := .later }
def FrameNextsUptoCardSaid : Prop := Claim7.holds Tryd.pinned (.plain (OpenSpec.upto frameNextsSpec)) frameNextsUptoCard

/-- THE SECOND FORM's CARD OF 'corveelaw02.FrameTurned'. -/
def frameTurnedUptoCard : Claim7 := { stood := { row := frameTurnedUptoRow, standIns := [], harness := (true, "2c04ac90f36ef1294f2792161ca136f6c79d1a911a3ffeff971d7b5bfbb8f7c4"), looks := false }, kinds := [], alts := [], laidByText := true, laidKinds := [.data], laidTests := true, laidLooks := .later }
def FrameTurnedUptoCardSaid : Prop := Claim7.holds Tryd.pinned (.plain (OpenSpec.upto frameTurnedSpec)) frameTurnedUptoCard

/-- THE SECOND FORM's CARD OF 'corveelaw02.FrameLimit'. -/
def frameLimitUptoCard : Claim7 := { stood := { row := frameLimitUptoRow, standIns := [], harness := (true, "2c04ac90f36ef1294f2792161ca136f6c79d1a911a3ffeff971d7b5bfbb8f7c4"), looks := false }, kinds := [], alts := [], laidByText := true, laidKinds := [.data], laidTests := true, laidLooks := .later }
def FrameLimitUptoCardSaid : Prop := Claim7.holds Tryd.pinned (.plain (OpenSpec.upto frameLimitSpec)) frameLimitUptoCard
end Rows
end Go.Proofs.YthocckhpkfcemaaDoor
