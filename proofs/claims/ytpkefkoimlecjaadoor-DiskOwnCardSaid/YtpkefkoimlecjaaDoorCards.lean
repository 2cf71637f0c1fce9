/-
  DERIVED. GIVEN WITH THE SEED: THE CARDS: each row of YtpkefkoimlecjaaDoorRows.lean that lists a variable, with what it lists TIED to the program's text (the seventh form; the later family's looks); each row that meets fmt, with fmt's text TOLD by the authors' own Lean function (tested against real Go, not proved from fmt's source: count such statements apart). THE CARD IS WHAT COUNTS. Prove the row's statement (the work); the ties are given (YtpkefkoimlecjaaDoorTie.lean); close each card by the builder's one call (the guide's Derived/Test/ToyasCard.lean, 'card_holds'). Laid BY PROGRAM, IN A SANDBOX (cutbox-door.mjs). By AI agents, Wed Nov 11 2026. No macro, syntax, notation, axiom, sorry.
-/
import Derived.Test.YtpkefkoimlecjaaDoorRows
import GoSem.ClaimSeven
namespace Go.Proofs.YtpkefkoimlecjaaDoor
namespace Rows

/-- THE TIED CARD OF 'corveelaw15.DiskSnaps'. -/
def diskSnapsCard : Claim7 := { stood := { row := diskSnapsRow, standIns := [], harness := (true, "895f793e3702038fcd7e015c3862bdac71501dec7bbe6deb0d95f97627a0311e"), looks := false }, kinds := [], alts := [], laidByText := true, laidKinds := [.data], laidTests := true, laidLooks := .later }
def DiskSnapsCardSaid : Prop := Claim7.holds Tryd.pinned (.plain (OpenSpec.ofChange diskSnapsSpec)) diskSnapsCard

/-- THE TIED CARD OF 'corveelaw15.DiskPlays'. -/
def diskPlaysCard : Claim7 := { stood := { row := diskPlaysRow, standIns := [], harness := (true, "895f793e3702038fcd7e015c3862bdac71501dec7bbe6deb0d95f97627a0311e"), looks := false }, kinds := [], alts := [], laidByText := true, laidKinds := [.data], laidTests := true, laidLooks := .later }
def DiskPlaysCardSaid : Prop := Claim7.holds Tryd.pinned (.plain (OpenSpec.ofChange diskPlaysSpec)) diskPlaysCard

/-- THE TIED CARD OF 'corveelaw15.DiskFences'. -/
def diskFencesCard : Claim7 := { stood := { row := diskFencesRow, standIns := [], harness := (true, "895f793e3702038fcd7e015c3862bdac71501dec7bbe6deb0d95f97627a0311e"), looks := false }, kinds := [], alts := [], laidByText := true, laidKinds := [.data], laidTests := true, laidLooks := .later }
def DiskFencesCardSaid : Prop := Claim7.holds Tryd.pinned (.plain (OpenSpec.ofChange diskFencesSpec)) diskFencesCard

/-- THE TIED CARD OF 'corveelaw15.DiskOwn'. -/
def diskOwnCard : Claim7 := { stood := { row := diskOwnRow, standIns := [], harness := (true, "895f793e3702038fcd7e015c3862bdac71501dec7bbe6deb0d95f97627a0311e"), looks := false }, kinds := [], alts := [], laidByText := true, laidKinds := [.data], laidTests := true, laidLooks := .later }
def DiskOwnCardSaid : Prop := Claim7.holds Tryd.pinned (.plain (OpenSpec.ofChange diskOwnSpec)) diskOwnCard

/-- THE SECOND FORM's CARD OF 'corveelaw15.DiskSnaps'. -/
def diskSnapsUptoCard : Claim7 := { stood := { row := diskSnapsUptoRow, standIns := [], harness := (true, "895f793e3702038fcd7e015c3862bdac71501dec7bbe6deb0d95f97627a0311e"), looks := false }, kinds := [], alts := [], laidByText := true, laidKinds := [.data], laidTests := true, laidLooks := .later }
def DiskSnapsUptoCardSaid : Prop := Claim7.holds Tryd.pinned (.plain (OpenSpec.upto diskSnapsSpec)) diskSnapsUptoCard

/-- THE SECOND FORM's CARD OF 'corveelaw15.DiskPlays'. -/
def diskPlaysUptoCard : Claim7 := { stood := { row := diskPlaysUptoRow, standIns := [], harness := (true, "895f793e3702038fcd7e015c3862bdac71501dec7bbe6deb0d95f97627a0311e"), looks := false }, kinds := [], alts := [], laidByText := true, laidKinds := [.data], laidTests := true, laidLooks := .later }
def DiskPlaysUptoCardSaid : Prop := Claim7.holds Tryd.pinned (.plain (OpenSpec.upto diskPlaysSpec)) diskPlaysUptoCard

/-- THE SECOND FORM's CARD OF 'corveelaw15.DiskFences'. -/
def diskFencesUptoCard : Claim7 := { stood := { row := diskFencesUptoRow, standIns := [], harness := (true, "895f793e3702038fcd7e015c3862bdac71501dec7bbe6deb0d95f97627a0311e"), looks := false }, kinds := [], alts := [], laidByText := true, laidKinds := [.data], laidTests := true, laidLooks := .later }
def DiskFencesUptoCardSaid : Prop := Claim7.holds Tryd.pinned (.plain (OpenSpec.upto diskFencesSpec)) diskFencesUptoCard

/-- THE SECOND FORM's CARD OF 'corveelaw15.DiskOwn'. -/
def diskOwnUptoCard : Claim7 := { stood := { row := diskOwnUptoRow, standIns := [], harness := (true, "895f793e3702038fcd7e015c3862bdac71501dec7bbe6deb0d95f97627a0311e"), looks := false }, kinds := [], alts := [], laidByText := true, laidKinds := [.data], laidTests := true, laidLooks := .later }
def DiskOwnUptoCardSaid : Prop := Claim7.holds Tryd.pinned (.plain (OpenSpec.upto diskOwnSpec)) diskOwnUptoCard
end Rows
end Go.Proofs.YtpkefkoimlecjaaDoor
