/-
  DERIVED. GIVEN WITH THE SEED: THE CARDS: each row of YtkenaoejijpgpaaDoorRows.lean that lists a variable, with what it lists TIED to the program's text (the seventh form; the later family's looks); each row that meets fmt, with fmt's text TOLD by the authors' own Lean function (tested against real Go, not proved from fmt's source: count such statements apart). THE CARD IS WHAT COUNTS. Prove the row's statement (the work); the ties are given (YtkenaoejijpgpaaDoorTie.lean); close each card by the builder's one call (the guide's Derived/Test/ToyasCard.lean, 'card_holds'). Laid BY PROGRAM, IN A SANDBOX (cutbox-door.mjs). By AI agents, Wed Nov 11 2026. No macro, syntax, notation, axiom, sorry.
-/
import Derived.Test.YtkenaoejijpgpaaDoorRows
import GoSem.ClaimSeven
namespace Go.Proofs.YtkenaoejijpgpaaDoor
namespace Rows

/-- THE TIED CARD OF 'corveelaw18.NetPacks'. -/
def netPacksCard : Claim7 := { stood := { row := netPacksRow, standIns := [], harness := (true, "ce0e0cba70cbac41b37cad3d05c1df8cc5a0876b6f624fa343aab80b5e1e247b"), looks := false }, kinds := [], alts := [], laidByText := true, laidKinds := [.data], laidTests := true, laidLooks := .later }
def NetPacksCardSaid : Prop := Claim7.holds Tryd.pinned (.plain (OpenSpec.ofChange netPacksSpec)) netPacksCard

/-- THE TIED CARD OF 'corveelaw18.NetUnpacks'. -/
def netUnpacksCard : Claim7 := { stood := { row := netUnpacksRow, standIns := [], harness := (true, "ce0e0cba70cbac41b37cad3d05c1df8cc5a0876b6f624fa343aab80b5e1e247b"), looks := false }, kinds := [], alts := [], laidByText := true, laidKinds := [.data], laidTests := true, laidLooks := .later }
def NetUnpacksCardSaid : Prop := Claim7.holds Tryd.pinned (.plain (OpenSpec.ofChange netUnpacksSpec)) netUnpacksCard

/-- THE TIED CARD OF 'corveelaw18.NetBack'. -/
def netBackCard : Claim7 := { stood := { row := netBackRow, standIns := [], harness := (true, "ce0e0cba70cbac41b37cad3d05c1df8cc5a0876b6f624fa343aab80b5e1e247b"), looks := false }, kinds := [], alts := [], laidByText := true, laidKinds := [.data], laidTests := true, laidLooks := .later }
def NetBackCardSaid : Prop := Claim7.holds Tryd.pinned (.plain (OpenSpec.ofChange netBackSpec)) netBackCard

/-- THE TIED CARD OF 'corveelaw18.NetOne'. -/
def netOneCard : Claim7 := { stood := { row := netOneRow, standIns := [], harness := (true, "ce0e0cba70cbac41b37cad3d05c1df8cc5a0876b6f624fa343aab80b5e1e247b"), looks := false }, kinds := [], alts := [], laidByText := true, laidKinds := [.data], laidTests := true, laidLooks := .later }
def NetOneCardSaid : Prop := Claim7.holds Tryd.pinned (.plain (OpenSpec.ofChange netOneSpec)) netOneCard

/-- THE TIED CARD OF 'corveelaw18.NetFull'. -/
def netFullCard : Claim7 := { stood := { row := netFullRow, standIns := [], harness := (true, "ce0e0cba70cbac41b37cad3d05c1df8cc5a0876b6f624fa343aab80b5e1e247b"), looks := false }, kinds := [], alts := [], laidByText := true, laidKinds := [.data], laidTests := true, laidLooks := .later }
def NetFullCardSaid : Prop := Claim7.holds Tryd.pinned (.plain (OpenSpec.ofChange netFullSpec)) netFullCard

/-- THE TIED CARD OF 'corveelaw18.NetPlays'. -/
def netPlaysCard : Claim7 := { stood := { row := netPlaysRow, standIns := [], harness := (true, "ce0e0cba70cbac41b37cad3d05c1df8cc5a0876b6f624fa343aab80b5e1e247b"), looks := false }, kinds := [], alts := [], laidByText := true, laidKinds := [.data], laidTests := true, laidLooks := .later }
def NetPlaysCardSaid : Prop := Claim7.holds Tryd.pinned (.plain (OpenSpec.ofChange netPlaysSpec)) netPlaysCard

/-- THE TIED CARD OF 'corveelaw18.NetOwn'. -/
def netOwnCard : Claim7 := { stood := { row := netOwnRow, standIns := [], harness := (true, "ce0e0cba70cbac41b37cad3d05c1df8cc5a0876b6f624fa343aab80b5e1e247b"), looks := false }, kinds := [], alts := [], laidByText := true, laidKinds := [.data], laidTests := true, laidLooks := .later }
def NetOwnCardSaid : Prop := Claim7.holds Tryd.pinned (.plain (OpenSpec.ofChange netOwnSpec)) netOwnCard

/-- THE SECOND FORM's CARD OF 'corveelaw18.NetPacks'. -/
def netPacksUptoCard : Claim7 := { stood := { row := netPacksUptoRow, standIns := [], harness := (true, "ce0e0cba70cbac41b37cad3d05c1df8cc5a0876b6f624fa343aab80b5e1e247b"), looks := false }, kinds := [], alts := [], laidByText := true, laidKinds := [.data], laidTests := true, laidLooks := .later }
def NetPacksUptoCardSaid : Prop := Claim7.holds Tryd.pinned (.plain (OpenSpec.upto netPacksSpec)) netPacksUptoCard

/-- THE SECOND FORM's CARD OF 'corveelaw18.NetUnpacks'. -/
def netUnpacksUptoCard : Claim7 := { stood := { row := netUnpacksUptoRow, standIns := [], harness := (true, "ce0e0cba70cbac41b37cad3d05c1df8cc5a0876b6f624fa343aab80b5e1e247b"), looks := false }, kinds := [], alts := [], laidByText := true, laidKinds := [.data], laidTests := true, laidLooks := .later }
def NetUnpacksUptoCardSaid : Prop := Claim7.holds Tryd.pinned (.plain (OpenSpec.upto netUnpacksSpec)) netUnpacksUptoCard

/-- THE SECOND FORM's CARD OF 'corveelaw18.NetBack'. -/
def netBackUptoCard : Claim7 := { stood := { row := netBackUptoRow, standIns := [], harness := (true, "ce0e0cba70cbac41b37cad3d05c1df8cc5a0876b6f624fa343aab80b5e1e247b"), looks := false }, kinds := [], alts := [], laidByText := true, laidKinds := [.data], laidTests := true, laidLooks := .later }
def NetBackUptoCardSaid : Prop := Claim7.holds Tryd.pinned (.plain (OpenSpec.upto netBackSpec)) netBackUptoCard

/-- THE SECOND FORM's CARD OF 'corveelaw18.NetOne'. -/
def netOneUptoCard : Claim7 := { stood := { row := netOneUptoRow, standIns := [], harness := (true, "ce0e0cba70cbac41b37cad3d05c1df8cc5a0876b6f624fa343aab80b5e1e247b"), looks := false }, kinds := [], alts := [], laidByText := true, laidKinds := [.data], laidTests := true, laidLooks := .later }
def NetOneUptoCardSaid : Prop := Claim7.holds Tryd.pinned (.plain (OpenSpec.upto netOneSpec)) netOneUptoCard

/-- THE SECOND FORM's CARD OF 'corveelaw18.NetFull'. -/
def netFullUptoCard : Claim7 := { stood := { row := netFullUptoRow, standIns := [], harness := (true, "ce0e0cba70cbac41b37cad3d05c1df8cc5a0876b6f624fa343aab80b5e1e247b"), looks := false }, kinds := [], alts := [], laidByText := true, laidKinds := [.data], laidTests := true, laidLooks := .later }
def NetFullUptoCardSaid : Prop := Claim7.holds Tryd.pinned (.plain (OpenSpec.upto netFullSpec)) netFullUptoCard

/-- THE SECOND FORM's CARD OF 'corveelaw18.NetPlays'. -/
def netPlaysUptoCard : Claim7 := { stood := { row := netPlaysUptoRow, standIns := [], harness := (true, "ce0e0cba70cbac41b37cad3d05c1df8cc5a0876b6f624fa343aab80b5e1e247b"), looks := false }, kinds := [], alts := [], laidByText := true, laidKinds := [.data], laidTests := true, laidLooks := .later }
def NetPlaysUptoCardSaid : Prop := Claim7.holds Tryd.pinned (.plain (OpenSpec.upto netPlaysSpec)) netPlaysUptoCard

/-- THE SECOND FORM's CARD OF 'corveelaw18.NetOwn'. -/
def netOwnUptoCard : Claim7 := { stood := { row := netOwnUptoRow, standIns := [], harness := (true, "ce0e0cba70cbac41b37cad3d05c1df8cc5a0876b6f624fa343aab80b5e1e247b"), looks := false }, kinds := [], alts := [], laidByText := true, laidKinds := [.data], laidTests := true, laidLooks := .later }
def NetOwnUptoCardSaid : Prop := Claim7.holds Tryd.pinned (.plain (OpenSpec.upto netOwnSpec)) netOwnUptoCard
end Rows
end Go.Proofs.YtkenaoejijpgpaaDoor
