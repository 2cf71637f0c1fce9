/-
  DERIVED. GIVEN WITH THE SEED: THE CARDS: each row of YtfbmjejkhnopiaaDoorRows.lean that lists a variable, with what it lists TIED to the program's text (the seventh form; the later family's looks); each row that meets fmt, with fmt's text TOLD by the authors' own Lean function (tested against real Go, not proved from fmt's source: count such statements apart). THE CARD IS WHAT COUNTS. Prove the row's statement (the work); the ties are given (YtfbmjejkhnopiaaDoorTie.lean); close each card by the builder's one call (the guide's Derived/Test/ToyasCard.lean, 'card_holds'). Laid BY PROGRAM, IN A SANDBOX (cutbox-door.mjs). By AI agents, Wed Nov 11 2026. No macro, syntax, notation, axiom, sorry.
-/
import Derived.Test.YtfbmjejkhnopiaaDoorRows
import GoSem.ClaimSeven
namespace Go.Proofs.YtfbmjejkhnopiaaDoor
namespace Rows

/-- THE TIED CARD OF 'corveelaw03.VecTurned'. -/
def vecTurnedCard : Claim7 := { stood := { row := vecTurnedRow, standIns := [], harness := (true, "df8624d6a1dd59288185e748c6853faf3f011d9b6983b80ad5cfc0bab94fbba7"), looks := false }, kinds := [], alts := [], laidByText := true, laidKinds := [.data, .data, .data], laidTests := true, laidLooks := .later }
def VecTurnedCardSaid : Prop := Claim7.holds Tryd.pinned (.plain (OpenSpec.ofChange vecTurnedSpec)) vecTurnedCard

/-- THE TIED CARD OF 'corveelaw03.VecFits'. -/
def vecFitsCard : Claim7 := { stood := { row := vecFitsRow, standIns := [], harness := (true, "df8624d6a1dd59288185e748c6853faf3f011d9b6983b80ad5cfc0bab94fbba7"), looks := false }, kinds := [], alts := [], laidByText := true, laidKinds := [.data, .data, .data], laidTests := true, laidLooks := .later }
def VecFitsCardSaid : Prop := Claim7.holds Tryd.pinned (.plain (OpenSpec.ofChange vecFitsSpec)) vecFitsCard

/-- THE TIED CARD OF 'corveelaw03.VecSums'. -/
def vecSumsCard : Claim7 := { stood := { row := vecSumsRow, standIns := [], harness := (true, "df8624d6a1dd59288185e748c6853faf3f011d9b6983b80ad5cfc0bab94fbba7"), looks := false }, kinds := [], alts := [], laidByText := true, laidKinds := [.data, .data, .data], laidTests := true, laidLooks := .later }
def VecSumsCardSaid : Prop := Claim7.holds Tryd.pinned (.plain (OpenSpec.ofChange vecSumsSpec)) vecSumsCard

/-- THE TIED CARD OF 'corveelaw03.VecTimes'. -/
def vecTimesCard : Claim7 := { stood := { row := vecTimesRow, standIns := [], harness := (true, "df8624d6a1dd59288185e748c6853faf3f011d9b6983b80ad5cfc0bab94fbba7"), looks := false }, kinds := [], alts := [], laidByText := true, laidKinds := [.data, .data, .data], laidTests := true, laidLooks := .later }
def VecTimesCardSaid : Prop := Claim7.holds Tryd.pinned (.plain (OpenSpec.ofChange vecTimesSpec)) vecTimesCard

/-- THE TIED CARD OF 'corveelaw03.VecTexts'. -/
def vecTextsCard : Claim7 := { stood := { row := vecTextsRow, standIns := [], harness := (true, "df8624d6a1dd59288185e748c6853faf3f011d9b6983b80ad5cfc0bab94fbba7"), looks := false }, kinds := [], alts := [], laidByText := true, laidKinds := [.data, .data, .data], laidTests := true, laidLooks := .later }
def VecTextsCardSaid : Prop := Claim7.holds Tryd.pinned (.plain (OpenSpec.ofChange vecTextsSpec)) vecTextsCard

/-- THE TIED CARD OF 'corveelaw03.VecBack'. -/
def vecBackCard : Claim7 := { stood := { row := vecBackRow, standIns := [], harness := (true, "df8624d6a1dd59288185e748c6853faf3f011d9b6983b80ad5cfc0bab94fbba7"), looks := false }, kinds := [], alts := [], laidByText := true, laidKinds := [.data, .data, .data], laidTests := true, laidLooks := .later }
def VecBackCardSaid : Prop := Claim7.holds Tryd.pinned (.plain (OpenSpec.ofChange vecBackSpec)) vecBackCard

/-- THE SECOND FORM's CARD OF 'corveelaw03.VecTurned'. -/
def vecTurnedUptoCard : Claim7 := { stood := { row := vecTurnedUptoRow, standIns := [], harness := (true, "df8624d6a1dd59288185e748c6853faf3f011d9b6983b80ad5cfc0bab94fbba7"), looks := false }, kinds := [], alts := [], laidByText := true, laidKinds := [.data, .data, .data], laidTests := true, laidLooks := .later }
def VecTurnedUptoCardSaid : Prop := Claim7.holds Tryd.pinned (.plain (OpenSpec.upto vecTurnedSpec)) vecTurnedUptoCard

/-- THE SECOND FORM's CARD OF 'corveelaw03.VecFits'. -/
def vecFitsUptoCard : Claim7 := { stood := { row := vecFitsUptoRow, standIns := [], harness := (true, "df8624d6a1dd59288185e748c6853faf3f011d9b6983b80ad5cfc0bab94fbba7"), looks := false }, kinds := [], alts := [], laidByText := true, laidKinds := [.data, .data, .data], laidTests := true, laidLooks := .later }
def VecFitsUptoCardSaid : Prop := Claim7.holds Tryd.pinned (.plain (OpenSpec.upto vecFitsSpec)) vecFitsUptoCard

/-- THE SECOND FORM's CARD OF 'corveelaw03.VecSums'. -/
def vecSumsUptoCard : Claim7 := { stood := { row := vecSumsUptoRow, standIns := [], harness := (true, "df8624d6a1dd59288185e748c6853faf3f011d9b6983b80ad5cfc0bab94fbba7"), looks := false }, kinds := [], alts := [], laidByText := true, laidKinds := [.data, .data, .data], laidTests := true, laidLooks := .later }
def VecSumsUptoCardSaid : Prop := Claim7.holds Tryd.pinned (.plain (OpenSpec.upto vecSumsSpec)) vecSumsUptoCard

/-- THE SECOND FORM's CARD OF 'corveelaw03.VecTimes'. -/
def vecTimesUptoCard : Claim7 := { stood := { row := vecTimesUptoRow, standIns := [], harness := (true, "df8624d6a1dd59288185e748c6853faf3f011d9b6983b80ad5cfc0bab94fbba7"), looks := false }, kinds := [], alts := [], laidByText := true, laidKinds := [.data, .data, .data], laidTests := true, laidLooks := .later }
def VecTimesUptoCardSaid : Prop := Claim7.holds Tryd.pinned (.plain (OpenSpec.upto vecTimesSpec)) vecTimesUptoCard

/-- THE SECOND FORM's CARD OF 'corveelaw03.VecTexts'. -/
def vecTextsUptoCard : Claim7 := { stood := { row := vecTextsUptoRow, standIns := [], harness := (true, "df8624d6a1dd59288185e748c6853faf3f011d9b6983b80ad5cfc0bab94fbba7"), looks := false }, kinds := [], alts := [], laidByText := true, laidKinds := [.data, .data, .data], laidTests := true, laidLooks := .later }
def VecTextsUptoCardSaid : Prop := Claim7.holds Tryd.pinned (.plain (OpenSpec.upto vecTextsSpec)) vecTextsUptoCard

/-- THE SECOND FORM's CARD OF 'corveelaw03.VecBack'. -/
def vecBackUptoCard : Claim7 := { stood := { row := vecBackUptoRow, standIns := [], harness := (true, "df8624d6a1dd59288185e748c6853faf3f011d9b6983b80ad5cfc0bab94fbba7"), looks := false }, kinds := [], alts := [], laidByText := true, laidKinds := [.data, .data, .data], laidTests := true, laidLooks := .later }
def VecBackUptoCardSaid : Prop := Claim7.holds Tryd.pinned (.plain (OpenSpec.upto vecBackSpec)) vecBackUptoCard
end Rows
end Go.Proofs.YtfbmjejkhnopiaaDoor
