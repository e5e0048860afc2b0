/-
  DERIVED. GIVEN WITH THE SEED: THE CARDS: each row of YtfnabehbkmlofaaGreatDoorRows.lean that lists a variable, with what it lists TIED to the program's text (the seventh form; the later family's looks); each row that meets fmt, with fmt's text TOLD by the authors' own Lean function (tested against real Go, not proved from fmt's source: count such statements apart). THE CARD IS WHAT COUNTS. Prove the row's statement (the work); the ties are given (YtfnabehbkmlofaaGreatDoorTie.lean); close each card by the builder's one call (the guide's Derived/Test/ToyasCard.lean, 'card_holds'). Laid BY PROGRAM, IN A SANDBOX (cutbox-door.mjs). By AI agents, Wed Nov 11 2026. No macro, syntax, notation, axiom, sorry.
-/
import Derived.Test.YtfnabehbkmlofaaGreatDoorRows
import GoSem.ClaimSeven
namespace Go.Proofs.YtfnabehbkmlofaaGreatDoor
namespace Rows

/-- THE TIED CARD OF 'overtonelaw05.IvlTells'. -/
def ivlTellsCard : Claim7 := { stood := { row := ivlTellsRow, standIns := [], harness := (true, "3a983f5c9768fe85505ae185d5ba176c8308c1664a39c30cd548c64ea07ffc02"), looks := false }, kinds := [], alts := [], laidByText := true, laidKinds := [.data, .data], laidTests := true, laidLooks := .later }
def IvlTellsCardSaid : Prop := Claim7.holds Tryz.pinned (.plain (OpenSpec.ofChange ivlTellsSpec)) ivlTellsCard

/-- THE TIED CARD OF 'overtonelaw08.TrigTells'. -/
def trigTellsCard : Claim7 := { stood := { row := trigTellsRow, standIns := [], harness := (true, "3a983f5c9768fe85505ae185d5ba176c8308c1664a39c30cd548c64ea07ffc02"), looks := false }, kinds := [], alts := [], laidByText := true, laidKinds := [.data, .data], laidTests := true, laidLooks := .later }
def TrigTellsCardSaid : Prop := Claim7.holds Tryz.pinned (.plain (OpenSpec.ofChange trigTellsSpec)) trigTellsCard

/-- THE TIED CARD OF 'overtonelaw08.TrigNear'. -/
def trigNearCard : Claim7 := { stood := { row := trigNearRow, standIns := [], harness := (true, "3a983f5c9768fe85505ae185d5ba176c8308c1664a39c30cd548c64ea07ffc02"), looks := false }, kinds := [], alts := [], laidByText := true, laidKinds := [.data, .data], laidTests := true, laidLooks := .later }
def TrigNearCardSaid : Prop := Claim7.holds Tryz.pinned (.plain (OpenSpec.ofChange trigNearSpec)) trigNearCard

/-- THE TIED CARD OF 'overtonelaw08.TrigOne'. -/
def trigOneCard : Claim7 := { stood := { row := trigOneRow, standIns := [], harness := (true, "3a983f5c9768fe85505ae185d5ba176c8308c1664a39c30cd548c64ea07ffc02"), looks := false }, kinds := [], alts := [], laidByText := true, laidKinds := [.data, .data], laidTests := true, laidLooks := .later }
def TrigOneCardSaid : Prop := Claim7.holds Tryz.pinned (.plain (OpenSpec.ofChange trigOneSpec)) trigOneCard

/-- THE TIED CARD OF 'overtonelaw08.TrigTurns'. -/
def trigTurnsCard : Claim7 := { stood := { row := trigTurnsRow, standIns := [], harness := (true, "3a983f5c9768fe85505ae185d5ba176c8308c1664a39c30cd548c64ea07ffc02"), looks := false }, kinds := [], alts := [], laidByText := true, laidKinds := [.data, .data], laidTests := true, laidLooks := .later }
def TrigTurnsCardSaid : Prop := Claim7.holds Tryz.pinned (.plain (OpenSpec.ofChange trigTurnsSpec)) trigTurnsCard

/-- THE TIED CARD OF 'overtonelaw08.TrigSum'. -/
def trigSumCard : Claim7 := { stood := { row := trigSumRow, standIns := [], harness := (true, "3a983f5c9768fe85505ae185d5ba176c8308c1664a39c30cd548c64ea07ffc02"), looks := false }, kinds := [], alts := [], laidByText := true, laidKinds := [.data, .data], laidTests := true, laidLooks := .later }
def TrigSumCardSaid : Prop := Claim7.holds Tryz.pinned (.plain (OpenSpec.ofChange trigSumSpec)) trigSumCard

/-- THE TIED CARD OF 'overtonelaw08.TrigTable'. -/
def trigTableCard : Claim7 := { stood := { row := trigTableRow, standIns := [], harness := (true, "3a983f5c9768fe85505ae185d5ba176c8308c1664a39c30cd548c64ea07ffc02"), looks := false }, kinds := [], alts := [], laidByText := true, laidKinds := [.data, .data], laidTests := true, laidLooks := .later }
def TrigTableCardSaid : Prop := Claim7.holds Tryz.pinned (.plain (OpenSpec.ofChange trigTableSpec)) trigTableCard

/-- THE TIED CARD OF 'overtonelaw20.WinTells'. -/
def winTellsCard : Claim7 := { stood := { row := winTellsRow, standIns := [], harness := (true, "3a983f5c9768fe85505ae185d5ba176c8308c1664a39c30cd548c64ea07ffc02"), looks := false }, kinds := [], alts := [], laidByText := true, laidKinds := [.data, .data], laidTests := true, laidLooks := .later }
def WinTellsCardSaid : Prop := Claim7.holds Tryz.pinned (.plain (OpenSpec.ofChange winTellsSpec)) winTellsCard

/-- THE TIED CARD OF 'overtonelaw20.WinOne'. -/
def winOneCard : Claim7 := { stood := { row := winOneRow, standIns := [], harness := (true, "3a983f5c9768fe85505ae185d5ba176c8308c1664a39c30cd548c64ea07ffc02"), looks := false }, kinds := [], alts := [], laidByText := true, laidKinds := [.data, .data], laidTests := true, laidLooks := .later }
def WinOneCardSaid : Prop := Claim7.holds Tryz.pinned (.plain (OpenSpec.ofChange winOneSpec)) winOneCard

/-- THE TIED CARD OF 'overtonelaw20.WinShape'. -/
def winShapeCard : Claim7 := { stood := { row := winShapeRow, standIns := [], harness := (true, "3a983f5c9768fe85505ae185d5ba176c8308c1664a39c30cd548c64ea07ffc02"), looks := false }, kinds := [], alts := [], laidByText := true, laidKinds := [.data, .data], laidTests := true, laidLooks := .later }
def WinShapeCardSaid : Prop := Claim7.holds Tryz.pinned (.plain (OpenSpec.ofChange winShapeSpec)) winShapeCard

/-- THE TIED CARD OF 'overtonelaw20.WinKinds'. -/
def winKindsCard : Claim7 := { stood := { row := winKindsRow, standIns := [], harness := (true, "3a983f5c9768fe85505ae185d5ba176c8308c1664a39c30cd548c64ea07ffc02"), looks := false }, kinds := [], alts := [], laidByText := true, laidKinds := [.data, .data], laidTests := true, laidLooks := .later }
def WinKindsCardSaid : Prop := Claim7.holds Tryz.pinned (.plain (OpenSpec.ofChange winKindsSpec)) winKindsCard

/-- THE TIED CARD OF 'overtonelaw20.WinApply'. -/
def winApplyCard : Claim7 := { stood := { row := winApplyRow, standIns := [], harness := (true, "3a983f5c9768fe85505ae185d5ba176c8308c1664a39c30cd548c64ea07ffc02"), looks := false }, kinds := [], alts := [], laidByText := true, laidKinds := [.data, .data], laidTests := true, laidLooks := .later }
def WinApplyCardSaid : Prop := Claim7.holds Tryz.pinned (.plain (OpenSpec.ofChange winApplySpec)) winApplyCard

/-- THE SECOND FORM's CARD OF 'overtonelaw05.IvlTells'. -/
def ivlTellsUptoCard : Claim7 := { stood := { row := ivlTellsUptoRow, standIns := [], harness := (true, "3a983f5c9768fe85505ae185d5ba176c8308c1664a39c30cd548c64ea07ffc02"), looks := false }, kinds := [], alts := [], laidByText := true, laidKinds := [.data, .data], laidTests := true, laidLooks := .later }
def IvlTellsUptoCardSaid : Prop := Claim7.holds Tryz.pinned (.plain (OpenSpec.upto ivlTellsSpec)) ivlTellsUptoCard

/-- THE SECOND FORM's CARD OF 'overtonelaw08.TrigTells'. -/
def trigTellsUptoCard : Claim7 := { stood := { row := trigTellsUptoRow, standIns := [], harness := (true, "3a983f5c9768fe85505ae185d5ba176c8308c1664a39c30cd548c64ea07ffc02"), looks := false }, kinds := [], alts := [], laidByText := true, laidKinds := [.data, .data], laidTests := true, laidLooks := .later }
def TrigTellsUptoCardSaid : Prop := Claim7.holds Tryz.pinned (.plain (OpenSpec.upto trigTellsSpec)) trigTellsUptoCard

/-- THE SECOND FORM's CARD OF 'overtonelaw08.TrigNear'. -/
def trigNearUptoCard : Claim7 := { stood := { row := trigNearUptoRow, standIns := [], harness := (true, "3a983f5c9768fe85505ae185d5ba176c8308c1664a39c30cd548c64ea07ffc02"), looks := false }, kinds := [], alts := [], laidByText := true, laidKinds := [.data, .data], laidTests := true, laidLooks := .later }
def TrigNearUptoCardSaid : Prop := Claim7.holds Tryz.pinned (.plain (OpenSpec.upto trigNearSpec)) trigNearUptoCard

/-- THE SECOND FORM's CARD OF 'overtonelaw08.TrigOne'. -/
def trigOneUptoCard : Claim7 := { stood := { row := trigOneUptoRow, standIns := [], harness := (true, "3a983f5c9768fe85505ae185d5ba176c8308c1664a39c30cd548c64ea07ffc02"), looks := false }, kinds := [], alts := [], laidByText := true, laidKinds := [.data, .data], laidTests := true, laidLooks := .later }
def TrigOneUptoCardSaid : Prop := Claim7.holds Tryz.pinned (.plain (OpenSpec.upto trigOneSpec)) trigOneUptoCard

/-- THE SECOND FORM's CARD OF 'overtonelaw08.TrigTurns'. -/
def trigTurnsUptoCard : Claim7 := { stood := { row := trigTurnsUptoRow, standIns := [], harness := (true, "3a983f5c9768fe85505ae185d5ba176c8308c1664a39c30cd548c64ea07ffc02"), looks := false }, kinds := [], alts := [], laidByText := true, laidKinds := [.data, .data], laidTests := true, laidLooks := .later }
def TrigTurnsUptoCardSaid : Prop := Claim7.holds Tryz.pinned (.plain (OpenSpec.upto trigTurnsSpec)) trigTurnsUptoCard

/-- THE SECOND FORM's CARD OF 'overtonelaw08.TrigSum'. -/
def trigSumUptoCard : Claim7 := { stood := { row := trigSumUptoRow, standIns := [], harness := (true, "3a983f5c9768fe85505ae185d5ba176c8308c1664a39c30cd548c64ea07ffc02"), looks := false }, kinds := [], alts := [], laidByText := true, laidKinds := [.data, .data], laidTests := true, laidLooks := .later }
def TrigSumUptoCardSaid : Prop := Claim7.holds Tryz.pinned (.plain (OpenSpec.upto trigSumSpec)) trigSumUptoCard

/-- THE SECOND FORM's CARD OF 'overtonelaw08.TrigTable'. -/
def trigTableUptoCard : Claim7 := { stood := { row := trigTableUptoRow, standIns := [], harness := (true, "3a983f5c9768fe85505ae185d5ba176c8308c1664a39c30cd548c64ea07ffc02"), looks := false }, kinds := [], alts := [], laidByText := true, laidKinds := [.data, .data], laidTests := true, laidLooks := .later }
def TrigTableUptoCardSaid : Prop := Claim7.holds Tryz.pinned (.plain (OpenSpec.upto trigTableSpec)) trigTableUptoCard

/-- THE SECOND FORM's CARD OF 'overtonelaw20.WinTells'. -/
def winTellsUptoCard : Claim7 := { stood := { row := winTellsUptoRow, standIns := [], harness := (true, "3a983f5c9768fe85505ae185d5ba176c8308c1664a39c30cd548c64ea07ffc02"), looks := false }, kinds := [], alts := [], laidByText := true, laidKinds := [.data, .data], laidTests := true, laidLooks := .later }
def WinTellsUptoCardSaid : Prop := Claim7.holds Tryz.pinned (.plain (OpenSpec.upto winTellsSpec)) winTellsUptoCard

/-- THE SECOND FORM's CARD OF 'overtonelaw20.WinOne'. -/
def winOneUptoCard : Claim7 := { stood := { row := winOneUptoRow, standIns := [], harness := (true, "3a983f5c9768fe85505ae185d5ba176c8308c1664a39c30cd548c64ea07ffc02"), looks := false }, kinds := [], alts := [], laidByText := true, laidKinds := [.data, .data], laidTests := true, laidLooks := .later }
def WinOneUptoCardSaid : Prop := Claim7.holds Tryz.pinned (.plain (OpenSpec.upto winOneSpec)) winOneUptoCard

/-- THE SECOND FORM's CARD OF 'overtonelaw20.WinShape'. -/
def winShapeUptoCard : Claim7 := { stood := { row := winShapeUptoRow, standIns := [], harness := (true, "3a983f5c9768fe85505ae185d5ba176c8308c1664a39c30cd548c64ea07ffc02"), looks := false }, kinds := [], alts := [], laidByText := true, laidKinds := [.data, .data], laidTests := true, laidLooks := .later }
def WinShapeUptoCardSaid : Prop := Claim7.holds Tryz.pinned (.plain (OpenSpec.upto winShapeSpec)) winShapeUptoCard

/-- THE SECOND FORM's CARD OF 'overtonelaw20.WinKinds'. -/
def winKindsUptoCard : Claim7 := { stood := { row := winKindsUptoRow, standIns := [], harness := (true, "3a983f5c9768fe85505ae185d5ba176c8308c1664a39c30cd548c64ea07ffc02"), looks := false }, kinds := [], alts := [], laidByText := true, laidKinds := [.data, .data], laidTests := true, laidLooks := .later }
def WinKindsUptoCardSaid : Prop := Claim7.holds Tryz.pinned (.plain (OpenSpec.upto winKindsSpec)) winKindsUptoCard

/-- THE SECOND FORM's CARD OF 'overtonelaw20.WinApply'. -/
def winApplyUptoCard : Claim7 := { stood := { row := winApplyUptoRow, standIns := [], harness := (true, "3a983f5c9768fe85505ae185d5ba176c8308c1664a39c30cd548c64ea07ffc02"), looks := false }, kinds := [], alts := [], laidByText := true, laidKinds := [.data, .data], laidTests := true, laidLooks := .later }
def WinApplyUptoCardSaid : Prop := Claim7.holds Tryz.pinned (.plain (OpenSpec.upto winApplySpec)) winApplyUptoCard
end Rows
end Go.Proofs.YtfnabehbkmlofaaGreatDoor
