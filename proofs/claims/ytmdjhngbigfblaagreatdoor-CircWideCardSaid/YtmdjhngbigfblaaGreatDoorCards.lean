/-
  DERIVED. GIVEN WITH THE SEED: THE CARDS: each row of YtmdjhngbigfblaaGreatDoorRows.lean that lists a variable, with what it lists TIED to the program's text (the seventh form; the later family's looks); each row that meets fmt, with fmt's text TOLD by the authors' own Lean function (tested against real Go, not proved from fmt's source: count such statements apart). THE CARD IS WHAT COUNTS. Prove the row's statement (the work); the ties are given (YtmdjhngbigfblaaGreatDoorTie.lean); close each card by the builder's one call (the guide's Derived/Test/ToyasCard.lean, 'card_holds'). Laid BY PROGRAM, IN A SANDBOX (cutbox-door.mjs). By AI agents, Wed Nov 11 2026. No macro, syntax, notation, axiom, sorry.
-/
import Derived.Test.YtmdjhngbigfblaaGreatDoorRows
import GoSem.ClaimSeven
namespace Go.Proofs.YtmdjhngbigfblaaGreatDoor
namespace Rows

/-- THE TIED CARD OF 'overtonelaw05.IvlTells'. -/
def ivlTellsCard : Claim7 := { stood := { row := ivlTellsRow, standIns := [], harness := (true, "3e53a24a714968f9c495a1079ae77b5d2b8cb268f587b81e936ef5d18ed27588"), looks := false }, kinds := [], alts := [], laidByText := true, laidKinds := [.data, .data], laidTests := true, laidLooks := .later }
def IvlTellsCardSaid : Prop := Claim7.holds Tryz.pinned (.plain (OpenSpec.ofChange ivlTellsSpec)) ivlTellsCard

/-- THE TIED CARD OF 'overtonelaw07.CircTells'. -/
def circTellsCard : Claim7 := { stood := { row := circTellsRow, standIns := [], harness := (true, "3e53a24a714968f9c495a1079ae77b5d2b8cb268f587b81e936ef5d18ed27588"), looks := false }, kinds := [], alts := [], laidByText := true, laidKinds := [.data, .data], laidTests := true, laidLooks := .later }
def CircTellsCardSaid : Prop := Claim7.holds Tryz.pinned (.plain (OpenSpec.ofChange circTellsSpec)) circTellsCard

/-- THE TIED CARD OF 'overtonelaw07.CircWide'. -/
def circWideCard : Claim7 := { stood := { row := circWideRow, standIns := [], harness := (true, "3e53a24a714968f9c495a1079ae77b5d2b8cb268f587b81e936ef5d18ed27588"), looks := false }, kinds := [], alts := [], laidByText := true, laidKinds := [.data, .data], laidTests := true, laidLooks := .later }
def CircWideCardSaid : Prop := Claim7.holds Tryz.pinned (.plain (OpenSpec.ofChange circWideSpec)) circWideCard

/-- THE TIED CARD OF 'overtonelaw07.CircOne'. -/
def circOneCard : Claim7 := { stood := { row := circOneRow, standIns := [], harness := (true, "3e53a24a714968f9c495a1079ae77b5d2b8cb268f587b81e936ef5d18ed27588"), looks := false }, kinds := [], alts := [], laidByText := true, laidKinds := [.data, .data], laidTests := true, laidLooks := .later }
def CircOneCardSaid : Prop := Claim7.holds Tryz.pinned (.plain (OpenSpec.ofChange circOneSpec)) circOneCard

/-- THE TIED CARD OF 'overtonelaw07.CircTurns'. -/
def circTurnsCard : Claim7 := { stood := { row := circTurnsRow, standIns := [], harness := (true, "3e53a24a714968f9c495a1079ae77b5d2b8cb268f587b81e936ef5d18ed27588"), looks := false }, kinds := [], alts := [], laidByText := true, laidKinds := [.data, .data], laidTests := true, laidLooks := .later }
def CircTurnsCardSaid : Prop := Claim7.holds Tryz.pinned (.plain (OpenSpec.ofChange circTurnsSpec)) circTurnsCard

/-- THE TIED CARD OF 'overtonelaw07.CircSum'. -/
def circSumCard : Claim7 := { stood := { row := circSumRow, standIns := [], harness := (true, "3e53a24a714968f9c495a1079ae77b5d2b8cb268f587b81e936ef5d18ed27588"), looks := false }, kinds := [], alts := [], laidByText := true, laidKinds := [.data, .data], laidTests := true, laidLooks := .later }
def CircSumCardSaid : Prop := Claim7.holds Tryz.pinned (.plain (OpenSpec.ofChange circSumSpec)) circSumCard

/-- THE TIED CARD OF 'overtonelaw07.CircMore'. -/
def circMoreCard : Claim7 := { stood := { row := circMoreRow, standIns := [], harness := (true, "3e53a24a714968f9c495a1079ae77b5d2b8cb268f587b81e936ef5d18ed27588"), looks := false }, kinds := [], alts := [], laidByText := true, laidKinds := [.data, .data], laidTests := true, laidLooks := .later }
def CircMoreCardSaid : Prop := Claim7.holds Tryz.pinned (.plain (OpenSpec.ofChange circMoreSpec)) circMoreCard

/-- THE SECOND FORM's CARD OF 'overtonelaw05.IvlTells'. -/
def ivlTellsUptoCard : Claim7 := { stood := { row := ivlTellsUptoRow, standIns := [], harness := (true, "3e53a24a714968f9c495a1079ae77b5d2b8cb268f587b81e936ef5d18ed27588"), looks := false }, kinds := [], alts := [], laidByText := true, laidKinds := [.data, .data], laidTests := true, laidLooks := .later }
def IvlTellsUptoCardSaid : Prop := Claim7.holds Tryz.pinned (.plain (OpenSpec.upto ivlTellsSpec)) ivlTellsUptoCard

/-- THE SECOND FORM's CARD OF 'overtonelaw07.CircTells'. -/
def circTellsUptoCard : Claim7 := { stood := { row := circTellsUptoRow, standIns := [], harness := (true, "3e53a24a714968f9c495a1079ae77b5d2b8cb268f587b81e936ef5d18ed27588"), looks := false }, kinds := [], alts := [], laidByText := true, laidKinds := [.data, .data], laidTests := true, laidLooks := .later }
def CircTellsUptoCardSaid : Prop := Claim7.holds Tryz.pinned (.plain (OpenSpec.upto circTellsSpec)) circTellsUptoCard

/-- THE SECOND FORM's CARD OF 'overtonelaw07.CircWide'. -/
def circWideUptoCard : Claim7 := { stood := { row := circWideUptoRow, standIns := [], harness := (true, "3e53a24a714968f9c495a1079ae77b5d2b8cb268f587b81e936ef5d18ed27588"), looks := false }, kinds := [], alts := [], laidByText := true, laidKinds := [.data, .data], laidTests := true, laidLooks := .later }
def CircWideUptoCardSaid : Prop := Claim7.holds Tryz.pinned (.plain (OpenSpec.upto circWideSpec)) circWideUptoCard

/-- THE SECOND FORM's CARD OF 'overtonelaw07.CircOne'. -/
def circOneUptoCard : Claim7 := { stood := { row := circOneUptoRow, standIns := [], harness := (true, "3e53a24a714968f9c495a1079ae77b5d2b8cb268f587b81e936ef5d18ed27588"), looks := false }, kinds := [], alts := [], laidByText := true, laidKinds := [.data, .data], laidTests := true, laidLooks := .later }
def CircOneUptoCardSaid : Prop := Claim7.holds Tryz.pinned (.plain (OpenSpec.upto circOneSpec)) circOneUptoCard

/-- THE SECOND FORM's CARD OF 'overtonelaw07.CircTurns'. -/
def circTurnsUptoCard : Claim7 := { stood := { row := circTurnsUptoRow, standIns := [], harness := (true, "3e53a24a714968f9c495a1079ae77b5d2b8cb268f587b81e936ef5d18ed27588"), looks := false }, kinds := [], alts := [], laidByText := true, laidKinds := [.data, .data], laidTests := true, laidLooks := .later }
def CircTurnsUptoCardSaid : Prop := Claim7.holds Tryz.pinned (.plain (OpenSpec.upto circTurnsSpec)) circTurnsUptoCard

/-- THE SECOND FORM's CARD OF 'overtonelaw07.CircSum'. -/
def circSumUptoCard : Claim7 := { stood := { row := circSumUptoRow, standIns := [], harness := (true, "3e53a24a714968f9c495a1079ae77b5d2b8cb268f587b81e936ef5d18ed27588"), looks := false }, kinds := [], alts := [], laidByText := true, laidKinds := [.data, .data], laidTests := true, laidLooks := .later }
def CircSumUptoCardSaid : Prop := Claim7.holds Tryz.pinned (.plain (OpenSpec.upto circSumSpec)) circSumUptoCard

/-- THE SECOND FORM's CARD OF 'overtonelaw07.CircMore'. -/
def circMoreUptoCard : Claim7 := { stood := { row := circMoreUptoRow, standIns := [], harness := (true, "3e53a24a714968f9c495a1079ae77b5d2b8cb268f587b81e936ef5d18ed27588"), looks := false }, kinds := [], alts := [], laidByText := true, laidKinds := [.data, .data], laidTests := true, laidLooks := .later }
def CircMoreUptoCardSaid : Prop := Claim7.holds Tryz.pinned (.plain (OpenSpec.upto circMoreSpec)) circMoreUptoCard
end Rows
end Go.Proofs.YtmdjhngbigfblaaGreatDoor
