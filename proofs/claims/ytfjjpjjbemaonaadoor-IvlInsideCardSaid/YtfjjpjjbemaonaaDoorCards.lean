/-
  DERIVED. GIVEN WITH THE SEED: THE CARDS: each row of YtfjjpjjbemaonaaDoorRows.lean that lists a variable, with what it lists TIED to the program's text (the seventh form; the later family's looks); each row that meets fmt, with fmt's text TOLD by the authors' own Lean function (tested against real Go, not proved from fmt's source: count such statements apart). THE CARD IS WHAT COUNTS. Prove the row's statement (the work); the ties are given (YtfjjpjjbemaonaaDoorTie.lean); close each card by the builder's one call (the guide's Derived/Test/ToyasCard.lean, 'card_holds'). Laid BY PROGRAM, IN A SANDBOX (cutbox-door.mjs). By AI agents, Wed Nov 11 2026. No macro, syntax, notation, axiom, sorry.
-/
import Derived.Test.YtfjjpjjbemaonaaDoorRows
import GoSem.ClaimSeven
namespace Go.Proofs.YtfjjpjjbemaonaaDoor
namespace Rows

/-- THE TIED CARD OF 'overtonelaw05.IvlKept'. -/
def ivlKeptCard : Claim7 := { stood := { row := ivlKeptRow, standIns := [], harness := (true, "a26ff49a191623331b4884d8678a7e19c3026365cd6f7bd9f38ba47365b2d37e"), looks := false }, kinds := [], alts := [], laidByText := true, laidKinds := [.data, .data], laidTests := true, laidLooks := .later }
def IvlKeptCardSaid : Prop := Claim7.holds Tryd.pinned (.plain (OpenSpec.ofChange ivlKeptSpec)) ivlKeptCard

/-- THE TIED CARD OF 'overtonelaw05.IvlEnds'. -/
def ivlEndsCard : Claim7 := { stood := { row := ivlEndsRow, standIns := [], harness := (true, "a26ff49a191623331b4884d8678a7e19c3026365cd6f7bd9f38ba47365b2d37e"), looks := false }, kinds := [], alts := [], laidByText := true, laidKinds := [.data, .data], laidTests := true, laidLooks := .later }
def IvlEndsCardSaid : Prop := Claim7.holds Tryd.pinned (.plain (OpenSpec.ofChange ivlEndsSpec)) ivlEndsCard

/-- THE TIED CARD OF 'overtonelaw05.IvlInside'. -/
def ivlInsideCard : Claim7 := { stood := { row := ivlInsideRow, standIns := [], harness := (true, "a26ff49a191623331b4884d8678a7e19c3026365cd6f7bd9f38ba47365b2d37e"), looks := false }, kinds := [], alts := [], laidByText := true, laidKinds := [.data, .data], laidTests := true, laidLooks := .later }
def IvlInsideCardSaid : Prop := Claim7.holds Tryd.pinned (.plain (OpenSpec.ofChange ivlInsideSpec)) ivlInsideCard

/-- THE TIED CARD OF 'overtonelaw05.IvlRoot'. -/
def ivlRootCard : Claim7 := { stood := { row := ivlRootRow, standIns := [], harness := (true, "a26ff49a191623331b4884d8678a7e19c3026365cd6f7bd9f38ba47365b2d37e"), looks := false }, kinds := [], alts := [], laidByText := true, laidKinds := [.data, .data], laidTests := true, laidLooks := .later }
def IvlRootCardSaid : Prop := Claim7.holds Tryd.pinned (.plain (OpenSpec.ofChange ivlRootSpec)) ivlRootCard

/-- THE TIED CARD OF 'overtonelaw05.IvlPoint'. -/
def ivlPointCard : Claim7 := { stood := { row := ivlPointRow, standIns := [], harness := (true, "a26ff49a191623331b4884d8678a7e19c3026365cd6f7bd9f38ba47365b2d37e"), looks := false }, kinds := [], alts := [], laidByText := true, laidKinds := [.data, .data], laidTests := true, laidLooks := .later }
def IvlPointCardSaid : Prop := Claim7.holds Tryd.pinned (.plain (OpenSpec.ofChange ivlPointSpec)) ivlPointCard

/-- THE SECOND FORM's CARD OF 'overtonelaw05.IvlKept'. -/
def ivlKeptUptoCard : Claim7 := { stood := { row := ivlKeptUptoRow, standIns := [], harness := (true, "a26ff49a191623331b4884d8678a7e19c3026365cd6f7bd9f38ba47365b2d37e"), looks := false }, kinds := [], alts := [], laidByText := true, laidKinds := [.data, .data], laidTests := true, laidLooks := .later }
def IvlKeptUptoCardSaid : Prop := Claim7.holds Tryd.pinned (.plain (OpenSpec.upto ivlKeptSpec)) ivlKeptUptoCard

/-- THE SECOND FORM's CARD OF 'overtonelaw05.IvlEnds'. -/
def ivlEndsUptoCard : Claim7 := { stood := { row := ivlEndsUptoRow, standIns := [], harness := (true, "a26ff49a191623331b4884d8678a7e19c3026365cd6f7bd9f38ba47365b2d37e"), looks := false }, kinds := [], alts := [], laidByText := true, laidKinds := [.data, .data], laidTests := true, laidLooks := .later }
def IvlEndsUptoCardSaid : Prop := Claim7.holds Tryd.pinned (.plain (OpenSpec.upto ivlEndsSpec)) ivlEndsUptoCard

/-- THE SECOND FORM's CARD OF 'overtonelaw05.IvlInside'. -/
def ivlInsideUptoCard : Claim7 := { stood := { row := ivlInsideUptoRow, standIns := [], harness := (true, "a26ff49a191623331b4884d8678a7e19c3026365cd6f7bd9f38ba47365b2d37e"), looks := false }, kinds := [], alts := [], laidByText := true, laidKinds := [.data, .data], laidTests := true, laidLooks := .later }
def IvlInsideUptoCardSaid : Prop := Claim7.holds Tryd.pinned (.plain (OpenSpec.upto ivlInsideSpec)) ivlInsideUptoCard

/-- THE SECOND FORM's CARD OF 'overtonelaw05.IvlRoot'. -/
def ivlRootUptoCard : Claim7 := { stood := { row := ivlRootUptoRow, standIns := [], harness := (true, "a26ff49a191623331b4884d8678a7e19c3026365cd6f7bd9f38ba47365b2d37e"), looks := false }, kinds := [], alts := [], laidByText := true, laidKinds := [.data, .data], laidTests := true, laidLooks := .later }
def IvlRootUptoCardSaid : Prop := Claim7.holds Tryd.pinned (.plain (OpenSpec.upto ivlRootSpec)) ivlRootUptoCard

/-- THE SECOND FORM's CARD OF 'overtonelaw05.IvlPoint'. -/
def ivlPointUptoCard : Claim7 := { stood := { row := ivlPointUptoRow, standIns := [], harness := (true, "a26ff49a191623331b4884d8678a7e19c3026365cd6f7bd9f38ba47365b2d37e"), looks := false }, kinds := [], alts := [], laidByText := true, laidKinds := [.data, .data], laidTests := true, laidLooks := .later }
def IvlPointUptoCardSaid : Prop := Claim7.holds Tryd.pinned (.plain (OpenSpec.upto ivlPointSpec)) ivlPointUptoCard
end Rows
end Go.Proofs.YtfjjpjjbemaonaaDoor
