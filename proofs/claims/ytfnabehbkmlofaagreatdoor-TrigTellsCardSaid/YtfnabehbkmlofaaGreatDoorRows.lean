/-
  NARROWER THAN 'FOR EVERY INPUT', by the rows' own cells (each row's printed sentence says how): IvlTells: laid · TrigTells: laid · TrigNear: laid · TrigOne: laid · TrigTurns: laid · TrigSum: laid · TrigTable: laid · WinTells: laid · WinOne: laid · WinShape: laid · WinKinds: laid · WinApply: laid.
  DERIVED. THE GIVEN ROWS OF THIS SEAT. 12 by the template 'for every input the law returns true; each argument reads behind the call as it read before'; 0 by the template 'total and deterministic' (their statements: YtfnabehbkmlofaaGreatDoorTotals.lean).
  GIVEN WITH THE SEED: the statements are not yours to turn. If you find one false, say at which input.
  Laid BY PROGRAM, IN A SANDBOX (cutbox-rows.mjs): the forced cells as the released guide's own fill.sh prints them over the translation 0cf27a9558b654f0… (all of the seat's roots in one cut). By AI agents, Wed Nov 11 2026. No macro, syntax, notation, axiom, sorry.
-/
import Derived.Test.YtfnabehbkmlofaaGreatDoorChecked
import GoSem.Claim
import GoSem.ClaimJoined
import GoSem.ClaimMapViews
import Derived.JoinedTies
import Derived.KernelRfl
namespace Go.Proofs.YtfnabehbkmlofaaGreatDoor
/- THE CELL 'sum', in the pinned program and in every row, IS THE sha256 OF THE DUMP (.gsa) THAT YtfnabehbkmlofaaGreatDoorProg.lean LOADS. Nothing in Lean hashes anything: it is a label: what it is worth is what the hold of that sum in a sandbox is worth. -/
noncomputable def Tryz.pinned : Pinned := { name := "ytfnabehbkmlofaagreatdoor", sum := "0cf27a9558b654f04a60720fce06c998c4611a269b9e5caed379fd8daac1ae9f", checked := Tryz.checked }
namespace Rows
def none {H : Type} : Left H := { results := [], args := [] }

/- WHAT THE LISTED PACKAGE-LEVEL VARIABLES READ AS WHEN THE CALL BEGINS. Each datum BY PROGRAM (the guide's laid-datum.mjs) off the statement by which the dump's own 'gosem.cut.vars' lays the variable. In a bare row this is a premise. The card (YtfnabehbkmlofaaGreatDoorCards.lean) ties it to the program's text. -/
def laid_math_bits_deBruijn32tab {H : Type} : DataW H := .agg [.lit (.int .u8 0), .lit (.int .u8 1), .lit (.int .u8 28), .lit (.int .u8 2), .lit (.int .u8 29), .lit (.int .u8 14), .lit (.int .u8 24), .lit (.int .u8 3), .lit (.int .u8 30), .lit (.int .u8 22), .lit (.int .u8 20), .lit (.int .u8 15), .lit (.int .u8 25), .lit (.int .u8 17), .lit (.int .u8 4), .lit (.int .u8 8), .lit (.int .u8 31), .lit (.int .u8 27), .lit (.int .u8 13), .lit (.int .u8 23), .lit (.int .u8 21), .lit (.int .u8 19), .lit (.int .u8 16), .lit (.int .u8 7), .lit (.int .u8 26), .lit (.int .u8 12), .lit (.int .u8 18), .lit (.int .u8 6), .lit (.int .u8 11), .lit (.int .u8 5), .lit (.int .u8 10), .lit (.int .u8 9)]
def laid_math_bits_deBruijn64tab {H : Type} : DataW H := .agg [.lit (.int .u8 0), .lit (.int .u8 1), .lit (.int .u8 56), .lit (.int .u8 2), .lit (.int .u8 57), .lit (.int .u8 49), .lit (.int .u8 28), .lit (.int .u8 3), .lit (.int .u8 61), .lit (.int .u8 58), .lit (.int .u8 42), .lit (.int .u8 50), .lit (.int .u8 38), .lit (.int .u8 29), .lit (.int .u8 17), .lit (.int .u8 4), .lit (.int .u8 62), .lit (.int .u8 47), .lit (.int .u8 59), .lit (.int .u8 36), .lit (.int .u8 45), .lit (.int .u8 43), .lit (.int .u8 51), .lit (.int .u8 22), .lit (.int .u8 53), .lit (.int .u8 39), .lit (.int .u8 33), .lit (.int .u8 30), .lit (.int .u8 24), .lit (.int .u8 18), .lit (.int .u8 12), .lit (.int .u8 5), .lit (.int .u8 63), .lit (.int .u8 55), .lit (.int .u8 48), .lit (.int .u8 27), .lit (.int .u8 60), .lit (.int .u8 41), .lit (.int .u8 37), .lit (.int .u8 16), .lit (.int .u8 46), .lit (.int .u8 35), .lit (.int .u8 44), .lit (.int .u8 21), .lit (.int .u8 52), .lit (.int .u8 32), .lit (.int .u8 23), .lit (.int .u8 11), .lit (.int .u8 54), .lit (.int .u8 26), .lit (.int .u8 40), .lit (.int .u8 15), .lit (.int .u8 34), .lit (.int .u8 20), .lit (.int .u8 31), .lit (.int .u8 10), .lit (.int .u8 25), .lit (.int .u8 14), .lit (.int .u8 19), .lit (.int .u8 9), .lit (.int .u8 13), .lit (.int .u8 8), .lit (.int .u8 7), .lit (.int .u8 6)]

/-- 'overtonelaw05.IvlTells': WHATEVER THE INPUT: true; the input reads as it did. -/
def ivlTellsSpec : ChangeSpec := { name := "ivlTells", fn := fun _ => fun
  | [d1, d2, d3, d4, d5, d6] => { results := [.lit (.bool true)], args := [d1, d2, d3, d4, d5, d6] }
  | _ => none }
def ivlTellsRow : OpenClaim := { program := "ytfnabehbkmlofaagreatdoor", sum := "0cf27a9558b654f04a60720fce06c998c4611a269b9e5caed379fd8daac1ae9f", func := "overtone/overtonelaw05.IvlTells", spec := "ivlTells", unfollowed := true, recurses := true, named := ["math/bits.deBruijn32tab", "math/bits.deBruijn64tab"], plainKeys := false, apart := false, laid := [("math/bits.deBruijn32tab", laid_math_bits_deBruijn32tab), ("math/bits.deBruijn64tab", laid_math_bits_deBruijn64tab)] }
def IvlTellsSaid : Prop := ivlTellsRow.holds Tryz.pinned (OpenSpec.ofChange ivlTellsSpec)

/-- ITS FALSE NEIGHBOUR: 'it returns false'. Refute it at one input. -/
def ivlTellsWrong : ChangeSpec := { name := "ivlTells", fn := fun _ => fun
  | [d1, d2, d3, d4, d5, d6] => { results := [.lit (.bool false)], args := [d1, d2, d3, d4, d5, d6] }
  | _ => none }
def IvlTellsWrongFalsely : Prop := ivlTellsRow.holds Tryz.pinned (OpenSpec.ofChange ivlTellsWrong)

/-- 'overtonelaw08.TrigTells': WHATEVER THE INPUT: true; the input reads as it did. -/
def trigTellsSpec : ChangeSpec := { name := "trigTells", fn := fun _ => fun
  | [d1, d2, d3] => { results := [.lit (.bool true)], args := [d1, d2, d3] }
  | _ => none }
def trigTellsRow : OpenClaim := { program := "ytfnabehbkmlofaagreatdoor", sum := "0cf27a9558b654f04a60720fce06c998c4611a269b9e5caed379fd8daac1ae9f", func := "overtone/overtonelaw08.TrigTells", spec := "trigTells", inPlace := ["math.Float64frombits", "math.Float64bits"], unfollowed := true, recurses := true, named := ["math/bits.deBruijn32tab", "math/bits.deBruijn64tab"], plainKeys := false, apart := false, laid := [("math/bits.deBruijn32tab", laid_math_bits_deBruijn32tab), ("math/bits.deBruijn64tab", laid_math_bits_deBruijn64tab)] }
def TrigTellsSaid : Prop := trigTellsRow.holds Tryz.pinned (OpenSpec.ofChange trigTellsSpec)

/-- ITS FALSE NEIGHBOUR: 'it returns false'. Refute it at one input. -/
def trigTellsWrong : ChangeSpec := { name := "trigTells", fn := fun _ => fun
  | [d1, d2, d3] => { results := [.lit (.bool false)], args := [d1, d2, d3] }
  | _ => none }
def TrigTellsWrongFalsely : Prop := trigTellsRow.holds Tryz.pinned (OpenSpec.ofChange trigTellsWrong)

/-- 'overtonelaw08.TrigNear': WHATEVER THE INPUT: true; the input reads as it did. -/
def trigNearSpec : ChangeSpec := { name := "trigNear", fn := fun _ => fun
  | [d1, d2] => { results := [.lit (.bool true)], args := [d1, d2] }
  | _ => none }
def trigNearRow : OpenClaim := { program := "ytfnabehbkmlofaagreatdoor", sum := "0cf27a9558b654f04a60720fce06c998c4611a269b9e5caed379fd8daac1ae9f", func := "overtone/overtonelaw08.TrigNear", spec := "trigNear", inPlace := ["math.Float64frombits", "math.Float64bits"], unfollowed := true, recurses := true, named := ["math/bits.deBruijn32tab", "math/bits.deBruijn64tab"], plainKeys := false, apart := false, laid := [("math/bits.deBruijn32tab", laid_math_bits_deBruijn32tab), ("math/bits.deBruijn64tab", laid_math_bits_deBruijn64tab)] }
def TrigNearSaid : Prop := trigNearRow.holds Tryz.pinned (OpenSpec.ofChange trigNearSpec)

/-- ITS FALSE NEIGHBOUR: 'it returns false'. Refute it at one input. -/
def trigNearWrong : ChangeSpec := { name := "trigNear", fn := fun _ => fun
  | [d1, d2] => { results := [.lit (.bool false)], args := [d1, d2] }
  | _ => none }
def TrigNearWrongFalsely : Prop := trigNearRow.holds Tryz.pinned (OpenSpec.ofChange trigNearWrong)

/-- 'overtonelaw08.TrigOne': WHATEVER THE INPUT: true; the input reads as it did. -/
def trigOneSpec : ChangeSpec := { name := "trigOne", fn := fun _ => fun
  | [d] => { results := [.lit (.bool true)], args := [d] }
  | _ => none }
def trigOneRow : OpenClaim := { program := "ytfnabehbkmlofaagreatdoor", sum := "0cf27a9558b654f04a60720fce06c998c4611a269b9e5caed379fd8daac1ae9f", func := "overtone/overtonelaw08.TrigOne", spec := "trigOne", inPlace := ["math.Float64frombits", "math.Float64bits"], unfollowed := true, recurses := true, named := ["math/bits.deBruijn32tab", "math/bits.deBruijn64tab"], plainKeys := false, apart := false, laid := [("math/bits.deBruijn32tab", laid_math_bits_deBruijn32tab), ("math/bits.deBruijn64tab", laid_math_bits_deBruijn64tab)] }
def TrigOneSaid : Prop := trigOneRow.holds Tryz.pinned (OpenSpec.ofChange trigOneSpec)

/-- ITS FALSE NEIGHBOUR: 'it returns false'. Refute it at one input. -/
def trigOneWrong : ChangeSpec := { name := "trigOne", fn := fun _ => fun
  | [d] => { results := [.lit (.bool false)], args := [d] }
  | _ => none }
def TrigOneWrongFalsely : Prop := trigOneRow.holds Tryz.pinned (OpenSpec.ofChange trigOneWrong)

/-- 'overtonelaw08.TrigTurns': WHATEVER THE INPUT: true; the input reads as it did. -/
def trigTurnsSpec : ChangeSpec := { name := "trigTurns", fn := fun _ => fun
  | [d] => { results := [.lit (.bool true)], args := [d] }
  | _ => none }
def trigTurnsRow : OpenClaim := { program := "ytfnabehbkmlofaagreatdoor", sum := "0cf27a9558b654f04a60720fce06c998c4611a269b9e5caed379fd8daac1ae9f", func := "overtone/overtonelaw08.TrigTurns", spec := "trigTurns", inPlace := ["math.Float64frombits", "math.Float64bits"], unfollowed := true, recurses := true, named := ["math/bits.deBruijn32tab", "math/bits.deBruijn64tab"], plainKeys := false, apart := false, laid := [("math/bits.deBruijn32tab", laid_math_bits_deBruijn32tab), ("math/bits.deBruijn64tab", laid_math_bits_deBruijn64tab)] }
def TrigTurnsSaid : Prop := trigTurnsRow.holds Tryz.pinned (OpenSpec.ofChange trigTurnsSpec)

/-- ITS FALSE NEIGHBOUR: 'it returns false'. Refute it at one input. -/
def trigTurnsWrong : ChangeSpec := { name := "trigTurns", fn := fun _ => fun
  | [d] => { results := [.lit (.bool false)], args := [d] }
  | _ => none }
def TrigTurnsWrongFalsely : Prop := trigTurnsRow.holds Tryz.pinned (OpenSpec.ofChange trigTurnsWrong)

/-- 'overtonelaw08.TrigSum': WHATEVER THE INPUT: true; the input reads as it did. -/
def trigSumSpec : ChangeSpec := { name := "trigSum", fn := fun _ => fun
  | [d1, d2] => { results := [.lit (.bool true)], args := [d1, d2] }
  | _ => none }
def trigSumRow : OpenClaim := { program := "ytfnabehbkmlofaagreatdoor", sum := "0cf27a9558b654f04a60720fce06c998c4611a269b9e5caed379fd8daac1ae9f", func := "overtone/overtonelaw08.TrigSum", spec := "trigSum", inPlace := ["math.Float64frombits", "math.Float64bits"], unfollowed := true, recurses := true, named := ["math/bits.deBruijn32tab", "math/bits.deBruijn64tab"], plainKeys := false, apart := false, laid := [("math/bits.deBruijn32tab", laid_math_bits_deBruijn32tab), ("math/bits.deBruijn64tab", laid_math_bits_deBruijn64tab)] }
def TrigSumSaid : Prop := trigSumRow.holds Tryz.pinned (OpenSpec.ofChange trigSumSpec)

/-- ITS FALSE NEIGHBOUR: 'it returns false'. Refute it at one input. -/
def trigSumWrong : ChangeSpec := { name := "trigSum", fn := fun _ => fun
  | [d1, d2] => { results := [.lit (.bool false)], args := [d1, d2] }
  | _ => none }
def TrigSumWrongFalsely : Prop := trigSumRow.holds Tryz.pinned (OpenSpec.ofChange trigSumWrong)

/-- 'overtonelaw08.TrigTable': WHATEVER THE INPUT: true; the input reads as it did. -/
def trigTableSpec : ChangeSpec := { name := "trigTable", fn := fun _ => fun
  | [d1, d2, d3] => { results := [.lit (.bool true)], args := [d1, d2, d3] }
  | _ => none }
def trigTableRow : OpenClaim := { program := "ytfnabehbkmlofaagreatdoor", sum := "0cf27a9558b654f04a60720fce06c998c4611a269b9e5caed379fd8daac1ae9f", func := "overtone/overtonelaw08.TrigTable", spec := "trigTable", inPlace := ["math.Float64frombits", "math.Float64bits"], unfollowed := true, recurses := true, named := ["math/bits.deBruijn32tab", "math/bits.deBruijn64tab"], plainKeys := false, apart := false, laid := [("math/bits.deBruijn32tab", laid_math_bits_deBruijn32tab), ("math/bits.deBruijn64tab", laid_math_bits_deBruijn64tab)] }
def TrigTableSaid : Prop := trigTableRow.holds Tryz.pinned (OpenSpec.ofChange trigTableSpec)

/-- ITS FALSE NEIGHBOUR: 'it returns false'. Refute it at one input. -/
def trigTableWrong : ChangeSpec := { name := "trigTable", fn := fun _ => fun
  | [d1, d2, d3] => { results := [.lit (.bool false)], args := [d1, d2, d3] }
  | _ => none }
def TrigTableWrongFalsely : Prop := trigTableRow.holds Tryz.pinned (OpenSpec.ofChange trigTableWrong)

/-- 'overtonelaw20.WinTells': WHATEVER THE INPUT: true; the input reads as it did. -/
def winTellsSpec : ChangeSpec := { name := "winTells", fn := fun _ => fun
  | [d1, d2, d3, d4] => { results := [.lit (.bool true)], args := [d1, d2, d3, d4] }
  | _ => none }
def winTellsRow : OpenClaim := { program := "ytfnabehbkmlofaagreatdoor", sum := "0cf27a9558b654f04a60720fce06c998c4611a269b9e5caed379fd8daac1ae9f", func := "overtone/overtonelaw20.WinTells", spec := "winTells", inPlace := ["math.Float64frombits", "math.Float64bits"], unfollowed := true, recurses := true, named := ["math/bits.deBruijn32tab", "math/bits.deBruijn64tab"], plainKeys := false, apart := false, laid := [("math/bits.deBruijn32tab", laid_math_bits_deBruijn32tab), ("math/bits.deBruijn64tab", laid_math_bits_deBruijn64tab)] }
def WinTellsSaid : Prop := winTellsRow.holds Tryz.pinned (OpenSpec.ofChange winTellsSpec)

/-- ITS FALSE NEIGHBOUR: 'it returns false'. Refute it at one input. -/
def winTellsWrong : ChangeSpec := { name := "winTells", fn := fun _ => fun
  | [d1, d2, d3, d4] => { results := [.lit (.bool false)], args := [d1, d2, d3, d4] }
  | _ => none }
def WinTellsWrongFalsely : Prop := winTellsRow.holds Tryz.pinned (OpenSpec.ofChange winTellsWrong)

/-- 'overtonelaw20.WinOne': WHATEVER THE INPUT: true; the input reads as it did. -/
def winOneSpec : ChangeSpec := { name := "winOne", fn := fun _ => fun
  | [d1, d2] => { results := [.lit (.bool true)], args := [d1, d2] }
  | _ => none }
def winOneRow : OpenClaim := { program := "ytfnabehbkmlofaagreatdoor", sum := "0cf27a9558b654f04a60720fce06c998c4611a269b9e5caed379fd8daac1ae9f", func := "overtone/overtonelaw20.WinOne", spec := "winOne", inPlace := ["math.Float64frombits", "math.Float64bits"], unfollowed := true, recurses := true, named := ["math/bits.deBruijn32tab", "math/bits.deBruijn64tab"], plainKeys := false, apart := false, laid := [("math/bits.deBruijn32tab", laid_math_bits_deBruijn32tab), ("math/bits.deBruijn64tab", laid_math_bits_deBruijn64tab)] }
def WinOneSaid : Prop := winOneRow.holds Tryz.pinned (OpenSpec.ofChange winOneSpec)

/-- ITS FALSE NEIGHBOUR: 'it returns false'. Refute it at one input. -/
def winOneWrong : ChangeSpec := { name := "winOne", fn := fun _ => fun
  | [d1, d2] => { results := [.lit (.bool false)], args := [d1, d2] }
  | _ => none }
def WinOneWrongFalsely : Prop := winOneRow.holds Tryz.pinned (OpenSpec.ofChange winOneWrong)

/-- 'overtonelaw20.WinShape': WHATEVER THE INPUT: true; the input reads as it did. -/
def winShapeSpec : ChangeSpec := { name := "winShape", fn := fun _ => fun
  | [d1, d2] => { results := [.lit (.bool true)], args := [d1, d2] }
  | _ => none }
def winShapeRow : OpenClaim := { program := "ytfnabehbkmlofaagreatdoor", sum := "0cf27a9558b654f04a60720fce06c998c4611a269b9e5caed379fd8daac1ae9f", func := "overtone/overtonelaw20.WinShape", spec := "winShape", inPlace := ["math.Float64frombits", "math.Float64bits"], unfollowed := true, recurses := true, named := ["math/bits.deBruijn32tab", "math/bits.deBruijn64tab"], plainKeys := false, apart := false, laid := [("math/bits.deBruijn32tab", laid_math_bits_deBruijn32tab), ("math/bits.deBruijn64tab", laid_math_bits_deBruijn64tab)] }
def WinShapeSaid : Prop := winShapeRow.holds Tryz.pinned (OpenSpec.ofChange winShapeSpec)

/-- ITS FALSE NEIGHBOUR: 'it returns false'. Refute it at one input. -/
def winShapeWrong : ChangeSpec := { name := "winShape", fn := fun _ => fun
  | [d1, d2] => { results := [.lit (.bool false)], args := [d1, d2] }
  | _ => none }
def WinShapeWrongFalsely : Prop := winShapeRow.holds Tryz.pinned (OpenSpec.ofChange winShapeWrong)

/-- 'overtonelaw20.WinKinds': WHATEVER THE INPUT: true; the input reads as it did. -/
def winKindsSpec : ChangeSpec := { name := "winKinds", fn := fun _ => fun
  | [d1, d2] => { results := [.lit (.bool true)], args := [d1, d2] }
  | _ => none }
def winKindsRow : OpenClaim := { program := "ytfnabehbkmlofaagreatdoor", sum := "0cf27a9558b654f04a60720fce06c998c4611a269b9e5caed379fd8daac1ae9f", func := "overtone/overtonelaw20.WinKinds", spec := "winKinds", inPlace := ["math.Float64frombits", "math.Float64bits"], unfollowed := true, recurses := true, named := ["math/bits.deBruijn32tab", "math/bits.deBruijn64tab"], plainKeys := false, apart := false, laid := [("math/bits.deBruijn32tab", laid_math_bits_deBruijn32tab), ("math/bits.deBruijn64tab", laid_math_bits_deBruijn64tab)] }
def WinKindsSaid : Prop := winKindsRow.holds Tryz.pinned (OpenSpec.ofChange winKindsSpec)

/-- ITS FALSE NEIGHBOUR: 'it returns false'. Refute it at one input. -/
def winKindsWrong : ChangeSpec := { name := "winKinds", fn := fun _ => fun
  | [d1, d2] => { results := [.lit (.bool false)], args := [d1, d2] }
  | _ => none }
def WinKindsWrongFalsely : Prop := winKindsRow.holds Tryz.pinned (OpenSpec.ofChange winKindsWrong)

/-- 'overtonelaw20.WinApply': WHATEVER THE INPUT: true; the input reads as it did. -/
def winApplySpec : ChangeSpec := { name := "winApply", fn := fun _ => fun
  | [d1, d2] => { results := [.lit (.bool true)], args := [d1, d2] }
  | _ => none }
def winApplyRow : OpenClaim := { program := "ytfnabehbkmlofaagreatdoor", sum := "0cf27a9558b654f04a60720fce06c998c4611a269b9e5caed379fd8daac1ae9f", func := "overtone/overtonelaw20.WinApply", spec := "winApply", inPlace := ["math.Float64frombits", "math.Float64bits"], unfollowed := true, recurses := true, named := ["math/bits.deBruijn32tab", "math/bits.deBruijn64tab"], plainKeys := false, apart := false, laid := [("math/bits.deBruijn32tab", laid_math_bits_deBruijn32tab), ("math/bits.deBruijn64tab", laid_math_bits_deBruijn64tab)] }
def WinApplySaid : Prop := winApplyRow.holds Tryz.pinned (OpenSpec.ofChange winApplySpec)

/-- ITS FALSE NEIGHBOUR: 'it returns false'. Refute it at one input. -/
def winApplyWrong : ChangeSpec := { name := "winApply", fn := fun _ => fun
  | [d1, d2] => { results := [.lit (.bool false)], args := [d1, d2] }
  | _ => none }
def WinApplyWrongFalsely : Prop := winApplyRow.holds Tryz.pinned (OpenSpec.ofChange winApplyWrong)

/- THE SECOND FORM. 'bulk': how many values and letters a reading holds, each counted each time it is reached (what is shared counts as often as it is met; a slice's spare places count too). A statement '..UptoSaid' is the law's where the arguments, and the package variables that the reading takes, are together of bulk at most 1048576: NARROWER than '..Said'. Prove '..Said' where nothing that the law and all that it calls make is longer than what came in: it says more and counts as full. Else prove '..UptoSaid'. A law counts once. -/
mutual
def uptoBulk {H : Type} : DataW H → Nat
  | .lit (.string bytes) => bytes.length + 1
  | .lit _ => 1
  | .nil => 1
  | .ptr d => uptoBulk d + 1
  | .slice elems spare => uptoBulkAll elems + uptoBulkAll spare + 1
  | .agg parts => uptoBulkAll parts + 1
  | .iface _ d => uptoBulk d + 1
  | .map entries => uptoBulkEntries entries + 1
  | .held _ => 1
def uptoBulkAll {H : Type} : List (DataW H) → Nat
  | [] => 0
  | d :: r => uptoBulk d + uptoBulkAll r
def uptoBulkEntries {H : Type} : List (Lit × DataW H) → Nat
  | [] => 0
  | x :: r => uptoBulkEntry x + uptoBulkEntries r
def uptoBulkEntry {H : Type} : Lit × DataW H → Nat
  | (.string bytes, d) => bytes.length + uptoBulk d + 1
  | (_, d) => uptoBulk d + 1
 end
def uptoSmall : (H : Type) → List (DataW H) → Bool := fun _ ds => decide (uptoBulkAll ds ≤ 1048576)
def OpenSpec.upto (s : _root_.Go.ChangeSpec) : _root_.Go.OpenSpec := { _root_.Go.OpenSpec.ofChange s with cond := some uptoSmall }

/-- 'overtonelaw05.IvlTells', WHERE WHAT IT READS IS OF BULK AT MOST 1048576: true; the input reads as it did. -/
def ivlTellsUptoRow : OpenClaim := { program := "ytfnabehbkmlofaagreatdoor", sum := "0cf27a9558b654f04a60720fce06c998c4611a269b9e5caed379fd8daac1ae9f", func := "overtone/overtonelaw05.IvlTells", spec := "ivlTells", unfollowed := true, recurses := true, named := ["math/bits.deBruijn32tab", "math/bits.deBruijn64tab"], plainKeys := false, apart := false, laid := [("math/bits.deBruijn32tab", laid_math_bits_deBruijn32tab), ("math/bits.deBruijn64tab", laid_math_bits_deBruijn64tab)], narrowed := true }
def IvlTellsUptoSaid : Prop := ivlTellsUptoRow.holds Tryz.pinned (OpenSpec.upto ivlTellsSpec)

/-- 'overtonelaw08.TrigTells', WHERE WHAT IT READS IS OF BULK AT MOST 1048576: true; the input reads as it did. -/
def trigTellsUptoRow : OpenClaim := { program := "ytfnabehbkmlofaagreatdoor", sum := "0cf27a9558b654f04a60720fce06c998c4611a269b9e5caed379fd8daac1ae9f", func := "overtone/overtonelaw08.TrigTells", spec := "trigTells", inPlace := ["math.Float64frombits", "math.Float64bits"], unfollowed := true, recurses := true, named := ["math/bits.deBruijn32tab", "math/bits.deBruijn64tab"], plainKeys := false, apart := false, laid := [("math/bits.deBruijn32tab", laid_math_bits_deBruijn32tab), ("math/bits.deBruijn64tab", laid_math_bits_deBruijn64tab)], narrowed := true }
def TrigTellsUptoSaid : Prop := trigTellsUptoRow.holds Tryz.pinned (OpenSpec.upto trigTellsSpec)

/-- 'overtonelaw08.TrigNear', WHERE WHAT IT READS IS OF BULK AT MOST 1048576: true; the input reads as it did. -/
def trigNearUptoRow : OpenClaim := { program := "ytfnabehbkmlofaagreatdoor", sum := "0cf27a9558b654f04a60720fce06c998c4611a269b9e5caed379fd8daac1ae9f", func := "overtone/overtonelaw08.TrigNear", spec := "trigNear", inPlace := ["math.Float64frombits", "math.Float64bits"], unfollowed := true, recurses := true, named := ["math/bits.deBruijn32tab", "math/bits.deBruijn64tab"], plainKeys := false, apart := false, laid := [("math/bits.deBruijn32tab", laid_math_bits_deBruijn32tab), ("math/bits.deBruijn64tab", laid_math_bits_deBruijn64tab)], narrowed := true }
def TrigNearUptoSaid : Prop := trigNearUptoRow.holds Tryz.pinned (OpenSpec.upto trigNearSpec)

/-- 'overtonelaw08.TrigOne', WHERE WHAT IT READS IS OF BULK AT MOST 1048576: true; the input reads as it did. -/
def trigOneUptoRow : OpenClaim := { program := "ytfnabehbkmlofaagreatdoor", sum := "0cf27a9558b654f04a60720fce06c998c4611a269b9e5caed379fd8daac1ae9f", func := "overtone/overtonelaw08.TrigOne", spec := "trigOne", inPlace := ["math.Float64frombits", "math.Float64bits"], unfollowed := true, recurses := true, named := ["math/bits.deBruijn32tab", "math/bits.deBruijn64tab"], plainKeys := false, apart := false, laid := [("math/bits.deBruijn32tab", laid_math_bits_deBruijn32tab), ("math/bits.deBruijn64tab", laid_math_bits_deBruijn64tab)], narrowed := true }
def TrigOneUptoSaid : Prop := trigOneUptoRow.holds Tryz.pinned (OpenSpec.upto trigOneSpec)

/-- 'overtonelaw08.TrigTurns', WHERE WHAT IT READS IS OF BULK AT MOST 1048576: true; the input reads as it did. -/
def trigTurnsUptoRow : OpenClaim := { program := "ytfnabehbkmlofaagreatdoor", sum := "0cf27a9558b654f04a60720fce06c998c4611a269b9e5caed379fd8daac1ae9f", func := "overtone/overtonelaw08.TrigTurns", spec := "trigTurns", inPlace := ["math.Float64frombits", "math.Float64bits"], unfollowed := true, recurses := true, named := ["math/bits.deBruijn32tab", "math/bits.deBruijn64tab"], plainKeys := false, apart := false, laid := [("math/bits.deBruijn32tab", laid_math_bits_deBruijn32tab), ("math/bits.deBruijn64tab", laid_math_bits_deBruijn64tab)], narrowed := true }
def TrigTurnsUptoSaid : Prop := trigTurnsUptoRow.holds Tryz.pinned (OpenSpec.upto trigTurnsSpec)

/-- 'overtonelaw08.TrigSum', WHERE WHAT IT READS IS OF BULK AT MOST 1048576: true; the input reads as it did. -/
def trigSumUptoRow : OpenClaim := { program := "ytfnabehbkmlofaagreatdoor", sum := "0cf27a9558b654f04a60720fce06c998c4611a269b9e5caed379fd8daac1ae9f", func := "overtone/overtonelaw08.TrigSum", spec := "trigSum", inPlace := ["math.Float64frombits", "math.Float64bits"], unfollowed := true, recurses := true, named := ["math/bits.deBruijn32tab", "math/bits.deBruijn64tab"], plainKeys := false, apart := false, laid := [("math/bits.deBruijn32tab", laid_math_bits_deBruijn32tab), ("math/bits.deBruijn64tab", laid_math_bits_deBruijn64tab)], narrowed := true }
def TrigSumUptoSaid : Prop := trigSumUptoRow.holds Tryz.pinned (OpenSpec.upto trigSumSpec)

/-- 'overtonelaw08.TrigTable', WHERE WHAT IT READS IS OF BULK AT MOST 1048576: true; the input reads as it did. -/
def trigTableUptoRow : OpenClaim := { program := "ytfnabehbkmlofaagreatdoor", sum := "0cf27a9558b654f04a60720fce06c998c4611a269b9e5caed379fd8daac1ae9f", func := "overtone/overtonelaw08.TrigTable", spec := "trigTable", inPlace := ["math.Float64frombits", "math.Float64bits"], unfollowed := true, recurses := true, named := ["math/bits.deBruijn32tab", "math/bits.deBruijn64tab"], plainKeys := false, apart := false, laid := [("math/bits.deBruijn32tab", laid_math_bits_deBruijn32tab), ("math/bits.deBruijn64tab", laid_math_bits_deBruijn64tab)], narrowed := true }
def TrigTableUptoSaid : Prop := trigTableUptoRow.holds Tryz.pinned (OpenSpec.upto trigTableSpec)

/-- 'overtonelaw20.WinTells', WHERE WHAT IT READS IS OF BULK AT MOST 1048576: true; the input reads as it did. -/
def winTellsUptoRow : OpenClaim := { program := "ytfnabehbkmlofaagreatdoor", sum := "0cf27a9558b654f04a60720fce06c998c4611a269b9e5caed379fd8daac1ae9f", func := "overtone/overtonelaw20.WinTells", spec := "winTells", inPlace := ["math.Float64frombits", "math.Float64bits"], unfollowed := true, recurses := true, named := ["math/bits.deBruijn32tab", "math/bits.deBruijn64tab"], plainKeys := false, apart := false, laid := [("math/bits.deBruijn32tab", laid_math_bits_deBruijn32tab), ("math/bits.deBruijn64tab", laid_math_bits_deBruijn64tab)], narrowed := true }
def WinTellsUptoSaid : Prop := winTellsUptoRow.holds Tryz.pinned (OpenSpec.upto winTellsSpec)

/-- 'overtonelaw20.WinOne', WHERE WHAT IT READS IS OF BULK AT MOST 1048576: true; the input reads as it did. -/
def winOneUptoRow : OpenClaim := { program := "ytfnabehbkmlofaagreatdoor", sum := "0cf27a9558b654f04a60720fce06c998c4611a269b9e5caed379fd8daac1ae9f", func := "overtone/overtonelaw20.WinOne", spec := "winOne", inPlace := ["math.Float64frombits", "math.Float64bits"], unfollowed := true, recurses := true, named := ["math/bits.deBruijn32tab", "math/bits.deBruijn64tab"], plainKeys := false, apart := false, laid := [("math/bits.deBruijn32tab", laid_math_bits_deBruijn32tab), ("math/bits.deBruijn64tab", laid_math_bits_deBruijn64tab)], narrowed := true }
def WinOneUptoSaid : Prop := winOneUptoRow.holds Tryz.pinned (OpenSpec.upto winOneSpec)

/-- 'overtonelaw20.WinShape', WHERE WHAT IT READS IS OF BULK AT MOST 1048576: true; the input reads as it did. -/
def winShapeUptoRow : OpenClaim := { program := "ytfnabehbkmlofaagreatdoor", sum := "0cf27a9558b654f04a60720fce06c998c4611a269b9e5caed379fd8daac1ae9f", func := "overtone/overtonelaw20.WinShape", spec := "winShape", inPlace := ["math.Float64frombits", "math.Float64bits"], unfollowed := true, recurses := true, named := ["math/bits.deBruijn32tab", "math/bits.deBruijn64tab"], plainKeys := false, apart := false, laid := [("math/bits.deBruijn32tab", laid_math_bits_deBruijn32tab), ("math/bits.deBruijn64tab", laid_math_bits_deBruijn64tab)], narrowed := true }
def WinShapeUptoSaid : Prop := winShapeUptoRow.holds Tryz.pinned (OpenSpec.upto winShapeSpec)

/-- 'overtonelaw20.WinKinds', WHERE WHAT IT READS IS OF BULK AT MOST 1048576: true; the input reads as it did. -/
def winKindsUptoRow : OpenClaim := { program := "ytfnabehbkmlofaagreatdoor", sum := "0cf27a9558b654f04a60720fce06c998c4611a269b9e5caed379fd8daac1ae9f", func := "overtone/overtonelaw20.WinKinds", spec := "winKinds", inPlace := ["math.Float64frombits", "math.Float64bits"], unfollowed := true, recurses := true, named := ["math/bits.deBruijn32tab", "math/bits.deBruijn64tab"], plainKeys := false, apart := false, laid := [("math/bits.deBruijn32tab", laid_math_bits_deBruijn32tab), ("math/bits.deBruijn64tab", laid_math_bits_deBruijn64tab)], narrowed := true }
def WinKindsUptoSaid : Prop := winKindsUptoRow.holds Tryz.pinned (OpenSpec.upto winKindsSpec)

/-- 'overtonelaw20.WinApply', WHERE WHAT IT READS IS OF BULK AT MOST 1048576: true; the input reads as it did. -/
def winApplyUptoRow : OpenClaim := { program := "ytfnabehbkmlofaagreatdoor", sum := "0cf27a9558b654f04a60720fce06c998c4611a269b9e5caed379fd8daac1ae9f", func := "overtone/overtonelaw20.WinApply", spec := "winApply", inPlace := ["math.Float64frombits", "math.Float64bits"], unfollowed := true, recurses := true, named := ["math/bits.deBruijn32tab", "math/bits.deBruijn64tab"], plainKeys := false, apart := false, laid := [("math/bits.deBruijn32tab", laid_math_bits_deBruijn32tab), ("math/bits.deBruijn64tab", laid_math_bits_deBruijn64tab)], narrowed := true }
def WinApplyUptoSaid : Prop := winApplyUptoRow.holds Tryz.pinned (OpenSpec.upto winApplySpec)

end Rows
end Go.Proofs.YtfnabehbkmlofaaGreatDoor
