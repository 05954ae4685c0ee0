/-
  DERIVED. GIVEN WITH THE SEED: THE CARDS: each row of YthaooekohjmhdaaDoorRows.lean that lists a variable, with what it lists TIED to the program's text (the seventh form; the later family's looks); each row that meets fmt, with fmt's text TOLD by the authors' own Lean function (tested against real Go, not proved from fmt's source: count such statements apart). THE CARD IS WHAT COUNTS. Prove the row's statement (the work); the ties are given (YthaooekohjmhdaaDoorTie.lean); close each card by the builder's one call (the guide's Derived/Test/ToyasCard.lean, 'card_holds'). Laid BY PROGRAM, IN A SANDBOX (cutbox-door.mjs). By AI agents, Wed Nov 11 2026. No macro, syntax, notation, axiom, sorry.
-/
import Derived.Test.YthaooekohjmhdaaDoorRows
import GoSem.ClaimSeven
namespace Go.Proofs.YthaooekohjmhdaaDoor
namespace Rows

/-- THE TIED CARD OF 'vernierlaw25.AsmEncodes'. -/
def asmEncodesCard : Claim7 := { stood := { row := asmEncodesRow, standIns := [], harness := (true, "7944471fd935430279d092237349ed4729a334c492b110a7cf966b5a06eae140"), looks := false }, kinds := [], alts := [], laidByText := true, laidKinds := [.data, .data, .data, .listed, .data], laidTests := true, laidLooks := .later }
def AsmEncodesCardSaid : Prop := Claim7.holds Tryd.pinned (.plain (OpenSpec.ofChange asmEncodesSpec)) asmEncodesCard

/-- THE TIED CARD OF 'vernierlaw25.AsmDisassembles'. -/
def asmDisassemblesCard : Claim7 := { stood := { row := asmDisassemblesRow, standIns := [], harness := (true, "7944471fd935430279d092237349ed4729a334c492b110a7cf966b5a06eae140"), looks := false }, kinds := [], alts := [], laidByText := true, laidKinds := [.data, .data, .data, .listed, .data], laidTests := true, laidLooks := .later }
def AsmDisassemblesCardSaid : Prop := Claim7.holds Tryd.pinned (.plain (OpenSpec.ofChange asmDisassemblesSpec)) asmDisassemblesCard

/-- THE SECOND FORM's CARD OF 'vernierlaw25.AsmEncodes'. -/
def asmEncodesUptoCard : Claim7 := { stood := { row := asmEncodesUptoRow, standIns := [], harness := (true, "7944471fd935430279d092237349ed4729a334c492b110a7cf966b5a06eae140"), looks := false }, kinds := [], alts := [], laidByText := true, laidKinds := [.data, .data, .data, .listed, .data], laidTests := true, laidLooks := .later }
def AsmEncodesUptoCardSaid : Prop := Claim7.holds Tryd.pinned (.plain (OpenSpec.upto asmEncodesSpec)) asmEncodesUptoCard

/-- THE SECOND FORM's CARD OF 'vernierlaw25.AsmDisassembles'. -/
def asmDisassemblesUptoCard : Claim7 := { stood := { row := asmDisassemblesUptoRow, standIns := [], harness := (true, "7944471fd935430279d092237349ed4729a334c492b110a7cf966b5a06eae140"), looks := false }, kinds := [], alts := [], laidByText := true, laidKinds := [.data, .data, .data, .listed, .data], laidTests := true, laidLooks := .later }
def AsmDisassemblesUptoCardSaid : Prop := Claim7.holds Tryd.pinned (.plain (OpenSpec.upto asmDisassemblesSpec)) asmDisassemblesUptoCard
end Rows
end Go.Proofs.YthaooekohjmhdaaDoor
