/-
  DERIVED. GIVEN WITH THE SEED: THE CARDS: each row of YtafikkmnkeddpaaGreatDoorRows.lean that lists a variable, with what it lists TIED to the program's text (the seventh form; the later family's looks); each row that meets fmt, with fmt's text TOLD by the authors' own Lean function (tested against real Go, not proved from fmt's source: count such statements apart). THE CARD IS WHAT COUNTS. Prove the row's statement (the work); the ties are given (YtafikkmnkeddpaaGreatDoorTie.lean); close each card by the builder's one call (the guide's Derived/Test/ToyasCard.lean, 'card_holds'). Laid BY PROGRAM, IN A SANDBOX (cutbox-door.mjs). By AI agents, Wed Nov 11 2026. No macro, syntax, notation, axiom, sorry.
-/
import Derived.Test.YtafikkmnkeddpaaGreatDoorRows
import GoSem.ClaimSeven
namespace Go.Proofs.YtafikkmnkeddpaaGreatDoor
namespace Rows

/-- THE TIED CARD OF 'vernierlaw16.DeciParses'. -/
def deciParsesCard : Claim7 := { stood := { row := deciParsesRow, standIns := [], harness := (true, "a428c48d2c159c322eb171410f219799c82a6e30d22fa21a80504f9541438305"), looks := false }, kinds := [], alts := [], laidByText := true, laidKinds := [.data, .data, .data, .data, .data, .pinned, .pinned], laidTests := true, laidLooks := .later }
def DeciParsesCardSaid : Prop := Claim7.holds Tryz.pinned (.plain (OpenSpec.ofChange deciParsesSpec)) deciParsesCard

/-- THE TIED CARD OF 'vernierlaw16.DeciRises'. -/
def deciRisesCard : Claim7 := { stood := { row := deciRisesRow, standIns := [], harness := (true, "a428c48d2c159c322eb171410f219799c82a6e30d22fa21a80504f9541438305"), looks := false }, kinds := [], alts := [], laidByText := true, laidKinds := [.data, .data, .data, .data, .data, .pinned, .pinned], laidTests := true, laidLooks := .later }
def DeciRisesCardSaid : Prop := Claim7.holds Tryz.pinned (.plain (OpenSpec.ofChange deciRisesSpec)) deciRisesCard

/-- THE TIED CARD OF 'vernierlaw16.DeciAlike'. -/
def deciAlikeCard : Claim7 := { stood := { row := deciAlikeRow, standIns := [], harness := (true, "a428c48d2c159c322eb171410f219799c82a6e30d22fa21a80504f9541438305"), looks := false }, kinds := [], alts := [], laidByText := true, laidKinds := [.data, .data, .data, .data, .data, .pinned, .pinned], laidTests := true, laidLooks := .later }
def DeciAlikeCardSaid : Prop := Claim7.holds Tryz.pinned (.plain (OpenSpec.ofChange deciAlikeSpec)) deciAlikeCard

/-- THE TIED CARD OF 'vernierlaw16.DeciShortest'. -/
def deciShortestCard : Claim7 := { stood := { row := deciShortestRow, standIns := [], harness := (true, "a428c48d2c159c322eb171410f219799c82a6e30d22fa21a80504f9541438305"), looks := false }, kinds := [], alts := [], laidByText := true, laidKinds := [.data, .data, .data, .data, .data, .pinned, .pinned], laidTests := true, laidLooks := .later }
def DeciShortestCardSaid : Prop := Claim7.holds Tryz.pinned (.plain (OpenSpec.ofChange deciShortestSpec)) deciShortestCard

/-- THE TIED CARD OF 'vernierlaw16.DeciIntegers'. -/
def deciIntegersCard : Claim7 := { stood := { row := deciIntegersRow, standIns := [], harness := (true, "a428c48d2c159c322eb171410f219799c82a6e30d22fa21a80504f9541438305"), looks := false }, kinds := [], alts := [], laidByText := true, laidKinds := [.data, .data, .data, .data, .data, .data, .pinned, .pinned], laidTests := true, laidLooks := .later }
def DeciIntegersCardSaid : Prop := Claim7.holds Tryz.pinned (.plain (OpenSpec.ofChange deciIntegersSpec)) deciIntegersCard

/-- THE TIED CARD OF 'vernierlaw16.DeciDigits'. -/
def deciDigitsCard : Claim7 := { stood := { row := deciDigitsRow, standIns := [], harness := (true, "a428c48d2c159c322eb171410f219799c82a6e30d22fa21a80504f9541438305"), looks := false }, kinds := [], alts := [], laidByText := true, laidKinds := [.data, .data, .data, .data, .data, .pinned, .pinned], laidTests := true, laidLooks := .later }
def DeciDigitsCardSaid : Prop := Claim7.holds Tryz.pinned (.plain (OpenSpec.ofChange deciDigitsSpec)) deciDigitsCard

/-- THE TIED CARD OF 'vernierlaw16.DeciLeast'. -/
def deciLeastCard : Claim7 := { stood := { row := deciLeastRow, standIns := [], harness := (true, "a428c48d2c159c322eb171410f219799c82a6e30d22fa21a80504f9541438305"), looks := false }, kinds := [], alts := [], laidByText := true, laidKinds := [.data, .data, .data, .data, .data, .pinned, .pinned], laidTests := true, laidLooks := .later }
def DeciLeastCardSaid : Prop := Claim7.holds Tryz.pinned (.plain (OpenSpec.ofChange deciLeastSpec)) deciLeastCard

/-- THE TIED CARD OF 'verniertop.WholeReads'. -/
def wholeReadsCard : Claim7 := { stood := { row := wholeReadsRow, standIns := [], harness := (true, "a428c48d2c159c322eb171410f219799c82a6e30d22fa21a80504f9541438305"), looks := false }, kinds := [], alts := [], laidByText := true, laidKinds := [.data, .data, .data, .data, .data, .pinned, .pinned], laidTests := true, laidLooks := .later }
def WholeReadsCardSaid : Prop := Claim7.holds Tryz.pinned (.plain (OpenSpec.ofChange wholeReadsSpec)) wholeReadsCard

/-- THE TIED CARD OF 'vernierlaw16.DeciBack'. -/
def deciBackCard : Claim7 := { stood := { row := deciBackRow, standIns := [], harness := (true, "a428c48d2c159c322eb171410f219799c82a6e30d22fa21a80504f9541438305"), looks := false }, kinds := [], alts := [], laidByText := true, laidKinds := [.data, .data, .data, .data, .data, .pinned, .pinned], laidTests := true, laidLooks := .later }
def DeciBackCardSaid : Prop := Claim7.holds Tryz.pinned (.plain (OpenSpec.ofChange deciBackSpec)) deciBackCard

/-- THE TIED CARD OF 'verniertop.WholeShortest'. -/
def wholeShortestCard : Claim7 := { stood := { row := wholeShortestRow, standIns := [], harness := (true, "a428c48d2c159c322eb171410f219799c82a6e30d22fa21a80504f9541438305"), looks := false }, kinds := [], alts := [], laidByText := true, laidKinds := [.data, .data, .data, .data, .data, .pinned, .pinned], laidTests := true, laidLooks := .later }
def WholeShortestCardSaid : Prop := Claim7.holds Tryz.pinned (.plain (OpenSpec.ofChange wholeShortestSpec)) wholeShortestCard

/-- THE TIED CARD OF 'verniertop.WholeTexts'. -/
def wholeTextsCard : Claim7 := { stood := { row := wholeTextsRow, standIns := [], harness := (true, "a428c48d2c159c322eb171410f219799c82a6e30d22fa21a80504f9541438305"), looks := false }, kinds := [], alts := [], laidByText := true, laidKinds := [.data, .data, .data, .data, .data, .pinned, .pinned], laidTests := true, laidLooks := .later }
def WholeTextsCardSaid : Prop := Claim7.holds Tryz.pinned (.plain (OpenSpec.ofChange wholeTextsSpec)) wholeTextsCard

/-- THE SECOND FORM's CARD OF 'vernierlaw16.DeciParses'. -/
def deciParsesUptoCard : Claim7 := { stood := { row := deciParsesUptoRow, standIns := [], harness := (true, "a428c48d2c159c322eb171410f219799c82a6e30d22fa21a80504f9541438305"), looks := false }, kinds := [], alts := [], laidByText := true, laidKinds := [.data, .data, .data, .data, .data, .pinned, .pinned], laidTests := true, laidLooks := .later }
def DeciParsesUptoCardSaid : Prop := Claim7.holds Tryz.pinned (.plain (OpenSpec.upto deciParsesSpec)) deciParsesUptoCard

/-- THE SECOND FORM's CARD OF 'vernierlaw16.DeciRises'. -/
def deciRisesUptoCard : Claim7 := { stood := { row := deciRisesUptoRow, standIns := [], harness := (true, "a428c48d2c159c322eb171410f219799c82a6e30d22fa21a80504f9541438305"), looks := false }, kinds := [], alts := [], laidByText := true, laidKinds := [.data, .data, .data, .data, .data, .pinned, .pinned], laidTests := true, laidLooks := .later }
def DeciRisesUptoCardSaid : Prop := Claim7.holds Tryz.pinned (.plain (OpenSpec.upto deciRisesSpec)) deciRisesUptoCard

/-- THE SECOND FORM's CARD OF 'vernierlaw16.DeciAlike'. -/
def deciAlikeUptoCard : Claim7 := { stood := { row := deciAlikeUptoRow, standIns := [], harness := (true, "a428c48d2c159c322eb171410f219799c82a6e30d22fa21a80504f9541438305"), looks := false }, kinds := [], alts := [], laidByText := true, laidKinds := [.data, .data, .data, .data, .data, .pinned, .pinned], laidTests := true, laidLooks := .later }
def DeciAlikeUptoCardSaid : Prop := Claim7.holds Tryz.pinned (.plain (OpenSpec.upto deciAlikeSpec)) deciAlikeUptoCard

/-- THE SECOND FORM's CARD OF 'vernierlaw16.DeciShortest'. -/
def deciShortestUptoCard : Claim7 := { stood := { row := deciShortestUptoRow, standIns := [], harness := (true, "a428c48d2c159c322eb171410f219799c82a6e30d22fa21a80504f9541438305"), looks := false }, kinds := [], alts := [], laidByText := true, laidKinds := [.data, .data, .data, .data, .data, .pinned, .pinned], laidTests := true, laidLooks := .later }
def DeciShortestUptoCardSaid : Prop := Claim7.holds Tryz.pinned (.plain (OpenSpec.upto deciShortestSpec)) deciShortestUptoCard

/-- THE SECOND FORM's CARD OF 'vernierlaw16.DeciIntegers'. -/
def deciIntegersUptoCard : Claim7 := { stood := { row := deciIntegersUptoRow, standIns := [], harness := (true, "a428c48d2c159c322eb171410f219799c82a6e30d22fa21a80504f9541438305"), looks := false }, kinds := [], alts := [], laidByText := true, laidKinds := [.data, .data, .data, .data, .data, .data, .pinned, .pinned], laidTests := true, laidLooks := .later }
def DeciIntegersUptoCardSaid : Prop := Claim7.holds Tryz.pinned (.plain (OpenSpec.upto deciIntegersSpec)) deciIntegersUptoCard

/-- THE SECOND FORM's CARD OF 'vernierlaw16.DeciDigits'. -/
def deciDigitsUptoCard : Claim7 := { stood := { row := deciDigitsUptoRow, standIns := [], harness := (true, "a428c48d2c159c322eb171410f219799c82a6e30d22fa21a80504f9541438305"), looks := false }, kinds := [], alts := [], laidByText := true, laidKinds := [.data, .data, .data, .data, .data, .pinned, .pinned], laidTests := true, laidLooks := .later }
def DeciDigitsUptoCardSaid : Prop := Claim7.holds Tryz.pinned (.plain (OpenSpec.upto deciDigitsSpec)) deciDigitsUptoCard

/-- THE SECOND FORM's CARD OF 'vernierlaw16.DeciLeast'. -/
def deciLeastUptoCard : Claim7 := { stood := { row := deciLeastUptoRow, standIns := [], harness := (true, "a428c48d2c159c322eb171410f219799c82a6e30d22fa21a80504f9541438305"), looks := false }, kinds := [], alts := [], laidByText := true, laidKinds := [.data, .data, .data, .data, .data, .pinned, .pinned], laidTests := true, laidLooks := .later }
def DeciLeastUptoCardSaid : Prop := Claim7.holds Tryz.pinned (.plain (OpenSpec.upto deciLeastSpec)) deciLeastUptoCard

/-- THE SECOND FORM's CARD OF 'verniertop.WholeReads'. -/
def wholeReadsUptoCard : Claim7 := { stood := { row := wholeReadsUptoRow, standIns := [], harness := (true, "a428c48d2c159c322eb171410f219799c82a6e30d22fa21a80504f9541438305"), looks := false }, kinds := [], alts := [], laidByText := true, laidKinds := [.data, .data, .data, .data, .data, .pinned, .pinned], laidTests := true, laidLooks := .later }
def WholeReadsUptoCardSaid : Prop := Claim7.holds Tryz.pinned (.plain (OpenSpec.upto wholeReadsSpec)) wholeReadsUptoCard

/-- THE SECOND FORM's CARD OF 'vernierlaw16.DeciBack'. -/
def deciBackUptoCard : Claim7 := { stood := { row := deciBackUptoRow, standIns := [], harness := (true, "a428c48d2c159c322eb171410f219799c82a6e30d22fa21a80504f9541438305"), looks := false }, kinds := [], alts := [], laidByText := true, laidKinds := [.data, .data, .data, .data, .data, .pinned, .pinned], laidTests := true, laidLooks := .later }
def DeciBackUptoCardSaid : Prop := Claim7.holds Tryz.pinned (.plain (OpenSpec.upto deciBackSpec)) deciBackUptoCard

/-- THE SECOND FORM's CARD OF 'verniertop.WholeShortest'. -/
def wholeShortestUptoCard : Claim7 := { stood := { row := wholeShortestUptoRow, standIns := [], harness := (true, "a428c48d2c159c322eb171410f219799c82a6e30d22fa21a80504f9541438305"), looks := false }, kinds := [], alts := [], laidByText := true, laidKinds := [.data, .data, .data, .data, .data, .pinned, .pinned], laidTests := true, laidLooks := .later }
def WholeShortestUptoCardSaid : Prop := Claim7.holds Tryz.pinned (.plain (OpenSpec.upto wholeShortestSpec)) wholeShortestUptoCard

/-- THE SECOND FORM's CARD OF 'verniertop.WholeTexts'. -/
def wholeTextsUptoCard : Claim7 := { stood := { row := wholeTextsUptoRow, standIns := [], harness := (true, "a428c48d2c159c322eb171410f219799c82a6e30d22fa21a80504f9541438305"), looks := false }, kinds := [], alts := [], laidByText := true, laidKinds := [.data, .data, .data, .data, .data, .pinned, .pinned], laidTests := true, laidLooks := .later }
def WholeTextsUptoCardSaid : Prop := Claim7.holds Tryz.pinned (.plain (OpenSpec.upto wholeTextsSpec)) wholeTextsUptoCard
end Rows
end Go.Proofs.YtafikkmnkeddpaaGreatDoor
