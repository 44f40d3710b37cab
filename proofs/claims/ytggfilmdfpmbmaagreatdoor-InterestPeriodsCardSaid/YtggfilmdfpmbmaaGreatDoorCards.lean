/-
  DERIVED. GIVEN WITH THE SEED: THE CARDS: each row of YtggfilmdfpmbmaaGreatDoorRows.lean that lists a variable, with what it lists TIED to the program's text (the seventh form; the later family's looks); each row that meets fmt, with fmt's text TOLD by the authors' own Lean function (tested against real Go, not proved from fmt's source: count such statements apart). THE CARD IS WHAT COUNTS. Prove the row's statement (the work); the ties are given (YtggfilmdfpmbmaaGreatDoorTie.lean); close each card by the builder's one call (the guide's Derived/Test/ToyasCard.lean, 'card_holds'). Laid BY PROGRAM, IN A SANDBOX (cutbox-door.mjs). By AI agents, Wed Nov 11 2026. No macro, syntax, notation, axiom, sorry.
-/
import Derived.Test.YtggfilmdfpmbmaaGreatDoorRows
import GoSem.ClaimSeven
namespace Go.Proofs.YtggfilmdfpmbmaaGreatDoor
namespace Rows

/-- THE TIED CARD OF 'insolvencylaw6.InterestCompound'. -/
def interestCompoundCard : Claim7 := { stood := { row := interestCompoundRow, standIns := [], harness := (true, "a6aa55646e1586c4366e38fd589c07f847616d3ed85284ec729ab09ef6bc51ac"), looks := false }, kinds := [], alts := [], laidByText := true, laidKinds := [.data, .pinned], laidTests := true, laidLooks := .later }
def InterestCompoundCardSaid : Prop := Claim7.holds Tryz.pinned (.plain (OpenSpec.ofChange interestCompoundSpec)) interestCompoundCard

/-- THE TIED CARD OF 'insolvencylaw6.InterestPeriods'. -/
def interestPeriodsCard : Claim7 := { stood := { row := interestPeriodsRow, standIns := [], harness := (true, "a6aa55646e1586c4366e38fd589c07f847616d3ed85284ec729ab09ef6bc51ac"), looks := false }, kinds := [], alts := [], laidByText := true, laidKinds := [.data, .pinned], laidTests := true, laidLooks := .later }
def InterestPeriodsCardSaid : Prop := Claim7.holds Tryz.pinned (.plain (OpenSpec.ofChange interestPeriodsSpec)) interestPeriodsCard

/-- THE SECOND FORM's CARD OF 'insolvencylaw6.InterestCompound'. -/
def interestCompoundUptoCard : Claim7 := { stood := { row := interestCompoundUptoRow, standIns := [], harness := (true, "a6aa55646e1586c4366e38fd589c07f847616d3ed85284ec729ab09ef6bc51ac"), looks := false }, kinds := [], alts := [], laidByText := true, laidKinds := [.data, .pinned], laidTests := true, laidLooks := .later }
def InterestCompoundUptoCardSaid : Prop := Claim7.holds Tryz.pinned (.plain (OpenSpec.upto interestCompoundSpec)) interestCompoundUptoCard

/-- THE SECOND FORM's CARD OF 'insolvencylaw6.InterestPeriods'. -/
def interestPeriodsUptoCard : Claim7 := { stood := { row := interestPeriodsUptoRow, standIns := [], harness := (true, "a6aa55646e1586c4366e38fd589c07f847616d3ed85284ec729ab09ef6bc51ac"), looks := false }, kinds := [], alts := [], laidByText := true, laidKinds := [.data, .pinned], laidTests := true, laidLooks := .later }
def InterestPeriodsUptoCardSaid : Prop := Claim7.holds Tryz.pinned (.plain (OpenSpec.upto interestPeriodsSpec)) interestPeriodsUptoCard
end Rows
end Go.Proofs.YtggfilmdfpmbmaaGreatDoor
