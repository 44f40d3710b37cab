/-
  DERIVED. GIVEN WITH THE SEED: THE CARDS: each row of YtggfilmdfpmbmaaDoorRows.lean that lists a variable, with what it lists TIED to the program's text (the seventh form; the later family's looks); each row that meets fmt, with fmt's text TOLD by the authors' own Lean function (tested against real Go, not proved from fmt's source: count such statements apart). THE CARD IS WHAT COUNTS. Prove the row's statement (the work); the ties are given (YtggfilmdfpmbmaaDoorTie.lean); close each card by the builder's one call (the guide's Derived/Test/ToyasCard.lean, 'card_holds'). Laid BY PROGRAM, IN A SANDBOX (cutbox-door.mjs). By AI agents, Wed Nov 11 2026. No macro, syntax, notation, axiom, sorry.
-/
import Derived.Test.YtggfilmdfpmbmaaDoorRows
import GoSem.ClaimSeven
namespace Go.Proofs.YtggfilmdfpmbmaaDoor
namespace Rows

/-- THE TIED CARD OF 'insolvencylaw6.InterestCheck'. -/
def interestCheckCard : Claim7 := { stood := { row := interestCheckRow, standIns := [], harness := (true, "9ad38870123757103929b7d8627940d7288a3c505d4683b028b6547a015fd75d"), looks := false }, kinds := [], alts := [], laidByText := true, laidKinds := [.data, .pinned], laidTests := true, laidLooks := .later }
def InterestCheckCardSaid : Prop := Claim7.holds Tryd.pinned (.plain (OpenSpec.ofChange interestCheckSpec)) interestCheckCard

/-- THE TIED CARD OF 'insolvencylaw6.InterestSimple'. -/
def interestSimpleCard : Claim7 := { stood := { row := interestSimpleRow, standIns := [], harness := (true, "9ad38870123757103929b7d8627940d7288a3c505d4683b028b6547a015fd75d"), looks := false }, kinds := [], alts := [], laidByText := true, laidKinds := [.data, .pinned], laidTests := true, laidLooks := .later }
def InterestSimpleCardSaid : Prop := Claim7.holds Tryd.pinned (.plain (OpenSpec.ofChange interestSimpleSpec)) interestSimpleCard

/-- THE TIED CARD OF 'insolvencylaw6.InterestAdditive'. -/
def interestAdditiveCard : Claim7 := { stood := { row := interestAdditiveRow, standIns := [], harness := (true, "9ad38870123757103929b7d8627940d7288a3c505d4683b028b6547a015fd75d"), looks := false }, kinds := [], alts := [], laidByText := true, laidKinds := [.data, .pinned], laidTests := true, laidLooks := .later }
def InterestAdditiveCardSaid : Prop := Claim7.holds Tryd.pinned (.plain (OpenSpec.ofChange interestAdditiveSpec)) interestAdditiveCard

/-- THE TIED CARD OF 'insolvencylaw6.InterestChain'. -/
def interestChainCard : Claim7 := { stood := { row := interestChainRow, standIns := [], harness := (true, "9ad38870123757103929b7d8627940d7288a3c505d4683b028b6547a015fd75d"), looks := false }, kinds := [], alts := [], laidByText := true, laidKinds := [.data, .pinned], laidTests := true, laidLooks := .later }
def InterestChainCardSaid : Prop := Claim7.holds Tryd.pinned (.plain (OpenSpec.ofChange interestChainSpec)) interestChainCard

/-- THE TIED CARD OF 'insolvencylaw6.InterestRate'. -/
def interestRateCard : Claim7 := { stood := { row := interestRateRow, standIns := [], harness := (true, "9ad38870123757103929b7d8627940d7288a3c505d4683b028b6547a015fd75d"), looks := false }, kinds := [], alts := [], laidByText := true, laidKinds := [.data, .pinned], laidTests := true, laidLooks := .later }
def InterestRateCardSaid : Prop := Claim7.holds Tryd.pinned (.plain (OpenSpec.ofChange interestRateSpec)) interestRateCard

/-- THE TIED CARD OF 'insolvencylaw6.InterestSums'. -/
def interestSumsCard : Claim7 := { stood := { row := interestSumsRow, standIns := [], harness := (true, "9ad38870123757103929b7d8627940d7288a3c505d4683b028b6547a015fd75d"), looks := false }, kinds := [], alts := [], laidByText := true, laidKinds := [.data, .pinned], laidTests := true, laidLooks := .later }
def InterestSumsCardSaid : Prop := Claim7.holds Tryd.pinned (.plain (OpenSpec.ofChange interestSumsSpec)) interestSumsCard

/-- THE TIED CARD OF 'insolvencylaw6.InterestAtLeast'. -/
def interestAtLeastCard : Claim7 := { stood := { row := interestAtLeastRow, standIns := [], harness := (true, "9ad38870123757103929b7d8627940d7288a3c505d4683b028b6547a015fd75d"), looks := false }, kinds := [], alts := [], laidByText := true, laidKinds := [.data, .pinned], laidTests := true, laidLooks := .later }
def InterestAtLeastCardSaid : Prop := Claim7.holds Tryd.pinned (.plain (OpenSpec.ofChange interestAtLeastSpec)) interestAtLeastCard

/-- THE SECOND FORM's CARD OF 'insolvencylaw6.InterestCheck'. -/
def interestCheckUptoCard : Claim7 := { stood := { row := interestCheckUptoRow, standIns := [], harness := (true, "9ad38870123757103929b7d8627940d7288a3c505d4683b028b6547a015fd75d"), looks := false }, kinds := [], alts := [], laidByText := true, laidKinds := [.data, .pinned], laidTests := true, laidLooks := .later }
def InterestCheckUptoCardSaid : Prop := Claim7.holds Tryd.pinned (.plain (OpenSpec.upto interestCheckSpec)) interestCheckUptoCard

/-- THE SECOND FORM's CARD OF 'insolvencylaw6.InterestSimple'. -/
def interestSimpleUptoCard : Claim7 := { stood := { row := interestSimpleUptoRow, standIns := [], harness := (true, "9ad38870123757103929b7d8627940d7288a3c505d4683b028b6547a015fd75d"), looks := false }, kinds := [], alts := [], laidByText := true, laidKinds := [.data, .pinned], laidTests := true, laidLooks := .later }
def InterestSimpleUptoCardSaid : Prop := Claim7.holds Tryd.pinned (.plain (OpenSpec.upto interestSimpleSpec)) interestSimpleUptoCard

/-- THE SECOND FORM's CARD OF 'insolvencylaw6.InterestAdditive'. -/
def interestAdditiveUptoCard : Claim7 := { stood := { row := interestAdditiveUptoRow, standIns := [], harness := (true, "9ad38870123757103929b7d8627940d7288a3c505d4683b028b6547a015fd75d"), looks := false }, kinds := [], alts := [], laidByText := true, laidKinds := [.data, .pinned], laidTests := true, laidLooks := .later }
def InterestAdditiveUptoCardSaid : Prop := Claim7.holds Tryd.pinned (.plain (OpenSpec.upto interestAdditiveSpec)) interestAdditiveUptoCard

/-- THE SECOND FORM's CARD OF 'insolvencylaw6.InterestChain'. -/
def interestChainUptoCard : Claim7 := { stood := { row := interestChainUptoRow, standIns := [], harness := (true, "9ad38870123757103929b7d8627940d7288a3c505d4683b028b6547a015fd75d"), looks := false }, kinds := [], alts := [], laidByText := true, laidKinds := [.data, .pinned], laidTests := true, laidLooks := .later }
def InterestChainUptoCardSaid : Prop := Claim7.holds Tryd.pinned (.plain (OpenSpec.upto interestChainSpec)) interestChainUptoCard

/-- THE SECOND FORM's CARD OF 'insolvencylaw6.InterestRate'. -/
def interestRateUptoCard : Claim7 := { stood := { row := interestRateUptoRow, standIns := [], harness := (true, "9ad38870123757103929b7d8627940d7288a3c505d4683b028b6547a015fd75d"), looks := false }, kinds := [], alts := [], laidByText := true, laidKinds := [.data, .pinned], laidTests := true, laidLooks := .later }
def InterestRateUptoCardSaid : Prop := Claim7.holds Tryd.pinned (.plain (OpenSpec.upto interestRateSpec)) interestRateUptoCard

/-- THE SECOND FORM's CARD OF 'insolvencylaw6.InterestSums'. -/
def interestSumsUptoCard : Claim7 := { stood := { row := interestSumsUptoRow, standIns := [], harness := (true, "9ad38870123757103929b7d8627940d7288a3c505d4683b028b6547a015fd75d"), looks := false }, kinds := [], alts := [], laidByText := true, laidKinds := [.data, .pinned], laidTests := true, laidLooks := .later }
def InterestSumsUptoCardSaid : Prop := Claim7.holds Tryd.pinned (.plain (OpenSpec.upto interestSumsSpec)) interestSumsUptoCard

/-- THE SECOND FORM's CARD OF 'insolvencylaw6.InterestAtLeast'. -/
def interestAtLeastUptoCard : Claim7 := { stood := { row := interestAtLeastUptoRow, standIns := [], harness := (true, "9ad38870123757103929b7d8627940d7288a3c505d4683b028b6547a015fd75d"), looks := false }, kinds := [], alts := [], laidByText := true, laidKinds := [.data, .pinned], laidTests := true, laidLooks := .later }
def InterestAtLeastUptoCardSaid : Prop := Claim7.holds Tryd.pinned (.plain (OpenSpec.upto interestAtLeastSpec)) interestAtLeastUptoCard
end Rows
end Go.Proofs.YtggfilmdfpmbmaaDoor
