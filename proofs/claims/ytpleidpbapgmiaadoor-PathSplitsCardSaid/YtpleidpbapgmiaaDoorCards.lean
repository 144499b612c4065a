/-
  DERIVED. GIVEN WITH THE SEED: THE CARDS: each row of YtpleidpbapgmiaaDoorRows.lean that lists a variable, with what it lists TIED to the program's text (the seventh form; the later family's looks); each row that meets fmt, with fmt's text TOLD by the authors' own Lean function (tested against real Go, not proved from fmt's source: count such statements apart). THE CARD IS WHAT COUNTS. Prove the row's statement (the work); the ties are given (YtpleidpbapgmiaaDoorTie.lean); close each card by the builder's one call (the guide's Derived/Test/ToyasCard.lean, 'card_holds'). Laid BY PROGRAM, IN A SANDBOX (cutbox-door.mjs). By AI agents, Wed Nov 11 2026. No macro, syntax, notation, axiom, sorry.
-/
import Derived.Test.YtpleidpbapgmiaaDoorRows
import GoSem.ClaimSeven
namespace Go.Proofs.YtpleidpbapgmiaaDoor
namespace Rows

/-- THE TIED CARD OF 'limnerlaw06.PathFlats'. -/
def pathFlatsCard : Claim7 := { stood := { row := pathFlatsRow, standIns := [], harness := (true, "223db34b8247a396da40d9c2c87ded2e540de789a8e69ea02ac95d573860cd1f"), looks := false }, kinds := [], alts := [], laidByText := true, laidKinds := [.data], laidTests := true, laidLooks := .later }
def PathFlatsCardSaid : Prop := Claim7.holds Tryd.pinned (.plain (OpenSpec.ofChange pathFlatsSpec)) pathFlatsCard

/-- THE TIED CARD OF 'limnerlaw06.PathChecks'. -/
def pathChecksCard : Claim7 := { stood := { row := pathChecksRow, standIns := [], harness := (true, "223db34b8247a396da40d9c2c87ded2e540de789a8e69ea02ac95d573860cd1f"), looks := false }, kinds := [], alts := [], laidByText := true, laidKinds := [.data], laidTests := true, laidLooks := .later }
def PathChecksCardSaid : Prop := Claim7.holds Tryd.pinned (.plain (OpenSpec.ofChange pathChecksSpec)) pathChecksCard

/-- THE TIED CARD OF 'limnerlaw06.PathSplits'. -/
def pathSplitsCard : Claim7 := { stood := { row := pathSplitsRow, standIns := [], harness := (true, "223db34b8247a396da40d9c2c87ded2e540de789a8e69ea02ac95d573860cd1f"), looks := false }, kinds := [], alts := [], laidByText := true, laidKinds := [.data], laidTests := true, laidLooks := .later }
def PathSplitsCardSaid : Prop := Claim7.holds Tryd.pinned (.plain (OpenSpec.ofChange pathSplitsSpec)) pathSplitsCard

/-- THE TIED CARD OF 'limnerlaw06.PathApplies'. -/
def pathAppliesCard : Claim7 := { stood := { row := pathAppliesRow, standIns := [], harness := (true, "223db34b8247a396da40d9c2c87ded2e540de789a8e69ea02ac95d573860cd1f"), looks := false }, kinds := [], alts := [], laidByText := true, laidKinds := [.data], laidTests := true, laidLooks := .later }
def PathAppliesCardSaid : Prop := Claim7.holds Tryd.pinned (.plain (OpenSpec.ofChange pathAppliesSpec)) pathAppliesCard

/-- THE TIED CARD OF 'limnerlaw06.PathEdits'. -/
def pathEditsCard : Claim7 := { stood := { row := pathEditsRow, standIns := [], harness := (true, "223db34b8247a396da40d9c2c87ded2e540de789a8e69ea02ac95d573860cd1f"), looks := false }, kinds := [], alts := [], laidByText := true, laidKinds := [.data], laidTests := true, laidLooks := .later }
def PathEditsCardSaid : Prop := Claim7.holds Tryd.pinned (.plain (OpenSpec.ofChange pathEditsSpec)) pathEditsCard

/-- THE TIED CARD OF 'limnerlaw06.PathBack'. -/
def pathBackCard : Claim7 := { stood := { row := pathBackRow, standIns := [], harness := (true, "223db34b8247a396da40d9c2c87ded2e540de789a8e69ea02ac95d573860cd1f"), looks := false }, kinds := [], alts := [], laidByText := true, laidKinds := [.data], laidTests := true, laidLooks := .later }
def PathBackCardSaid : Prop := Claim7.holds Tryd.pinned (.plain (OpenSpec.ofChange pathBackSpec)) pathBackCard

/-- THE SECOND FORM's CARD OF 'limnerlaw06.PathFlats'. -/
def pathFlatsUptoCard : Claim7 := { stood := { row := pathFlatsUptoRow, standIns := [], harness := (true, "223db34b8247a396da40d9c2c87ded2e540de789a8e69ea02ac95d573860cd1f"), looks := false }, kinds := [], alts := [], laidByText := true, laidKinds := [.data], laidTests := true, laidLooks := .later }
def PathFlatsUptoCardSaid : Prop := Claim7.holds Tryd.pinned (.plain (OpenSpec.upto pathFlatsSpec)) pathFlatsUptoCard

/-- THE SECOND FORM's CARD OF 'limnerlaw06.PathChecks'. -/
def pathChecksUptoCard : Claim7 := { stood := { row := pathChecksUptoRow, standIns := [], harness := (true, "223db34b8247a396da40d9c2c87ded2e540de789a8e69ea02ac95d573860cd1f"), looks := false }, kinds := [], alts := [], laidByText := true, laidKinds := [.data], laidTests := true, laidLooks := .later }
def PathChecksUptoCardSaid : Prop := Claim7.holds Tryd.pinned (.plain (OpenSpec.upto pathChecksSpec)) pathChecksUptoCard

/-- THE SECOND FORM's CARD OF 'limnerlaw06.PathSplits'. -/
def pathSplitsUptoCard : Claim7 := { stood := { row := pathSplitsUptoRow, standIns := [], harness := (true, "223db34b8247a396da40d9c2c87ded2e540de789a8e69ea02ac95d573860cd1f"), looks := false }, kinds := [], alts := [], laidByText := true, laidKinds := [.data], laidTests := true, laidLooks := .later }
def PathSplitsUptoCardSaid : Prop := Claim7.holds Tryd.pinned (.plain (OpenSpec.upto pathSplitsSpec)) pathSplitsUptoCard

/-- THE SECOND FORM's CARD OF 'limnerlaw06.PathApplies'. -/
def pathAppliesUptoCard : Claim7 := { stood := { row := pathAppliesUptoRow, standIns := [], harness := (true, "223db34b8247a396da40d9c2c87ded2e540de789a8e69ea02ac95d573860cd1f"), looks := false }, kinds := [], alts := [], laidByText := true, laidKinds := [.data], laidTests := true, laidLooks := .later }
def PathAppliesUptoCardSaid : Prop := Claim7.holds Tryd.pinned (.plain (OpenSpec.upto pathAppliesSpec)) pathAppliesUptoCard

/-- THE SECOND FORM's CARD OF 'limnerlaw06.PathEdits'. -/
def pathEditsUptoCard : Claim7 := { stood := { row := pathEditsUptoRow, standIns := [], harness := (true, "223db34b8247a396da40d9c2c87ded2e540de789a8e69ea02ac95d573860cd1f"), looks := false }, kinds := [], alts := [], laidByText := true, laidKinds := [.data], laidTests := true, laidLooks := .later }
def PathEditsUptoCardSaid : Prop := Claim7.holds Tryd.pinned (.plain (OpenSpec.upto pathEditsSpec)) pathEditsUptoCard

/-- THE SECOND FORM's CARD OF 'limnerlaw06.PathBack'. -/
def pathBackUptoCard : Claim7 := { stood := { row := pathBackUptoRow, standIns := [], harness := (true, "223db34b8247a396da40d9c2c87ded2e540de789a8e69ea02ac95d573860cd1f"), looks := false }, kinds := [], alts := [], laidByText := true, laidKinds := [.data], laidTests := true, laidLooks := .later }
def PathBackUptoCardSaid : Prop := Claim7.holds Tryd.pinned (.plain (OpenSpec.upto pathBackSpec)) pathBackUptoCard
end Rows
end Go.Proofs.YtpleidpbapgmiaaDoor
