/-
  DERIVED. GIVEN WITH THE SEED: THE CARDS: each row of YtidpeongblkcbaaDoorRows.lean that lists a variable, with what it lists TIED to the program's text (the seventh form; the later family's looks); each row that meets fmt, with fmt's text TOLD by the authors' own Lean function (tested against real Go, not proved from fmt's source: count such statements apart). THE CARD IS WHAT COUNTS. Prove the row's statement (the work); the ties are given (YtidpeongblkcbaaDoorTie.lean); close each card by the builder's one call (the guide's Derived/Test/ToyasCard.lean, 'card_holds'). Laid BY PROGRAM, IN A SANDBOX (cutbox-door.mjs). By AI agents, Wed Nov 11 2026. No macro, syntax, notation, axiom, sorry.
-/
import Derived.Test.YtidpeongblkcbaaDoorRows
import GoSem.ClaimSeven
namespace Go.Proofs.YtidpeongblkcbaaDoor
namespace Rows

/-- THE TIED CARD OF 'limnerlaw07.StrokeDiscs'. -/
def strokeDiscsCard : Claim7 := { stood := { row := strokeDiscsRow, standIns := [], harness := (true, "28730fe20e8c6bdbc36152ecb64f04bfc4527a23a5406997bc2d7b70b9bf8b2d"), looks := false }, kinds := [], alts := [], laidByText := true, laidKinds := [.data], laidTests := true, laidLooks := .later }
def StrokeDiscsCardSaid : Prop := Claim7.holds Tryd.pinned (.plain (OpenSpec.ofChange strokeDiscsSpec)) strokeDiscsCard

/-- THE TIED CARD OF 'limnerlaw07.StrokePens'. -/
def strokePensCard : Claim7 := { stood := { row := strokePensRow, standIns := [], harness := (true, "28730fe20e8c6bdbc36152ecb64f04bfc4527a23a5406997bc2d7b70b9bf8b2d"), looks := false }, kinds := [], alts := [], laidByText := true, laidKinds := [.data], laidTests := true, laidLooks := .later }
def StrokePensCardSaid : Prop := Claim7.holds Tryd.pinned (.plain (OpenSpec.ofChange strokePensSpec)) strokePensCard

/-- THE TIED CARD OF 'limnerlaw07.StrokeBack'. -/
def strokeBackCard : Claim7 := { stood := { row := strokeBackRow, standIns := [], harness := (true, "28730fe20e8c6bdbc36152ecb64f04bfc4527a23a5406997bc2d7b70b9bf8b2d"), looks := false }, kinds := [], alts := [], laidByText := true, laidKinds := [.data], laidTests := true, laidLooks := .later }
def StrokeBackCardSaid : Prop := Claim7.holds Tryd.pinned (.plain (OpenSpec.ofChange strokeBackSpec)) strokeBackCard

/-- THE TIED CARD OF 'limnerlaw07.StrokeWinds'. -/
def strokeWindsCard : Claim7 := { stood := { row := strokeWindsRow, standIns := [], harness := (true, "28730fe20e8c6bdbc36152ecb64f04bfc4527a23a5406997bc2d7b70b9bf8b2d"), looks := false }, kinds := [], alts := [], laidByText := true, laidKinds := [.data], laidTests := true, laidLooks := .later }
def StrokeWindsCardSaid : Prop := Claim7.holds Tryd.pinned (.plain (OpenSpec.ofChange strokeWindsSpec)) strokeWindsCard

/-- THE TIED CARD OF 'limnerlaw07.StrokeReach'. -/
def strokeReachCard : Claim7 := { stood := { row := strokeReachRow, standIns := [], harness := (true, "28730fe20e8c6bdbc36152ecb64f04bfc4527a23a5406997bc2d7b70b9bf8b2d"), looks := false }, kinds := [], alts := [], laidByText := true, laidKinds := [.data], laidTests := true, laidLooks := .later }
def StrokeReachCardSaid : Prop := Claim7.holds Tryd.pinned (.plain (OpenSpec.ofChange strokeReachSpec)) strokeReachCard

/-- THE SECOND FORM's CARD OF 'limnerlaw07.StrokeDiscs'. -/
def strokeDiscsUptoCard : Claim7 := { stood := { row := strokeDiscsUptoRow, standIns := [], harness := (true, "28730fe20e8c6bdbc36152ecb64f04bfc4527a23a5406997bc2d7b70b9bf8b2d"), looks := false }, kinds := [], alts := [], laidByText := true, laidKinds := [.data], laidTests := true, laidLooks := .later }
def StrokeDiscsUptoCardSaid : Prop := Claim7.holds Tryd.pinned (.plain (OpenSpec.upto strokeDiscsSpec)) strokeDiscsUptoCard

/-- THE SECOND FORM's CARD OF 'limnerlaw07.StrokePens'. -/
def strokePensUptoCard : Claim7 := { stood := { row := strokePensUptoRow, standIns := [], harness := (true, "28730fe20e8c6bdbc36152ecb64f04bfc4527a23a5406997bc2d7b70b9bf8b2d"), looks := false }, kinds := [], alts := [], laidByText := true, laidKinds := [.data], laidTests := true, laidLooks := .later }
def StrokePensUptoCardSaid : Prop := Claim7.holds Tryd.pinned (.plain (OpenSpec.upto strokePensSpec)) strokePensUptoCard

/-- THE SECOND FORM's CARD OF 'limnerlaw07.StrokeBack'. -/
def strokeBackUptoCard : Claim7 := { stood := { row := strokeBackUptoRow, standIns := [], harness := (true, "28730fe20e8c6bdbc36152ecb64f04bfc4527a23a5406997bc2d7b70b9bf8b2d"), looks := false }, kinds := [], alts := [], laidByText := true, laidKinds := [.data], laidTests := true, laidLooks := .later }
def StrokeBackUptoCardSaid : Prop := Claim7.holds Tryd.pinned (.plain (OpenSpec.upto strokeBackSpec)) strokeBackUptoCard

/-- THE SECOND FORM's CARD OF 'limnerlaw07.StrokeWinds'. -/
def strokeWindsUptoCard : Claim7 := { stood := { row := strokeWindsUptoRow, standIns := [], harness := (true, "28730fe20e8c6bdbc36152ecb64f04bfc4527a23a5406997bc2d7b70b9bf8b2d"), looks := false }, kinds := [], alts := [], laidByText := true, laidKinds := [.data], laidTests := true, laidLooks := .later }
def StrokeWindsUptoCardSaid : Prop := Claim7.holds Tryd.pinned (.plain (OpenSpec.upto strokeWindsSpec)) strokeWindsUptoCard

/-- THE SECOND FORM's CARD OF 'limnerlaw07.StrokeReach'. -/
def strokeReachUptoCard : Claim7 := { stood := { row := strokeReachUptoRow, standIns := [], harness := (true, "28730fe20e8c6bdbc36152ecb64f04bfc4527a23a5406997bc2d7b70b9bf8b2d"), looks := false }, kinds := [], alts := [], laidByText := true, laidKinds := [.data], laidTests := true, laidLooks := .later }
def StrokeReachUptoCardSaid : Prop := Claim7.holds Tryd.pinned (.plain (OpenSpec.upto strokeReachSpec)) strokeReachUptoCard
end Rows
end Go.Proofs.YtidpeongblkcbaaDoor
