/-
  DERIVED. GIVEN WITH THE SEED: THE CARDS: each row of YtpoikihkllfmbaaDoorRows.lean that lists a variable, with what it lists TIED to the program's text (the seventh form; the later family's looks); each row that meets fmt, with fmt's text TOLD by the authors' own Lean function (tested against real Go, not proved from fmt's source: count such statements apart). THE CARD IS WHAT COUNTS. Prove the row's statement (the work); the ties are given (YtpoikihkllfmbaaDoorTie.lean); close each card by the builder's one call (the guide's Derived/Test/ToyasCard.lean, 'card_holds'). Laid BY PROGRAM, IN A SANDBOX (cutbox-door.mjs). By AI agents, Wed Nov 11 2026. No macro, syntax, notation, axiom, sorry.
-/
import Derived.Test.YtpoikihkllfmbaaDoorRows
import GoSem.ClaimSeven
namespace Go.Proofs.YtpoikihkllfmbaaDoor
namespace Rows

/-- THE TIED CARD OF 'crossbarlaw20.FeedRight'. -/
def feedRightCard : Claim7 := { stood := { row := feedRightRow, standIns := [], harness := (true, "0035c821da2a23c6ef3a89cfc24eee3dc8b429e784cbc8139a9226a67d1af98d"), looks := true }, kinds := [], alts := [], laidByText := true, laidKinds := [.data], laidTests := true, laidLooks := .later }
def FeedRightCardSaid : Prop := Claim7.holds Tryd.pinned (.plain (OpenSpec.ofChange feedRightSpec)) feedRightCard

/-- THE TIED CARD OF 'crossbarlaw20.FeedBack'. -/
def feedBackCard : Claim7 := { stood := { row := feedBackRow, standIns := [], harness := (true, "0035c821da2a23c6ef3a89cfc24eee3dc8b429e784cbc8139a9226a67d1af98d"), looks := true }, kinds := [], alts := [], laidByText := true, laidKinds := [.data], laidTests := true, laidLooks := .later }
def FeedBackCardSaid : Prop := Claim7.holds Tryd.pinned (.plain (OpenSpec.ofChange feedBackSpec)) feedBackCard

/-- THE TIED CARD OF 'crossbarlaw20.FeedKinds'. -/
def feedKindsCard : Claim7 := { stood := { row := feedKindsRow, standIns := [], harness := (true, "0035c821da2a23c6ef3a89cfc24eee3dc8b429e784cbc8139a9226a67d1af98d"), looks := true }, kinds := [], alts := [], laidByText := true, laidKinds := [.data], laidTests := true, laidLooks := .later }
def FeedKindsCardSaid : Prop := Claim7.holds Tryd.pinned (.plain (OpenSpec.ofChange feedKindsSpec)) feedKindsCard

/-- THE SECOND FORM's CARD OF 'crossbarlaw20.FeedRight'. -/
def feedRightUptoCard : Claim7 := { stood := { row := feedRightUptoRow, standIns := [], harness := (true, "0035c821da2a23c6ef3a89cfc24eee3dc8b429e784cbc8139a9226a67d1af98d"), looks := true }, kinds := [], alts := [], laidByText := true, laidKinds := [.data], laidTests := true, laidLooks := .later }
def FeedRightUptoCardSaid : Prop := Claim7.holds Tryd.pinned (.plain (OpenSpec.upto feedRightSpec)) feedRightUptoCard

/-- THE SECOND FORM's CARD OF 'crossbarlaw20.FeedBack'. -/
def feedBackUptoCard : Claim7 := { stood := { row := feedBackUptoRow, standIns := [], harness := (true, "0035c821da2a23c6ef3a89cfc24eee3dc8b429e784cbc8139a9226a67d1af98d"), looks := true }, kinds := [], alts := [], laidByText := true, laidKinds := [.data], laidTests := true, laidLooks := .later }
def FeedBackUptoCardSaid : Prop := Claim7.holds Tryd.pinned (.plain (OpenSpec.upto feedBackSpec)) feedBackUptoCard

/-- THE SECOND FORM's CARD OF 'crossbarlaw20.FeedKinds'. -/
def feedKindsUptoCard : Claim7 := { stood := { row := feedKindsUptoRow, standIns := [], harness := (true, "0035c821da2a23c6ef3a89cfc24eee3dc8b429e784cbc8139a9226a67d1af98d"), looks := true }, kinds := [], alts := [], laidByText := true, laidKinds := [.data], laidTests := true, laidLooks := .later }
def FeedKindsUptoCardSaid : Prop := Claim7.holds Tryd.pinned (.plain (OpenSpec.upto feedKindsSpec)) feedKindsUptoCard
end Rows
end Go.Proofs.YtpoikihkllfmbaaDoor
