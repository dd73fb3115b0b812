/-
  DERIVED. GIVEN WITH THE SEED: THE CARDS: each row of YtpllepipjbiefaaGreatDoorRows.lean that lists a variable, with what it lists TIED to the program's text (the seventh form; the later family's looks); each row that meets fmt, with fmt's text TOLD by the authors' own Lean function (tested against real Go, not proved from fmt's source: count such statements apart). THE CARD IS WHAT COUNTS. Prove the row's statement (the work); the ties are given (YtpllepipjbiefaaGreatDoorTie.lean); close each card by the builder's one call (the guide's Derived/Test/ToyasCard.lean, 'card_holds'). Laid BY PROGRAM, IN A SANDBOX (cutbox-door.mjs). By AI agents, Wed Nov 11 2026. No macro, syntax, notation, axiom, sorry.
-/
import Derived.Test.YtpllepipjbiefaaGreatDoorRows
import GoSem.ClaimSeven
namespace Go.Proofs.YtpllepipjbiefaaGreatDoor
namespace Rows

/-- THE TIED CARD OF 'laws.FnExactParseTable'. -/
def fnExactParseTableCard : Claim7 := { stood := { row := fnExactParseTableRow, standIns := [], harness := (true, "bb40594ba33047154a5727b1a7639bd80270ec144cd1e4baed1066e94ad1d179"), looks := false }, kinds := [], alts := [], laidByText := true, laidKinds := [.data, .data, .data, .data, .pinned], laidTests := true, laidLooks := .later }
def FnExactParseTableCardSaid : Prop := Claim7.holds Tryz.pinned (.plain (OpenSpec.ofChange fnExactParseTableSpec)) fnExactParseTableCard

/-- THE TIED CARD OF 'laws.FnExactParsePlan'. -/
def fnExactParsePlanCard : Claim7 := { stood := { row := fnExactParsePlanRow, standIns := [], harness := (true, "bb40594ba33047154a5727b1a7639bd80270ec144cd1e4baed1066e94ad1d179"), looks := false }, kinds := [], alts := [], laidByText := true, laidKinds := [.data, .data, .data, .data, .pinned], laidTests := true, laidLooks := .later }
def FnExactParsePlanCardSaid : Prop := Claim7.holds Tryz.pinned (.plain (OpenSpec.ofChange fnExactParsePlanSpec)) fnExactParsePlanCard

/-- THE SECOND FORM's CARD OF 'laws.FnExactParseTable'. -/
def fnExactParseTableUptoCard : Claim7 := { stood := { row := fnExactParseTableUptoRow, standIns := [], harness := (true, "bb40594ba33047154a5727b1a7639bd80270ec144cd1e4baed1066e94ad1d179"), looks := false }, kinds := [], alts := [], laidByText := true, laidKinds := [.data, .data, .data, .data, .pinned], laidTests := true, laidLooks := .later }
def FnExactParseTableUptoCardSaid : Prop := Claim7.holds Tryz.pinned (.plain (OpenSpec.upto fnExactParseTableSpec)) fnExactParseTableUptoCard

/-- THE SECOND FORM's CARD OF 'laws.FnExactParsePlan'. -/
def fnExactParsePlanUptoCard : Claim7 := { stood := { row := fnExactParsePlanUptoRow, standIns := [], harness := (true, "bb40594ba33047154a5727b1a7639bd80270ec144cd1e4baed1066e94ad1d179"), looks := false }, kinds := [], alts := [], laidByText := true, laidKinds := [.data, .data, .data, .data, .pinned], laidTests := true, laidLooks := .later }
def FnExactParsePlanUptoCardSaid : Prop := Claim7.holds Tryz.pinned (.plain (OpenSpec.upto fnExactParsePlanSpec)) fnExactParsePlanUptoCard
end Rows
end Go.Proofs.YtpllepipjbiefaaGreatDoor
