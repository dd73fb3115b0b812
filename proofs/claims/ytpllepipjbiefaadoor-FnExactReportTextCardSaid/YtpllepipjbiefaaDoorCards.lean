/-
  DERIVED. GIVEN WITH THE SEED: THE CARDS: each row of YtpllepipjbiefaaDoorRows.lean that lists a variable, with what it lists TIED to the program's text (the seventh form; the later family's looks); each row that meets fmt, with fmt's text TOLD by the authors' own Lean function (tested against real Go, not proved from fmt's source: count such statements apart). THE CARD IS WHAT COUNTS. Prove the row's statement (the work); the ties are given (YtpllepipjbiefaaDoorTie.lean); close each card by the builder's one call (the guide's Derived/Test/ToyasCard.lean, 'card_holds'). Laid BY PROGRAM, IN A SANDBOX (cutbox-door.mjs). By AI agents, Wed Nov 11 2026. No macro, syntax, notation, axiom, sorry.
-/
import Derived.Test.YtpllepipjbiefaaDoorRows
import GoSem.ClaimSeven
namespace Go.Proofs.YtpllepipjbiefaaDoor
namespace Rows

/-- THE TIED CARD OF 'laws.FnExactReportText'. -/
def fnExactReportTextCard : Claim7 := { stood := { row := fnExactReportTextRow, standIns := [], harness := (true, "3ae9e9dac61cbf9fafe999728f5dd2a863954558821ee2d8aa12a6cc3b0fa1d1"), looks := false }, kinds := [], alts := [], laidByText := true, laidKinds := [.data, .data, .data], laidTests := true, laidLooks := .later }
def FnExactReportTextCardSaid : Prop := Claim7.holds Tryd.pinned (.plain (OpenSpec.ofChange fnExactReportTextSpec)) fnExactReportTextCard

/-- THE TIED CARD OF 'laws.FnExactParseEdit'. -/
def fnExactParseEditCard : Claim7 := { stood := { row := fnExactParseEditRow, standIns := [], harness := (true, "3ae9e9dac61cbf9fafe999728f5dd2a863954558821ee2d8aa12a6cc3b0fa1d1"), looks := false }, kinds := [], alts := [], laidByText := true, laidKinds := [.data, .pinned], laidTests := true, laidLooks := .later }
def FnExactParseEditCardSaid : Prop := Claim7.holds Tryd.pinned (.plain (OpenSpec.ofChange fnExactParseEditSpec)) fnExactParseEditCard

/-- THE SECOND FORM's CARD OF 'laws.FnExactReportText'. -/
def fnExactReportTextUptoCard : Claim7 := { stood := { row := fnExactReportTextUptoRow, standIns := [], harness := (true, "3ae9e9dac61cbf9fafe999728f5dd2a863954558821ee2d8aa12a6cc3b0fa1d1"), looks := false }, kinds := [], alts := [], laidByText := true, laidKinds := [.data, .data, .data], laidTests := true, laidLooks := .later }
def FnExactReportTextUptoCardSaid : Prop := Claim7.holds Tryd.pinned (.plain (OpenSpec.upto fnExactReportTextSpec)) fnExactReportTextUptoCard

/-- THE SECOND FORM's CARD OF 'laws.FnExactParseEdit'. -/
def fnExactParseEditUptoCard : Claim7 := { stood := { row := fnExactParseEditUptoRow, standIns := [], harness := (true, "3ae9e9dac61cbf9fafe999728f5dd2a863954558821ee2d8aa12a6cc3b0fa1d1"), looks := false }, kinds := [], alts := [], laidByText := true, laidKinds := [.data, .pinned], laidTests := true, laidLooks := .later }
def FnExactParseEditUptoCardSaid : Prop := Claim7.holds Tryd.pinned (.plain (OpenSpec.upto fnExactParseEditSpec)) fnExactParseEditUptoCard
end Rows
end Go.Proofs.YtpllepipjbiefaaDoor
