/-
  DERIVED. GIVEN WITH THE SEED: THE CARDS: each row of YtmncplgccielbaaDoorRows.lean that lists a variable, with what it lists TIED to the program's text (the seventh form; the later family's looks); each row that meets fmt, with fmt's text TOLD by the authors' own Lean function (tested against real Go, not proved from fmt's source: count such statements apart). THE CARD IS WHAT COUNTS. Prove the row's statement (the work); the ties are given (YtmncplgccielbaaDoorTie.lean); close each card by the builder's one call (the guide's Derived/Test/ToyasCard.lean, 'card_holds'). Laid BY PROGRAM, IN A SANDBOX (cutbox-door.mjs). By AI agents, Wed Nov 11 2026. No macro, syntax, notation, axiom, sorry.
-/
import Derived.Test.YtmncplgccielbaaDoorRows
import GoSem.ClaimSeven
namespace Go.Proofs.YtmncplgccielbaaDoor
namespace Rows

/-- THE TIED CARD OF 'pneumaticlaw04.TruthReturns'. -/
def truthReturnsCard : Claim7 := { stood := { row := truthReturnsRow, standIns := [], harness := (true, "79f9a40c014030a8b8ad5795f4a892bfba89f6d94440f62797c1bd88b1abc957"), looks := false }, kinds := [], alts := [], laidByText := true, laidKinds := [.data, .data], laidTests := true, laidLooks := .later }
def TruthReturnsCardSaid : Prop := Claim7.holds Tryd.pinned (.plain (OpenSpec.ofChange truthReturnsSpec)) truthReturnsCard

/-- THE SECOND FORM's CARD OF 'pneumaticlaw04.TruthReturns'. -/
def truthReturnsUptoCard : Claim7 := { stood := { row := truthReturnsUptoRow, standIns := [], harness := (true, "79f9a40c014030a8b8ad5795f4a892bfba89f6d94440f62797c1bd88b1abc957"), looks := false }, kinds := [], alts := [], laidByText := true, laidKinds := [.data, .data], laidTests := true, laidLooks := .later }
def TruthReturnsUptoCardSaid : Prop := Claim7.holds Tryd.pinned (.plain (OpenSpec.upto truthReturnsSpec)) truthReturnsUptoCard
end Rows
end Go.Proofs.YtmncplgccielbaaDoor
