/-
  DERIVED. GIVEN WITH THE SEED: THE CARDS: each row of YtdkhdkldjpaadaaDoorRows.lean that lists a variable, with what it lists TIED to the program's text (the seventh form; the later family's looks); each row that meets fmt, with fmt's text TOLD by the authors' own Lean function (tested against real Go, not proved from fmt's source: count such statements apart). THE CARD IS WHAT COUNTS. Prove the row's statement (the work); the ties are given (YtdkhdkldjpaadaaDoorTie.lean); close each card by the builder's one call (the guide's Derived/Test/ToyasCard.lean, 'card_holds'). Laid BY PROGRAM, IN A SANDBOX (cutbox-door.mjs). By AI agents, Wed Nov 11 2026. No macro, syntax, notation, axiom, sorry.
-/
import Derived.Test.YtdkhdkldjpaadaaDoorRows
import GoSem.ClaimSeven
namespace Go.Proofs.YtdkhdkldjpaadaaDoor
namespace Rows

/-- THE TIED CARD OF 'pneumaticlaw04.TruthTexts'. -/
def truthTextsCard : Claim7 := { stood := { row := truthTextsRow, standIns := [], harness := (true, "9ac2e7220cf43942e2194e01b0e74599e1919760336424e3822d2311904bbd74"), looks := false }, kinds := [], alts := [], laidByText := true, laidKinds := [.data, .data], laidTests := true, laidLooks := .later }
def TruthTextsCardSaid : Prop := Claim7.holds Tryd.pinned (.plain (OpenSpec.ofChange truthTextsSpec)) truthTextsCard

/-- THE TIED CARD OF 'pneumaticlaw04.TruthJoins'. -/
def truthJoinsCard : Claim7 := { stood := { row := truthJoinsRow, standIns := [], harness := (true, "9ac2e7220cf43942e2194e01b0e74599e1919760336424e3822d2311904bbd74"), looks := false }, kinds := [], alts := [], laidByText := true, laidKinds := [.data, .data], laidTests := true, laidLooks := .later }
def TruthJoinsCardSaid : Prop := Claim7.holds Tryd.pinned (.plain (OpenSpec.ofChange truthJoinsSpec)) truthJoinsCard

/-- THE TIED CARD OF 'pneumaticlaw04.TruthAlgebra'. -/
def truthAlgebraCard : Claim7 := { stood := { row := truthAlgebraRow, standIns := [], harness := (true, "9ac2e7220cf43942e2194e01b0e74599e1919760336424e3822d2311904bbd74"), looks := false }, kinds := [], alts := [], laidByText := true, laidKinds := [.data, .data], laidTests := true, laidLooks := .later }
def TruthAlgebraCardSaid : Prop := Claim7.holds Tryd.pinned (.plain (OpenSpec.ofChange truthAlgebraSpec)) truthAlgebraCard

/-- THE TIED CARD OF 'pneumaticlaw04.TruthDepends'. -/
def truthDependsCard : Claim7 := { stood := { row := truthDependsRow, standIns := [], harness := (true, "9ac2e7220cf43942e2194e01b0e74599e1919760336424e3822d2311904bbd74"), looks := false }, kinds := [], alts := [], laidByText := true, laidKinds := [.data, .data], laidTests := true, laidLooks := .later }
def TruthDependsCardSaid : Prop := Claim7.holds Tryd.pinned (.plain (OpenSpec.ofChange truthDependsSpec)) truthDependsCard

/-- THE TIED CARD OF 'pneumaticlaw04.TruthSplits'. -/
def truthSplitsCard : Claim7 := { stood := { row := truthSplitsRow, standIns := [], harness := (true, "9ac2e7220cf43942e2194e01b0e74599e1919760336424e3822d2311904bbd74"), looks := false }, kinds := [], alts := [], laidByText := true, laidKinds := [.data, .data], laidTests := true, laidLooks := .later }
def TruthSplitsCardSaid : Prop := Claim7.holds Tryd.pinned (.plain (OpenSpec.ofChange truthSplitsSpec)) truthSplitsCard

/-- THE TIED CARD OF 'pneumaticlaw04.TruthRenames'. -/
def truthRenamesCard : Claim7 := { stood := { row := truthRenamesRow, standIns := [], harness := (true, "9ac2e7220cf43942e2194e01b0e74599e1919760336424e3822d2311904bbd74"), looks := false }, kinds := [], alts := [], laidByText := true, laidKinds := [.data, .data], laidTests := true, laidLooks := .later }
def TruthRenamesCardSaid : Prop := Claim7.holds Tryd.pinned (.plain (OpenSpec.ofChange truthRenamesSpec)) truthRenamesCard

/-- THE TIED CARD OF 'pneumaticlaw04.TruthMakes'. -/
def truthMakesCard : Claim7 := { stood := { row := truthMakesRow, standIns := [], harness := (true, "9ac2e7220cf43942e2194e01b0e74599e1919760336424e3822d2311904bbd74"), looks := false }, kinds := [], alts := [], laidByText := true, laidKinds := [.data, .data], laidTests := true, laidLooks := .later }
def TruthMakesCardSaid : Prop := Claim7.holds Tryd.pinned (.plain (OpenSpec.ofChange truthMakesSpec)) truthMakesCard

/-- THE TIED CARD OF 'pneumaticlaw04.TruthReturns'. -/
def truthReturnsCard : Claim7 := { stood := { row := truthReturnsRow, standIns := [], harness := (true, "9ac2e7220cf43942e2194e01b0e74599e1919760336424e3822d2311904bbd74"), looks := false }, kinds := [], alts := [], laidByText := true, laidKinds := [.data, .data], laidTests := true, laidLooks := .later }
def TruthReturnsCardSaid : Prop := Claim7.holds Tryd.pinned (.plain (OpenSpec.ofChange truthReturnsSpec)) truthReturnsCard

/-- THE SECOND FORM's CARD OF 'pneumaticlaw04.TruthTexts'. -/
def truthTextsUptoCard : Claim7 := { stood := { row := truthTextsUptoRow, standIns := [], harness := (true, "9ac2e7220cf43942e2194e01b0e74599e1919760336424e3822d2311904bbd74"), looks := false }, kinds := [], alts := [], laidByText := true, laidKinds := [.data, .data], laidTests := true, laidLooks := .later }
def TruthTextsUptoCardSaid : Prop := Claim7.holds Tryd.pinned (.plain (OpenSpec.upto truthTextsSpec)) truthTextsUptoCard

/-- THE SECOND FORM's CARD OF 'pneumaticlaw04.TruthJoins'. -/
def truthJoinsUptoCard : Claim7 := { stood := { row := truthJoinsUptoRow, standIns := [], harness := (true, "9ac2e7220cf43942e2194e01b0e74599e1919760336424e3822d2311904bbd74"), looks := false }, kinds := [], alts := [], laidByText := true, laidKinds := [.data, .data], laidTests := true, laidLooks := .later }
def TruthJoinsUptoCardSaid : Prop := Claim7.holds Tryd.pinned (.plain (OpenSpec.upto truthJoinsSpec)) truthJoinsUptoCard

/-- THE SECOND FORM's CARD OF 'pneumaticlaw04.TruthAlgebra'. -/
def truthAlgebraUptoCard : Claim7 := { stood := { row := truthAlgebraUptoRow, standIns := [], harness := (true, "9ac2e7220cf43942e2194e01b0e74599e1919760336424e3822d2311904bbd74"), looks := false }, kinds := [], alts := [], laidByText := true, laidKinds := [.data, .data], laidTests := true, laidLooks := .later }
def TruthAlgebraUptoCardSaid : Prop := Claim7.holds Tryd.pinned (.plain (OpenSpec.upto truthAlgebraSpec)) truthAlgebraUptoCard

/-- THE SECOND FORM's CARD OF 'pneumaticlaw04.TruthDepends'. -/
def truthDependsUptoCard : Claim7 := { stood := { row := truthDependsUptoRow, standIns := [], harness := (true, "9ac2e7220cf43942e2194e01b0e74599e1919760336424e3822d2311904bbd74"), looks := false }, kinds := [], alts := [], laidByText := true, laidKinds := [.data, .data], laidTests := true, laidLooks := .later }
def TruthDependsUptoCardSaid : Prop := Claim7.holds Tryd.pinned (.plain (OpenSpec.upto truthDependsSpec)) truthDependsUptoCard

/-- THE SECOND FORM's CARD OF 'pneumaticlaw04.TruthSplits'. -/
def truthSplitsUptoCard : Claim7 := { stood := { row := truthSplitsUptoRow, standIns := [], harness := (true, "9ac2e7220cf43942e2194e01b0e74599e1919760336424e3822d2311904bbd74"), looks := false }, kinds := [], alts := [], laidByText := true, laidKinds := [.data, .data], laidTests := true, laidLooks := .later }
def TruthSplitsUptoCardSaid : Prop := Claim7.holds Tryd.pinned (.plain (OpenSpec.upto truthSplitsSpec)) truthSplitsUptoCard

/-- THE SECOND FORM's CARD OF 'pneumaticlaw04.TruthRenames'. -/
def truthRenamesUptoCard : Claim7 := { stood := { row := truthRenamesUptoRow, standIns := [], harness := (true, "9ac2e7220cf43942e2194e01b0e74599e1919760336424e3822d2311904bbd74"), looks := false }, kinds := [], alts := [], laidByText := true, laidKinds := [.data, .data], laidTests := true, laidLooks := .later }
def TruthRenamesUptoCardSaid : Prop := Claim7.holds Tryd.pinned (.plain (OpenSpec.upto truthRenamesSpec)) truthRenamesUptoCard

/-- THE SECOND FORM's CARD OF 'pneumaticlaw04.TruthMakes'. -/
def truthMakesUptoCard : Claim7 := { stood := { row := truthMakesUptoRow, standIns := [], harness := (true, "9ac2e7220cf43942e2194e01b0e74599e1919760336424e3822d2311904bbd74"), looks := false }, kinds := [], alts := [], laidByText := true, laidKinds := [.data, .data], laidTests := true, laidLooks := .later }
def TruthMakesUptoCardSaid : Prop := Claim7.holds Tryd.pinned (.plain (OpenSpec.upto truthMakesSpec)) truthMakesUptoCard

/-- THE SECOND FORM's CARD OF 'pneumaticlaw04.TruthReturns'. -/
def truthReturnsUptoCard : Claim7 := { stood := { row := truthReturnsUptoRow, standIns := [], harness := (true, "9ac2e7220cf43942e2194e01b0e74599e1919760336424e3822d2311904bbd74"), looks := false }, kinds := [], alts := [], laidByText := true, laidKinds := [.data, .data], laidTests := true, laidLooks := .later }
def TruthReturnsUptoCardSaid : Prop := Claim7.holds Tryd.pinned (.plain (OpenSpec.upto truthReturnsSpec)) truthReturnsUptoCard
end Rows
end Go.Proofs.YtdkhdkldjpaadaaDoor
