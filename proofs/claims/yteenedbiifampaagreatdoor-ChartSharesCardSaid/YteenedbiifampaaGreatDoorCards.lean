/-
  DERIVED. GIVEN WITH THE SEED: THE CARDS: each row of YteenedbiifampaaGreatDoorRows.lean that lists a variable, with what it lists TIED to the program's text (the seventh form; the later family's looks); each row that meets fmt, with fmt's text TOLD by the authors' own Lean function (tested against real Go, not proved from fmt's source: count such statements apart). THE CARD IS WHAT COUNTS. Prove the row's statement (the work); the ties are given (YteenedbiifampaaGreatDoorTie.lean); close each card by the builder's one call (the guide's Derived/Test/ToyasCard.lean, 'card_holds'). Laid BY PROGRAM, IN A SANDBOX (cutbox-door.mjs). By AI agents, Wed Nov 11 2026. No macro, syntax, notation, axiom, sorry.
-/
import Derived.Test.YteenedbiifampaaGreatDoorRows
import GoSem.ClaimSeven
namespace Go.Proofs.YteenedbiifampaaGreatDoor
namespace Rows

/-- THE TIED CARD OF 'pneumaticlaw35.ChartGuards'. -/
def chartGuardsCard : Claim7 := { stood := { row := chartGuardsRow, standIns := [], harness := (true, "6bdcfb52502023ebab82e3f10a3420d65d4e13c66805579ed94e724359b12a16"), looks := false }, kinds := [], alts := [], laidByText := true, laidKinds := [.data, .data, .data, .data, .pinned], laidTests := true, laidLooks := .later }
def ChartGuardsCardSaid : Prop := Claim7.holds Tryz.pinned (.plain (OpenSpec.ofChange chartGuardsSpec)) chartGuardsCard

/-- THE TIED CARD OF 'pneumaticlaw35.ChartDraws'. -/
def chartDrawsCard : Claim7 := { stood := { row := chartDrawsRow, standIns := [], harness := (true, "6bdcfb52502023ebab82e3f10a3420d65d4e13c66805579ed94e724359b12a16"), looks := false }, kinds := [], alts := [], laidByText := true, laidKinds := [.data, .data, .data, .data, .pinned], laidTests := true, laidLooks := .later }
def ChartDrawsCardSaid : Prop := Claim7.holds Tryz.pinned (.plain (OpenSpec.ofChange chartDrawsSpec)) chartDrawsCard

/-- THE TIED CARD OF 'pneumaticlaw35.ChartChecks'. -/
def chartChecksCard : Claim7 := { stood := { row := chartChecksRow, standIns := [], harness := (true, "6bdcfb52502023ebab82e3f10a3420d65d4e13c66805579ed94e724359b12a16"), looks := false }, kinds := [], alts := [], laidByText := true, laidKinds := [.data, .data, .data, .data, .pinned], laidTests := true, laidLooks := .later }
def ChartChecksCardSaid : Prop := Claim7.holds Tryz.pinned (.plain (OpenSpec.ofChange chartChecksSpec)) chartChecksCard

/-- THE TIED CARD OF 'pneumaticlaw35.ChartReaches'. -/
def chartReachesCard : Claim7 := { stood := { row := chartReachesRow, standIns := [], harness := (true, "6bdcfb52502023ebab82e3f10a3420d65d4e13c66805579ed94e724359b12a16"), looks := false }, kinds := [], alts := [], laidByText := true, laidKinds := [.data, .data, .data, .data, .pinned], laidTests := true, laidLooks := .later }
def ChartReachesCardSaid : Prop := Claim7.holds Tryz.pinned (.plain (OpenSpec.ofChange chartReachesSpec)) chartReachesCard

/-- THE TIED CARD OF 'pneumaticlaw35.ChartLeads'. -/
def chartLeadsCard : Claim7 := { stood := { row := chartLeadsRow, standIns := [], harness := (true, "6bdcfb52502023ebab82e3f10a3420d65d4e13c66805579ed94e724359b12a16"), looks := false }, kinds := [], alts := [], laidByText := true, laidKinds := [.data, .data, .data, .data, .pinned], laidTests := true, laidLooks := .later }
def ChartLeadsCardSaid : Prop := Claim7.holds Tryz.pinned (.plain (OpenSpec.ofChange chartLeadsSpec)) chartLeadsCard

/-- THE TIED CARD OF 'pneumaticlaw35.ChartCycles'. -/
def chartCyclesCard : Claim7 := { stood := { row := chartCyclesRow, standIns := [], harness := (true, "6bdcfb52502023ebab82e3f10a3420d65d4e13c66805579ed94e724359b12a16"), looks := false }, kinds := [], alts := [], laidByText := true, laidKinds := [.data, .data, .data, .data, .pinned], laidTests := true, laidLooks := .later }
def ChartCyclesCardSaid : Prop := Claim7.holds Tryz.pinned (.plain (OpenSpec.ofChange chartCyclesSpec)) chartCyclesCard

/-- THE TIED CARD OF 'pneumaticlaw35.ChartShares'. -/
def chartSharesCard : Claim7 := { stood := { row := chartSharesRow, standIns := [], harness := (true, "6bdcfb52502023ebab82e3f10a3420d65d4e13c66805579ed94e724359b12a16"), looks := false }, kinds := [], alts := [], laidByText := true, laidKinds := [.data, .data, .data, .data, .pinned], laidTests := true, laidLooks := .later }
def ChartSharesCardSaid : Prop := Claim7.holds Tryz.pinned (.plain (OpenSpec.ofChange chartSharesSpec)) chartSharesCard

/-- THE TIED CARD OF 'pneumaticlaw35.ChartFires'. -/
def chartFiresCard : Claim7 := { stood := { row := chartFiresRow, standIns := [], harness := (true, "6bdcfb52502023ebab82e3f10a3420d65d4e13c66805579ed94e724359b12a16"), looks := false }, kinds := [], alts := [], laidByText := true, laidKinds := [.data, .data, .data, .data, .pinned], laidTests := true, laidLooks := .later }
def ChartFiresCardSaid : Prop := Claim7.holds Tryz.pinned (.plain (OpenSpec.ofChange chartFiresSpec)) chartFiresCard

/-- THE SECOND FORM's CARD OF 'pneumaticlaw35.ChartGuards'. -/
def chartGuardsUptoCard : Claim7 := { stood := { row := chartGuardsUptoRow, standIns := [], harness := (true, "6bdcfb52502023ebab82e3f10a3420d65d4e13c66805579ed94e724359b12a16"), looks := false }, kinds := [], alts := [], laidByText := true, laidKinds := [.data, .data, .data, .data, .pinned], laidTests := true, laidLooks := .later }
def ChartGuardsUptoCardSaid : Prop := Claim7.holds Tryz.pinned (.plain (OpenSpec.upto chartGuardsSpec)) chartGuardsUptoCard

/-- THE SECOND FORM's CARD OF 'pneumaticlaw35.ChartDraws'. -/
def chartDrawsUptoCard : Claim7 := { stood := { row := chartDrawsUptoRow, standIns := [], harness := (true, "6bdcfb52502023ebab82e3f10a3420d65d4e13c66805579ed94e724359b12a16"), looks := false }, kinds := [], alts := [], laidByText := true, laidKinds := [.data, .data, .data, .data, .pinned], laidTests := true, laidLooks := .later }
def ChartDrawsUptoCardSaid : Prop := Claim7.holds Tryz.pinned (.plain (OpenSpec.upto chartDrawsSpec)) chartDrawsUptoCard

/-- THE SECOND FORM's CARD OF 'pneumaticlaw35.ChartChecks'. -/
def chartChecksUptoCard : Claim7 := { stood := { row := chartChecksUptoRow, standIns := [], harness := (true, "6bdcfb52502023ebab82e3f10a3420d65d4e13c66805579ed94e724359b12a16"), looks := false }, kinds := [], alts := [], laidByText := true, laidKinds := [.data, .data, .data, .data, .pinned], laidTests := true, laidLooks := .later }
def ChartChecksUptoCardSaid : Prop := Claim7.holds Tryz.pinned (.plain (OpenSpec.upto chartChecksSpec)) chartChecksUptoCard

/-- THE SECOND FORM's CARD OF 'pneumaticlaw35.ChartReaches'. -/
def chartReachesUptoCard : Claim7 := { stood := { row := chartReachesUptoRow, standIns := [], harness := (true, "6bdcfb52502023ebab82e3f10a3420d65d4e13c66805579ed94e724359b12a16"), looks := false }, kinds := [], alts := [], laidByText := true, laidKinds := [.data, .data, .data, .data, .pinned], laidTests := true, laidLooks := .later }
def ChartReachesUptoCardSaid : Prop := Claim7.holds Tryz.pinned (.plain (OpenSpec.upto chartReachesSpec)) chartReachesUptoCard

/-- THE SECOND FORM's CARD OF 'pneumaticlaw35.ChartLeads'. -/
def chartLeadsUptoCard : Claim7 := { stood := { row := chartLeadsUptoRow, standIns := [], harness := (true, "6bdcfb52502023ebab82e3f10a3420d65d4e13c66805579ed94e724359b12a16"), looks := false }, kinds := [], alts := [], laidByText := true, laidKinds := [.data, .data, .data, .data, .pinned], laidTests := true, laidLooks := .later }
def ChartLeadsUptoCardSaid : Prop := Claim7.holds Tryz.pinned (.plain (OpenSpec.upto chartLeadsSpec)) chartLeadsUptoCard

/-- THE SECOND FORM's CARD OF 'pneumaticlaw35.ChartCycles'. -/
def chartCyclesUptoCard : Claim7 := { stood := { row := chartCyclesUptoRow, standIns := [], harness := (true, "6bdcfb52502023ebab82e3f10a3420d65d4e13c66805579ed94e724359b12a16"), looks := false }, kinds := [], alts := [], laidByText := true, laidKinds := [.data, .data, .data, .data, .pinned], laidTests := true, laidLooks := .later }
def ChartCyclesUptoCardSaid : Prop := Claim7.holds Tryz.pinned (.plain (OpenSpec.upto chartCyclesSpec)) chartCyclesUptoCard

/-- THE SECOND FORM's CARD OF 'pneumaticlaw35.ChartShares'. -/
def chartSharesUptoCard : Claim7 := { stood := { row := chartSharesUptoRow, standIns := [], harness := (true, "6bdcfb52502023ebab82e3f10a3420d65d4e13c66805579ed94e724359b12a16"), looks := false }, kinds := [], alts := [], laidByText := true, laidKinds := [.data, .data, .data, .data, .pinned], laidTests := true, laidLooks := .later }
def ChartSharesUptoCardSaid : Prop := Claim7.holds Tryz.pinned (.plain (OpenSpec.upto chartSharesSpec)) chartSharesUptoCard

/-- THE SECOND FORM's CARD OF 'pneumaticlaw35.ChartFires'. -/
def chartFiresUptoCard : Claim7 := { stood := { row := chartFiresUptoRow, standIns := [], harness := (true, "6bdcfb52502023ebab82e3f10a3420d65d4e13c66805579ed94e724359b12a16"), looks := false }, kinds := [], alts := [], laidByText := true, laidKinds := [.data, .data, .data, .data, .pinned], laidTests := true, laidLooks := .later }
def ChartFiresUptoCardSaid : Prop := Claim7.holds Tryz.pinned (.plain (OpenSpec.upto chartFiresSpec)) chartFiresUptoCard
end Rows
end Go.Proofs.YteenedbiifampaaGreatDoor
