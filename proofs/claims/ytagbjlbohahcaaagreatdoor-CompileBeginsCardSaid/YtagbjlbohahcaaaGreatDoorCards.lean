/-
  DERIVED. GIVEN WITH THE SEED: THE CARDS: each row of YtagbjlbohahcaaaGreatDoorRows.lean that lists a variable, with what it lists TIED to the program's text (the seventh form; the later family's looks); each row that meets fmt, with fmt's text TOLD by the authors' own Lean function (tested against real Go, not proved from fmt's source: count such statements apart). THE CARD IS WHAT COUNTS. Prove the row's statement (the work); the ties are given (YtagbjlbohahcaaaGreatDoorTie.lean); close each card by the builder's one call (the guide's Derived/Test/ToyasCard.lean, 'card_holds'). Laid BY PROGRAM, IN A SANDBOX (cutbox-door.mjs). By AI agents, Wed Nov 11 2026. No macro, syntax, notation, axiom, sorry.
-/
import Derived.Test.YtagbjlbohahcaaaGreatDoorRows
import GoSem.ClaimSeven
namespace Go.Proofs.YtagbjlbohahcaaaGreatDoor
namespace Rows

/-- THE TIED CARD OF 'pneumaticlaw36.CompileBuilds'. -/
def compileBuildsCard : Claim7 := { stood := { row := compileBuildsRow, standIns := [], harness := (true, "e92a7828f809c12b7b68de87e854e5314068e84fe652cb5a9a85f01ed392b432"), looks := false }, kinds := [], alts := [], laidByText := true, laidKinds := [.data, .data, .data, .data, .pinned], laidTests := true, laidLooks := .later }
def CompileBuildsCardSaid : Prop := Claim7.holds Tryz.pinned (.plain (OpenSpec.ofChange compileBuildsSpec)) compileBuildsCard

/-- THE TIED CARD OF 'pneumaticlaw36.CompileSequences'. -/
def compileSequencesCard : Claim7 := { stood := { row := compileSequencesRow, standIns := [], harness := (true, "e92a7828f809c12b7b68de87e854e5314068e84fe652cb5a9a85f01ed392b432"), looks := false }, kinds := [], alts := [], laidByText := true, laidKinds := [.data, .data, .data, .data, .pinned], laidTests := true, laidLooks := .later }
def CompileSequencesCardSaid : Prop := Claim7.holds Tryz.pinned (.plain (OpenSpec.ofChange compileSequencesSpec)) compileSequencesCard

/-- THE TIED CARD OF 'pneumaticlaw36.CompileComes'. -/
def compileComesCard : Claim7 := { stood := { row := compileComesRow, standIns := [], harness := (true, "e92a7828f809c12b7b68de87e854e5314068e84fe652cb5a9a85f01ed392b432"), looks := false }, kinds := [], alts := [], laidByText := true, laidKinds := [.data, .data, .data, .data, .pinned], laidTests := true, laidLooks := .later }
def CompileComesCardSaid : Prop := Claim7.holds Tryz.pinned (.plain (OpenSpec.ofChange compileComesSpec)) compileComesCard

/-- THE TIED CARD OF 'pneumaticlaw36.CompileBegins'. -/
def compileBeginsCard : Claim7 := { stood := { row := compileBeginsRow, standIns := [], harness := (true, "e92a7828f809c12b7b68de87e854e5314068e84fe652cb5a9a85f01ed392b432"), looks := false }, kinds := [], alts := [], laidByText := true, laidKinds := [.data, .data, .data, .data, .pinned], laidTests := true, laidLooks := .later }
def CompileBeginsCardSaid : Prop := Claim7.holds Tryz.pinned (.plain (OpenSpec.ofChange compileBeginsSpec)) compileBeginsCard

/-- THE TIED CARD OF 'pneumaticlaw36.CompileReads'. -/
def compileReadsCard : Claim7 := { stood := { row := compileReadsRow, standIns := [], harness := (true, "e92a7828f809c12b7b68de87e854e5314068e84fe652cb5a9a85f01ed392b432"), looks := false }, kinds := [], alts := [], laidByText := true, laidKinds := [.data, .data, .data, .data, .pinned], laidTests := true, laidLooks := .later }
def CompileReadsCardSaid : Prop := Claim7.holds Tryz.pinned (.plain (OpenSpec.ofChange compileReadsSpec)) compileReadsCard

/-- THE TIED CARD OF 'pneumaticlaw36.CompileGates'. -/
def compileGatesCard : Claim7 := { stood := { row := compileGatesRow, standIns := [], harness := (true, "e92a7828f809c12b7b68de87e854e5314068e84fe652cb5a9a85f01ed392b432"), looks := false }, kinds := [], alts := [], laidByText := true, laidKinds := [.data, .data, .data, .data, .pinned], laidTests := true, laidLooks := .later }
def CompileGatesCardSaid : Prop := Claim7.holds Tryz.pinned (.plain (OpenSpec.ofChange compileGatesSpec)) compileGatesCard

/-- THE TIED CARD OF 'pneumaticlaw36.CompileFires'. -/
def compileFiresCard : Claim7 := { stood := { row := compileFiresRow, standIns := [], harness := (true, "e92a7828f809c12b7b68de87e854e5314068e84fe652cb5a9a85f01ed392b432"), looks := false }, kinds := [], alts := [], laidByText := true, laidKinds := [.data, .data, .data, .data, .pinned], laidTests := true, laidLooks := .later }
def CompileFiresCardSaid : Prop := Claim7.holds Tryz.pinned (.plain (OpenSpec.ofChange compileFiresSpec)) compileFiresCard

/-- THE TIED CARD OF 'pneumaticlaw36.CompileSettles'. -/
def compileSettlesCard : Claim7 := { stood := { row := compileSettlesRow, standIns := [], harness := (true, "e92a7828f809c12b7b68de87e854e5314068e84fe652cb5a9a85f01ed392b432"), looks := false }, kinds := [], alts := [], laidByText := true, laidKinds := [.data, .data, .data, .data, .pinned], laidTests := true, laidLooks := .later }
def CompileSettlesCardSaid : Prop := Claim7.holds Tryz.pinned (.plain (OpenSpec.ofChange compileSettlesSpec)) compileSettlesCard

/-- THE SECOND FORM's CARD OF 'pneumaticlaw36.CompileBuilds'. -/
def compileBuildsUptoCard : Claim7 := { stood := { row := compileBuildsUptoRow, standIns := [], harness := (true, "e92a7828f809c12b7b68de87e854e5314068e84fe652cb5a9a85f01ed392b432"), looks := false }, kinds := [], alts := [], laidByText := true, laidKinds := [.data, .data, .data, .data, .pinned], laidTests := true, laidLooks := .later }
def CompileBuildsUptoCardSaid : Prop := Claim7.holds Tryz.pinned (.plain (OpenSpec.upto compileBuildsSpec)) compileBuildsUptoCard

/-- THE SECOND FORM's CARD OF 'pneumaticlaw36.CompileSequences'. -/
def compileSequencesUptoCard : Claim7 := { stood := { row := compileSequencesUptoRow, standIns := [], harness := (true, "e92a7828f809c12b7b68de87e854e5314068e84fe652cb5a9a85f01ed392b432"), looks := false }, kinds := [], alts := [], laidByText := true, laidKinds := [.data, .data, .data, .data, .pinned], laidTests := true, laidLooks := .later }
def CompileSequencesUptoCardSaid : Prop := Claim7.holds Tryz.pinned (.plain (OpenSpec.upto compileSequencesSpec)) compileSequencesUptoCard

/-- THE SECOND FORM's CARD OF 'pneumaticlaw36.CompileComes'. -/
def compileComesUptoCard : Claim7 := { stood := { row := compileComesUptoRow, standIns := [], harness := (true, "e92a7828f809c12b7b68de87e854e5314068e84fe652cb5a9a85f01ed392b432"), looks := false }, kinds := [], alts := [], laidByText := true, laidKinds := [.data, .data, .data, .data, .pinned], laidTests := true, laidLooks := .later }
def CompileComesUptoCardSaid : Prop := Claim7.holds Tryz.pinned (.plain (OpenSpec.upto compileComesSpec)) compileComesUptoCard

/-- THE SECOND FORM's CARD OF 'pneumaticlaw36.CompileBegins'. -/
def compileBeginsUptoCard : Claim7 := { stood := { row := compileBeginsUptoRow, standIns := [], harness := (true, "e92a7828f809c12b7b68de87e854e5314068e84fe652cb5a9a85f01ed392b432"), looks := false }, kinds := [], alts := [], laidByText := true, laidKinds := [.data, .data, .data, .data, .pinned], laidTests := true, laidLooks := .later }
def CompileBeginsUptoCardSaid : Prop := Claim7.holds Tryz.pinned (.plain (OpenSpec.upto compileBeginsSpec)) compileBeginsUptoCard

/-- THE SECOND FORM's CARD OF 'pneumaticlaw36.CompileReads'. -/
def compileReadsUptoCard : Claim7 := { stood := { row := compileReadsUptoRow, standIns := [], harness := (true, "e92a7828f809c12b7b68de87e854e5314068e84fe652cb5a9a85f01ed392b432"), looks := false }, kinds := [], alts := [], laidByText := true, laidKinds := [.data, .data, .data, .data, .pinned], laidTests := true, laidLooks := .later }
def CompileReadsUptoCardSaid : Prop := Claim7.holds Tryz.pinned (.plain (OpenSpec.upto compileReadsSpec)) compileReadsUptoCard

/-- THE SECOND FORM's CARD OF 'pneumaticlaw36.CompileGates'. -/
def compileGatesUptoCard : Claim7 := { stood := { row := compileGatesUptoRow, standIns := [], harness := (true, "e92a7828f809c12b7b68de87e854e5314068e84fe652cb5a9a85f01ed392b432"), looks := false }, kinds := [], alts := [], laidByText := true, laidKinds := [.data, .data, .data, .data, .pinned], laidTests := true, laidLooks := .later }
def CompileGatesUptoCardSaid : Prop := Claim7.holds Tryz.pinned (.plain (OpenSpec.upto compileGatesSpec)) compileGatesUptoCard

/-- THE SECOND FORM's CARD OF 'pneumaticlaw36.CompileFires'. -/
def compileFiresUptoCard : Claim7 := { stood := { row := compileFiresUptoRow, standIns := [], harness := (true, "e92a7828f809c12b7b68de87e854e5314068e84fe652cb5a9a85f01ed392b432"), looks := false }, kinds := [], alts := [], laidByText := true, laidKinds := [.data, .data, .data, .data, .pinned], laidTests := true, laidLooks := .later }
def CompileFiresUptoCardSaid : Prop := Claim7.holds Tryz.pinned (.plain (OpenSpec.upto compileFiresSpec)) compileFiresUptoCard

/-- THE SECOND FORM's CARD OF 'pneumaticlaw36.CompileSettles'. -/
def compileSettlesUptoCard : Claim7 := { stood := { row := compileSettlesUptoRow, standIns := [], harness := (true, "e92a7828f809c12b7b68de87e854e5314068e84fe652cb5a9a85f01ed392b432"), looks := false }, kinds := [], alts := [], laidByText := true, laidKinds := [.data, .data, .data, .data, .pinned], laidTests := true, laidLooks := .later }
def CompileSettlesUptoCardSaid : Prop := Claim7.holds Tryz.pinned (.plain (OpenSpec.upto compileSettlesSpec)) compileSettlesUptoCard
end Rows
end Go.Proofs.YtagbjlbohahcaaaGreatDoor
