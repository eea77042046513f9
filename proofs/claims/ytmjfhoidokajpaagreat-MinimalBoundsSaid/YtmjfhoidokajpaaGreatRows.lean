/-
  No cell of these rows narrows 'for every input' (looked for: loops, veiled, ifaces, maps, wideKeys, modest, calm, conditions, laid).
  DERIVED. THE GIVEN ROWS OF THIS SEAT. 6 by the template 'for every input the law returns true; each argument reads behind the call as it read before'; 0 by the template 'total and deterministic' (their statements: YtmjfhoidokajpaaGreatTotals.lean).
  GIVEN WITH THE SEED: the statements are not yours to turn. If you find one false, say at which input.
  Laid BY PROGRAM, IN A SANDBOX (cutbox-rows.mjs): the forced cells as the released guide's own fill.sh prints them over the translation 72b528a0ecbeccfd… (all of the seat's roots in one cut). By AI agents, Wed Nov 11 2026. No macro, syntax, notation, axiom, sorry.
-/
import Derived.Test.YtmjfhoidokajpaaGreatChecked
import GoSem.Claim
import GoSem.ClaimJoined
import GoSem.ClaimMapViews
import Derived.JoinedTies
import Derived.KernelRfl
namespace Go.Proofs.YtmjfhoidokajpaaGreat
/- THE CELL 'sum', in the pinned program and in every row, IS THE sha256 OF THE DUMP (.gsa) THAT YtmjfhoidokajpaaGreatProg.lean LOADS. Nothing in Lean hashes anything: it is a label: what it is worth is what the hold of that sum in a sandbox is worth. -/
noncomputable def Tryz.pinned : Pinned := { name := "ytmjfhoidokajpaagreat", sum := "72b528a0ecbeccfd9689c3d9068afd7b82fd208268d449fde496a8bfb0c0924a", checked := Tryz.checked }
namespace Rows
def none {H : Type} : Left H := { results := [], args := [] }

/-- 'pneumaticlaw07.MinimalCounts': WHATEVER THE INPUT: true; the input reads as it did. -/
def minimalCountsSpec : ChangeSpec := { name := "minimalCounts", fn := fun _ => fun
  | [d1, d2, d3] => { results := [.lit (.bool true)], args := [d1, d2, d3] }
  | _ => none }
def minimalCountsRow : OpenClaim := { program := "ytmjfhoidokajpaagreat", sum := "72b528a0ecbeccfd9689c3d9068afd7b82fd208268d449fde496a8bfb0c0924a", func := "pneumatic/pneumaticlaw07.MinimalCounts", spec := "minimalCounts", unfollowed := true, recurses := true, apart := false }
def MinimalCountsSaid : Prop := minimalCountsRow.holds Tryz.pinned (OpenSpec.ofChange minimalCountsSpec)

/-- ITS FALSE NEIGHBOUR: 'it returns false'. Refute it at one input. -/
def minimalCountsWrong : ChangeSpec := { name := "minimalCounts", fn := fun _ => fun
  | [d1, d2, d3] => { results := [.lit (.bool false)], args := [d1, d2, d3] }
  | _ => none }
def MinimalCountsWrongFalsely : Prop := minimalCountsRow.holds Tryz.pinned (OpenSpec.ofChange minimalCountsWrong)

/-- 'pneumaticlaw07.MinimalForms': WHATEVER THE INPUT: true; the input reads as it did. -/
def minimalFormsSpec : ChangeSpec := { name := "minimalForms", fn := fun _ => fun
  | [d] => { results := [.lit (.bool true)], args := [d] }
  | _ => none }
def minimalFormsRow : OpenClaim := { program := "ytmjfhoidokajpaagreat", sum := "72b528a0ecbeccfd9689c3d9068afd7b82fd208268d449fde496a8bfb0c0924a", func := "pneumatic/pneumaticlaw07.MinimalForms", spec := "minimalForms", unfollowed := true, recurses := true, apart := false }
def MinimalFormsSaid : Prop := minimalFormsRow.holds Tryz.pinned (OpenSpec.ofChange minimalFormsSpec)

/-- ITS FALSE NEIGHBOUR: 'it returns false'. Refute it at one input. -/
def minimalFormsWrong : ChangeSpec := { name := "minimalForms", fn := fun _ => fun
  | [d] => { results := [.lit (.bool false)], args := [d] }
  | _ => none }
def MinimalFormsWrongFalsely : Prop := minimalFormsRow.holds Tryz.pinned (OpenSpec.ofChange minimalFormsWrong)

/-- 'pneumaticlaw07.MinimalLeast': WHATEVER THE INPUT: true; the input reads as it did. -/
def minimalLeastSpec : ChangeSpec := { name := "minimalLeast", fn := fun _ => fun
  | [d1, d2] => { results := [.lit (.bool true)], args := [d1, d2] }
  | _ => none }
def minimalLeastRow : OpenClaim := { program := "ytmjfhoidokajpaagreat", sum := "72b528a0ecbeccfd9689c3d9068afd7b82fd208268d449fde496a8bfb0c0924a", func := "pneumatic/pneumaticlaw07.MinimalLeast", spec := "minimalLeast", unfollowed := true, recurses := true, apart := false }
def MinimalLeastSaid : Prop := minimalLeastRow.holds Tryz.pinned (OpenSpec.ofChange minimalLeastSpec)

/-- ITS FALSE NEIGHBOUR: 'it returns false'. Refute it at one input. -/
def minimalLeastWrong : ChangeSpec := { name := "minimalLeast", fn := fun _ => fun
  | [d1, d2] => { results := [.lit (.bool false)], args := [d1, d2] }
  | _ => none }
def MinimalLeastWrongFalsely : Prop := minimalLeastRow.holds Tryz.pinned (OpenSpec.ofChange minimalLeastWrong)

/-- 'pneumaticlaw07.MinimalRenames': WHATEVER THE INPUT: true; the input reads as it did. -/
def minimalRenamesSpec : ChangeSpec := { name := "minimalRenames", fn := fun _ => fun
  | [d1, d2, d3] => { results := [.lit (.bool true)], args := [d1, d2, d3] }
  | _ => none }
def minimalRenamesRow : OpenClaim := { program := "ytmjfhoidokajpaagreat", sum := "72b528a0ecbeccfd9689c3d9068afd7b82fd208268d449fde496a8bfb0c0924a", func := "pneumatic/pneumaticlaw07.MinimalRenames", spec := "minimalRenames", unfollowed := true, recurses := true, apart := false }
def MinimalRenamesSaid : Prop := minimalRenamesRow.holds Tryz.pinned (OpenSpec.ofChange minimalRenamesSpec)

/-- ITS FALSE NEIGHBOUR: 'it returns false'. Refute it at one input. -/
def minimalRenamesWrong : ChangeSpec := { name := "minimalRenames", fn := fun _ => fun
  | [d1, d2, d3] => { results := [.lit (.bool false)], args := [d1, d2, d3] }
  | _ => none }
def MinimalRenamesWrongFalsely : Prop := minimalRenamesRow.holds Tryz.pinned (OpenSpec.ofChange minimalRenamesWrong)

/-- 'pneumaticlaw07.MinimalVerifies': WHATEVER THE INPUT: true; the input reads as it did. -/
def minimalVerifiesSpec : ChangeSpec := { name := "minimalVerifies", fn := fun _ => fun
  | [d1, d2] => { results := [.lit (.bool true)], args := [d1, d2] }
  | _ => none }
def minimalVerifiesRow : OpenClaim := { program := "ytmjfhoidokajpaagreat", sum := "72b528a0ecbeccfd9689c3d9068afd7b82fd208268d449fde496a8bfb0c0924a", func := "pneumatic/pneumaticlaw07.MinimalVerifies", spec := "minimalVerifies", unfollowed := true, recurses := true, apart := false }
def MinimalVerifiesSaid : Prop := minimalVerifiesRow.holds Tryz.pinned (OpenSpec.ofChange minimalVerifiesSpec)

/-- ITS FALSE NEIGHBOUR: 'it returns false'. Refute it at one input. -/
def minimalVerifiesWrong : ChangeSpec := { name := "minimalVerifies", fn := fun _ => fun
  | [d1, d2] => { results := [.lit (.bool false)], args := [d1, d2] }
  | _ => none }
def MinimalVerifiesWrongFalsely : Prop := minimalVerifiesRow.holds Tryz.pinned (OpenSpec.ofChange minimalVerifiesWrong)

/-- 'pneumaticlaw07.MinimalBounds': WHATEVER THE INPUT: true; the input reads as it did. -/
def minimalBoundsSpec : ChangeSpec := { name := "minimalBounds", fn := fun _ => fun
  | [d1, d2] => { results := [.lit (.bool true)], args := [d1, d2] }
  | _ => none }
def minimalBoundsRow : OpenClaim := { program := "ytmjfhoidokajpaagreat", sum := "72b528a0ecbeccfd9689c3d9068afd7b82fd208268d449fde496a8bfb0c0924a", func := "pneumatic/pneumaticlaw07.MinimalBounds", spec := "minimalBounds", unfollowed := true, recurses := true, apart := false }
def MinimalBoundsSaid : Prop := minimalBoundsRow.holds Tryz.pinned (OpenSpec.ofChange minimalBoundsSpec)

/-- ITS FALSE NEIGHBOUR: 'it returns false'. Refute it at one input. -/
def minimalBoundsWrong : ChangeSpec := { name := "minimalBounds", fn := fun _ => fun
  | [d1, d2] => { results := [.lit (.bool false)], args := [d1, d2] }
  | _ => none }
def MinimalBoundsWrongFalsely : Prop := minimalBoundsRow.holds Tryz.pinned (OpenSpec.ofChange minimalBoundsWrong)

/- THE SECOND FORM. 'bulk': how many values and letters a reading holds, each counted each time it is reached (what is shared counts as often as it is met; a slice's spare places count too). A statement '..UptoSaid' is the law's where the arguments, and the package variables that the reading takes, are together of bulk at most 1048576: NARROWER than '..Said'. Prove '..Said' where nothing that the law and all that it calls make is longer than what came in: it says more and counts as full. Else prove '..UptoSaid'. A law counts once. -/
mutual
def uptoBulk {H : Type} : DataW H → Nat
  | .lit (.string bytes) => bytes.length + 1
  | .lit _ => 1
  | .nil => 1
  | .ptr d => uptoBulk d + 1
  | .slice elems spare => uptoBulkAll elems + uptoBulkAll spare + 1
  | .agg parts => uptoBulkAll parts + 1
  | .iface _ d => uptoBulk d + 1
  | .map entries => uptoBulkEntries entries + 1
  | .held _ => 1
def uptoBulkAll {H : Type} : List (DataW H) → Nat
  | [] => 0
  | d :: r => uptoBulk d + uptoBulkAll r
def uptoBulkEntries {H : Type} : List (Lit × DataW H) → Nat
  | [] => 0
  | x :: r => uptoBulkEntry x + uptoBulkEntries r
def uptoBulkEntry {H : Type} : Lit × DataW H → Nat
  | (.string bytes, d) => bytes.length + uptoBulk d + 1
  | (_, d) => uptoBulk d + 1
 end
def uptoSmall : (H : Type) → List (DataW H) → Bool := fun _ ds => decide (uptoBulkAll ds ≤ 1048576)
def OpenSpec.upto (s : _root_.Go.ChangeSpec) : _root_.Go.OpenSpec := { _root_.Go.OpenSpec.ofChange s with cond := some uptoSmall }

/-- 'pneumaticlaw07.MinimalCounts', WHERE WHAT IT READS IS OF BULK AT MOST 1048576: true; the input reads as it did. -/
def minimalCountsUptoRow : OpenClaim := { program := "ytmjfhoidokajpaagreat", sum := "72b528a0ecbeccfd9689c3d9068afd7b82fd208268d449fde496a8bfb0c0924a", func := "pneumatic/pneumaticlaw07.MinimalCounts", spec := "minimalCounts", unfollowed := true, recurses := true, apart := false, narrowed := true }
def MinimalCountsUptoSaid : Prop := minimalCountsUptoRow.holds Tryz.pinned (OpenSpec.upto minimalCountsSpec)

/-- 'pneumaticlaw07.MinimalForms', WHERE WHAT IT READS IS OF BULK AT MOST 1048576: true; the input reads as it did. -/
def minimalFormsUptoRow : OpenClaim := { program := "ytmjfhoidokajpaagreat", sum := "72b528a0ecbeccfd9689c3d9068afd7b82fd208268d449fde496a8bfb0c0924a", func := "pneumatic/pneumaticlaw07.MinimalForms", spec := "minimalForms", unfollowed := true, recurses := true, apart := false, narrowed := true }
def MinimalFormsUptoSaid : Prop := minimalFormsUptoRow.holds Tryz.pinned (OpenSpec.upto minimalFormsSpec)

/-- 'pneumaticlaw07.MinimalLeast', WHERE WHAT IT READS IS OF BULK AT MOST 1048576: true; the input reads as it did. -/
def minimalLeastUptoRow : OpenClaim := { program := "ytmjfhoidokajpaagreat", sum := "72b528a0ecbeccfd9689c3d9068afd7b82fd208268d449fde496a8bfb0c0924a", func := "pneumatic/pneumaticlaw07.MinimalLeast", spec := "minimalLeast", unfollowed := true, recurses := true, apart := false, narrowed := true }
def MinimalLeastUptoSaid : Prop := minimalLeastUptoRow.holds Tryz.pinned (OpenSpec.upto minimalLeastSpec)

/-- 'pneumaticlaw07.MinimalRenames', WHERE WHAT IT READS IS OF BULK AT MOST 1048576: true; the input reads as it did. -/
def minimalRenamesUptoRow : OpenClaim := { program := "ytmjfhoidokajpaagreat", sum := "72b528a0ecbeccfd9689c3d9068afd7b82fd208268d449fde496a8bfb0c0924a", func := "pneumatic/pneumaticlaw07.MinimalRenames", spec := "minimalRenames", unfollowed := true, recurses := true, apart := false, narrowed := true }
def MinimalRenamesUptoSaid : Prop := minimalRenamesUptoRow.holds Tryz.pinned (OpenSpec.upto minimalRenamesSpec)

/-- 'pneumaticlaw07.MinimalVerifies', WHERE WHAT IT READS IS OF BULK AT MOST 1048576: true; the input reads as it did. -/
def minimalVerifiesUptoRow : OpenClaim := { program := "ytmjfhoidokajpaagreat", sum := "72b528a0ecbeccfd9689c3d9068afd7b82fd208268d449fde496a8bfb0c0924a", func := "pneumatic/pneumaticlaw07.MinimalVerifies", spec := "minimalVerifies", unfollowed := true, recurses := true, apart := false, narrowed := true }
def MinimalVerifiesUptoSaid : Prop := minimalVerifiesUptoRow.holds Tryz.pinned (OpenSpec.upto minimalVerifiesSpec)

/-- 'pneumaticlaw07.MinimalBounds', WHERE WHAT IT READS IS OF BULK AT MOST 1048576: true; the input reads as it did. -/
def minimalBoundsUptoRow : OpenClaim := { program := "ytmjfhoidokajpaagreat", sum := "72b528a0ecbeccfd9689c3d9068afd7b82fd208268d449fde496a8bfb0c0924a", func := "pneumatic/pneumaticlaw07.MinimalBounds", spec := "minimalBounds", unfollowed := true, recurses := true, apart := false, narrowed := true }
def MinimalBoundsUptoSaid : Prop := minimalBoundsUptoRow.holds Tryz.pinned (OpenSpec.upto minimalBoundsSpec)

end Rows
end Go.Proofs.YtmjfhoidokajpaaGreat
