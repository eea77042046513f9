/-
  No cell of these rows narrows 'for every input' (looked for: loops, veiled, ifaces, maps, wideKeys, modest, calm, conditions, laid).
  DERIVED. THE GIVEN ROWS OF THIS SEAT. 14 by the template 'for every input the law returns true; each argument reads behind the call as it read before'; 0 by the template 'total and deterministic' (their statements: YtdkhdkldjpaadaaTotals.lean).
  GIVEN WITH THE SEED: the statements are not yours to turn. If you find one false, say at which input.
  Laid BY PROGRAM, IN A SANDBOX (cutbox-rows.mjs): the forced cells as the released guide's own fill.sh prints them over the translation ff1598b9acca37a3… (all of the seat's roots in one cut). By AI agents, Wed Nov 11 2026. No macro, syntax, notation, axiom, sorry.
-/
import Derived.Test.YtdkhdkldjpaadaaChecked
import GoSem.Claim
import GoSem.ClaimJoined
import GoSem.ClaimMapViews
import Derived.JoinedTies
import Derived.KernelRfl
namespace Go.Proofs.Ytdkhdkldjpaadaa
/- THE CELL 'sum', in the pinned program and in every row, IS THE sha256 OF THE DUMP (.gsa) THAT YtdkhdkldjpaadaaProg.lean LOADS. Nothing in Lean hashes anything: it is a label: what it is worth is what the hold of that sum in a sandbox is worth. -/
noncomputable def Try.pinned : Pinned := { name := "ytdkhdkldjpaadaa", sum := "ff1598b9acca37a312d647701a40df1e1ac1d160f01da2875be0b30793f4120c", checked := Try.checked }
namespace Rows
def none {H : Type} : Left H := { results := [], args := [] }

/-- 'pneumaticlaw06.ImplicantTexts': WHATEVER THE INPUT: true; the input reads as it did. -/
def implicantTextsSpec : ChangeSpec := { name := "implicantTexts", fn := fun _ => fun
  | [d1, d2, d3] => { results := [.lit (.bool true)], args := [d1, d2, d3] }
  | _ => none }
def implicantTextsRow : OpenClaim := { program := "ytdkhdkldjpaadaa", sum := "ff1598b9acca37a312d647701a40df1e1ac1d160f01da2875be0b30793f4120c", func := "pneumatic/pneumaticlaw06.ImplicantTexts", spec := "implicantTexts", unfollowed := true, recurses := true, apart := false }
def ImplicantTextsSaid : Prop := implicantTextsRow.holds Try.pinned (OpenSpec.ofChange implicantTextsSpec)

/-- ITS FALSE NEIGHBOUR: 'it returns false'. Refute it at one input. -/
def implicantTextsWrong : ChangeSpec := { name := "implicantTexts", fn := fun _ => fun
  | [d1, d2, d3] => { results := [.lit (.bool false)], args := [d1, d2, d3] }
  | _ => none }
def ImplicantTextsWrongFalsely : Prop := implicantTextsRow.holds Try.pinned (OpenSpec.ofChange implicantTextsWrong)

/-- 'pneumaticlaw06.ImplicantPrimes': WHATEVER THE INPUT: true; the input reads as it did. -/
def implicantPrimesSpec : ChangeSpec := { name := "implicantPrimes", fn := fun _ => fun
  | [d] => { results := [.lit (.bool true)], args := [d] }
  | _ => none }
def implicantPrimesRow : OpenClaim := { program := "ytdkhdkldjpaadaa", sum := "ff1598b9acca37a312d647701a40df1e1ac1d160f01da2875be0b30793f4120c", func := "pneumatic/pneumaticlaw06.ImplicantPrimes", spec := "implicantPrimes", unfollowed := true, recurses := true, apart := false }
def ImplicantPrimesSaid : Prop := implicantPrimesRow.holds Try.pinned (OpenSpec.ofChange implicantPrimesSpec)

/-- ITS FALSE NEIGHBOUR: 'it returns false'. Refute it at one input. -/
def implicantPrimesWrong : ChangeSpec := { name := "implicantPrimes", fn := fun _ => fun
  | [d] => { results := [.lit (.bool false)], args := [d] }
  | _ => none }
def ImplicantPrimesWrongFalsely : Prop := implicantPrimesRow.holds Try.pinned (OpenSpec.ofChange implicantPrimesWrong)

/-- 'pneumaticlaw06.ImplicantPairs': WHATEVER THE INPUT: true; the input reads as it did. -/
def implicantPairsSpec : ChangeSpec := { name := "implicantPairs", fn := fun _ => fun
  | [d1, d2, d3] => { results := [.lit (.bool true)], args := [d1, d2, d3] }
  | _ => none }
def implicantPairsRow : OpenClaim := { program := "ytdkhdkldjpaadaa", sum := "ff1598b9acca37a312d647701a40df1e1ac1d160f01da2875be0b30793f4120c", func := "pneumatic/pneumaticlaw06.ImplicantPairs", spec := "implicantPairs", unfollowed := true, recurses := true, apart := false }
def ImplicantPairsSaid : Prop := implicantPairsRow.holds Try.pinned (OpenSpec.ofChange implicantPairsSpec)

/-- ITS FALSE NEIGHBOUR: 'it returns false'. Refute it at one input. -/
def implicantPairsWrong : ChangeSpec := { name := "implicantPairs", fn := fun _ => fun
  | [d1, d2, d3] => { results := [.lit (.bool false)], args := [d1, d2, d3] }
  | _ => none }
def ImplicantPairsWrongFalsely : Prop := implicantPairsRow.holds Try.pinned (OpenSpec.ofChange implicantPairsWrong)

/-- 'pneumaticlaw06.ImplicantImplies': WHATEVER THE INPUT: true; the input reads as it did. -/
def implicantImpliesSpec : ChangeSpec := { name := "implicantImplies", fn := fun _ => fun
  | [d1, d2] => { results := [.lit (.bool true)], args := [d1, d2] }
  | _ => none }
def implicantImpliesRow : OpenClaim := { program := "ytdkhdkldjpaadaa", sum := "ff1598b9acca37a312d647701a40df1e1ac1d160f01da2875be0b30793f4120c", func := "pneumatic/pneumaticlaw06.ImplicantImplies", spec := "implicantImplies", unfollowed := true, recurses := true, apart := false }
def ImplicantImpliesSaid : Prop := implicantImpliesRow.holds Try.pinned (OpenSpec.ofChange implicantImpliesSpec)

/-- ITS FALSE NEIGHBOUR: 'it returns false'. Refute it at one input. -/
def implicantImpliesWrong : ChangeSpec := { name := "implicantImplies", fn := fun _ => fun
  | [d1, d2] => { results := [.lit (.bool false)], args := [d1, d2] }
  | _ => none }
def ImplicantImpliesWrongFalsely : Prop := implicantImpliesRow.holds Try.pinned (OpenSpec.ofChange implicantImpliesWrong)

/-- 'pneumaticlaw06.ImplicantMeets': WHATEVER THE INPUT: true; the input reads as it did. -/
def implicantMeetsSpec : ChangeSpec := { name := "implicantMeets", fn := fun _ => fun
  | [d1, d2, d3] => { results := [.lit (.bool true)], args := [d1, d2, d3] }
  | _ => none }
def implicantMeetsRow : OpenClaim := { program := "ytdkhdkldjpaadaa", sum := "ff1598b9acca37a312d647701a40df1e1ac1d160f01da2875be0b30793f4120c", func := "pneumatic/pneumaticlaw06.ImplicantMeets", spec := "implicantMeets", unfollowed := true, recurses := true, apart := false }
def ImplicantMeetsSaid : Prop := implicantMeetsRow.holds Try.pinned (OpenSpec.ofChange implicantMeetsSpec)

/-- ITS FALSE NEIGHBOUR: 'it returns false'. Refute it at one input. -/
def implicantMeetsWrong : ChangeSpec := { name := "implicantMeets", fn := fun _ => fun
  | [d1, d2, d3] => { results := [.lit (.bool false)], args := [d1, d2, d3] }
  | _ => none }
def ImplicantMeetsWrongFalsely : Prop := implicantMeetsRow.holds Try.pinned (OpenSpec.ofChange implicantMeetsWrong)

/-- 'pneumaticlaw06.ImplicantPoints': WHATEVER THE INPUT: true; the input reads as it did. -/
def implicantPointsSpec : ChangeSpec := { name := "implicantPoints", fn := fun _ => fun
  | [d1, d2, d3] => { results := [.lit (.bool true)], args := [d1, d2, d3] }
  | _ => none }
def implicantPointsRow : OpenClaim := { program := "ytdkhdkldjpaadaa", sum := "ff1598b9acca37a312d647701a40df1e1ac1d160f01da2875be0b30793f4120c", func := "pneumatic/pneumaticlaw06.ImplicantPoints", spec := "implicantPoints", unfollowed := true, recurses := true, apart := false }
def ImplicantPointsSaid : Prop := implicantPointsRow.holds Try.pinned (OpenSpec.ofChange implicantPointsSpec)

/-- ITS FALSE NEIGHBOUR: 'it returns false'. Refute it at one input. -/
def implicantPointsWrong : ChangeSpec := { name := "implicantPoints", fn := fun _ => fun
  | [d1, d2, d3] => { results := [.lit (.bool false)], args := [d1, d2, d3] }
  | _ => none }
def ImplicantPointsWrongFalsely : Prop := implicantPointsRow.holds Try.pinned (OpenSpec.ofChange implicantPointsWrong)

/-- 'pneumaticlaw06.ImplicantGrows': WHATEVER THE INPUT: true; the input reads as it did. -/
def implicantGrowsSpec : ChangeSpec := { name := "implicantGrows", fn := fun _ => fun
  | [d1, d2] => { results := [.lit (.bool true)], args := [d1, d2] }
  | _ => none }
def implicantGrowsRow : OpenClaim := { program := "ytdkhdkldjpaadaa", sum := "ff1598b9acca37a312d647701a40df1e1ac1d160f01da2875be0b30793f4120c", func := "pneumatic/pneumaticlaw06.ImplicantGrows", spec := "implicantGrows", unfollowed := true, recurses := true, apart := false }
def ImplicantGrowsSaid : Prop := implicantGrowsRow.holds Try.pinned (OpenSpec.ofChange implicantGrowsSpec)

/-- ITS FALSE NEIGHBOUR: 'it returns false'. Refute it at one input. -/
def implicantGrowsWrong : ChangeSpec := { name := "implicantGrows", fn := fun _ => fun
  | [d1, d2] => { results := [.lit (.bool false)], args := [d1, d2] }
  | _ => none }
def ImplicantGrowsWrongFalsely : Prop := implicantGrowsRow.holds Try.pinned (OpenSpec.ofChange implicantGrowsWrong)

/-- 'pneumaticlaw08.HazardFinds': WHATEVER THE INPUT: true; the input reads as it did. -/
def hazardFindsSpec : ChangeSpec := { name := "hazardFinds", fn := fun _ => fun
  | [d1, d2] => { results := [.lit (.bool true)], args := [d1, d2] }
  | _ => none }
def hazardFindsRow : OpenClaim := { program := "ytdkhdkldjpaadaa", sum := "ff1598b9acca37a312d647701a40df1e1ac1d160f01da2875be0b30793f4120c", func := "pneumatic/pneumaticlaw08.HazardFinds", spec := "hazardFinds", unfollowed := true, recurses := true, apart := false }
def HazardFindsSaid : Prop := hazardFindsRow.holds Try.pinned (OpenSpec.ofChange hazardFindsSpec)

/-- ITS FALSE NEIGHBOUR: 'it returns false'. Refute it at one input. -/
def hazardFindsWrong : ChangeSpec := { name := "hazardFinds", fn := fun _ => fun
  | [d1, d2] => { results := [.lit (.bool false)], args := [d1, d2] }
  | _ => none }
def HazardFindsWrongFalsely : Prop := hazardFindsRow.holds Try.pinned (OpenSpec.ofChange hazardFindsWrong)

/-- 'pneumaticlaw06.ImplicantCovers': WHATEVER THE INPUT: true; the input reads as it did. -/
def implicantCoversSpec : ChangeSpec := { name := "implicantCovers", fn := fun _ => fun
  | [d] => { results := [.lit (.bool true)], args := [d] }
  | _ => none }
def implicantCoversRow : OpenClaim := { program := "ytdkhdkldjpaadaa", sum := "ff1598b9acca37a312d647701a40df1e1ac1d160f01da2875be0b30793f4120c", func := "pneumatic/pneumaticlaw06.ImplicantCovers", spec := "implicantCovers", unfollowed := true, recurses := true, apart := false }
def ImplicantCoversSaid : Prop := implicantCoversRow.holds Try.pinned (OpenSpec.ofChange implicantCoversSpec)

/-- ITS FALSE NEIGHBOUR: 'it returns false'. Refute it at one input. -/
def implicantCoversWrong : ChangeSpec := { name := "implicantCovers", fn := fun _ => fun
  | [d] => { results := [.lit (.bool false)], args := [d] }
  | _ => none }
def ImplicantCoversWrongFalsely : Prop := implicantCoversRow.holds Try.pinned (OpenSpec.ofChange implicantCoversWrong)

/-- 'pneumaticlaw08.HazardTables': WHATEVER THE INPUT: true; the input reads as it did. -/
def hazardTablesSpec : ChangeSpec := { name := "hazardTables", fn := fun _ => fun
  | [d1, d2, d3] => { results := [.lit (.bool true)], args := [d1, d2, d3] }
  | _ => none }
def hazardTablesRow : OpenClaim := { program := "ytdkhdkldjpaadaa", sum := "ff1598b9acca37a312d647701a40df1e1ac1d160f01da2875be0b30793f4120c", func := "pneumatic/pneumaticlaw08.HazardTables", spec := "hazardTables", unfollowed := true, recurses := true, apart := false }
def HazardTablesSaid : Prop := hazardTablesRow.holds Try.pinned (OpenSpec.ofChange hazardTablesSpec)

/-- ITS FALSE NEIGHBOUR: 'it returns false'. Refute it at one input. -/
def hazardTablesWrong : ChangeSpec := { name := "hazardTables", fn := fun _ => fun
  | [d1, d2, d3] => { results := [.lit (.bool false)], args := [d1, d2, d3] }
  | _ => none }
def HazardTablesWrongFalsely : Prop := hazardTablesRow.holds Try.pinned (OpenSpec.ofChange hazardTablesWrong)

/-- 'pneumaticlaw08.HazardMends': WHATEVER THE INPUT: true; the input reads as it did. -/
def hazardMendsSpec : ChangeSpec := { name := "hazardMends", fn := fun _ => fun
  | [d1, d2] => { results := [.lit (.bool true)], args := [d1, d2] }
  | _ => none }
def hazardMendsRow : OpenClaim := { program := "ytdkhdkldjpaadaa", sum := "ff1598b9acca37a312d647701a40df1e1ac1d160f01da2875be0b30793f4120c", func := "pneumatic/pneumaticlaw08.HazardMends", spec := "hazardMends", unfollowed := true, recurses := true, apart := false }
def HazardMendsSaid : Prop := hazardMendsRow.holds Try.pinned (OpenSpec.ofChange hazardMendsSpec)

/-- ITS FALSE NEIGHBOUR: 'it returns false'. Refute it at one input. -/
def hazardMendsWrong : ChangeSpec := { name := "hazardMends", fn := fun _ => fun
  | [d1, d2] => { results := [.lit (.bool false)], args := [d1, d2] }
  | _ => none }
def HazardMendsWrongFalsely : Prop := hazardMendsRow.holds Try.pinned (OpenSpec.ofChange hazardMendsWrong)

/-- 'pneumaticlaw08.HazardSteady': WHATEVER THE INPUT: true; the input reads as it did. -/
def hazardSteadySpec : ChangeSpec := { name := "hazardSteady", fn := fun _ => fun
  | [d1, d2, d3] => { results := [.lit (.bool true)], args := [d1, d2, d3] }
  | _ => none }
def hazardSteadyRow : OpenClaim := { program := "ytdkhdkldjpaadaa", sum := "ff1598b9acca37a312d647701a40df1e1ac1d160f01da2875be0b30793f4120c", func := "pneumatic/pneumaticlaw08.HazardSteady", spec := "hazardSteady", unfollowed := true, recurses := true, apart := false }
def HazardSteadySaid : Prop := hazardSteadyRow.holds Try.pinned (OpenSpec.ofChange hazardSteadySpec)

/-- ITS FALSE NEIGHBOUR: 'it returns false'. Refute it at one input. -/
def hazardSteadyWrong : ChangeSpec := { name := "hazardSteady", fn := fun _ => fun
  | [d1, d2, d3] => { results := [.lit (.bool false)], args := [d1, d2, d3] }
  | _ => none }
def HazardSteadyWrongFalsely : Prop := hazardSteadyRow.holds Try.pinned (OpenSpec.ofChange hazardSteadyWrong)

/-- 'pneumaticlaw08.HazardNotices': WHATEVER THE INPUT: true; the input reads as it did. -/
def hazardNoticesSpec : ChangeSpec := { name := "hazardNotices", fn := fun _ => fun
  | [d1, d2, d3] => { results := [.lit (.bool true)], args := [d1, d2, d3] }
  | _ => none }
def hazardNoticesRow : OpenClaim := { program := "ytdkhdkldjpaadaa", sum := "ff1598b9acca37a312d647701a40df1e1ac1d160f01da2875be0b30793f4120c", func := "pneumatic/pneumaticlaw08.HazardNotices", spec := "hazardNotices", unfollowed := true, recurses := true, apart := false }
def HazardNoticesSaid : Prop := hazardNoticesRow.holds Try.pinned (OpenSpec.ofChange hazardNoticesSpec)

/-- ITS FALSE NEIGHBOUR: 'it returns false'. Refute it at one input. -/
def hazardNoticesWrong : ChangeSpec := { name := "hazardNotices", fn := fun _ => fun
  | [d1, d2, d3] => { results := [.lit (.bool false)], args := [d1, d2, d3] }
  | _ => none }
def HazardNoticesWrongFalsely : Prop := hazardNoticesRow.holds Try.pinned (OpenSpec.ofChange hazardNoticesWrong)

/-- 'pneumaticlaw08.HazardPrimes': WHATEVER THE INPUT: true; the input reads as it did. -/
def hazardPrimesSpec : ChangeSpec := { name := "hazardPrimes", fn := fun _ => fun
  | [d] => { results := [.lit (.bool true)], args := [d] }
  | _ => none }
def hazardPrimesRow : OpenClaim := { program := "ytdkhdkldjpaadaa", sum := "ff1598b9acca37a312d647701a40df1e1ac1d160f01da2875be0b30793f4120c", func := "pneumatic/pneumaticlaw08.HazardPrimes", spec := "hazardPrimes", unfollowed := true, recurses := true, apart := false }
def HazardPrimesSaid : Prop := hazardPrimesRow.holds Try.pinned (OpenSpec.ofChange hazardPrimesSpec)

/-- ITS FALSE NEIGHBOUR: 'it returns false'. Refute it at one input. -/
def hazardPrimesWrong : ChangeSpec := { name := "hazardPrimes", fn := fun _ => fun
  | [d] => { results := [.lit (.bool false)], args := [d] }
  | _ => none }
def HazardPrimesWrongFalsely : Prop := hazardPrimesRow.holds Try.pinned (OpenSpec.ofChange hazardPrimesWrong)

/- THE SECOND FORM. 'bulk': how many values and letters a reading holds, each counted each time it is reached (what is shared counts as often as it is met; a slice's spare places count too). A statement '..UptoSaid' is the law's where the arguments, and the package variables that the reading takes, are together of bulk at most 1048576: NARROWER than '..Said'. Prove '..Said' where nothing that the law and all that it calls make is longer than what came in: it says more and counts as full. Else prove '..UptoSaid'. A law counts once. -/
mutual
def uptoBulk {H : Type} : DataW H → Nat
  | .lit (.string bytes) => bytes.length + 1
  | .lit _ => 1
  | .nil => 1
  | .ptr d => uptoBulk d + 1
  | .slice elems spare => uptoBulkAll elems + uptoBulkAll spare + 1
  | .agg parts => uptoBulkAll parts + 1
  | .iface _ d => uptoBulk d + 1
  | .map entries => uptoBulkEntries entries + 1
  | .held _ => 1
def uptoBulkAll {H : Type} : List (DataW H) → Nat
  | [] => 0
  | d :: r => uptoBulk d + uptoBulkAll r
def uptoBulkEntries {H : Type} : List (Lit × DataW H) → Nat
  | [] => 0
  | x :: r => uptoBulkEntry x + uptoBulkEntries r
def uptoBulkEntry {H : Type} : Lit × DataW H → Nat
  | (.string bytes, d) => bytes.length + uptoBulk d + 1
  | (_, d) => uptoBulk d + 1
 end
def uptoSmall : (H : Type) → List (DataW H) → Bool := fun _ ds => decide (uptoBulkAll ds ≤ 1048576)
def OpenSpec.upto (s : _root_.Go.ChangeSpec) : _root_.Go.OpenSpec := { _root_.Go.OpenSpec.ofChange s with cond := some uptoSmall }

/-- 'pneumaticlaw06.ImplicantTexts', WHERE WHAT IT READS IS OF BULK AT MOST 1048576: true; the input reads as it did. -/
def implicantTextsUptoRow : OpenClaim := { program := "ytdkhdkldjpaadaa", sum := "ff1598b9acca37a312d647701a40df1e1ac1d160f01da2875be0b30793f4120c", func := "pneumatic/pneumaticlaw06.ImplicantTexts", spec := "implicantTexts", unfollowed := true, recurses := true, apart := false, narrowed := true }
def ImplicantTextsUptoSaid : Prop := implicantTextsUptoRow.holds Try.pinned (OpenSpec.upto implicantTextsSpec)

/-- 'pneumaticlaw06.ImplicantPrimes', WHERE WHAT IT READS IS OF BULK AT MOST 1048576: true; the input reads as it did. -/
def implicantPrimesUptoRow : OpenClaim := { program := "ytdkhdkldjpaadaa", sum := "ff1598b9acca37a312d647701a40df1e1ac1d160f01da2875be0b30793f4120c", func := "pneumatic/pneumaticlaw06.ImplicantPrimes", spec := "implicantPrimes", unfollowed := true, recurses := true, apart := false, narrowed := true }
def ImplicantPrimesUptoSaid : Prop := implicantPrimesUptoRow.holds Try.pinned (OpenSpec.upto implicantPrimesSpec)

/-- 'pneumaticlaw06.ImplicantPairs', WHERE WHAT IT READS IS OF BULK AT MOST 1048576: true; the input reads as it did. -/
def implicantPairsUptoRow : OpenClaim := { program := "ytdkhdkldjpaadaa", sum := "ff1598b9acca37a312d647701a40df1e1ac1d160f01da2875be0b30793f4120c", func := "pneumatic/pneumaticlaw06.ImplicantPairs", spec := "implicantPairs", unfollowed := true, recurses := true, apart := false, narrowed := true }
def ImplicantPairsUptoSaid : Prop := implicantPairsUptoRow.holds Try.pinned (OpenSpec.upto implicantPairsSpec)

/-- 'pneumaticlaw06.ImplicantImplies', WHERE WHAT IT READS IS OF BULK AT MOST 1048576: true; the input reads as it did. -/
def implicantImpliesUptoRow : OpenClaim := { program := "ytdkhdkldjpaadaa", sum := "ff1598b9acca37a312d647701a40df1e1ac1d160f01da2875be0b30793f4120c", func := "pneumatic/pneumaticlaw06.ImplicantImplies", spec := "implicantImplies", unfollowed := true, recurses := true, apart := false, narrowed := true }
def ImplicantImpliesUptoSaid : Prop := implicantImpliesUptoRow.holds Try.pinned (OpenSpec.upto implicantImpliesSpec)

/-- 'pneumaticlaw06.ImplicantMeets', WHERE WHAT IT READS IS OF BULK AT MOST 1048576: true; the input reads as it did. -/
def implicantMeetsUptoRow : OpenClaim := { program := "ytdkhdkldjpaadaa", sum := "ff1598b9acca37a312d647701a40df1e1ac1d160f01da2875be0b30793f4120c", func := "pneumatic/pneumaticlaw06.ImplicantMeets", spec := "implicantMeets", unfollowed := true, recurses := true, apart := false, narrowed := true }
def ImplicantMeetsUptoSaid : Prop := implicantMeetsUptoRow.holds Try.pinned (OpenSpec.upto implicantMeetsSpec)

/-- 'pneumaticlaw06.ImplicantPoints', WHERE WHAT IT READS IS OF BULK AT MOST 1048576: true; the input reads as it did. -/
def implicantPointsUptoRow : OpenClaim := { program := "ytdkhdkldjpaadaa", sum := "ff1598b9acca37a312d647701a40df1e1ac1d160f01da2875be0b30793f4120c", func := "pneumatic/pneumaticlaw06.ImplicantPoints", spec := "implicantPoints", unfollowed := true, recurses := true, apart := false, narrowed := true }
def ImplicantPointsUptoSaid : Prop := implicantPointsUptoRow.holds Try.pinned (OpenSpec.upto implicantPointsSpec)

/-- 'pneumaticlaw06.ImplicantGrows', WHERE WHAT IT READS IS OF BULK AT MOST 1048576: true; the input reads as it did. -/
def implicantGrowsUptoRow : OpenClaim := { program := "ytdkhdkldjpaadaa", sum := "ff1598b9acca37a312d647701a40df1e1ac1d160f01da2875be0b30793f4120c", func := "pneumatic/pneumaticlaw06.ImplicantGrows", spec := "implicantGrows", unfollowed := true, recurses := true, apart := false, narrowed := true }
def ImplicantGrowsUptoSaid : Prop := implicantGrowsUptoRow.holds Try.pinned (OpenSpec.upto implicantGrowsSpec)

/-- 'pneumaticlaw08.HazardFinds', WHERE WHAT IT READS IS OF BULK AT MOST 1048576: true; the input reads as it did. -/
def hazardFindsUptoRow : OpenClaim := { program := "ytdkhdkldjpaadaa", sum := "ff1598b9acca37a312d647701a40df1e1ac1d160f01da2875be0b30793f4120c", func := "pneumatic/pneumaticlaw08.HazardFinds", spec := "hazardFinds", unfollowed := true, recurses := true, apart := false, narrowed := true }
def HazardFindsUptoSaid : Prop := hazardFindsUptoRow.holds Try.pinned (OpenSpec.upto hazardFindsSpec)

/-- 'pneumaticlaw06.ImplicantCovers', WHERE WHAT IT READS IS OF BULK AT MOST 1048576: true; the input reads as it did. -/
def implicantCoversUptoRow : OpenClaim := { program := "ytdkhdkldjpaadaa", sum := "ff1598b9acca37a312d647701a40df1e1ac1d160f01da2875be0b30793f4120c", func := "pneumatic/pneumaticlaw06.ImplicantCovers", spec := "implicantCovers", unfollowed := true, recurses := true, apart := false, narrowed := true }
def ImplicantCoversUptoSaid : Prop := implicantCoversUptoRow.holds Try.pinned (OpenSpec.upto implicantCoversSpec)

/-- 'pneumaticlaw08.HazardTables', WHERE WHAT IT READS IS OF BULK AT MOST 1048576: true; the input reads as it did. -/
def hazardTablesUptoRow : OpenClaim := { program := "ytdkhdkldjpaadaa", sum := "ff1598b9acca37a312d647701a40df1e1ac1d160f01da2875be0b30793f4120c", func := "pneumatic/pneumaticlaw08.HazardTables", spec := "hazardTables", unfollowed := true, recurses := true, apart := false, narrowed := true }
def HazardTablesUptoSaid : Prop := hazardTablesUptoRow.holds Try.pinned (OpenSpec.upto hazardTablesSpec)

/-- 'pneumaticlaw08.HazardMends', WHERE WHAT IT READS IS OF BULK AT MOST 1048576: true; the input reads as it did. -/
def hazardMendsUptoRow : OpenClaim := { program := "ytdkhdkldjpaadaa", sum := "ff1598b9acca37a312d647701a40df1e1ac1d160f01da2875be0b30793f4120c", func := "pneumatic/pneumaticlaw08.HazardMends", spec := "hazardMends", unfollowed := true, recurses := true, apart := false, narrowed := true }
def HazardMendsUptoSaid : Prop := hazardMendsUptoRow.holds Try.pinned (OpenSpec.upto hazardMendsSpec)

/-- 'pneumaticlaw08.HazardSteady', WHERE WHAT IT READS IS OF BULK AT MOST 1048576: true; the input reads as it did. -/
def hazardSteadyUptoRow : OpenClaim := { program := "ytdkhdkldjpaadaa", sum := "ff1598b9acca37a312d647701a40df1e1ac1d160f01da2875be0b30793f4120c", func := "pneumatic/pneumaticlaw08.HazardSteady", spec := "hazardSteady", unfollowed := true, recurses := true, apart := false, narrowed := true }
def HazardSteadyUptoSaid : Prop := hazardSteadyUptoRow.holds Try.pinned (OpenSpec.upto hazardSteadySpec)

/-- 'pneumaticlaw08.HazardNotices', WHERE WHAT IT READS IS OF BULK AT MOST 1048576: true; the input reads as it did. -/
def hazardNoticesUptoRow : OpenClaim := { program := "ytdkhdkldjpaadaa", sum := "ff1598b9acca37a312d647701a40df1e1ac1d160f01da2875be0b30793f4120c", func := "pneumatic/pneumaticlaw08.HazardNotices", spec := "hazardNotices", unfollowed := true, recurses := true, apart := false, narrowed := true }
def HazardNoticesUptoSaid : Prop := hazardNoticesUptoRow.holds Try.pinned (OpenSpec.upto hazardNoticesSpec)

/-- 'pneumaticlaw08.HazardPrimes', WHERE WHAT IT READS IS OF BULK AT MOST 1048576: true; the input reads as it did. -/
def hazardPrimesUptoRow : OpenClaim := { program := "ytdkhdkldjpaadaa", sum := "ff1598b9acca37a312d647701a40df1e1ac1d160f01da2875be0b30793f4120c", func := "pneumatic/pneumaticlaw08.HazardPrimes", spec := "hazardPrimes", unfollowed := true, recurses := true, apart := false, narrowed := true }
def HazardPrimesUptoSaid : Prop := hazardPrimesUptoRow.holds Try.pinned (OpenSpec.upto hazardPrimesSpec)

end Rows
end Go.Proofs.Ytdkhdkldjpaadaa
