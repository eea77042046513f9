/- Laws of chapter 8, walked: HazardMends. -/
import Derived.Test.YtdkhdkldjpaadaaP55
set_option maxHeartbeats 1000000
set_option maxRecDepth 4000
set_option linter.unusedSimpArgs false
set_option linter.unusedVariables false
namespace Go.Sx.Pn
open Go Go.Proofs

section
variable {z : Int} (hz : z = 0) {n : Nat} {l : List Cu}
include hz
theorem tab_at8 (h : chkN n l = 0) {T : U} (hT : tabU l (2 ^ n) = T) (hl : l.length ≤ 1000000) : FnOk Try.prog 60 (fnS (fun _ : Unit => TabS.args ((n : Int), l)) (fun _ => True) (fun _ => .tup [tP ⟨n, T⟩, iP z])) :=
  fnS_at hTab_ok ((n : Int), l) hl (by show PV.tup [tP (tabC n l), iP (chkN n l)] = _; rw [hz, h, show tabC n l = ⟨n, T⟩ by rw [← hT]; simp [tabC, h]])
theorem haz_at8 (h : chkN n l = 0) {B : List (Nat × Nat)} (hB : badL n l = B) (hl : l.length ≤ 1000000) : FnOk Try.prog 53 (fnS (fun _ : Unit => hazS.args ((n : Int), l)) (fun _ => True) (fun _ => .tup [prsP B, iP z])) :=
  fnS_at haz_ok ((n : Int), l) hl (by show PV.tup [prsP (hazL n l), iP (chkN n l)] = _; rw [hz, h, show hazL n l = B by rw [← hB]; simp [hazL, h]])
end

end Go.Sx.Pn
