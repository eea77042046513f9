/- Laws of chapter 8, walked: HazardTables, HazardFinds. -/
import Derived.Test.YtdkhdkldjpaadaaGreatP54
set_option maxHeartbeats 1000000
set_option maxRecDepth 4000
set_option linter.unusedSimpArgs false
set_option linter.unusedVariables false
namespace Go.Sx.Pn
open Go Go.Proofs

def fewB8 (l : List Cu) : Bool := decide (l.length ≤ 30) || (decide (256 < l.length) && decide (l.length ≤ 600))
theorem few8_len {l : List Cu} (h : fewB8 l = true) : l.length ≤ 1000000 := by
  unfold fewB8 at h
  simp only [Bool.or_eq_true, Bool.and_eq_true, decide_eq_true_eq] at h
  omega
def tablesLaw : Spec := fnS (fun x : Int × List Cu × Int × Int => [iA x.1, csA x.2.1, xA x.2.2.1 x.2.2.2]) (fun _ => True) (fun _ => bP true)
theorem hazL_len (n : Int) (l : List Cu) : (hazL n l).length ≤ 1000000 := by
  unfold hazL
  split
  · rename_i h
    obtain ⟨k, hk, rfl, _, _⟩ := chkN_zero h
    have := bad_len hk l
    rw [Int.toNat_natCast]; omega
  · exact Nat.zero_le _
theorem menL_len (n : Int) (l : List Cu) : (menL n l).length ≤ 1000000 := by
  unfold menL
  split
  · rename_i h
    obtain ⟨k, hk, rfl, _, _⟩ := chkN_zero h
    have := bad_len hk l
    have := mend_len (n := k) l
    rw [Int.toNat_natCast]; omega
  · exact Nat.zero_le _
def findsLaw : Spec := fnS (fun x : Int × List Cu => [iA x.1, csA x.2]) (fun _ => True) (fun _ => bP true)
end Go.Sx.Pn
