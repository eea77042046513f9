/- Laws of chapter 8, walked: HazardMends. -/
import Derived.Test.YtdkhdkldjpaadaaGreatP55
set_option maxHeartbeats 1000000
set_option maxRecDepth 4000
set_option linter.unusedSimpArgs false
set_option linter.unusedVariables false
namespace Go.Sx.Pn
open Go Go.Proofs

def rightB (n : Int) (l : List Cu) : Bool := fewB8 l && (decide (n ≤ 5) && (chkN n l == 0))
def rightS : Spec := fnS (fun x : Int × List Cu => [iA x.1, csA x.2]) (fun _ => True) (fun x => bP (rightB x.1 x.2))
theorem right_inv {n : Int} {l : List Cu} (h : rightB n l = true) : ∃ k : Nat, k ≤ 5 ∧ n = k ∧ chkN n l = 0 ∧ l.length ≤ 30 ∧ ∀ c ∈ l, c.Ok k := by
  unfold rightB at h
  simp only [Bool.and_eq_true, decide_eq_true_eq, beq_iff_eq] at h
  obtain ⟨h1, h2, h3⟩ := h
  obtain ⟨k, hk, rfl, h4, h5⟩ := chkN_zero h3
  unfold fewB8 at h1
  simp only [Bool.or_eq_true, Bool.and_eq_true, decide_eq_true_eq] at h1
  exact ⟨k, by omega, rfl, h3, by omega, h5⟩
section
variable {z : Int} (hz : z = 0) {n : Nat} {l : List Cu}
include hz
theorem haz_at8 (h : chkN n l = 0) {B : List (Nat × Nat)} (hB : badL n l = B) (hl : l.length ≤ 1000000) : FnOk Tryz.prog 37 (fnS (fun _ : Unit => hazS.args ((n : Int), l)) (fun _ => True) (fun _ => .tup [prsP B, iP z])) :=
  fnS_at haz_ok ((n : Int), l) hl (by show PV.tup [prsP (hazL n l), iP (chkN n l)] = _; rw [hz, h, show hazL n l = B by rw [← hB]; simp [hazL, h]])
theorem mend_at8 (h : chkN n l = 0) {M : List Cu} (hM : mendL n l = M) (hl : l.length ≤ 1000000) : FnOk Tryz.prog 40 (fnS (fun _ : Unit => mendSp.args ((n : Int), l)) (fun _ => True) (fun _ => .tup [csP M, iP z])) :=
  fnS_at mend_ok ((n : Int), l) hl (by show PV.tup [csP (menL n l), iP (chkN n l)] = _; rw [hz, h, show menL n l = M by rw [← hM]; simp [menL, h]])
theorem bet_at8 (h : chkN n l = 0) {a b : Nat} (ha : a < 2 ^ n) (hb : b < 2 ^ n) {r : Int} (hr : betL n l a b = r) (hl : l.length ≤ 1000000) : FnOk Tryz.prog 39 (fnS (fun _ : Unit => BetS.args ((n : Int), l, (a : Int), (b : Int))) (fun _ => True) (fun _ => .tup [iP r, iP z])) :=
  fnS_at hBet_ok ((n : Int), l, (a : Int), (b : Int)) hl (by
    have hg : givC n l a b = 0 := by
      rw [givC, if_pos h, if_neg (by unfold outC; rw [Int.toNat_natCast]; omega)]
    show PV.tup [iP (betC n l a b), iP (givC n l a b)] = _
    rw [hz, hg, show betC n l a b = r by rw [← hr]; simp [betC, hg]])
theorem log_at8 (h : chkN n l = 0) {a b : Nat} (ha : a < 2 ^ n) (hb : b < 2 ^ n) {r : Bool} (hr : logL n l a b = r) (hl : l.length ≤ 1000000) : FnOk Tryz.prog 42 (fnS (fun _ : Unit => LogS.args ((n : Int), l, (a : Int), (b : Int))) (fun _ => True) (fun _ => .tup [bP r, iP z])) :=
  fnS_at hLog_ok ((n : Int), l, (a : Int), (b : Int)) hl (by
    have hg : givC n l a b = 0 := by
      rw [givC, if_pos h, if_neg (by unfold outC; rw [Int.toNat_natCast]; omega)]
    show PV.tup [bP (logC n l a b), iP (givC n l a b)] = _
    rw [hz, hg, show logC n l a b = r by rw [← hr]; simp [logC, hg]])
end

theorem join2 (l m : List Cu) (j : Nat) (hj : j < 0 + l.length + m.length) (f0 : Nat → List PV) : joinF (0 + l.length) (joinF 0 f0 (fun i => (l.getD i ⟨0, 0⟩).cells)) (fun i => (m.getD i ⟨0, 0⟩).cells) j = ((l ++ m).getD j ⟨0, 0⟩).cells := by
  unfold joinF
  by_cases h : j < 0 + l.length
  · rw [if_pos h, if_neg (by omega), getD_left _ (by omega), Nat.sub_zero]
  · rw [if_neg h, List.getD_eq_getElem?_getD (l := l ++ m), List.getElem?_append_right (by omega), Nat.zero_add]
    show (m.getD (j - l.length) ⟨0, 0⟩).cells = _
    rw [List.getD_eq_getElem?_getD]

def mendsLaw : Spec := fnS (fun x : Int × List Cu => [iA x.1, csA x.2]) (fun _ => True) (fun _ => bP true)
end Go.Sx.Pn
