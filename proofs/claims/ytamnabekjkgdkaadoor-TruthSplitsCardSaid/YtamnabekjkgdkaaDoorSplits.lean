/- The plain law of TruthSplits: a table is what its two cofactors say. -/
import Derived.Test.YtamnabekjkgdkaaDoorSpec04
namespace Go.Proofs.YtamnabekjkgdkaaDoor
set_option linter.unusedSimpArgs false
set_option linter.unusedVariables false
namespace T
open M

theorem setb_same {k i : Nat} {v : Bool} (h : k.testBit i = v) : setb k i v = k := by unfold setb; rw [if_pos h]
theorem testBit_fixB (b i : Nat) (v : Bool) (m k : Nat) : (fixB b i v m).testBit k = (decide (k < m) && b.testBit (setb k i v)) := by
  unfold fixB; rw [testBit_mkB]

theorem split_whole {b i m : Nat} (hb : b < 2 ^ m) :
    (mkB (fun k => !(mkB (fun k => k.testBit i) m).testBit k) m &&& fixB b i false m) ||| (mkB (fun k => k.testBit i) m &&& fixB b i true m) = b := by
  refine ext_below (Nat.or_lt_two_pow (Nat.lt_of_le_of_lt Nat.and_le_right (mkB_lt _ _)) (Nat.lt_of_le_of_lt Nat.and_le_right (mkB_lt _ _))) hb fun k hk => ?_
  rw [Nat.testBit_or, Nat.testBit_and, Nat.testBit_and, testBit_fixB, testBit_fixB, testBit_mkB, testBit_mkB]
  cases h : k.testBit i
  · rw [setb_same h]; simp [hk]
  · rw [setb_same h]; simp [hk]

theorem fixB_fixB {b i n : Nat} (v u : Bool) (hi : i < n) : fixB (fixB b i v (2 ^ n)) i u (2 ^ n) = fixB b i v (2 ^ n) := by
  refine ext_below (mkB_lt _ _) (mkB_lt _ _) fun k hk => ?_
  rw [testBit_fixB, testBit_fixB, testBit_fixB]
  have h1 := setb_lt (k := k) (i := i) u hk hi
  have h2 : setb (setb k i u) i v = setb k i v := by
    apply Nat.eq_of_testBit_eq; intro j
    rw [testBit_setb, testBit_setb, testBit_setb]
    split <;> rfl
  simp [hk, h1, h2]

end T
end Go.Proofs.YtamnabekjkgdkaaDoor
