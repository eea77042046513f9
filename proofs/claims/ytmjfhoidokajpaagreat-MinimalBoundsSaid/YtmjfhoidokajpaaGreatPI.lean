/- Contracts of chapter 8: two points in one cube, the table of a form, pairs of neighbours. -/
import Derived.Test.YtmjfhoidokajpaaGreatPH
import Derived.Test.YtmjfhoidokajpaaGreatSxF
import Derived.Test.YtmjfhoidokajpaaGreatPG
set_option maxHeartbeats 1000000
set_option maxRecDepth 4000
set_option linter.unusedSimpArgs false
set_option linter.unusedVariables false
set_option linter.unusedSectionVars false
namespace Go.Sx.Pn
open Go Go.Proofs

end Go.Sx.Pn

namespace Go.Sx.Pn
open Go Go.Proofs

end Go.Sx.Pn

namespace Go.Sx.Pn
open Go Go.Proofs

theorem hasb {k i : Nat} (hk : k < 9223372036854775808) (hi : i ≤ 63) : (bits .and .i64 ((k : Int).fdiv (2 ^ min (i : Int).toNat IntKind.i64.bits)) 1 == 1) = k.testBit i := by
  have e1 : (k : Int).fdiv (2 ^ min (i : Int).toNat IntKind.i64.bits) = ((k / 2 ^ i : Nat) : Int) := by
    have : min (i : Int).toNat IntKind.i64.bits = i := by show min i 64 = i; omega
    rw [this, show ((2 : Int) ^ i) = ((2 ^ i : Nat) : Int) by rw [Int.natCast_pow]; rfl]
    exact (Int.ofNat_fdiv k (2 ^ i)).symm
  have e2 := i_and (a := k / 2 ^ i) (b := 1) (Nat.lt_of_le_of_lt (Nat.div_le_self _ _) hk)
  rw [e1]
  show (bits .and .i64 ((k / 2 ^ i : Nat) : Int) ((1 : Nat) : Int) == 1) = _
  rw [e2, BitVec.toNat_and, BitVec.toNat_ofNat, BitVec.toNat_ofNat, Nat.testBit_eq_decide_div_mod_eq]
  rw [Nat.mod_eq_of_lt (show k / 2 ^ i < 2 ^ 64 from Nat.lt_of_le_of_lt (Nat.div_le_self _ _) (by omega)), show 1 % 2 ^ 64 = 1 from rfl, Nat.and_one_is_mod]
  rw [Bool.eq_iff_iff, beq_iff_eq, decide_eq_true_iff]
  omega
/-- a checked form -/
theorem chkN_zero {n : Int} {l : List Cu} (h : chkN n l = 0) : ∃ k : Nat, k ≤ 6 ∧ n = k ∧ l.length ≤ 256 ∧ ∀ c ∈ l, c.Ok k := by
  unfold chkN at h
  split at h
  · cases h
  split at h
  · cases h
  unfold chkL at h
  split at h
  · cases h
  rename_i h1 h2 h3
  obtain ⟨k, rfl⟩ := Int.eq_ofNat_of_zero_le (show 0 ≤ n by omega)
  refine ⟨k, by omega, rfl, by omega, fun c hc => ?_⟩
  obtain ⟨j, hj, rfl⟩ := List.getElem_of_mem hc
  have : chkC (k : Int) l[j] = 0 := by
    have h5 : firstE k l (j + 1) = 0 := Classical.byContradiction fun hne => by
      have := firstE_stay hne l.length hj
      rw [h] at this; exact hne this.symm
    rw [firstE] at h5
    split at h5
    · rwa [List.getD_eq_getElem?_getD, List.getElem?_eq_getElem hj] at h5
    · rename_i h6; exact absurd h5 h6
  exact (chk_ok this).2

end Go.Sx.Pn

namespace Go.Sx.Pn
open Go Go.Proofs

end Go.Sx.Pn

namespace Go.Sx.Pn
open Go Go.Proofs

theorem getC_mem {l : List Cu} {k : Nat} (hk : k < l.length) : l.getD k ⟨0, 0⟩ ∈ l := by
  rw [List.getD_eq_getElem?_getD, List.getElem?_eq_getElem hk]; exact List.getElem_mem _
end Go.Sx.Pn
