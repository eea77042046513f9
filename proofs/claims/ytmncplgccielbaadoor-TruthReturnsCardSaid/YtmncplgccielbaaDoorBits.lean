/- Bit operations of the walk, as operations on natural numbers. -/
import Derived.Test.YtmncplgccielbaaDoorBase
set_option maxHeartbeats 1000000
set_option maxRecDepth 4000
set_option linter.unusedSimpArgs false
set_option linter.unusedVariables false
set_option linter.unusedSectionVars false
namespace Go.Proofs.YtmncplgccielbaaDoor
open Go.RowKit

theorem pow_lt {x m : Nat} (hx : x < m) : (2:Nat) ^ x < 2 ^ m := Nat.pow_lt_pow_right (by omega) hx
theorem wrap_u64_nat (a : Nat) (h : a < 2 ^ 64) : IntKind.u64.wrap (a : Int) = (a : Int) := by
  rw [IntKind.wrap_u64]
  omega
theorem wrap_pow (x : Nat) (hx : x < 64) : IntKind.u64.wrap (2 ^ x) = ((2 ^ x : Nat) : Int) := by
  have h2 : ((2:Int) ^ x) = ((2 ^ x : Nat) : Int) := by simp
  rw [h2]; exact wrap_u64_nat _ (pow_lt hx)
theorem or_bit (b x : Nat) (hb : b < 2 ^ 64) (hx : x < 64) : bits .or .u64 (b : Int) (IntKind.u64.wrap (2 ^ x)) = ((b ||| 2 ^ x : Nat) : Int) := by
  rw [wrap_pow x hx]
  exact u64_or_nat _ _ hb (pow_lt hx)
theorem div_pow_cast (b k : Nat) : ((b : Int) / 2 ^ k) = ((b / 2 ^ k : Nat) : Int) := by simp
theorem div_lt64 (b k : Nat) (hb : b < 2 ^ 64) : b / 2 ^ k < 2 ^ 64 := Nat.lt_of_le_of_lt (Nat.div_le_self _ _) hb
/-- 'x>>k&1 == 1' on a uint64 -/
theorem and1_u64 (b k : Nat) (hb : b < 2 ^ 64) : bits .and .u64 ((b : Int) / 2 ^ k) 1 = ((b / 2 ^ k % 2 : Nat) : Int) := by
  rw [div_pow_cast, show (1 : Int) = ((1 : Nat) : Int) from rfl, u64_and_nat _ _ (div_lt64 b k hb) (by omega), Nat.and_one_is_mod]
theorem bit_u64 (b k : Nat) (hb : b < 2 ^ 64) : (bits .and .u64 ((b : Int) / 2 ^ k) 1 == 1) = b.testBit k := by
  rw [and1_u64 b k hb, M.testBit_mod]
  rcases Nat.mod_two_eq_zero_or_one (b / 2 ^ k) with h | h <;> rw [h] <;> rfl
theorem bit0_u64 (b k : Nat) (hb : b < 2 ^ 64) : (bits .and .u64 ((b : Int) / 2 ^ k) 1 == 0) = !b.testBit k := by
  rw [and1_u64 b k hb, M.testBit_mod]
  rcases Nat.mod_two_eq_zero_or_one (b / 2 ^ k) with h | h <;> rw [h] <;> rfl

theorem wrap_i64_nat (a : Nat) (h : a < 2 ^ 63) : IntKind.i64.wrap (a : Int) = (a : Int) := IntWalk.i64_in _ (by omega)
theorem i64_and_nat (a b : Nat) (ha : a < 2 ^ 63) (hb : b < 2 ^ 63) : bits .and .i64 (a : Int) (b : Int) = ((a &&& b : Nat) : Int) := by
  have hx : a &&& b < 2 ^ 63 := Nat.and_lt_two_pow _ hb
  show IntKind.i64.wrap ((BitVec.ofInt 64 (a : Int) &&& BitVec.ofInt 64 (b : Int)).toNat : Int) = _
  rw [BitVec.toNat_and, ofInt_u64 a (by omega), ofInt_u64 b (by omega), wrap_i64_nat _ hx]
theorem i64_or_nat (a b : Nat) (ha : a < 2 ^ 63) (hb : b < 2 ^ 63) : bits .or .i64 (a : Int) (b : Int) = ((a ||| b : Nat) : Int) := by
  have hx : a ||| b < 2 ^ 63 := Nat.or_lt_two_pow ha hb
  show IntKind.i64.wrap ((BitVec.ofInt 64 (a : Int) ||| BitVec.ofInt 64 (b : Int)).toNat : Int) = _
  rw [BitVec.toNat_or, ofInt_u64 a (by omega), ofInt_u64 b (by omega), wrap_i64_nat _ hx]
theorem i64_andNot_nat (a b : Nat) (ha : a < 2 ^ 63) (hb : b < 2 ^ 63) : bits .andNot .i64 (a : Int) (b : Int) = ((a &&& (18446744073709551615 - b) : Nat) : Int) := by
  have hx : a &&& (18446744073709551615 - b) < 2 ^ 63 := by rw [Nat.and_comm]; exact Nat.and_lt_two_pow _ ha
  show IntKind.i64.wrap ((BitVec.ofInt 64 (a : Int) &&& ~~~BitVec.ofInt 64 (b : Int)).toNat : Int) = _
  rw [BitVec.toNat_and, BitVec.toNat_not, ofInt_u64 a (by omega), ofInt_u64 b (by omega)]
  have e : 2 ^ 64 - 1 - b = 18446744073709551615 - b := by omega
  rw [e, wrap_i64_nat _ hx]
theorem bit_i64 (b k : Nat) (hb : b < 2 ^ 63) : (bits .and .i64 ((b : Int) / 2 ^ k) 1 == 1) = b.testBit k := by
  rw [div_pow_cast, show (1 : Int) = ((1 : Nat) : Int) from rfl, i64_and_nat _ _ (Nat.lt_of_le_of_lt (Nat.div_le_self _ _) hb) (by omega), Nat.and_one_is_mod, M.testBit_mod]
  rcases Nat.mod_two_eq_zero_or_one (b / 2 ^ k) with h | h <;> rw [h] <;> rfl

/-- a bit of 'a &^ b' -/
theorem testBit_andNot (a b j : Nat) (hb : b < 2 ^ 64) : (a &&& (18446744073709551615 - b)).testBit j = (a.testBit j && (decide (j < 64) && !b.testBit j)) := by
  have e : 18446744073709551615 - b = 2 ^ 64 - (b + 1) := by omega
  rw [Nat.testBit_and, e, Nat.testBit_two_pow_sub_succ hb]
theorem shl_small (N : Nat) (h : N ≤ 6) : wrap64 (2 ^ N) = (M.sz N : Int) := by
  obtain rfl | rfl | rfl | rfl | rfl | rfl | rfl : N = 0 ∨ N = 1 ∨ N = 2 ∨ N = 3 ∨ N = 4 ∨ N = 5 ∨ N = 6 := by omega
  all_goals simp [wrap64, M.sz]

end Go.Proofs.YtmncplgccielbaaDoor
