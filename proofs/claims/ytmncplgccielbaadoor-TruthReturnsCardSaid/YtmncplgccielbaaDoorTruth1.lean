/- Contracts of the small functions of package truth and of its reference: checks, sizes, bits. -/
import Derived.Test.YtmncplgccielbaaDoorBits
import Derived.Test.YtmncplgccielbaaDoorSpec04
set_option maxHeartbeats 1000000
set_option maxRecDepth 4000
set_option linter.unusedSimpArgs false
set_option linter.unusedVariables false
set_option linter.unusedSectionVars false
namespace Go.Proofs.YtmncplgccielbaaDoor
open Go.RowKit Go.Shelf

theorem tSized_any (n : Int) (w : World) :
    Calls Tryd.prog 26 #[.int .i64 n] w fun e w' => e = .returned (.bool (decide (0 ≤ n ∧ n ≤ 6))) ∧ w' = w := by
  by_cases h : 0 ≤ n
  · go_enter Tryd.func26, Tryd.ntmps26
    go_wp2
    go_ret
    exact ⟨ret_b (by simp [h]), rfl⟩
  · go_enter Tryd.func26, Tryd.ntmps26
    go_wp2
    go_ret
    exact ⟨ret_b (by simp; omega), rfl⟩

theorem small7 {n : Nat} (h : n ≤ 6) : n = 0 ∨ n = 1 ∨ n = 2 ∨ n = 3 ∨ n = 4 ∨ n = 5 ∨ n = 6 := by omega

theorem tWhole_any (n : Nat) (w : World) (h : n ≤ 6) :
    Calls Tryd.prog 33 #[.int .i64 n] w fun e w' => e = .returned (.int .u64 (2 ^ M.sz n - 1 : Nat)) ∧ w' = w := by
  obtain rfl | rfl | rfl | rfl | rfl | rfl | rfl := small7 h
  all_goals
    go_enter Tryd.func33, Tryd.ntmps33
    go_wp2
    go_ret
    exact ⟨ret_u (by simp [M.sz]), rfl⟩

theorem rSize_any (n : Nat) (w : World) (h : n ≤ 6) :
    Calls Tryd.prog 10 #[.int .i64 n] w fun e w' => e = .returned (.int .i64 (M.sz n)) ∧ w' = w := by
  have hsm := shl_small n h
  go_enter Tryd.func10, Tryd.ntmps10
  go_wp2
  go_ret
  exact ⟨ret_u hsm, rfl⟩

theorem tAt_any (N : Int) (b k : Nat) (hb : b < 2 ^ 64) (hk : k < 64) (w : World) :
    Calls Tryd.prog 20 #[.agg #[.int .i64 N, .int .u64 b], .int .i64 k] w fun e w' => e = .returned (.bool (b.testBit k)) ∧ Below w.heap.size w w' := by
  go_enter Tryd.func20, Tryd.ntmps20
  go_wp2
  go_ret
  exact ⟨ret_b (bit_u64 b k hb), (Below.refl _ _).alloc (Nat.le_refl _) _⟩

theorem chk_andNot {N b : Nat} (hN : N ≤ 6) (hb : b < 2 ^ 64) : (bits .andNot .u64 (b : Int) (2 ^ M.sz N - 1 : Nat) != 0) = decide (¬ b < 2 ^ M.sz N) := by
  have hp := M.pow_sz_le hN
  have h1 : (2:Nat) ^ M.sz N - 1 < 2 ^ 64 := by omega
  rw [u64_andNot_nat _ _ hb h1]
  have key : (b &&& (18446744073709551615 - (2 ^ M.sz N - 1)) = 0) ↔ b < 2 ^ M.sz N := by
    constructor
    · intro h
      apply M.lt_of_testBit
      intro j hj
      have := congrArg (fun x => Nat.testBit x j) h
      simp only [Nat.zero_testBit, testBit_andNot _ _ _ h1] at this
      rw [Nat.testBit_two_pow_sub_one] at this
      by_cases h64 : j < 64
      · have hnj : ¬ j < M.sz N := by omega
        simpa [h64, hnj] using this
      · exact Nat.testBit_lt_two_pow (Nat.lt_of_lt_of_le hb (Nat.pow_le_pow_right (by omega) (by omega)))
    · intro h
      apply Nat.eq_of_testBit_eq
      intro j
      simp only [Nat.zero_testBit, testBit_andNot _ _ _ h1]
      rw [Nat.testBit_two_pow_sub_one]
      by_cases hj : j < M.sz N
      · simp [hj]
      · rw [Nat.testBit_lt_two_pow (Nat.lt_of_lt_of_le h (Nat.pow_le_pow_right (by omega) (by omega)))]; rfl
  by_cases h : b < 2 ^ M.sz N
  · rw [key.2 h]; simp [h]
  · have : ¬ (b &&& (18446744073709551615 - (2 ^ M.sz N - 1)) = 0) := fun e => h (key.1 e)
    simp [h]; omega

set_option maxHeartbeats 400000 in
theorem tCheck_any (N : Int) (b : Nat) (w : World) (hb : b < 2 ^ 64) :
    Calls Tryd.prog 16 #[.agg #[.int .i64 N, .int .u64 b]] w fun e w' => e = .returned (.int .i64 (T.chk N b)) ∧ Below w.heap.size w w' := by
  by_cases h : 0 ≤ N ∧ N ≤ 6
  · obtain ⟨n, rfl⟩ := Int.eq_ofNat_of_zero_le h.1
    have h2 : n ≤ 6 := by omega
    have hd : decide (0 ≤ (n : Int) ∧ (n : Int) ≤ 6) = true := by simpa using h.2
    have hs := fun w => tSized_any (n : Int) w
    rw [hd] at hs
    have HX := Lib.hid (chk_andNot h2 hb)
    have HC : Hid (T.chk n b = if b < 2 ^ M.sz n then 0 else 3) := by unfold T.chk; rw [if_pos h]; rfl
    clear hd h
    go_enter Tryd.func16, Tryd.ntmps16
    go_wp2_with (go_at_call 26; refine (hs _).mono ?_; rintro e w' ⟨rfl, rfl⟩)
    go_quiet ((go_at_call 33; exact Calls.quiet_of_same (tWhole_any _ _ h2)))
    go_wp2
    all_goals
      rename_i ht
      rw [HX.out] at ht
      go_ret
      refine ⟨ret_u ?_, below_drewN ((Below.refl _ _).alloc (Nat.le_refl _) _) _⟩
      rw [HC.out]
      simp at ht
    · rw [if_neg (by omega)]
    · rw [if_pos ht]
  · have hd : decide (0 ≤ N ∧ N ≤ 6) = false := by simpa using h
    have hs := fun w => tSized_any N w
    rw [hd] at hs
    have HC : Hid (T.chk N b = 2) := by unfold T.chk; rw [if_neg h]; rfl
    clear hd h
    go_enter Tryd.func16, Tryd.ntmps16
    go_wp2_with (go_at_call 26; refine (hs _).mono ?_; rintro e w' ⟨rfl, rfl⟩)
    go_ret
    exact ⟨ret_u HC.out.symm, (Below.refl _ _).alloc (Nat.le_refl _) _⟩

end Go.Proofs.YtmncplgccielbaaDoor
