/- Plain facts about bits of natural numbers, lists of points and truth tables: no program in sight. -/
set_option maxHeartbeats 1000000
set_option maxRecDepth 4000
set_option linter.unusedSimpArgs false
set_option linter.unusedVariables false
set_option linter.unusedSectionVars false
namespace Go.Proofs.YtmncplgccielbaaDoor
namespace M

/-- the number whose bits below m are given by p -/
def mkB (p : Nat → Bool) : Nat → Nat
  | 0 => 0
  | m + 1 => if p m then mkB p m ||| 2 ^ m else mkB p m

theorem mkB_lt (p : Nat → Bool) (m : Nat) : mkB p m < 2 ^ m := by
  induction m with
  | zero => simp [mkB]
  | succ m ih =>
    have h1 : (2:Nat) ^ m < 2 ^ (m + 1) := Nat.pow_lt_pow_right (by omega) (by omega)
    unfold mkB
    split
    · exact Nat.or_lt_two_pow (by omega) h1
    · omega

theorem testBit_mkB (p : Nat → Bool) (m j : Nat) : (mkB p m).testBit j = (decide (j < m) && p j) := by
  induction m with
  | zero => simp [mkB]
  | succ m ih =>
    unfold mkB
    by_cases hj : j = m
    · subst hj
      cases hp : p j
      · simp [ih]
      · simp [ih, Nat.testBit_two_pow_self]
    · have h1 : decide (j < m + 1) = decide (j < m) := by simp; omega
      have h2 : (2 ^ m).testBit j = false := by
        rw [Nat.testBit_two_pow]; simp; omega
      split
      · rw [Nat.testBit_or, ih, h2, h1]; simp
      · rw [ih, h1]

theorem mkB_succ_t {p : Nat → Bool} {m : Nat} (h : p m = true) : mkB p (m + 1) = mkB p m ||| 2 ^ m := by simp [mkB, h]
theorem mkB_succ_f {p : Nat → Bool} {m : Nat} (h : p m = false) : mkB p (m + 1) = mkB p m := by simp [mkB, h]

theorem lt_of_testBit {b m : Nat} (h : ∀ j, m ≤ j → b.testBit j = false) : b < 2 ^ m := by
  apply Nat.lt_pow_two_of_testBit
  intro i hi
  exact h i hi

theorem ext_below {a b m : Nat} (ha : a < 2 ^ m) (hb : b < 2 ^ m) (h : ∀ j, j < m → a.testBit j = b.testBit j) : a = b := by
  apply Nat.eq_of_testBit_eq
  intro j
  by_cases hj : j < m
  · exact h j hj
  · rw [Nat.testBit_lt_two_pow (Nat.lt_of_lt_of_le ha (Nat.pow_le_pow_right (by omega) (by omega))), Nat.testBit_lt_two_pow (Nat.lt_of_lt_of_le hb (Nat.pow_le_pow_right (by omega) (by omega)))]

theorem mkB_self {b m : Nat} (h : b < 2 ^ m) : mkB b.testBit m = b :=
  ext_below (mkB_lt _ _) h fun j hj => by rw [testBit_mkB]; simp [hj]

theorem mkB_congr {p q : Nat → Bool} {m : Nat} (h : ∀ j, j < m → p j = q j) : mkB p m = mkB q m :=
  ext_below (mkB_lt _ _) (mkB_lt _ _) fun j hj => by rw [testBit_mkB, testBit_mkB, h j hj]

theorem testBit_mod (x k : Nat) : x.testBit k = (x / 2 ^ k % 2 == 1) := by
  rw [Nat.testBit_eq_decide_div_mod_eq]; rfl

/-- number of points -/
def sz (n : Nat) : Nat := 2 ^ n
theorem sz_pos (n : Nat) : 1 ≤ sz n := Nat.one_le_two_pow
theorem sz_le {n : Nat} (h : n ≤ 6) : sz n ≤ 64 := Nat.pow_le_pow_right (by omega) (show n ≤ 6 from h)
theorem pow_sz_le {n : Nat} (h : n ≤ 6) : 2 ^ sz n ≤ 2 ^ 64 := Nat.pow_le_pow_right (by omega) (sz_le h)

/-- the points below m at which p holds, ascending -/
def pts (p : Nat → Bool) (m : Nat) : List Nat := (List.range m).filter p
theorem pts_zero (p : Nat → Bool) : pts p 0 = [] := rfl
theorem pts_succ_t {p : Nat → Bool} {m : Nat} (h : p m = true) : pts p (m + 1) = pts p m ++ [m] := by simp [pts, List.range_succ, h]
theorem pts_succ_f {p : Nat → Bool} {m : Nat} (h : p m = false) : pts p (m + 1) = pts p m := by simp [pts, List.range_succ, h]
theorem mem_pts {p : Nat → Bool} {m k : Nat} : k ∈ pts p m ↔ k < m ∧ p k = true := by simp [pts]
theorem pts_length_le (p : Nat → Bool) (m : Nat) : (pts p m).length ≤ m := by
  have := List.length_filter_le p (List.range m); simpa [pts] using this
theorem pts_congr {p q : Nat → Bool} {m : Nat} (h : ∀ j, j < m → p j = q j) : pts p m = pts q m := by
  unfold pts; apply List.filter_congr; intro x hx; exact h x (by simpa using hx)

end M
end Go.Proofs.YtmncplgccielbaaDoor
