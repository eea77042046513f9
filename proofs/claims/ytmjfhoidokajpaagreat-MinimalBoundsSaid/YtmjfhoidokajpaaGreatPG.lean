/- Contracts of package truth: constants and disjunctions. -/
import Derived.Test.YtmjfhoidokajpaaGreatPF
set_option maxHeartbeats 1000000
set_option maxRecDepth 4000
set_option linter.unusedSimpArgs false
set_option linter.unusedVariables false
set_option linter.unusedSectionVars false
namespace Go.Sx.Pn
open Go Go.Proofs

def iV (k : Nat) : Value := .int .i64 k
end Go.Sx.Pn

namespace Go.Sx.Pn
open Go Go.Proofs

theorem care_lt {n : Nat} (hn : n ≤ 6) {c : Cu} (hc : c.Ok n) : c.care.toNat < 2 ^ n := lt_pow hn fun i hi h => hc.care_bit hn hi h
theorem uN_self (x : U) : uN x.toNat = x := by simp [uN]
theorem mem_cubes {n : Nat} (hn : n ≤ 6) {c : Cu} (hc : c.Ok n) : c ∈ cubesL n := by
  unfold cubesL cubesTo
  rw [List.mem_flatMap]
  refine ⟨c.care.toNat, List.mem_range.2 (care_lt hn hc), ?_⟩
  unfold cubeRow
  rw [List.mem_filterMap]
  refine ⟨c.value.toNat, List.mem_range.2 (value_point hn hc).1, ?_⟩
  rw [cubeAt, uN_self, uN_self, if_pos hc.value]
theorem cubes_ok_n {n : Nat} (hn : n ≤ 6) {c : Cu} (h : c ∈ cubesL n) : c.Ok n := by
  refine ⟨?_, cubesL_ok h⟩
  unfold cubesL cubesTo at h
  obtain ⟨i, hi, h⟩ := List.mem_flatMap.1 h
  obtain ⟨j, hj, h⟩ := List.mem_filterMap.1 h
  have hi := List.mem_range.1 hi
  have h64 := pow_le64 hn
  rw [cubeAt_some h, mask_iff hn, BitVec.le_def, uN_toNat (by omega)]
  have e : (1#64 <<< n).toNat = 2 ^ n := by
    obtain rfl | rfl | rfl | rfl | rfl | rfl | rfl : n = 0 ∨ n = 1 ∨ n = 2 ∨ n = 3 ∨ n = 4 ∨ n = 5 ∨ n = 6 := by omega
    all_goals rfl
  omega
theorem mem_primes {n : Nat} (hn : n ≤ 6) {x : Tk} {c : Cu} : c ∈ primesL n x ↔ c.Ok n ∧ primeP n x c = true := by
  unfold primesL
  rw [List.mem_filter]
  exact ⟨fun h => ⟨cubes_ok_n hn h.1, h.2⟩, fun h => ⟨mem_cubes hn h.1, h.2⟩⟩
theorem prime_parts {n : Nat} {x : Tk} {c : Cu} (h : primeP n x c = true) : (ptsC c (2 ^ n) &&& x.on.bits != 0#64) = true ∧ impliesU n x c = true ∧ growsU n x c = false := by
  unfold primeP at h
  simp only [Bool.and_eq_true, Bool.not_eq_true'] at h
  exact ⟨h.1.1, h.1.2, h.2⟩

theorem wide_bits {c : Cu} {i : Nat} (hi : i < 64) (j : Nat) : (wideC c i).care.getLsbD j = (c.care.getLsbD j && !decide (j = i) && decide (j < 64)) ∧ (wideC c i).value.getLsbD j = (c.value.getLsbD j && !decide (j = i) && decide (j < 64)) := by
  simp only [wideC, BitVec.getLsbD_and, BitVec.getLsbD_not, shl1_bit hi]
  by_cases h : j < 64 <;> simp [h]
theorem wide_ok {n : Nat} {c : Cu} (hc : c.Ok n) (i : Nat) : (wideC c i).Ok n := hc.but _
theorem wide_has {n : Nat} (hn : n ≤ 6) {c : Cu} (hc : c.Ok n) {i k : Nat} (hi : i < n) (h : hasC c (k : Int) = true) : hasC (wideC c i) (k : Int) = true := by
  rw [has_iff (wide_ok hc i)]
  intro j hj hcj
  obtain ⟨h1, h2⟩ := wide_bits (c := c) (show i < 64 by omega) j
  rw [h1] at hcj
  simp only [Bool.and_eq_true, Bool.not_eq_true', decide_eq_false_iff_not, decide_eq_true_eq] at hcj
  rw [h2, (has_iff hc k).1 h j hj hcj.1.1]; simp [hcj.1.2, hj]
theorem wide_care {n : Nat} (hn : n ≤ 6) {c : Cu} (hc : c.Ok n) {i : Nat} (hi : i < n) (h : wideC c i ≠ c) : (wideC c i).care.toNat < c.care.toNat := by
  have hb := (wide_ne hc.value (show i < 64 by omega)).1 h
  have hle : (wideC c i).care.toNat ≤ c.care.toNat := by
    show (c.care &&& ~~~ (1#64 <<< i)).toNat ≤ _
    rw [BitVec.toNat_and]; exact Nat.and_le_left
  rcases Nat.lt_or_eq_of_le hle with h1 | h1
  · exact h1
  · have e := BitVec.eq_of_toNat_eq h1
    have := congrArg (fun b : U => b.getLsbD i) e
    simp only [(wide_bits (c := c) (show i < 64 by omega) i).1, hb] at this
    simp at this

theorem implies_iff {n : Nat} (hn : n ≤ 6) (x : Tk) (c : Cu) : impliesU n x c = true ↔ ∀ k, k < 2 ^ n → hasC c ((k : Nat) : Int) = true → (x.on.bits ||| x.free.bits).getLsbD k = true := by
  rw [implies_good hn, goodC, List.all_eq_true]
  constructor
  · intro h k hk hh
    have := h k (List.mem_range.2 hk)
    rw [gAt, hh] at this
    rw [BitVec.getLsbD_or]; simpa [atT] using this
  · intro h k hk
    rw [gAt]
    cases hh : hasC c ((k : Nat) : Int) with
    | false => rfl
    | true =>
      have := h k (List.mem_range.1 hk) hh
      rw [BitVec.getLsbD_or] at this
      simpa [atT] using this

/-- an implicant with a point of On is inside a prime one with this point -/
theorem prime_over {n : Nat} (hn : n ≤ 6) (x : Tk) {k : Nat} (hk : k < 2 ^ n) (hon : x.on.bits.getLsbD k = true) : ∀ (m : Nat) (c : Cu), c.care.toNat < m → c.Ok n → hasC c (k : Int) = true → impliesU n x c = true →
    ∃ p ∈ primesL n x, hasC p (k : Int) = true ∧ ∀ j : Nat, hasC c (j : Int) = true → hasC p (j : Int) = true
  | 0, _, h, _, _, _ => absurd h (Nat.not_lt_zero _)
  | m + 1, c, hm, hc, hh, himp => by
    cases hg : growsU n x c with
    | false =>
      refine ⟨c, (mem_primes hn).2 ⟨hc, ?_⟩, hh, fun _ h => h⟩
      have ht : (ptsC c (2 ^ n) &&& x.on.bits != 0#64) = true := by
        rw [touch_eq hn]; exact any_hit hk (by rw [tAt, hh, atT, hon]; rfl)
      rw [primeP, ht, himp, hg]; rfl
    | true =>
      obtain ⟨i, hi, h⟩ := List.any_eq_true.1 hg
      have hi := List.mem_range.1 hi
      rw [growsAt, Bool.and_eq_true, decide_eq_true_eq] at h
      have hlt := wide_care hn hc hi h.1
      obtain ⟨p, hp, h1, h2⟩ := prime_over hn x hk hon m (wideC c i) (by omega) (wide_ok hc i) (wide_has hn hc hi hh) h.2
      exact ⟨p, hp, h1, fun j hj => h2 j (wide_has hn hc hi hj)⟩

theorem prime_at {n : Nat} (hn : n ≤ 6) (x : Tk) {i : Nat} (hi : i < (primesL n x).length) : ((primesL n x).getD i ⟨0, 0⟩).Ok n ∧ primeP n x ((primesL n x).getD i ⟨0, 0⟩) = true :=
  (mem_primes hn).1 (List.mem_of_getElem? (getD_some hi))

/-- the points of all prime implicants -/
theorem once_any {n : Nat} (hn : n ≤ 6) (l : List Cu) {k : Nat} (hk : k < 2 ^ n) (m : Nat) : (onceU n l m).getLsbD k = true ↔ ∃ i, i < m ∧ hasC (l.getD i ⟨0, 0⟩) (k : Int) = true := by
  rw [(once_bit hn l hk m).1, decide_eq_true_iff]
  constructor
  · intro h
    obtain ⟨i, hi⟩ := List.exists_mem_of_length_pos h
    unfold ownTo at hi
    rw [List.mem_filter] at hi
    exact ⟨i, List.mem_range.1 hi.1, hi.2⟩
  · rintro ⟨i, hi, h⟩
    exact List.length_pos_of_mem (a := i) (by unfold ownTo; rw [List.mem_filter]; exact ⟨List.mem_range.2 hi, h⟩)
theorem minterm_ok {n : Nat} (hn : n ≤ 6) {k : Nat} (hk : k < 2 ^ n) : (⟨allU n, uN k⟩ : Cu).Ok n ∧ hasC ⟨allU n, uN k⟩ (k : Int) = true ∧ ∀ j : Nat, j < 2 ^ n → hasC ⟨allU n, uN k⟩ (j : Int) = true → j = k := by
  have h64 := pow_le64 hn
  have kb : ∀ i, i < 64 → k.testBit i = true → i < n := fun i _ h => Classical.byContradiction fun hge => by
    have := Nat.testBit_lt_two_pow (Nat.lt_of_lt_of_le hk (Nat.pow_le_pow_right (by decide) (Nat.le_of_not_lt hge)))
    rw [this] at h; cases h
  have hb : ∀ j : Nat, ∀ i, i < 64 → (uN j).getLsbD i = j.testBit i := fun j i hi => by rw [uN, BitVec.getLsbD_ofNat]; simp [hi]
  have hOk : (⟨allU n, uN k⟩ : Cu).Ok n := by
    constructor
    · simp
    · rw [eq0_iff]; intro i hi
      rw [BitVec.getLsbD_and, BitVec.getLsbD_not, allU_bit hn hi, hb k i hi]
      cases h : k.testBit i with
      | false => simp
      | true => simp [kb i hi h]
  refine ⟨hOk, (has_iff hOk k).2 fun i hi _ => (hb k i hi).symm, fun j hj h => ?_⟩
  apply Nat.eq_of_testBit_eq
  intro i
  by_cases hi : i < n
  · have := (has_iff hOk j).1 h i (by omega) (by rw [allU_bit hn (by omega)]; simp [hi])
    rw [this, hb k i (by omega)]
  · have big : ∀ q : Nat, q < 2 ^ n → q.testBit i = false := fun q hq => Nat.testBit_lt_two_pow (Nat.lt_of_lt_of_le hq (Nat.pow_le_pow_right (by decide) (Nat.le_of_not_lt hi)))
    rw [big j hj, big k hk]
theorem primes_cover {n : Nat} (hn : n ≤ 6) (x : Tk) {k : Nat} (hk : k < 2 ^ n) (hon : x.on.bits.getLsbD k = true) : (onceU n (primesL n x) (primesL n x).length).getLsbD k = true := by
  obtain ⟨h1, h2, h3⟩ := minterm_ok hn hk
  obtain ⟨p, hp, hpk, _⟩ := prime_over hn x hk hon _ _ (Nat.lt_succ_self _) h1 h2 ((implies_iff hn x _).2 fun j hj hh => by
    rw [h3 j hj hh, BitVec.getLsbD_or, hon]; rfl)
  rw [once_any hn _ hk]
  obtain ⟨i, hi⟩ := List.getElem?_of_mem hp
  refine ⟨i, (List.getElem?_eq_some_iff.1 hi).1, ?_⟩
  rw [List.getD_eq_getElem?_getD, hi]; exact hpk

end Go.Sx.Pn

namespace Go.Sx.Pn
open Go Go.Proofs

theorem ok_chk {n : Nat} (hn : n ≤ 6) {c : Cu} (hc : c.Ok n) : chkC (n : Int) c = 0 := by
  have h3 : ¬ (6 : Int) < n := by omega
  simp [chkC, h3, hc.care, hc.value]
section
variable {z : Int} (hz : z = 0) {n : Nat} {x : Tk}
include hz
end

end Go.Sx.Pn
