/- Words and points: what the program says of words is what the reference says of points. -/
import Derived.Test.YtdkhdkldjpaadaaP25
set_option maxHeartbeats 1000000
set_option maxRecDepth 4000
set_option linter.unusedSimpArgs false
set_option linter.unusedVariables false
namespace Go.Sx.Pn
open Go Go.Proofs

theorem ptsC_bit (c : Cu) : ∀ (m : Nat), m ≤ 64 → ∀ i, (ptsC c m).getLsbD i = (decide (i < m) && hasC c (i : Int))
  | 0, _, i => by simp [ptsC]
  | k + 1, hm, i => by
    have ih := ptsC_bit c k (by omega) i
    rw [ptsC]
    by_cases h : hasC c (k : Int) = true
    · rw [if_pos h, BitVec.getLsbD_or, ih, shl1_bit (by omega)]
      by_cases e : i = k
      · subst e; simp [h]
      · by_cases h2 : i < k
        · simp [e, h2, show i < k + 1 by omega]
        · simp [e, h2, show ¬ i < k + 1 by omega]
    · rw [if_neg h, ih]
      by_cases e : i = k
      · subst e; simp [h]
      · by_cases h2 : i < k
        · simp [h2, show i < k + 1 by omega]
        · simp [h2, show ¬ i < k + 1 by omega]

theorem implies_good {n : Nat} (hn : n ≤ 6) (x : Tk) (c : Cu) : impliesU n x c = goodC n x c := by
  have h64 := pow_le64 hn
  rw [Bool.eq_iff_iff, impliesU, beq_iff_eq, eq0_iff, goodC, List.all_eq_true]
  constructor
  · intro h k hk
    have hk := List.mem_range.1 hk
    have h1 := h k (by omega)
    rw [BitVec.getLsbD_and, ptsC_bit c _ h64, BitVec.getLsbD_not, BitVec.getLsbD_or] at h1
    simp only [hk, decide_true, Bool.true_and, show k < 64 by omega] at h1
    unfold gAt atT
    revert h1
    cases hasC c (k : Int) <;> cases x.on.bits.getLsbD k <;> cases x.free.bits.getLsbD k <;> simp
  · intro h i hi
    rw [BitVec.getLsbD_and, ptsC_bit c _ h64, BitVec.getLsbD_not, BitVec.getLsbD_or]
    by_cases hk : i < 2 ^ n
    · have h1 := h i (List.mem_range.2 hk)
      unfold gAt atT at h1
      revert h1
      simp only [hk, hi, decide_true, Bool.true_and]
      cases hasC c (i : Int) <;> cases x.on.bits.getLsbD i <;> cases x.free.bits.getLsbD i <;> simp
    · simp [hk]

theorem touch_eq {n : Nat} (hn : n ≤ 6) (x : Tk) (c : Cu) : (ptsC c (2 ^ n) &&& x.on.bits != 0#64) = touchC n x c := by
  have h64 := pow_le64 hn
  rw [Bool.eq_iff_iff, bne_iff_ne, ne0_iff, touchC, List.any_eq_true]
  constructor
  · rintro ⟨i, hi, h⟩
    rw [BitVec.getLsbD_and, ptsC_bit c _ h64] at h
    simp only [Bool.and_eq_true, decide_eq_true_eq] at h
    exact ⟨i, List.mem_range.2 h.1.1, by rw [tAt, atT, h.1.2, h.2]; rfl⟩
  · rintro ⟨k, hk, h⟩
    have hk := List.mem_range.1 hk
    refine ⟨k, by omega, ?_⟩
    rw [BitVec.getLsbD_and, ptsC_bit c _ h64]
    unfold tAt atT at h
    rw [Bool.and_eq_true] at h
    simp [hk, h.1, h.2]

theorem joined_wide (c : Cu) (i : Nat) : joinedC c c [i] = wideC c i := by
  simp [joinedC, butC, wideC]
theorem wide_ne {c : Cu} (hc : c.value &&& ~~~ c.care = 0#64) {i : Nat} (hi : i < 64) : wideC c i ≠ c ↔ c.care.getLsbD i = true := by
  have hv : ∀ k, k < 64 → c.care.getLsbD k = false → c.value.getLsbD k = false := fun k hk h => by
    have := (eq0_iff _).1 hc k hk
    rw [BitVec.getLsbD_and, BitVec.getLsbD_not, h] at this
    simpa [hk] using this
  constructor
  · intro h
    cases hb : c.care.getLsbD i with
    | true => rfl
    | false =>
      refine absurd ?_ h
      have e : ∀ w : U, w.getLsbD i = false → w &&& ~~~ (1#64 <<< i) = w := fun w hw => by
        apply BitVec.eq_of_getLsbD_eq
        intro k hk
        rw [BitVec.getLsbD_and, BitVec.getLsbD_not, shl1_bit hi]
        by_cases e : k = i
        · subst e; simp [hw]
        · simp [e, hk]
      show (⟨c.care &&& ~~~ (1#64 <<< i), c.value &&& ~~~ (1#64 <<< i)⟩ : Cu) = c
      rw [e _ hb, e _ (hv i hi hb)]
  · intro h e
    have := congrArg (fun d : Cu => d.care.getLsbD i) e
    simp only [wideC, BitVec.getLsbD_and, BitVec.getLsbD_not, shl1_bit hi, h] at this
    simp at this
theorem grow_eq {n : Nat} (hn : n ≤ 6) (x : Tk) {c : Cu} (hc : c.value &&& ~~~ c.care = 0#64) : growsU n x c = growC n x c := by
  unfold growsU growC
  rw [Bool.eq_iff_iff, List.any_eq_true, List.any_eq_true]
  have one : ∀ i, i < n → growsAt n x c i = growAt n x c i := fun i hi => by
    rw [growsAt, growAt, implies_good hn, joined_wide]
    congr 1
    rw [Bool.eq_iff_iff, decide_eq_true_iff]
    exact wide_ne hc (by omega)
  constructor
  · rintro ⟨i, hi, h⟩; exact ⟨i, hi, by rw [← one i (List.mem_range.1 hi)]; exact h⟩
  · rintro ⟨i, hi, h⟩; exact ⟨i, hi, by rw [one i (List.mem_range.1 hi)]; exact h⟩

/-- a right cube -/
theorem cubeAt_ok {i j : Nat} {c : Cu} (h : cubeAt i j = some c) : c.value &&& ~~~ c.care = 0#64 := by
  unfold cubeAt at h
  split at h
  · cases h; assumption
  · cases h
theorem cubesL_ok {n : Nat} {c : Cu} (h : c ∈ cubesL n) : c.value &&& ~~~ c.care = 0#64 := by
  obtain ⟨i, _, h⟩ := List.mem_flatMap.1 h
  obtain ⟨j, _, h⟩ := List.mem_filterMap.1 h
  exact cubeAt_ok h
def primeR (n : Nat) (x : Tk) (c : Cu) : Bool := touchC n x c && goodC n x c && !growC n x c
theorem prime_eq {n : Nat} (hn : n ≤ 6) (x : Tk) {c : Cu} (hc : c ∈ cubesL n) : primeP n x c = primeR n x c := by
  rw [primeP, primeR, touch_eq hn, implies_good hn, grow_eq hn x (cubesL_ok hc)]

theorem uN_toNat {i : Nat} (h : i ≤ 64) : (uN i).toNat = i := by have := uN_small h; omega
theorem cubeAt_none {i j : Nat} (h : i < j) (hj : j ≤ 64) : cubeAt i j = none := by
  unfold cubeAt
  rw [if_neg]
  intro e
  have h1 : uN j &&& uN i = uN j := by
    apply BitVec.eq_of_getLsbD_eq
    intro k hk
    have := (eq0_iff _).1 e k hk
    rw [BitVec.getLsbD_and, BitVec.getLsbD_not] at this
    rw [BitVec.getLsbD_and]
    revert this
    cases (uN j).getLsbD k <;> cases (uN i).getLsbD k <;> simp [hk]
  have h2 := congrArg BitVec.toNat h1
  rw [BitVec.toNat_and, uN_toNat hj, uN_toNat (by omega)] at h2
  have := Nat.and_le_right (n := j) (m := i)
  omega
theorem cubeRow_all {i : Nat} : ∀ {m : Nat}, i + 1 ≤ m → m ≤ 64 → cubeRow m i = cubeRow (i + 1) i := by
  intro m h
  induction h with
  | refl => intro _; rfl
  | @step k hk ih =>
    intro hm
    have hk' : i + 1 ≤ k := hk
    rw [cubeRow_succ, ih (by omega), cubeAt_none (by omega) (by omega)]; simp

end Go.Sx.Pn
