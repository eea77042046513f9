/- Cubes and their points: common cubes, consensus. -/
import Derived.Test.YtmjfhoidokajpaaGreatPE
set_option maxHeartbeats 1000000
set_option maxRecDepth 4000
set_option linter.unusedSimpArgs false
set_option linter.unusedVariables false
set_option linter.unusedSectionVars false
namespace Go.Sx.Pn
open Go Go.Proofs

theorem pts_bit {n : Nat} (hn : n ≤ 6) (c : Cu) (i : Nat) : (ptsC c (2 ^ n)).getLsbD i = (decide (i < 2 ^ n) && hasC c (i : Int)) := ptsC_bit c _ (pow_le64 hn) i
theorem pts_sub {n : Nat} (hn : n ≤ 6) (a b : Cu) : (ptsC a (2 ^ n) &&& ~~~ ptsC b (2 ^ n) = 0#64) ↔ ∀ k : Nat, k < 2 ^ n → hasC a (k : Int) = true → hasC b (k : Int) = true := by
  have h64 := pow_le64 hn
  rw [eq0_iff]
  constructor
  · intro h k hk ha
    have := h k (by omega)
    rw [BitVec.getLsbD_and, BitVec.getLsbD_not, pts_bit hn, pts_bit hn, ha] at this
    simpa [hk, show k < 64 by omega] using this
  · intro h i hi
    rw [BitVec.getLsbD_and, BitVec.getLsbD_not, pts_bit hn, pts_bit hn]
    by_cases hk : i < 2 ^ n
    · cases ha : hasC a (i : Int) with
      | false => simp
      | true => simp [h i hk ha, hk]
    · simp [hk]
theorem inside_pts {n : Nat} (hn : n ≤ 6) {a b : Cu} (ha : a.Ok n) (hb : b.Ok n) : insideC a b = (ptsC a (2 ^ n) &&& ~~~ ptsC b (2 ^ n) == 0#64) := by
  rw [← inside_eq hn ha hb, Bool.eq_iff_iff, beq_iff_eq, pts_sub hn, withinC, List.all_eq_true]
  constructor
  · intro h k hk hh
    have := h k (List.mem_range.2 hk)
    rw [wAt, hh] at this; simpa using this
  · intro h k hk
    rw [wAt]
    cases hh : hasC a (k : Int) with
    | false => rfl
    | true => rw [h k (List.mem_range.1 hk) hh]; rfl

/-- both cubes' conditions -/
def bothC (a b : Cu) : Cu := ⟨a.care ||| b.care, a.value ||| b.value⟩
theorem Cu.Ok.both {n : Nat} {a b : Cu} (ha : a.Ok n) (hb : b.Ok n) : (bothC a b).Ok n := by
  constructor
  · rw [eq0_iff]; intro i hi
    have h1 := (eq0_iff _).1 ha.care i hi
    have h2 := (eq0_iff _).1 hb.care i hi
    simp only [bothC, BitVec.getLsbD_and, BitVec.getLsbD_or, BitVec.getLsbD_not] at h1 h2 ⊢
    revert h1 h2
    cases a.care.getLsbD i <;> cases b.care.getLsbD i <;> simp
  · rw [eq0_iff]; intro i hi
    have h1 := (eq0_iff _).1 ha.value i hi
    have h2 := (eq0_iff _).1 hb.value i hi
    simp only [bothC, BitVec.getLsbD_and, BitVec.getLsbD_or, BitVec.getLsbD_not] at h1 h2 ⊢
    revert h1 h2
    cases a.care.getLsbD i <;> cases b.care.getLsbD i <;> cases a.value.getLsbD i <;> cases b.value.getLsbD i <;> simp
theorem value_point {n : Nat} (hn : n ≤ 6) {c : Cu} (hc : c.Ok n) : c.value.toNat < 2 ^ n ∧ hasC c (c.value.toNat : Int) = true :=
  ⟨lt_pow hn fun i hi hv => hc.care_bit hn hi (hc.value_bit hi hv), (has_iff hc _).2 fun i hi _ => toNat_bit _⟩
theorem Cu.Ok.but {n : Nat} {c : Cu} (hc : c.Ok n) (u : U) : (⟨c.care &&& ~~~ u, c.value &&& ~~~ u⟩ : Cu).Ok n := by
  constructor
  · rw [eq0_iff]; intro i hi
    have h1 := (eq0_iff _).1 hc.care i hi
    simp only [BitVec.getLsbD_and, BitVec.getLsbD_not] at h1 ⊢
    revert h1
    cases c.care.getLsbD i <;> cases u.getLsbD i <;> simp
  · rw [eq0_iff]; intro i hi
    have h1 := (eq0_iff _).1 hc.value i hi
    simp only [BitVec.getLsbD_and, BitVec.getLsbD_not] at h1 ⊢
    revert h1
    cases c.care.getLsbD i <;> cases c.value.getLsbD i <;> cases u.getLsbD i <;> simp
end Go.Sx.Pn

namespace Go.Sx.Pn
open Go Go.Proofs

section
variable {z : Int} (hz : z = 0) {n : Nat}
include hz
end

end Go.Sx.Pn
