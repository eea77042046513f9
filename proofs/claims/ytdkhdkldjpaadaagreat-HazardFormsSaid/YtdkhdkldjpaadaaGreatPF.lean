/- Cubes and their points: common cubes, consensus. -/
import Derived.Test.YtdkhdkldjpaadaaGreatPE
set_option maxHeartbeats 1000000
set_option maxRecDepth 4000
set_option linter.unusedSimpArgs false
set_option linter.unusedVariables false
namespace Go.Sx.Pn
open Go Go.Proofs

theorem pts_bit {n : Nat} (hn : n ≤ 6) (c : Cu) (i : Nat) : (ptsC c (2 ^ n)).getLsbD i = (decide (i < 2 ^ n) && hasC c (i : Int)) := ptsC_bit c _ (pow_le64 hn) i
theorem pts_sub {n : Nat} (hn : n ≤ 6) (a b : Cu) : (ptsC a (2 ^ n) &&& ~~~ ptsC b (2 ^ n) = 0#64) ↔ ∀ k : Nat, k < 2 ^ n → hasC a (k : Int) = true → hasC b (k : Int) = true := by
  have h64 := pow_le64 hn
  rw [eq0_iff]
  constructor
  · intro h k hk ha
    have := h k (by omega)
    rw [BitVec.getLsbD_and, BitVec.getLsbD_not, pts_bit hn, pts_bit hn, ha] at this
    simpa [hk, show k < 64 by omega] using this
  · intro h i hi
    rw [BitVec.getLsbD_and, BitVec.getLsbD_not, pts_bit hn, pts_bit hn]
    by_cases hk : i < 2 ^ n
    · cases ha : hasC a (i : Int) with
      | false => simp
      | true => simp [h i hk ha, hk]
    · simp [hk]
theorem pts_and {n : Nat} (hn : n ≤ 6) (a b : Cu) : ptsC a (2 ^ n) &&& ptsC b (2 ^ n) ≠ 0#64 ↔ ∃ k : Nat, k < 2 ^ n ∧ hasC a (k : Int) = true ∧ hasC b (k : Int) = true := by
  have h64 := pow_le64 hn
  rw [ne0_iff]
  constructor
  · rintro ⟨i, hi, h⟩
    rw [BitVec.getLsbD_and, pts_bit hn, pts_bit hn] at h
    simp only [Bool.and_eq_true, decide_eq_true_eq] at h
    exact ⟨i, h.1.1, h.1.2, h.2.2⟩
  · rintro ⟨k, hk, h1, h2⟩
    exact ⟨k, by omega, by rw [BitVec.getLsbD_and, pts_bit hn, pts_bit hn, h1, h2]; simp [hk]⟩
theorem inside_pts {n : Nat} (hn : n ≤ 6) {a b : Cu} (ha : a.Ok n) (hb : b.Ok n) : insideC a b = (ptsC a (2 ^ n) &&& ~~~ ptsC b (2 ^ n) == 0#64) := by
  rw [← inside_eq hn ha hb, Bool.eq_iff_iff, beq_iff_eq, pts_sub hn, withinC, List.all_eq_true]
  constructor
  · intro h k hk hh
    have := h k (List.mem_range.2 hk)
    rw [wAt, hh] at this; simpa using this
  · intro h k hk
    rw [wAt]
    cases hh : hasC a (k : Int) with
    | false => rfl
    | true => rw [h k (List.mem_range.1 hk) hh]; rfl

/-- both cubes' conditions -/
def bothC (a b : Cu) : Cu := ⟨a.care ||| b.care, a.value ||| b.value⟩
theorem Cu.Ok.both {n : Nat} {a b : Cu} (ha : a.Ok n) (hb : b.Ok n) : (bothC a b).Ok n := by
  constructor
  · rw [eq0_iff]; intro i hi
    have h1 := (eq0_iff _).1 ha.care i hi
    have h2 := (eq0_iff _).1 hb.care i hi
    simp only [bothC, BitVec.getLsbD_and, BitVec.getLsbD_or, BitVec.getLsbD_not] at h1 h2 ⊢
    revert h1 h2
    cases a.care.getLsbD i <;> cases b.care.getLsbD i <;> simp
  · rw [eq0_iff]; intro i hi
    have h1 := (eq0_iff _).1 ha.value i hi
    have h2 := (eq0_iff _).1 hb.value i hi
    simp only [bothC, BitVec.getLsbD_and, BitVec.getLsbD_or, BitVec.getLsbD_not] at h1 h2 ⊢
    revert h1 h2
    cases a.care.getLsbD i <;> cases b.care.getLsbD i <;> cases a.value.getLsbD i <;> cases b.value.getLsbD i <;> simp
theorem value_off {n : Nat} {c : Cu} (hc : c.Ok n) {i : Nat} (hi : i < 64) (h : c.care.getLsbD i = false) : c.value.getLsbD i = false := by
  cases hv : c.value.getLsbD i with
  | false => rfl
  | true => rw [hc.value_bit hi hv] at h; cases h
theorem opp_false {a b : Cu} {i : Nat} (h : oppAt a b i = false) (h1 : a.care.getLsbD i = true) (h2 : b.care.getLsbD i = true) : a.value.getLsbD i = b.value.getLsbD i := by
  rw [oppAt, BitVec.getLsbD_and, h1, h2] at h
  revert h
  cases a.value.getLsbD i <;> cases b.value.getLsbD i <;> simp
theorem both_has {n : Nat} {a b : Cu} (ha : a.Ok n) (hb : b.Ok n) (hm : againstC a b = 0#64) (k : Nat) : hasC (bothC a b) (k : Int) = true ↔ hasC a (k : Int) = true ∧ hasC b (k : Int) = true := by
  have ho : ∀ i, i < 64 → oppAt a b i = false := fun i hi => by rw [← against_bit, hm, BitVec.getLsbD_zero]
  rw [has_iff (ha.both hb), has_iff ha, has_iff hb]
  have hc : ∀ i, (bothC a b).care.getLsbD i = (a.care.getLsbD i || b.care.getLsbD i) := fun i => BitVec.getLsbD_or ..
  have hv : ∀ i, (bothC a b).value.getLsbD i = (a.value.getLsbD i || b.value.getLsbD i) := fun i => BitVec.getLsbD_or ..
  constructor
  · intro h
    refine ⟨fun i hi h1 => ?_, fun i hi h2 => ?_⟩
    · rw [h i hi (by rw [hc, h1]; rfl), hv]
      cases h2 : b.care.getLsbD i with
      | true => rw [opp_false (ho i hi) h1 h2, Bool.or_self]
      | false => rw [value_off hb hi h2, Bool.or_false]
    · rw [h i hi (by rw [hc, h2, Bool.or_true]), hv]
      cases h1 : a.care.getLsbD i with
      | true => rw [opp_false (ho i hi) h1 h2, Bool.or_self]
      | false => rw [value_off ha hi h1, Bool.false_or]
  · rintro ⟨g1, g2⟩ i hi h
    rw [hc] at h
    rw [hv]
    cases h1 : a.care.getLsbD i with
    | true =>
      cases h2 : b.care.getLsbD i with
      | true => rw [g1 i hi h1, opp_false (ho i hi) h1 h2, Bool.or_self]
      | false => rw [g1 i hi h1, value_off hb hi h2, Bool.or_false]
    | false =>
      rw [h1, Bool.false_or] at h
      rw [g2 i hi h, value_off ha hi h1, Bool.false_or]
theorem value_point {n : Nat} (hn : n ≤ 6) {c : Cu} (hc : c.Ok n) : c.value.toNat < 2 ^ n ∧ hasC c (c.value.toNat : Int) = true :=
  ⟨lt_pow hn fun i hi hv => hc.care_bit hn hi (hc.value_bit hi hv), (has_iff hc _).2 fun i hi _ => toNat_bit _⟩
theorem meet_pts {n : Nat} (hn : n ≤ 6) {a b : Cu} (ha : a.Ok n) (hb : b.Ok n) : againstC a b = 0#64 ↔ ptsC a (2 ^ n) &&& ptsC b (2 ^ n) ≠ 0#64 := by
  rw [pts_and hn]
  constructor
  · intro hm
    obtain ⟨h1, h2⟩ := value_point hn (ha.both hb)
    exact ⟨_, h1, (both_has ha hb hm _).1 h2⟩
  · rintro ⟨k, hk, h1, h2⟩
    rw [eq0_iff]; intro i hi
    rw [against_bit, oppAt, BitVec.getLsbD_and]
    cases g1 : a.care.getLsbD i with
    | false => simp
    | true =>
      cases g2 : b.care.getLsbD i with
      | false => simp
      | true =>
        rw [← (has_iff ha k).1 h1 i hi g1, ← (has_iff hb k).1 h2 i hi g2]; simp
theorem both_pts {n : Nat} (hn : n ≤ 6) {a b : Cu} (ha : a.Ok n) (hb : b.Ok n) (hm : againstC a b = 0#64) : ptsC (bothC a b) (2 ^ n) = ptsC a (2 ^ n) &&& ptsC b (2 ^ n) := by
  apply BitVec.eq_of_getLsbD_eq
  intro i hi
  rw [BitVec.getLsbD_and, pts_bit hn, pts_bit hn, pts_bit hn]
  have := both_has ha hb hm i
  cases h1 : hasC a (i : Int) <;> cases h2 : hasC b (i : Int) <;> cases h3 : hasC (bothC a b) (i : Int) <;> simp_all

theorem pop_one {n : Nat} (hn : n ≤ 6) {a b : Cu} (ha : a.Ok n) (hp : popU (againstC a b) = 1) : ∃ i, i < n ∧ againstC a b = 1#64 <<< i ∧ oppAt a b i = true := by
  rw [← opp_pop hn ha] at hp
  obtain ⟨i, hi⟩ := List.length_eq_one_iff.1 hp
  have hmem : i ∈ oppL a b n := by rw [hi]; simp
  rw [oppL, List.mem_filter] at hmem
  have hik := List.mem_range.1 hmem.1
  refine ⟨i, hik, ?_, hmem.2⟩
  apply BitVec.eq_of_getLsbD_eq
  intro j hj
  rw [against_bit, shl1_bit (by omega)]
  by_cases e : j = i
  · subst e; simp [hmem.2]
  · cases ho : oppAt a b j with
    | false => simp [e]
    | true =>
      have : j ∈ oppL a b n := by rw [oppL, List.mem_filter]; exact ⟨List.mem_range.2 (opp_range hn ha hj ho), ho⟩
      rw [hi] at this
      simp at this; exact absurd this e
theorem pop_zero : popU 0#64 = 0 := by unfold popU; decide
theorem cons_symm (a b : Cu) : againstC a b = againstC b a := by
  rw [againstC, againstC, BitVec.and_comm a.care, BitVec.xor_comm]

theorem Cu.Ok.but {n : Nat} {c : Cu} (hc : c.Ok n) (u : U) : (⟨c.care &&& ~~~ u, c.value &&& ~~~ u⟩ : Cu).Ok n := by
  constructor
  · rw [eq0_iff]; intro i hi
    have h1 := (eq0_iff _).1 hc.care i hi
    simp only [BitVec.getLsbD_and, BitVec.getLsbD_not] at h1 ⊢
    revert h1
    cases c.care.getLsbD i <;> cases u.getLsbD i <;> simp
  · rw [eq0_iff]; intro i hi
    have h1 := (eq0_iff _).1 hc.value i hi
    simp only [BitVec.getLsbD_and, BitVec.getLsbD_not] at h1 ⊢
    revert h1
    cases c.care.getLsbD i <;> cases c.value.getLsbD i <;> cases u.getLsbD i <;> simp
/-- the consensus -/
def consCube (a b : Cu) : Cu := ⟨(a.care ||| b.care) &&& ~~~ againstC a b, (a.value ||| b.value) &&& ~~~ againstC a b⟩
theorem consCube_ok {n : Nat} {a b : Cu} (ha : a.Ok n) (hb : b.Ok n) : (consCube a b).Ok n := (ha.both hb).but _
theorem consCube_symm (a b : Cu) : consCube a b = consCube b a := by
  rw [consCube, consCube, cons_symm a b, BitVec.or_comm a.care, BitVec.or_comm a.value]

theorem cons_has {n : Nat} (hn : n ≤ 6) {a b : Cu} (ha : a.Ok n) (hb : b.Ok n) {i : Nat} (hi : i < n) (he : againstC a b = 1#64 <<< i) {k : Nat} (hk : hasC (consCube a b) (k : Int) = true) (hki : k.testBit i = a.value.getLsbD i) : hasC a (k : Int) = true := by
  have hi64 : i < 64 := by omega
  rw [has_iff ha]
  intro j hj hc
  by_cases e : j = i
  · subst e; exact hki
  · have ho : oppAt a b j = false := by rw [← against_bit, he, shl1_bit hi64]; simp [e]
    have h1 : (consCube a b).care.getLsbD j = true := by
      simp only [consCube, he, BitVec.getLsbD_and, BitVec.getLsbD_or, BitVec.getLsbD_not, shl1_bit hi64, hc]; simp [e, hj]
    have h2 := (has_iff (consCube_ok ha hb) k).1 hk j hj h1
    rw [h2]
    simp only [consCube, he, BitVec.getLsbD_and, BitVec.getLsbD_or, BitVec.getLsbD_not, shl1_bit hi64]
    cases h3 : b.care.getLsbD j with
    | true => rw [opp_false ho hc h3]; simp [e, hj]
    | false => rw [value_off hb hj h3]; simp [e, hj]
theorem cons_in {n : Nat} (hn : n ≤ 6) {a b : Cu} (ha : a.Ok n) (hb : b.Ok n) (hp : popU (againstC a b) = 1) {k : Nat} (hk : hasC (consCube a b) (k : Int) = true) : hasC a (k : Int) = true ∨ hasC b (k : Int) = true := by
  obtain ⟨i, hi, he, ho⟩ := pop_one hn ha hp
  rw [oppAt, BitVec.getLsbD_and, Bool.and_eq_true, Bool.and_eq_true] at ho
  by_cases h : k.testBit i = a.value.getLsbD i
  · exact .inl (cons_has hn ha hb hi he hk h)
  · refine .inr (cons_has hn hb ha hi (by rw [cons_symm]; exact he) (by rw [consCube_symm]; exact hk) ?_)
    have := ho.2
    revert h this
    cases k.testBit i <;> cases a.value.getLsbD i <;> cases b.value.getLsbD i <;> simp
theorem cons_meets {n : Nat} (hn : n ≤ 6) {a b : Cu} (ha : a.Ok n) (hb : b.Ok n) (hp : popU (againstC a b) = 1) : ∃ k : Nat, k < 2 ^ n ∧ hasC (consCube a b) (k : Int) = true ∧ hasC a (k : Int) = true := by
  obtain ⟨i, hi, he, ho⟩ := pop_one hn ha hp
  have hi64 : i < 64 := by omega
  have hD := consCube_ok ha hb
  have hv : ∀ j, ((consCube a b).value ||| (a.value &&& 1#64 <<< i)).getLsbD j = ((consCube a b).value.getLsbD j || (a.value.getLsbD j && decide (j = i))) := fun j => by
    rw [BitVec.getLsbD_or, BitVec.getLsbD_and, shl1_bit hi64]
  have hDi : (consCube a b).care.getLsbD i = false := by
    simp only [consCube, he, BitVec.getLsbD_and, BitVec.getLsbD_or, BitVec.getLsbD_not, shl1_bit hi64]; simp
  have h1 : hasC (consCube a b) (((consCube a b).value ||| (a.value &&& 1#64 <<< i)).toNat : Int) = true := (has_iff hD _).2 fun j hj hc => by
    rw [toNat_bit, hv]
    have : j ≠ i := fun e => by rw [e, hDi] at hc; cases hc
    simp [this]
  refine ⟨_, lt_pow hn fun j hj h => ?_, h1, cons_has hn ha hb hi he h1 ?_⟩
  · rw [hv, Bool.or_eq_true, Bool.and_eq_true] at h
    rcases h with h | ⟨h, _⟩
    · exact hD.care_bit hn hj (hD.value_bit hj h)
    · exact ha.care_bit hn hj (ha.value_bit hj h)
  · rw [toNat_bit, hv, value_off hD hi64 hDi]; simp
theorem cons_pts {n : Nat} (hn : n ≤ 6) {a b : Cu} (ha : a.Ok n) (hb : b.Ok n) (hp : popU (againstC a b) = 1) :
    ptsC (consCube a b) (2 ^ n) &&& ~~~ (ptsC a (2 ^ n) ||| ptsC b (2 ^ n)) = 0#64 ∧ ptsC (consCube a b) (2 ^ n) &&& ptsC a (2 ^ n) ≠ 0#64 ∧ ptsC (consCube a b) (2 ^ n) &&& ptsC b (2 ^ n) ≠ 0#64 := by
  refine ⟨?_, (pts_and hn _ _).2 (cons_meets hn ha hb hp), ?_⟩
  · rw [eq0_iff]; intro i hi
    rw [BitVec.getLsbD_and, BitVec.getLsbD_not, BitVec.getLsbD_or, pts_bit hn, pts_bit hn, pts_bit hn]
    by_cases hk : i < 2 ^ n
    · cases h1 : hasC (consCube a b) (i : Int) with
      | false => simp
      | true => rcases cons_in hn ha hb hp h1 with h2 | h2 <;> simp [h2, hk]
    · simp [hk]
  · have := cons_meets hn hb ha (by rw [cons_symm]; exact hp)
    rw [consCube_symm] at this
    exact (pts_and hn _ _).2 this

end Go.Sx.Pn

namespace Go.Sx.Pn
open Go Go.Proofs

section
variable {z : Int} (hz : z = 0) {n : Nat}
include hz
end

def meetsLaw : Spec := fnS (fun x : Int × Cu × Cu => [iA x.1, cA x.2.1, cA x.2.2]) (fun _ => True) (fun _ => bP true)
end Go.Sx.Pn
