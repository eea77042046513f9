/- Plain facts for ImplicantGrows. -/
import Derived.Test.YtdkhdkldjpaadaaP40
set_option maxHeartbeats 1000000
set_option maxRecDepth 4000
set_option linter.unusedSimpArgs false
set_option linter.unusedVariables false
namespace Go.Sx.Pn
open Go Go.Proofs

theorem heldC_any {n : Nat} {x : Tk} {l : List Cu} {c d : Cu} (hd : d ∈ l) (h : insideC c d = true) : heldC n x l c = true := by
  unfold heldC
  rw [List.any_eq_true.2 ⟨d, hd, h⟩, Bool.or_true]
/-- a cube that implies the task is held -/
theorem held_imp {n : Nat} (hn : n ≤ 6) {x : Tk} {c : Cu} (hc : c.Ok n) (himp : impliesU n x c = true) : heldC n x (primesL n x) c = true := by
  cases ht : (ptsC c (2 ^ n) &&& x.on.bits == 0#64) with
  | true => unfold heldC; rw [ht, Bool.true_or]
  | false =>
    have ht2 : (ptsC c (2 ^ n) &&& x.on.bits) ≠ 0#64 := by simpa using ht
    have : ∃ k : Nat, k < 64 ∧ (ptsC c (2 ^ n) &&& x.on.bits).getLsbD k = true := by
      refine Classical.byContradiction fun hno => ht2 (BitVec.eq_of_getLsbD_eq fun k hk => ?_)
      cases h : (ptsC c (2 ^ n) &&& x.on.bits).getLsbD k with
      | false => simp
      | true => exact absurd ⟨k, hk, h⟩ hno
    obtain ⟨k, hk, h⟩ := this
    rw [BitVec.getLsbD_and, pts_bit hn, Bool.and_eq_true, Bool.and_eq_true, decide_eq_true_eq] at h
    obtain ⟨p, hp, _, hsub⟩ := prime_over hn x h.1.1 h.2 (c.care.toNat + 1) c (Nat.lt_succ_self _) hc h.1.2 himp
    have hpo := ((mem_primes hn).1 hp).1
    refine heldC_any hp ?_
    rw [inside_pts hn hc hpo, beq_iff_eq, pts_sub hn]
    exact fun j _ hj => hsub j hj
/-- a held cube that does not imply the task has no point of it -/
theorem held_not {n : Nat} (hn : n ≤ 6) {x : Tk} {c : Cu} (hc : c.Ok n) (himp : impliesU n x c = false) (hh : heldC n x (primesL n x) c = true) : x.on.bits &&& ptsC c (2 ^ n) = 0#64 := by
  unfold heldC at hh
  rw [Bool.or_eq_true] at hh
  rcases hh with h | h
  · rw [BitVec.and_comm]; simpa using h
  · obtain ⟨d, hd, hin⟩ := List.any_eq_true.1 h
    obtain ⟨hdo, hp⟩ := (mem_primes hn).1 hd
    rw [inside_pts hn hc hdo, beq_iff_eq, pts_sub hn] at hin
    have hi := (implies_iff hn x d).1 (prime_parts hp).2.1
    have : impliesU n x c = true := (implies_iff hn x c).2 fun k hk h => hi k hk (hin k hk h)
    rw [this] at himp; cases himp
theorem cons_imp {n : Nat} (hn : n ≤ 6) {x : Tk} {a b : Cu} (ha : a.Ok n) (hb : b.Ok n) (hp : popU (againstC a b) = 1) (h1 : impliesU n x a = true) (h2 : impliesU n x b = true) : impliesU n x (consCube a b) = true := by
  refine (implies_iff hn x _).2 fun k hk h => ?_
  rcases cons_in hn ha hb hp h with h | h
  · exact (implies_iff hn x a).1 h1 k hk h
  · exact (implies_iff hn x b).1 h2 k hk h
theorem primes_chk {n : Nat} (hn : n ≤ 6) (x : Tk) : allChk n (primesL n x) := fun j hj => ok_chk hn (prime_at hn x hj).1
theorem primes_imp {n : Nat} (hn : n ≤ 6) {x : Tk} {c : Cu} (h : c ∈ primesL n x) : impliesU n x c = true := (prime_parts ((mem_primes hn).1 h).2).2.1

end Go.Sx.Pn
