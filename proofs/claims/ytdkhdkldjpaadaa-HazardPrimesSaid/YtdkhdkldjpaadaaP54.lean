/- Plain facts for the laws of chapter 8. -/
import Derived.Test.YtdkhdkldjpaadaaP53
set_option maxHeartbeats 1000000
set_option maxRecDepth 4000
set_option linter.unusedSimpArgs false
set_option linter.unusedVariables false
namespace Go.Sx.Pn
open Go Go.Proofs

theorem firstE_ok {n : Nat} (hn : n ≤ 6) {l : List Cu} (h : ∀ c ∈ l, c.Ok n) : ∀ m, m ≤ l.length → firstE n l m = 0
  | 0, _ => rfl
  | m + 1, hm => by
    rw [firstE, if_pos (firstE_ok hn h m (by omega))]
    exact ok_chk hn (h _ (getC_mem (by omega)))
theorem chkN_of {n : Nat} (hn : n ≤ 6) {l : List Cu} (hl : l.length ≤ 256) (h : ∀ c ∈ l, c.Ok n) : chkN n l = 0 := by
  rw [chkN, if_neg (by omega), if_neg (by omega), chkL, if_neg (by omega)]
  exact firstE_ok hn h _ (Nat.le_refl _)
theorem pr_ok {n : Nat} (hn : n ≤ 6) {b : U} {c : Cu} (h : c ∈ prL n b) : c.Ok n := ((mem_primes hn).1 h).1
theorem pr_in {n : Nat} (hn : n ≤ 6) {b : U} {c : Cu} (h : c ∈ prL n b) {k : Nat} (hk : k < 2 ^ n) (hc : hasC c (k : Int) = true) : b.getLsbD k = true := by
  have := (implies_iff hn _ c).1 (prime_parts ((mem_primes hn).1 h).2).2.1 k hk hc
  rw [BitVec.getLsbD_or] at this
  simpa [tk] using this
/- changes -/
/- a change of a single variable -/
end Go.Sx.Pn
