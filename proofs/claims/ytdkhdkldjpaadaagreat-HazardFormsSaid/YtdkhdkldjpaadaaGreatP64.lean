/- Laws of chapter 8: what hazard.Form computes has the function and no hazards. HazardPrimes, walked. -/
import Derived.Test.YtdkhdkldjpaadaaGreatP61
import Derived.Test.YtdkhdkldjpaadaaGreatP63
import Derived.Test.YtdkhdkldjpaadaaGreatP56
set_option maxHeartbeats 1000000
set_option maxRecDepth 4000
set_option linter.unusedSimpArgs false
set_option linter.unusedVariables false
namespace Go.Sx.Pn
open Go Go.Proofs

theorem chkT_high {n : Nat} (hn : n ≤ 6) {b : U} (h : chkT ⟨n, b⟩ = 0) {k : Nat} (hk : 2 ^ n ≤ k) : b.getLsbD k = false := by
  by_cases h64 : k < 64
  · exact tb_high hn (t := ⟨n, b⟩) rfl h hk h64
  · exact BitVec.getLsbD_of_ge _ _ (by omega)
theorem chkT_lt {n : Nat} (hn : n ≤ 6) {b : U} (h : chkT ⟨n, b⟩ = 0) : b.toNat < 2 ^ 2 ^ n := Nat.lt_pow_two_of_testBit _ fun k hk => chkT_high hn h hk
theorem point_in_prime {n : Nat} (hn : n ≤ 6) {t : U} {k : Nat} (hk : k < 2 ^ n) (h : t.getLsbD k = true) : ∃ c ∈ prL n t, hasC c (k : Int) = true := by
  have h1 := primes_cover hn (tk n t) hk h
  obtain ⟨i, hi, h2⟩ := (once_any hn _ hk _).1 h1
  exact ⟨_, getC_mem hi, h2⟩
theorem pr_tab {n : Nat} (hn : n ≤ 6) {t : U} (ht : chkT ⟨n, t⟩ = 0) : tabU (prL n t) (2 ^ n) = t := by
  apply BitVec.eq_of_getLsbD_eq
  intro k _
  rw [tab_bit _ _ (pow_le64 hn)]
  by_cases hk : k < 2 ^ n
  · simp only [hk, decide_true, Bool.true_and]
    rw [Bool.eq_iff_iff, List.any_eq_true]
    exact ⟨fun ⟨c, hc, h⟩ => pr_in hn hc hk h, fun h => point_in_prime hn hk h⟩
  · simp only [hk, decide_false, Bool.false_and]
    exact (chkT_high hn ht (by omega)).symm
theorem pr_bad {n : Nat} (hn : n ≤ 6) {t : U} (ht : chkT ⟨n, t⟩ = 0) : badL n (prL n t) = [] := by
  rw [List.eq_nil_iff_forall_not_mem]
  intro p hp
  have h1 := bad_prime hn (prL n t) p hp
  rw [pr_tab hn ht] at h1
  unfold badL at hp
  have h2 := (List.mem_filter.1 hp).2
  obtain ⟨c, hc, h3⟩ := List.any_eq_true.1 h1
  have : togC (prL n t) p = true := by
    unfold togC at h3 ⊢
    rw [List.any_cons, List.any_nil, Bool.or_false] at h3
    exact List.any_eq_true.2 ⟨c, hc, h3⟩
  rw [this] at h2; cases h2
theorem full_bit {k i : Nat} (h : i < k) : (2 ^ k - 1).testBit i = true := by rw [Nat.testBit_two_pow_sub_one]; simpa using h
theorem ch_full (l : List Cu) : chL l (2 ^ l.length - 1) = l := by
  unfold chL chTo
  have e : (List.range l.length).filter (fun i => (2 ^ l.length - 1).testBit i) = List.range l.length := by
    rw [List.filter_eq_self]
    intro i hi
    exact full_bit (List.mem_range.1 hi)
  rw [e]
  apply List.ext_getElem
  · simp
  · intro i h1 h2
    simp [List.getD_eq_getElem?_getD, h2]
theorem fTo_good {n : Nat} {t : U} {all : List Cu} (h : all.length ≤ 16) (hg : goodL n t all) : ∀ w, w ≤ 2 ^ all.length - 1 → goodL n t (chL all (fTo n t all w).1.toNat)
  | 0, _ => by
    rw [show (fTo n t all 0).1 = 1#64 <<< all.length - 1#64 from rfl, full_nat h, ch_full]; exact hg
  | w + 1, hw => by
    have h1 := pow16 h
    rw [fTo, fStep]
    split
    · rename_i h2
      show goodL n t (chL all (BitVec.ofNat 64 w).toNat)
      rw [ofNat_nat (by omega)]; exact h2.2.1
    · exact fTo_good h hg w (by omega)
theorem form_good {n : Nat} (hn : n ≤ 6) {t : U} (ht : chkT ⟨n, t⟩ = 0) (h : (prL n t).length ≤ 16) : goodL n t (formL n t) := fTo_good h ⟨pr_tab hn ht, pr_bad hn ht⟩ _ (Nat.le_refl _)
theorem form_len (n : Nat) (t : U) : (formL n t).length ≤ (prL n t).length := ch_len_le _ _ _
theorem form_ok_n {n : Nat} (hn : n ≤ 6) {t : U} : ∀ c ∈ formL n t, c.Ok n := fun c hc => pr_ok hn (ch_mem hc)

def primes8Law : Spec := fnS (fun x : Tb => [tA x]) (fun _ => True) (fun _ => bP true)
end Go.Sx.Pn
