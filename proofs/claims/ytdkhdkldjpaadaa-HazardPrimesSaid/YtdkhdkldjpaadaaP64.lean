/- Laws of chapter 8: what hazard.Form computes has the function and no hazards. HazardPrimes, walked. -/
import Derived.Test.YtdkhdkldjpaadaaP61
import Derived.Test.YtdkhdkldjpaadaaP63
import Derived.Test.YtdkhdkldjpaadaaP56
set_option maxHeartbeats 1000000
set_option maxRecDepth 4000
set_option linter.unusedSimpArgs false
set_option linter.unusedVariables false
namespace Go.Sx.Pn
open Go Go.Proofs

theorem chkT_high {n : Nat} (hn : n ≤ 6) {b : U} (h : chkT ⟨n, b⟩ = 0) {k : Nat} (hk : 2 ^ n ≤ k) : b.getLsbD k = false := by
  by_cases h64 : k < 64
  · exact tb_high hn (t := ⟨n, b⟩) rfl h hk h64
  · exact BitVec.getLsbD_of_ge _ _ (by omega)
theorem chkT_lt {n : Nat} (hn : n ≤ 6) {b : U} (h : chkT ⟨n, b⟩ = 0) : b.toNat < 2 ^ 2 ^ n := Nat.lt_pow_two_of_testBit _ fun k hk => chkT_high hn h hk
theorem point_in_prime {n : Nat} (hn : n ≤ 6) {t : U} {k : Nat} (hk : k < 2 ^ n) (h : t.getLsbD k = true) : ∃ c ∈ prL n t, hasC c (k : Int) = true := by
  have h1 := primes_cover hn (tk n t) hk h
  obtain ⟨i, hi, h2⟩ := (once_any hn _ hk _).1 h1
  exact ⟨_, getC_mem hi, h2⟩
theorem pr_tab {n : Nat} (hn : n ≤ 6) {t : U} (ht : chkT ⟨n, t⟩ = 0) : tabU (prL n t) (2 ^ n) = t := by
  apply BitVec.eq_of_getLsbD_eq
  intro k _
  rw [tab_bit _ _ (pow_le64 hn)]
  by_cases hk : k < 2 ^ n
  · simp only [hk, decide_true, Bool.true_and]
    rw [Bool.eq_iff_iff, List.any_eq_true]
    exact ⟨fun ⟨c, hc, h⟩ => pr_in hn hc hk h, fun h => point_in_prime hn hk h⟩
  · simp only [hk, decide_false, Bool.false_and]
    exact (chkT_high hn ht (by omega)).symm
theorem pr_bad {n : Nat} (hn : n ≤ 6) {t : U} (ht : chkT ⟨n, t⟩ = 0) : badL n (prL n t) = [] := by
  rw [List.eq_nil_iff_forall_not_mem]
  intro p hp
  have h1 := bad_prime hn (prL n t) p hp
  rw [pr_tab hn ht] at h1
  unfold badL at hp
  have h2 := (List.mem_filter.1 hp).2
  obtain ⟨c, hc, h3⟩ := List.any_eq_true.1 h1
  have : togC (prL n t) p = true := by
    unfold togC at h3 ⊢
    rw [List.any_cons, List.any_nil, Bool.or_false] at h3
    exact List.any_eq_true.2 ⟨c, hc, h3⟩
  rw [this] at h2; cases h2
theorem full_bit {k i : Nat} (h : i < k) : (2 ^ k - 1).testBit i = true := by rw [Nat.testBit_two_pow_sub_one]; simpa using h
theorem ch_full (l : List Cu) : chL l (2 ^ l.length - 1) = l := by
  unfold chL chTo
  have e : (List.range l.length).filter (fun i => (2 ^ l.length - 1).testBit i) = List.range l.length := by
    rw [List.filter_eq_self]
    intro i hi
    exact full_bit (List.mem_range.1 hi)
  rw [e]
  apply List.ext_getElem
  · simp
  · intro i h1 h2
    simp [List.getD_eq_getElem?_getD, h2]
theorem fTo_good {n : Nat} {t : U} {all : List Cu} (h : all.length ≤ 16) (hg : goodL n t all) : ∀ w, w ≤ 2 ^ all.length - 1 → goodL n t (chL all (fTo n t all w).1.toNat)
  | 0, _ => by
    rw [show (fTo n t all 0).1 = 1#64 <<< all.length - 1#64 from rfl, full_nat h, ch_full]; exact hg
  | w + 1, hw => by
    have h1 := pow16 h
    rw [fTo, fStep]
    split
    · rename_i h2
      show goodL n t (chL all (BitVec.ofNat 64 w).toNat)
      rw [ofNat_nat (by omega)]; exact h2.2.1
    · exact fTo_good h hg w (by omega)
theorem form_good {n : Nat} (hn : n ≤ 6) {t : U} (ht : chkT ⟨n, t⟩ = 0) (h : (prL n t).length ≤ 16) : goodL n t (formL n t) := fTo_good h ⟨pr_tab hn ht, pr_bad hn ht⟩ _ (Nat.le_refl _)
theorem form_len (n : Nat) (t : U) : (formL n t).length ≤ (prL n t).length := ch_len_le _ _ _
theorem form_ok_n {n : Nat} (hn : n ≤ 6) {t : U} : ∀ c ∈ formL n t, c.Ok n := fun c hc => pr_ok hn (ch_mem hc)

def primes8Law : Spec := fnS (fun x : Tb => [tA x]) (fun _ => True) (fun _ => bP true)
theorem primes8_law : FnOk Try.prog 16 primes8Law := by
  refine fnOk (Tb := tab) mixed tab_ok Try.func16 rfl rfl ?_
  rintro ⟨n, t⟩ hpre
  refine ai (ai rfl (ai rfl rfl)) ?_
  refine ei _ (ai rtcheck_ok (ei (⟨n, t⟩) (ei [] (ai (ai rfl (ai rfl (ai rfl (ai rfl (ai (fun _ => Or.inl rfl) (ai (by first | exact nof | exact (fun _ => ai rfl rfl)) (by first | exact Or.inl rfl | exact Or.inr rfl))))))) (ai (by (repeat' (first | with_reducible rfl | exact trivial | refine ai ?_ ?_ | (show (_ : Int) = _; first | with_reducible rfl | exact wr1 (by omega) | (simp only [zz, reduceCtorEq] <;> first | done | rfl | omega) | omega | rfl) | exact rfl | exact (fun _ => rfl) | exact (fun _ _ => rfl) | exact nof))) (ai trivial (ai (trivial) ?_)))))))
  refine bcase_n (p := chkT ⟨n, t⟩ = 0) (by first | (with_reducible refine bif_lt ?_; omega) | (with_reducible refine bif_le ?_; omega) | (with_reducible refine bif_eq ?_; omega) | (with_reducible refine bif_ne ?_; omega) | exact b8_eq rfl | exact b8_ne rfl | exact bif_lt (by omega) | exact bif_le (by omega) | exact bif_eq (by omega) | exact bif_ne (by omega) | exact Iff.rfl | (simp only [zz, reduceCtorEq] <;> first | done | omega | exact Iff.rfl) | (simp; done) | (simp; omega)) (fun h1 => ?_) (fun h1 => ?_)
  · skip
    refine ei _ (ai awake8_ok (ei (()) (ei [] (ai (ai rfl (ai rfl (ai rfl (ai rfl (ai (fun _ => Or.inl rfl) (ai (by first | exact nof | exact (fun _ => ai rfl rfl)) (by first | exact Or.inl rfl | exact Or.inr rfl))))))) (ai (by (repeat' (first | with_reducible rfl | exact trivial | refine ai ?_ ?_ | (show (_ : Int) = _; first | with_reducible rfl | exact wr1 (by omega) | (simp only [zz, reduceCtorEq] <;> first | done | rfl | omega) | omega | rfl) | exact rfl | exact (fun _ => rfl) | exact (fun _ _ => rfl) | exact nof))) (ai trivial (ai (trivial) ?_)))))))
    refine ai (ai (fun _ => (by (repeat' (first | exact rfl | exact trivial | exact (fun _ => rfl) | exact (fun _ _ => rfl) | exact nof | refine ai ?_ ?_)))) ?_) trivial
    any_goals (repeat' (first | with_reducible rfl | exact trivial | refine ai ?_ ?_ | (show (_ : Int) = _; first | with_reducible rfl | exact wr1 (by omega) | (simp only [zz, reduceCtorEq] <;> first | done | rfl | omega) | omega | rfl) | exact rfl | exact (fun _ => rfl) | exact (fun _ _ => rfl) | exact nof))
  refine bcase_p (p := 4 < n) (by first | (with_reducible refine bif_lt ?_; omega) | (with_reducible refine bif_le ?_; omega) | (with_reducible refine bif_eq ?_; omega) | (with_reducible refine bif_ne ?_; omega) | exact b8_eq rfl | exact b8_ne rfl | exact bif_lt (by omega) | exact bif_le (by omega) | exact bif_eq (by omega) | exact bif_ne (by omega) | exact Iff.rfl | (simp only [zz, reduceCtorEq] <;> first | done | omega | exact Iff.rfl) | (simp; done) | (simp; omega)) (fun h2 => ?_) (fun h2 => ?_)
  · skip
    refine ei _ (ai awake8_ok (ei (()) (ei [] (ai (ai rfl (ai rfl (ai rfl (ai rfl (ai (fun _ => Or.inl rfl) (ai (by first | exact nof | exact (fun _ => ai rfl rfl)) (by first | exact Or.inl rfl | exact Or.inr rfl))))))) (ai (by (repeat' (first | with_reducible rfl | exact trivial | refine ai ?_ ?_ | (show (_ : Int) = _; first | with_reducible rfl | exact wr1 (by omega) | (simp only [zz, reduceCtorEq] <;> first | done | rfl | omega) | omega | rfl) | exact rfl | exact (fun _ => rfl) | exact (fun _ _ => rfl) | exact nof))) (ai trivial (ai (trivial) ?_)))))))
    refine ai (ai (fun _ => (by (repeat' (first | exact rfl | exact trivial | exact (fun _ => rfl) | exact (fun _ _ => rfl) | exact nof | refine ai ?_ ?_)))) ?_) trivial
    any_goals (repeat' (first | with_reducible rfl | exact trivial | refine ai ?_ ?_ | (show (_ : Int) = _; first | with_reducible rfl | exact wr1 (by omega) | (simp only [zz, reduceCtorEq] <;> first | done | rfl | omega) | omega | rfl) | exact rfl | exact (fun _ => rfl) | exact (fun _ _ => rfl) | exact nof))
  obtain ⟨k, hk, e, _⟩ := chkT_zero h1
  obtain rfl : n = k := e
  have hk4 : k ≤ 4 := by omega
  have h16 := few16 hk4 (chkT_lt hk h1)
  obtain ⟨z, hz⟩ : ∃ z : Int, z = 0 := ⟨0, rfl⟩
  have hp1 := pr_tab hk h1
  have hp2 := pr_bad hk h1
  obtain ⟨hf1, hf2⟩ := form_good hk h1 h16
  have hfl := form_len k t
  have hpo : chkN k (prL k t) = 0 := chkN_of hk (by omega) fun c hc => pr_ok hk hc
  have hfo : chkN k (formL k t) = 0 := chkN_of hk (by omega) (form_ok_n hk)
  have c1 := primes_at hz (chkK_tk hk h1) (x := tk k t) rfl
  have c2 := fnS_at form_ok (k, t) ⟨hk, h1, h16⟩ (r := .tup [csP (formL k t), iP z]) (by show PV.tup [csP (formL k t), iP 0] = _; rw [hz])
  rw [show primesL k (tk k t) = prL k t from rfl] at c1
  generalize formL k t = F at *
  generalize prL k t = L at *
  refine ei _ (ai c1 (ei (()) (ei [] (ai (ai rfl (ai rfl (ai rfl (ai rfl (ai (fun _ => Or.inl rfl) (ai (by first | exact nof | exact (fun _ => ai rfl rfl)) (by first | exact Or.inl rfl | exact Or.inr rfl))))))) (ai (by (repeat' (first | with_reducible rfl | exact trivial | refine ai ?_ ?_ | (show (_ : Int) = _; first | with_reducible rfl | exact wr1 (by omega) | (simp only [zz, reduceCtorEq] <;> first | done | rfl | omega) | omega | rfl) | exact rfl | exact (fun _ => rfl) | exact (fun _ _ => rfl) | exact nof))) (ai trivial (ai (trivial) ?_)))))))
  refine ei _ (ai c2 (ei (()) (ei [] (ai (ai rfl (ai rfl (ai rfl (ai rfl (ai (fun _ => Or.inl rfl) (ai (by first | exact nof | exact (fun _ => ai rfl rfl)) (by first | exact Or.inl rfl | exact Or.inr rfl))))))) (ai (by (repeat' (first | with_reducible rfl | exact trivial | refine ai ?_ ?_ | (show (_ : Int) = _; first | with_reducible rfl | exact wr1 (by omega) | (simp only [zz, reduceCtorEq] <;> first | done | rfl | omega) | omega | rfl) | exact rfl | exact (fun _ => rfl) | exact (fun _ _ => rfl) | exact nof))) (ai trivial (ai (trivial) ?_)))))))
  refine bcase_b (b := false) (by (first | (simp only [beq_self_eq_true, Bool.and_true, Bool.and_self]; done) | (simp only [hz, Int.add_zero, wrap_z]; done) | (simp only [hz, Int.add_zero, wrap_z]; rfl) | decide | rfl | decide | (simp; done))) (fun h => absurd h (by decide)) (fun _ => ?_)
  refine bcase_b (b := false) (by (first | (simp only [beq_self_eq_true, Bool.and_true, Bool.and_self]; done) | (simp only [hz, Int.add_zero, wrap_z]; done) | (simp only [hz, Int.add_zero, wrap_z]; rfl) | decide | rfl | decide | (simp; done))) (fun h => absurd h (by decide)) (fun _ => ?_)
  refine bcase_p (p := L.length < F.length) (by first | (with_reducible refine bif_lt ?_; omega) | (with_reducible refine bif_le ?_; omega) | (with_reducible refine bif_eq ?_; omega) | (with_reducible refine bif_ne ?_; omega) | exact b8_eq rfl | exact b8_ne rfl | exact bif_lt (by omega) | exact bif_le (by omega) | exact bif_eq (by omega) | exact bif_ne (by omega) | exact Iff.rfl | (simp only [zz, reduceCtorEq] <;> first | done | omega | exact Iff.rfl) | (simp; done) | (simp; omega)) (fun h3 => ?_) (fun h3 => ?_)
  · omega
  have t1 := tab_at8 hz hpo hp1 (by omega)
  have t2 := haz_at8 hz hpo hp2 (by omega)
  have t3 := tab_at8 hz hfo hf1 (by omega)
  have t4 := haz_at8 hz hfo hf2 (by omega)
  refine ei (LAnn.unroll 3) ?_
  refine ai (ai (by decide) (by decide)) ?_
  refine ai (by decide) ?_
  refine ei _ (ai t1 (ei (()) (ei [] (ai (ai rfl (ai rfl (ai rfl (ai rfl (ai (fun _ => Or.inl rfl) (ai (by first | exact nof | exact (fun _ => ai rfl rfl)) (by first | exact Or.inl rfl | exact Or.inr rfl))))))) (ai (by (repeat' (first | with_reducible rfl | exact trivial | refine ai ?_ ?_ | (show (_ : Int) = _; first | with_reducible rfl | exact wr1 (by omega) | (simp only [zz, reduceCtorEq] <;> first | done | rfl | omega) | omega | rfl) | exact rfl | exact (fun _ => rfl) | exact (fun _ _ => rfl) | exact nof))) (ai trivial (ai (trivial) ?_)))))))
  refine ei _ (ai t2 (ei (()) (ei [] (ai (ai rfl (ai rfl (ai rfl (ai rfl (ai (fun _ => Or.inl rfl) (ai (by first | exact nof | exact (fun _ => ai rfl rfl)) (by first | exact Or.inl rfl | exact Or.inr rfl))))))) (ai (by (repeat' (first | with_reducible rfl | exact trivial | refine ai ?_ ?_ | (show (_ : Int) = _; first | with_reducible rfl | exact wr1 (by omega) | (simp only [zz, reduceCtorEq] <;> first | done | rfl | omega) | omega | rfl) | exact rfl | exact (fun _ => rfl) | exact (fun _ _ => rfl) | exact nof))) (ai trivial (ai (trivial) ?_)))))))
  refine bcase_b (b := false) (by (first | (simp only [beq_self_eq_true, Bool.and_true, Bool.and_self]; done) | (simp only [hz, Int.add_zero, wrap_z]; done) | (simp only [hz, Int.add_zero, wrap_z]; rfl) | decide | rfl | decide | (simp; done))) (fun h => absurd h (by decide)) (fun _ => ?_)
  refine bcase_b (b := false) (by (first | (simp only [beq_self_eq_true, Bool.and_true, Bool.and_self]; done) | (simp only [hz, Int.add_zero, wrap_z]; done) | (simp only [hz, Int.add_zero, wrap_z]; rfl) | decide | rfl | decide | (simp; done))) (fun h => absurd h (by decide)) (fun _ => ?_)
  refine bcase_b (b := false) (by (first | (simp only [beq_self_eq_true, Bool.and_true, Bool.and_self]; done) | (simp only [hz, Int.add_zero, wrap_z]; done) | (simp only [hz, Int.add_zero, wrap_z]; rfl) | decide | rfl | decide | (simp; done))) (fun h => absurd h (by decide)) (fun _ => ?_)
  refine ai (ai (by decide) (by decide)) ?_
  refine ai (by decide) ?_
  refine ei _ (ai t3 (ei (()) (ei [] (ai (ai rfl (ai rfl (ai rfl (ai rfl (ai (fun _ => Or.inl rfl) (ai (by first | exact nof | exact (fun _ => ai rfl rfl)) (by first | exact Or.inl rfl | exact Or.inr rfl))))))) (ai (by (repeat' (first | with_reducible rfl | exact trivial | refine ai ?_ ?_ | (show (_ : Int) = _; first | with_reducible rfl | exact wr1 (by omega) | (simp only [zz, reduceCtorEq] <;> first | done | rfl | omega) | omega | rfl) | exact rfl | exact (fun _ => rfl) | exact (fun _ _ => rfl) | exact nof))) (ai trivial (ai (trivial) ?_)))))))
  refine ei _ (ai t4 (ei (()) (ei [] (ai (ai rfl (ai rfl (ai rfl (ai rfl (ai (fun _ => Or.inl rfl) (ai (by first | exact nof | exact (fun _ => ai rfl rfl)) (by first | exact Or.inl rfl | exact Or.inr rfl))))))) (ai (by (repeat' (first | with_reducible rfl | exact trivial | refine ai ?_ ?_ | (show (_ : Int) = _; first | with_reducible rfl | exact wr1 (by omega) | (simp only [zz, reduceCtorEq] <;> first | done | rfl | omega) | omega | rfl) | exact rfl | exact (fun _ => rfl) | exact (fun _ _ => rfl) | exact nof))) (ai trivial (ai (trivial) ?_)))))))
  refine bcase_b (b := false) (by (first | (simp only [beq_self_eq_true, Bool.and_true, Bool.and_self]; done) | (simp only [hz, Int.add_zero, wrap_z]; done) | (simp only [hz, Int.add_zero, wrap_z]; rfl) | decide | rfl | decide | (simp; done))) (fun h => absurd h (by decide)) (fun _ => ?_)
  refine bcase_b (b := false) (by (first | (simp only [beq_self_eq_true, Bool.and_true, Bool.and_self]; done) | (simp only [hz, Int.add_zero, wrap_z]; done) | (simp only [hz, Int.add_zero, wrap_z]; rfl) | decide | rfl | decide | (simp; done))) (fun h => absurd h (by decide)) (fun _ => ?_)
  refine bcase_b (b := false) (by (first | (simp only [beq_self_eq_true, Bool.and_true, Bool.and_self]; done) | (simp only [hz, Int.add_zero, wrap_z]; done) | (simp only [hz, Int.add_zero, wrap_z]; rfl) | decide | rfl | decide | (simp; done))) (fun h => absurd h (by decide)) (fun _ => ?_)
  refine ei _ (ai awake8_ok (ei (()) (ei [] (ai (ai rfl (ai rfl (ai rfl (ai rfl (ai (fun _ => Or.inl rfl) (ai (by first | exact nof | exact (fun _ => ai rfl rfl)) (by first | exact Or.inl rfl | exact Or.inr rfl))))))) (ai (by (repeat' (first | with_reducible rfl | exact trivial | refine ai ?_ ?_ | (show (_ : Int) = _; first | with_reducible rfl | exact wr1 (by omega) | (simp only [zz, reduceCtorEq] <;> first | done | rfl | omega) | omega | rfl) | exact rfl | exact (fun _ => rfl) | exact (fun _ _ => rfl) | exact nof))) (ai trivial (ai (trivial) ?_)))))))
  refine ai (ai (fun _ => (by (repeat' (first | exact rfl | exact trivial | exact (fun _ => rfl) | exact (fun _ _ => rfl) | exact nof | refine ai ?_ ?_)))) ?_) trivial
  any_goals (repeat' (first | with_reducible rfl | exact trivial | refine ai ?_ ?_ | (show (_ : Int) = _; first | with_reducible rfl | exact wr1 (by omega) | (simp only [zz, reduceCtorEq] <;> first | done | rfl | omega) | omega | rfl) | exact rfl | exact (fun _ => rfl) | exact (fun _ _ => rfl) | exact nof))

end Go.Sx.Pn
