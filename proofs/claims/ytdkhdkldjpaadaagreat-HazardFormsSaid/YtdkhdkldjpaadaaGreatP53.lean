/- Chapter 8: lists of pairs compared; the examples. -/
import Derived.Test.YtdkhdkldjpaadaaGreatP52
set_option maxHeartbeats 1000000
set_option maxRecDepth 4000
set_option linter.unusedSimpArgs false
set_option linter.unusedVariables false
namespace Go.Sx.Pn
open Go Go.Proofs

theorem neqPr (p q : Nat × Nat) : (!(((p.1 : Int) == (q.1 : Int)) && (((p.2 : Int) == (q.2 : Int)) && true))) = true ↔ ¬ p = q := by
  rw [Bool.and_true, Bool.not_eq_true', Bool.and_eq_false_iff, beq_eq_false_iff_ne, beq_eq_false_iff_ne, Prod.ext_iff]
  omega
def eqPS : Spec := fnS (fun x : List (Nat × Nat) × List (Nat × Nat) => [prsA x.1, prsA x.2]) (fun x => x.1.length ≤ 1000000) (fun x => bP (decide (x.1 = x.2)))
theorem eqP_ok : FnOk Tryz.prog 41 eqPS := by
  refine fnOk (Tb := tab) mixed tab_ok Tryz.func41 rfl rfl ?_
  rintro ⟨a, b⟩ hpre
  refine ai (ai rfl (ai rfl rfl)) ?_
  have hl : a.length ≤ 1000000 := hpre
  refine bcase_n (p := a.length = b.length) (by first | (with_reducible refine bif_lt ?_; omega) | (with_reducible refine bif_le ?_; omega) | (with_reducible refine bif_eq ?_; omega) | (with_reducible refine bif_ne ?_; omega) | exact b8_eq rfl | exact b8_ne rfl | exact bif_lt (by omega) | exact bif_le (by omega) | exact bif_eq (by omega) | exact bif_ne (by omega) | exact Iff.rfl | (simp only [zz, reduceCtorEq] <;> first | done | omega | exact Iff.rfl) | (simp; done) | (simp; omega)) (fun h1 => ?_) (fun h1 => ?_)
  · skip
    refine ai (ai (fun _ => (by (repeat' (first | exact rfl | exact trivial | exact (fun _ => rfl) | exact (fun _ _ => rfl) | exact nof | refine ai ?_ ?_)))) ?_) trivial
    show ple _ (bP (decide (a = b)))
    rw [show decide (a = b) = false by simp; rintro rfl; exact h1 rfl]
    any_goals (repeat' (first | with_reducible rfl | exact trivial | refine ai ?_ ?_ | (show (_ : Int) = _; first | with_reducible rfl | exact wr1 (by omega) | (simp only [zz, reduceCtorEq] <;> first | done | rfl | omega) | omega | rfl) | exact rfl | exact (fun _ => rfl) | exact (fun _ _ => rfl) | exact nof))
  refine ei (LAnn.inv { X := Nat, up := fun k => [(13, .s (iA k))], uo := fun k => [], inv := fun k => k ≤ a.length ∧ (∀ j, j < k → a.getD j (0, 0) = b.getD j (0, 0)), meas := fun k => a.length - k, x0 := 0 }) ?_
  refine ai (ai (ai (by (repeat' (first | exact rfl | exact trivial | exact (fun _ => rfl) | exact (fun _ _ => rfl) | exact nof | refine ai ?_ ?_))) (ai (by (repeat' (first | with_reducible rfl | exact trivial | refine ai ?_ ?_ | (show (_ : Int) = _; first | with_reducible rfl | exact wr1 (by omega) | (simp only [zz, reduceCtorEq] <;> first | done | rfl | omega) | omega | rfl) | exact rfl | exact (fun _ => rfl) | exact (fun _ _ => rfl) | exact nof))) (by (repeat' (first | with_reducible rfl | exact trivial | refine ai ?_ ?_ | (show (_ : Int) = _; first | with_reducible rfl | exact wr1 (by omega) | (simp only [zz, reduceCtorEq] <;> first | done | rfl | omega) | omega | rfl) | exact rfl | exact (fun _ => rfl) | exact (fun _ _ => rfl) | exact nof))))) rfl) (ai (ai (Nat.zero_le _) ?_) ?_)
  · exact fun j hj => absurd hj (Nat.not_lt_zero _)
  intro (k : Nat) ⟨hk, hall⟩
  refine bcase_p (p := k < a.length) (by first | (with_reducible refine bif_lt ?_; omega) | (with_reducible refine bif_le ?_; omega) | (with_reducible refine bif_eq ?_; omega) | (with_reducible refine bif_ne ?_; omega) | exact b8_eq rfl | exact b8_ne rfl | exact bif_lt (by omega) | exact bif_le (by omega) | exact bif_eq (by omega) | exact bif_ne (by omega) | exact Iff.rfl | (simp only [zz, reduceCtorEq] <;> first | done | omega | exact Iff.rfl) | (simp; done) | (simp; omega)) (fun h2 => ?_) (fun h2 => ?_)
  · skip
    refine ei [0, 1, 2, 3, 4, 5, 6, 7, 8] (ai (by kernel_rfl) ?_)
    refine ai (ai (Int.natCast_nonneg _) (by show (k : Int) < (a.length : Int); omega)) ?_
    refine ai rfl ?_
    refine ai (ai (Int.natCast_nonneg _) (by show (k : Int) < (b.length : Int); omega)) ?_
    refine ai rfl ?_
    refine bcase_n (p := a.getD k (0, 0) = b.getD k (0, 0)) (by exact neqPr (a.getD k (0, 0)) (b.getD k (0, 0))) (fun h3 => ?_) (fun h3 => ?_)
    · skip
      refine ai (ai (fun _ => (by (repeat' (first | exact rfl | exact trivial | exact (fun _ => rfl) | exact (fun _ _ => rfl) | exact nof | refine ai ?_ ?_)))) ?_) trivial
      show ple _ (bP (decide (a = b)))
      rw [show decide (a = b) = false by simp; rintro rfl; exact h3 rfl]
      any_goals (repeat' (first | with_reducible rfl | exact trivial | refine ai ?_ ?_ | (show (_ : Int) = _; first | with_reducible rfl | exact wr1 (by omega) | (simp only [zz, reduceCtorEq] <;> first | done | rfl | omega) | omega | rfl) | exact rfl | exact (fun _ => rfl) | exact (fun _ _ => rfl) | exact nof))
    · skip
      refine ei (k + 1) (ai (ai rfl rfl) (ai (ai ?_ rfl) (ai (ai (by show k + 1 ≤ a.length; omega) ?_) (by show a.length - (k + 1) < a.length - k; omega))))
      any_goals (repeat' (first | with_reducible rfl | exact trivial | refine ai ?_ ?_ | (show (_ : Int) = _; first | with_reducible rfl | exact wr1 (by omega) | (simp only [zz, reduceCtorEq] <;> first | done | rfl | omega) | omega | rfl) | exact rfl | exact (fun _ => rfl) | exact (fun _ _ => rfl) | exact nof))
      exact upto_succ hall h3
  · skip
    refine ai (ai (fun _ => (by (repeat' (first | exact rfl | exact trivial | exact (fun _ => rfl) | exact (fun _ _ => rfl) | exact nof | refine ai ?_ ?_)))) ?_) trivial
    show ple _ (bP (decide (a = b)))
    rw [show decide (a = b) = true by simp; exact getD_ext (0, 0) h1 fun k hk => hall k (by omega)]
    any_goals (repeat' (first | with_reducible rfl | exact trivial | refine ai ?_ ?_ | (show (_ : Int) = _; first | with_reducible rfl | exact wr1 (by omega) | (simp only [zz, reduceCtorEq] <;> first | done | rfl | omega) | omega | rfl) | exact rfl | exact (fun _ => rfl) | exact (fun _ _ => rfl) | exact nof))
theorem eqp_self (l : List (Nat × Nat)) (h : l.length ≤ 1000000) : FnOk Tryz.prog 41 (fnS (fun _ : Unit => eqPS.args (l, l)) (fun _ => True) (fun _ => bP true)) :=
  fnS_at eqP_ok (l, l) h (by simp)

def two8 : List Cu := [⟨3, 3⟩, ⟨5, 4⟩]
def two8S : Spec := fnS (fun _ : Unit => []) (fun _ => True) (fun _ => csP two8)
theorem two8_ok : FnOk Tryz.prog 38 two8S := by
  refine fnOk (Tb := tab) mixed tab_ok Tryz.func38 rfl rfl ?_
  rintro ⟨⟩ hpre
  refine ai (ai rfl (ai rfl rfl)) ?_
  refine ai (ai (fun _ => ?_) ?_) trivial
  · skip
    (intro k hk; have hk : k < 2 := hk; match k, hk with | 0, _ => rfl | 1, _ => rfl)
  · refine ai rfl ?_
    (intro k hk; have hk : k < 2 := hk; match k, hk with | 0, _ => rfl | 1, _ => rfl)
section
variable {z : Int} (hz : z = 0)
include hz
theorem bet8 {a b : Nat} {r : Int} (hg : givC 3 two8 a b = 0) (hr : betC 3 two8 a b = r) : FnOk Tryz.prog 39 (fnS (fun _ : Unit => BetS.args ((3 : Int), two8, (a : Int), (b : Int))) (fun _ => True) (fun _ => .tup [iP r, iP z])) :=
  fnS_at hBet_ok ((3 : Int), two8, (a : Int), (b : Int)) (show two8.length ≤ 1000000 by decide) (by show PV.tup [iP (betC 3 two8 a b), iP (givC 3 two8 a b)] = _; rw [hz, hg, hr])
theorem log8 {a b : Nat} {r : Bool} (hg : givC 3 two8 a b = 0) (hr : logC 3 two8 a b = r) : FnOk Tryz.prog 42 (fnS (fun _ : Unit => LogS.args ((3 : Int), two8, (a : Int), (b : Int))) (fun _ => True) (fun _ => .tup [bP r, iP z])) :=
  fnS_at hLog_ok ((3 : Int), two8, (a : Int), (b : Int)) (show two8.length ≤ 1000000 by decide) (by show PV.tup [bP (logC 3 two8 a b), iP (givC 3 two8 a b)] = _; rw [hz, hg, hr])
theorem haz8 : FnOk Tryz.prog 37 (fnS (fun _ : Unit => hazS.args ((3 : Int), two8)) (fun _ => True) (fun _ => .tup [prsP [(6, 7)], iP z])) :=
  fnS_at haz_ok ((3 : Int), two8) (by decide) (by show PV.tup [prsP (hazL 3 two8), iP (chkN 3 two8)] = _; rw [hz, show hazL 3 two8 = [(6, 7)] by decide +kernel, show chkN 3 two8 = 0 by decide +kernel])
theorem mend8 : FnOk Tryz.prog 40 (fnS (fun _ : Unit => mendSp.args ((3 : Int), two8)) (fun _ => True) (fun _ => .tup [csP [⟨6, 6⟩], iP z])) :=
  fnS_at mend_ok ((3 : Int), two8) (by decide) (by show PV.tup [csP (menL 3 two8), iP (chkN 3 two8)] = _; rw [hz, show menL 3 two8 = [⟨6, 6⟩] by decide +kernel, show chkN 3 two8 = 0 by decide +kernel])
end
theorem awake8_ok : FnOk Tryz.prog 11 trueS := by
  refine fnOk (Tb := tab) mixed tab_ok Tryz.func11 rfl rfl ?_
  rintro ⟨⟩ hpre
  refine ai (ai rfl (ai rfl rfl)) ?_
  obtain ⟨z, hz⟩ : ∃ z : Int, z = 0 := ⟨0, rfl⟩
  refine ei _ (ai two8_ok (ei (()) (ei [] (ai (ai rfl (ai rfl (ai rfl (ai rfl (ai (fun _ => Or.inl rfl) (ai (by first | exact nof | exact (fun _ => ai rfl rfl)) (by first | exact Or.inl rfl | exact Or.inr rfl))))))) (ai (by (repeat' (first | with_reducible rfl | exact trivial | refine ai ?_ ?_ | (show (_ : Int) = _; first | with_reducible rfl | exact wr1 (by omega) | (simp only [zz, reduceCtorEq] <;> first | done | rfl | omega) | omega | rfl) | exact rfl | exact (fun _ => rfl) | exact (fun _ _ => rfl) | exact nof))) (ai trivial (ai (trivial) ?_)))))))
  refine ei _ (ai (haz8 hz) (ei (()) (ei [] (ai (ai rfl (ai rfl (ai rfl (ai rfl (ai (fun _ => Or.inl rfl) (ai (by first | exact nof | exact (fun _ => ai rfl rfl)) (by first | exact Or.inl rfl | exact Or.inr rfl))))))) (ai (by (repeat' (first | with_reducible rfl | exact trivial | refine ai ?_ ?_ | (show (_ : Int) = _; first | with_reducible rfl | exact wr1 (by omega) | (simp only [zz, reduceCtorEq] <;> first | done | rfl | omega) | omega | rfl) | exact rfl | exact (fun _ => rfl) | exact (fun _ _ => rfl) | exact nof))) (ai trivial (ai (trivial) ?_)))))))
  refine ei _ (ai two8_ok (ei (()) (ei [] (ai (ai rfl (ai rfl (ai rfl (ai rfl (ai (fun _ => Or.inl rfl) (ai (by first | exact nof | exact (fun _ => ai rfl rfl)) (by first | exact Or.inl rfl | exact Or.inr rfl))))))) (ai (by (repeat' (first | with_reducible rfl | exact trivial | refine ai ?_ ?_ | (show (_ : Int) = _; first | with_reducible rfl | exact wr1 (by omega) | (simp only [zz, reduceCtorEq] <;> first | done | rfl | omega) | omega | rfl) | exact rfl | exact (fun _ => rfl) | exact (fun _ _ => rfl) | exact nof))) (ai trivial (ai (trivial) ?_)))))))
  refine ei _ (ai (bet8 hz (a := 6) (b := 7) (r := 2) (by decide +kernel) (by decide +kernel)) (ei (()) (ei [] (ai (ai rfl (ai rfl (ai rfl (ai rfl (ai (fun _ => Or.inl rfl) (ai (by first | exact nof | exact (fun _ => ai rfl rfl)) (by first | exact Or.inl rfl | exact Or.inr rfl))))))) (ai (by (repeat' (first | with_reducible rfl | exact trivial | refine ai ?_ ?_ | (show (_ : Int) = _; first | with_reducible rfl | exact wr1 (by omega) | (simp only [zz, reduceCtorEq] <;> first | done | rfl | omega) | omega | rfl) | exact rfl | exact (fun _ => rfl) | exact (fun _ _ => rfl) | exact nof))) (ai trivial (ai (trivial) ?_)))))))
  refine ei _ (ai two8_ok (ei (()) (ei [] (ai (ai rfl (ai rfl (ai rfl (ai rfl (ai (fun _ => Or.inl rfl) (ai (by first | exact nof | exact (fun _ => ai rfl rfl)) (by first | exact Or.inl rfl | exact Or.inr rfl))))))) (ai (by (repeat' (first | with_reducible rfl | exact trivial | refine ai ?_ ?_ | (show (_ : Int) = _; first | with_reducible rfl | exact wr1 (by omega) | (simp only [zz, reduceCtorEq] <;> first | done | rfl | omega) | omega | rfl) | exact rfl | exact (fun _ => rfl) | exact (fun _ _ => rfl) | exact nof))) (ai trivial (ai (trivial) ?_)))))))
  refine ei _ (ai (mend8 hz) (ei (()) (ei [] (ai (ai rfl (ai rfl (ai rfl (ai rfl (ai (fun _ => Or.inl rfl) (ai (by first | exact nof | exact (fun _ => ai rfl rfl)) (by first | exact Or.inl rfl | exact Or.inr rfl))))))) (ai (by (repeat' (first | with_reducible rfl | exact trivial | refine ai ?_ ?_ | (show (_ : Int) = _; first | with_reducible rfl | exact wr1 (by omega) | (simp only [zz, reduceCtorEq] <;> first | done | rfl | omega) | omega | rfl) | exact rfl | exact (fun _ => rfl) | exact (fun _ _ => rfl) | exact nof))) (ai trivial (ai (trivial) ?_)))))))
  refine ei _ (ai two8_ok (ei (()) (ei [] (ai (ai rfl (ai rfl (ai rfl (ai rfl (ai (fun _ => Or.inl rfl) (ai (by first | exact nof | exact (fun _ => ai rfl rfl)) (by first | exact Or.inl rfl | exact Or.inr rfl))))))) (ai (by (repeat' (first | with_reducible rfl | exact trivial | refine ai ?_ ?_ | (show (_ : Int) = _; first | with_reducible rfl | exact wr1 (by omega) | (simp only [zz, reduceCtorEq] <;> first | done | rfl | omega) | omega | rfl) | exact rfl | exact (fun _ => rfl) | exact (fun _ _ => rfl) | exact nof))) (ai trivial (ai (trivial) ?_)))))))
  refine ei _ (ai (bet8 hz (a := 0) (b := 1) (r := 0) (by decide +kernel) (by decide +kernel)) (ei (()) (ei [] (ai (ai rfl (ai rfl (ai rfl (ai rfl (ai (fun _ => Or.inl rfl) (ai (by first | exact nof | exact (fun _ => ai rfl rfl)) (by first | exact Or.inl rfl | exact Or.inr rfl))))))) (ai (by (repeat' (first | with_reducible rfl | exact trivial | refine ai ?_ ?_ | (show (_ : Int) = _; first | with_reducible rfl | exact wr1 (by omega) | (simp only [zz, reduceCtorEq] <;> first | done | rfl | omega) | omega | rfl) | exact rfl | exact (fun _ => rfl) | exact (fun _ _ => rfl) | exact nof))) (ai trivial (ai (trivial) ?_)))))))
  refine ei _ (ai two8_ok (ei (()) (ei [] (ai (ai rfl (ai rfl (ai rfl (ai rfl (ai (fun _ => Or.inl rfl) (ai (by first | exact nof | exact (fun _ => ai rfl rfl)) (by first | exact Or.inl rfl | exact Or.inr rfl))))))) (ai (by (repeat' (first | with_reducible rfl | exact trivial | refine ai ?_ ?_ | (show (_ : Int) = _; first | with_reducible rfl | exact wr1 (by omega) | (simp only [zz, reduceCtorEq] <;> first | done | rfl | omega) | omega | rfl) | exact rfl | exact (fun _ => rfl) | exact (fun _ _ => rfl) | exact nof))) (ai trivial (ai (trivial) ?_)))))))
  refine ei _ (ai (bet8 hz (a := 1) (b := 3) (r := 2) (by decide +kernel) (by decide +kernel)) (ei (()) (ei [] (ai (ai rfl (ai rfl (ai rfl (ai rfl (ai (fun _ => Or.inl rfl) (ai (by first | exact nof | exact (fun _ => ai rfl rfl)) (by first | exact Or.inl rfl | exact Or.inr rfl))))))) (ai (by (repeat' (first | with_reducible rfl | exact trivial | refine ai ?_ ?_ | (show (_ : Int) = _; first | with_reducible rfl | exact wr1 (by omega) | (simp only [zz, reduceCtorEq] <;> first | done | rfl | omega) | omega | rfl) | exact rfl | exact (fun _ => rfl) | exact (fun _ _ => rfl) | exact nof))) (ai trivial (ai (trivial) ?_)))))))
  refine ei _ (ai two8_ok (ei (()) (ei [] (ai (ai rfl (ai rfl (ai rfl (ai rfl (ai (fun _ => Or.inl rfl) (ai (by first | exact nof | exact (fun _ => ai rfl rfl)) (by first | exact Or.inl rfl | exact Or.inr rfl))))))) (ai (by (repeat' (first | with_reducible rfl | exact trivial | refine ai ?_ ?_ | (show (_ : Int) = _; first | with_reducible rfl | exact wr1 (by omega) | (simp only [zz, reduceCtorEq] <;> first | done | rfl | omega) | omega | rfl) | exact rfl | exact (fun _ => rfl) | exact (fun _ _ => rfl) | exact nof))) (ai trivial (ai (trivial) ?_)))))))
  refine ei _ (ai (bet8 hz (a := 3) (b := 7) (r := 1) (by decide +kernel) (by decide +kernel)) (ei (()) (ei [] (ai (ai rfl (ai rfl (ai rfl (ai rfl (ai (fun _ => Or.inl rfl) (ai (by first | exact nof | exact (fun _ => ai rfl rfl)) (by first | exact Or.inl rfl | exact Or.inr rfl))))))) (ai (by (repeat' (first | with_reducible rfl | exact trivial | refine ai ?_ ?_ | (show (_ : Int) = _; first | with_reducible rfl | exact wr1 (by omega) | (simp only [zz, reduceCtorEq] <;> first | done | rfl | omega) | omega | rfl) | exact rfl | exact (fun _ => rfl) | exact (fun _ _ => rfl) | exact nof))) (ai trivial (ai (trivial) ?_)))))))
  refine bcase_b (b := false) (by (first | (simp only [beq_self_eq_true, Bool.and_true, Bool.and_self]; done) | (simp only [hz, Int.add_zero, wrap_z]; done) | (simp only [hz, Int.add_zero, wrap_z]; rfl) | decide | rfl | decide | (simp; done))) (fun h => absurd h (by decide)) (fun _ => ?_)
  refine ei _ (ai (eqp_self [(6, 7)] (by decide)) (ei (()) (ei [] (ai (ai rfl (ai rfl (ai rfl (ai rfl (ai (fun _ => Or.inl rfl) (ai (by first | exact nof | exact (fun _ => ai rfl rfl)) (by first | exact Or.inl rfl | exact Or.inr rfl))))))) (ai ?_ (ai trivial (ai ?_ ?_)))))))
  · skip
    (repeat' (first | exact rfl | exact trivial | exact (fun _ => rfl) | exact (fun _ _ => rfl) | exact nof | refine ai ?_ ?_))
    (intro k hk; have hk : k < 1 := hk; match k, hk with | 0, _ => rfl)
  · trivial
  refine ei _ (ai (same_self [⟨6, 6⟩] (by decide)) (ei (()) (ei [] (ai (ai rfl (ai rfl (ai rfl (ai rfl (ai (fun _ => Or.inl rfl) (ai (by first | exact nof | exact (fun _ => ai rfl rfl)) (by first | exact Or.inl rfl | exact Or.inr rfl))))))) (ai ?_ (ai trivial (ai ?_ ?_)))))))
  · skip
    (repeat' (first | exact rfl | exact trivial | exact (fun _ => rfl) | exact (fun _ _ => rfl) | exact nof | refine ai ?_ ?_))
    (intro k hk; have hk : k < 1 := hk; match k, hk with | 0, _ => rfl)
  · trivial
  refine ei _ (ai two8_ok (ei (()) (ei [] (ai (ai rfl (ai rfl (ai rfl (ai rfl (ai (fun _ => Or.inl rfl) (ai (by first | exact nof | exact (fun _ => ai rfl rfl)) (by first | exact Or.inl rfl | exact Or.inr rfl))))))) (ai (by (repeat' (first | with_reducible rfl | exact trivial | refine ai ?_ ?_ | (show (_ : Int) = _; first | with_reducible rfl | exact wr1 (by omega) | (simp only [zz, reduceCtorEq] <;> first | done | rfl | omega) | omega | rfl) | exact rfl | exact (fun _ => rfl) | exact (fun _ _ => rfl) | exact nof))) (ai trivial (ai (trivial) ?_)))))))
  refine ei _ (ai (log8 hz (a := 6) (b := 7) (r := true) (by decide +kernel) (by decide +kernel)) (ei (()) (ei [] (ai (ai rfl (ai rfl (ai rfl (ai rfl (ai (fun _ => Or.inl rfl) (ai (by first | exact nof | exact (fun _ => ai rfl rfl)) (by first | exact Or.inl rfl | exact Or.inr rfl))))))) (ai (by (repeat' (first | with_reducible rfl | exact trivial | refine ai ?_ ?_ | (show (_ : Int) = _; first | with_reducible rfl | exact wr1 (by omega) | (simp only [zz, reduceCtorEq] <;> first | done | rfl | omega) | omega | rfl) | exact rfl | exact (fun _ => rfl) | exact (fun _ _ => rfl) | exact nof))) (ai trivial (ai (trivial) ?_)))))))
  refine ei _ (ai two8_ok (ei (()) (ei [] (ai (ai rfl (ai rfl (ai rfl (ai rfl (ai (fun _ => Or.inl rfl) (ai (by first | exact nof | exact (fun _ => ai rfl rfl)) (by first | exact Or.inl rfl | exact Or.inr rfl))))))) (ai (by (repeat' (first | with_reducible rfl | exact trivial | refine ai ?_ ?_ | (show (_ : Int) = _; first | with_reducible rfl | exact wr1 (by omega) | (simp only [zz, reduceCtorEq] <;> first | done | rfl | omega) | omega | rfl) | exact rfl | exact (fun _ => rfl) | exact (fun _ _ => rfl) | exact nof))) (ai trivial (ai (trivial) ?_)))))))
  refine ei _ (ai (log8 hz (a := 1) (b := 3) (r := false) (by decide +kernel) (by decide +kernel)) (ei (()) (ei [] (ai (ai rfl (ai rfl (ai rfl (ai rfl (ai (fun _ => Or.inl rfl) (ai (by first | exact nof | exact (fun _ => ai rfl rfl)) (by first | exact Or.inl rfl | exact Or.inr rfl))))))) (ai (by (repeat' (first | with_reducible rfl | exact trivial | refine ai ?_ ?_ | (show (_ : Int) = _; first | with_reducible rfl | exact wr1 (by omega) | (simp only [zz, reduceCtorEq] <;> first | done | rfl | omega) | omega | rfl) | exact rfl | exact (fun _ => rfl) | exact (fun _ _ => rfl) | exact nof))) (ai trivial (ai (trivial) ?_)))))))
  refine bcase_b (b := true) (by (first | (simp only [beq_self_eq_true, Bool.and_true, Bool.and_self]; done) | (simp only [hz, Int.add_zero, wrap_z]; done) | (simp only [hz, Int.add_zero, wrap_z]; rfl) | decide | rfl | decide | (simp; done))) (fun _ => ?_) (fun h => absurd h (by decide))
  refine ai (ai (fun _ => (by (repeat' (first | exact rfl | exact trivial | exact (fun _ => rfl) | exact (fun _ _ => rfl) | exact nof | refine ai ?_ ?_)))) ?_) trivial
  any_goals (repeat' (first | with_reducible rfl | exact trivial | refine ai ?_ ?_ | (show (_ : Int) = _; first | with_reducible rfl | exact wr1 (by omega) | (simp only [zz, reduceCtorEq] <;> first | done | rfl | omega) | omega | rfl) | exact rfl | exact (fun _ => rfl) | exact (fun _ _ => rfl) | exact nof))

end Go.Sx.Pn
