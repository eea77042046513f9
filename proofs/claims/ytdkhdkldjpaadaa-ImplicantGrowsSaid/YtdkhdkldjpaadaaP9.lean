/- Contracts: sorting what is sorted, the longer lists. -/
import Derived.Test.YtdkhdkldjpaadaaP8
set_option maxHeartbeats 1000000
set_option maxRecDepth 4000
set_option linter.unusedSimpArgs false
set_option linter.unusedVariables false
namespace Go.Sx.Pn
open Go Go.Proofs

theorem asc_not {l : List Cu} (h : Asc l) {i j : Nat} (hij : i ≤ j) (hj : j < l.length) : ¬ cmpC (l.getD j ⟨0, 0⟩) (l.getD i ⟨0, 0⟩) < 0 := by
  by_cases e : i = j
  · subst e
    have := cmpC_swap (l.getD i ⟨0, 0⟩) (l.getD i ⟨0, 0⟩)
    omega
  · have := h i j _ _ (by omega) (getD_some (by omega)) (getD_some hj)
    rw [cmpC_swap]; omega

def order2S : Spec := fnS (fun x : List Cu × Nat × Nat => [csA x.1, iA x.2.1, iA x.2.2, .any, .fn 130 []]) (fun x => Asc x.1 ∧ x.2.1 ≤ x.2.2 ∧ x.2.2 < x.1.length ∧ x.1.length ≤ 1000) (fun x => .tup [iP x.2.1, iP x.2.2])
theorem order2_ok : FnOk Try.prog 178 order2S := by
  refine fnOk (Tb := tab) mixed tab_ok Try.func178 rfl rfl ?_
  rintro ⟨l, a, b⟩ hpre
  refine And.intro (And.intro rfl (And.intro rfl rfl)) ?_
  obtain ⟨hasc, hab, hbl, hl⟩ : Asc l ∧ a ≤ b ∧ b < l.length ∧ l.length ≤ 1000 := hpre
  refine Exists.intro [0, 1, 2, 3, 4, 5, 6, 7, 8, 9, 10] (And.intro (by kernel_rfl) ?_)
  refine And.intro (And.intro (Int.natCast_nonneg _) (by show (b : Int) < (l.length : Int); omega)) ?_
  refine And.intro rfl ?_
  refine And.intro (And.intro (Int.natCast_nonneg _) (by show (a : Int) < (l.length : Int); omega)) ?_
  refine And.intro rfl ?_
  refine Exists.intro _ (And.intro cmpC_ok (Exists.intro ((l.getD b ⟨0, 0⟩, l.getD a ⟨0, 0⟩)) (Exists.intro [] (And.intro (And.intro rfl (And.intro rfl (And.intro rfl (And.intro rfl (And.intro (fun _ => Or.inl rfl) (by first | exact (fun h => absurd h Bool.false_ne_true) | exact (fun _ => And.intro rfl rfl))))))) (And.intro ?_ (And.intro trivial (And.intro ?_ ?_)))))))
  · skip
    (repeat' (first | exact rfl | exact trivial | exact (fun _ => rfl) | exact (fun _ _ => rfl) | exact (fun h => absurd h Bool.false_ne_true) | refine And.intro ?_ ?_))
  · trivial
  refine bcase_intro (fun h1 => ?_) (fun h1 => ?_)
  · exact absurd (of_decide_eq_true h1) (asc_not hasc hab hbl)
  refine And.intro (And.intro (fun _ => (by (repeat' (first | exact rfl | exact trivial | exact (fun _ => rfl) | exact (fun _ _ => rfl) | exact (fun h => absurd h Bool.false_ne_true) | refine And.intro ?_ ?_)))) ?_) trivial
  (repeat' (first | exact rfl | exact trivial | exact (fun _ => rfl) | exact (fun _ _ => rfl) | exact (fun h => absurd h Bool.false_ne_true) | refine And.intro ?_ ?_))

def medianS : Spec := fnS (fun x : List Cu × Nat × Nat × Nat => [csA x.1, iA x.2.1, iA x.2.2.1, iA x.2.2.2, .any, .fn 130 []]) (fun x => Asc x.1 ∧ x.2.1 ≤ x.2.2.1 ∧ x.2.2.1 ≤ x.2.2.2 ∧ x.2.2.2 < x.1.length ∧ x.1.length ≤ 1000) (fun x => iP x.2.2.1)
theorem median_ok : FnOk Try.prog 177 medianS := by
  refine fnOk (Tb := tab) mixed tab_ok Try.func177 rfl rfl ?_
  rintro ⟨l, a, b, c⟩ hpre
  refine And.intro (And.intro rfl (And.intro rfl rfl)) ?_
  obtain ⟨hasc, hab, hbc, hcl, hl⟩ : Asc l ∧ a ≤ b ∧ b ≤ c ∧ c < l.length ∧ l.length ≤ 1000 := hpre
  refine Exists.intro _ (And.intro order2_ok (Exists.intro ((l, a, b)) (Exists.intro [] (And.intro (And.intro rfl (And.intro rfl (And.intro rfl (And.intro rfl (And.intro (fun _ => Or.inl rfl) (by first | exact (fun h => absurd h Bool.false_ne_true) | exact (fun _ => And.intro rfl rfl))))))) (And.intro ?_ (And.intro trivial (And.intro ?_ ?_)))))))
  · skip
    (repeat' (first | exact rfl | exact trivial | exact (fun _ => rfl) | exact (fun _ _ => rfl) | exact (fun h => absurd h Bool.false_ne_true) | refine And.intro ?_ ?_))
  · exact ⟨hasc, hab, by show b < l.length; omega, hl⟩
  refine Exists.intro _ (And.intro order2_ok (Exists.intro ((l, b, c)) (Exists.intro [] (And.intro (And.intro rfl (And.intro rfl (And.intro rfl (And.intro rfl (And.intro (fun _ => Or.inl rfl) (by first | exact (fun h => absurd h Bool.false_ne_true) | exact (fun _ => And.intro rfl rfl))))))) (And.intro ?_ (And.intro trivial (And.intro ?_ ?_)))))))
  · skip
    (repeat' (first | exact rfl | exact trivial | exact (fun _ => rfl) | exact (fun _ _ => rfl) | exact (fun h => absurd h Bool.false_ne_true) | refine And.intro ?_ ?_))
  · exact ⟨hasc, hbc, hcl, hl⟩
  refine Exists.intro _ (And.intro order2_ok (Exists.intro ((l, a, b)) (Exists.intro [] (And.intro (And.intro rfl (And.intro rfl (And.intro rfl (And.intro rfl (And.intro (fun _ => Or.inl rfl) (by first | exact (fun h => absurd h Bool.false_ne_true) | exact (fun _ => And.intro rfl rfl))))))) (And.intro ?_ (And.intro trivial (And.intro ?_ ?_)))))))
  · skip
    (repeat' (first | exact rfl | exact trivial | exact (fun _ => rfl) | exact (fun _ _ => rfl) | exact (fun h => absurd h Bool.false_ne_true) | refine And.intro ?_ ?_))
  · exact ⟨hasc, hab, by show b < l.length; omega, hl⟩
  refine And.intro (And.intro (fun _ => (by (repeat' (first | exact rfl | exact trivial | exact (fun _ => rfl) | exact (fun _ _ => rfl) | exact (fun h => absurd h Bool.false_ne_true) | refine And.intro ?_ ?_)))) ?_) trivial
  rfl

def medAdjS : Spec := fnS (fun x : List Cu × Nat => [csA x.1, iA x.2, .any, .fn 130 []]) (fun x => Asc x.1 ∧ 1 ≤ x.2 ∧ x.2 + 1 < x.1.length ∧ x.1.length ≤ 1000) (fun x => iP x.2)
theorem medAdj_ok : FnOk Try.prog 176 medAdjS := by
  refine fnOk (Tb := tab) mixed tab_ok Try.func176 rfl rfl ?_
  rintro ⟨l, a⟩ hpre
  refine And.intro (And.intro rfl (And.intro rfl rfl)) ?_
  obtain ⟨hasc, h1, hal, hl⟩ : Asc l ∧ 1 ≤ a ∧ a + 1 < l.length ∧ l.length ≤ 1000 := hpre
  refine Exists.intro _ (And.intro median_ok (Exists.intro ((l, a - 1, a, a + 1)) (Exists.intro [] (And.intro (And.intro rfl (And.intro rfl (And.intro rfl (And.intro rfl (And.intro (fun _ => Or.inl rfl) (by first | exact (fun h => absurd h Bool.false_ne_true) | exact (fun _ => And.intro rfl rfl))))))) (And.intro ?_ (And.intro trivial (And.intro ?_ ?_)))))))
  · skip
    (repeat' (first | exact rfl | exact trivial | exact (fun _ => rfl) | exact (fun _ _ => rfl) | exact (fun h => absurd h Bool.false_ne_true) | refine And.intro ?_ ?_))
    · show IntKind.i64.wrap ((a : Int) - 1) = ((a - 1 : Nat) : Int)
      rw [wrap_i _ (by omega) (by omega)]; omega
    · show IntKind.i64.wrap ((a : Int) + 1) = ((a + 1 : Nat) : Int)
      rw [wrap_i _ (by omega) (by omega)]; rfl
  · exact ⟨hasc, by show a - 1 ≤ a; omega, by show a ≤ a + 1; omega, hal, hl⟩
  refine And.intro (And.intro (fun _ => (by (repeat' (first | exact rfl | exact trivial | exact (fun _ => rfl) | exact (fun _ _ => rfl) | exact (fun h => absurd h Bool.false_ne_true) | refine And.intro ?_ ?_)))) ?_) trivial
  rfl

def partialS : Spec := fnS (fun x : List Cu × Nat × Nat => [csA x.1, iA x.2.1, iA x.2.2, .fn 130 []]) (fun x => Asc x.1 ∧ x.2.1 < x.2.2 ∧ x.2.2 ≤ x.1.length ∧ x.1.length ≤ 1000) (fun _ => bP true)
theorem partial_ok : FnOk Try.prog 170 partialS := by
  refine fnOk (Tb := tab) mixed tab_ok Try.func170 rfl rfl ?_
  rintro ⟨l, a, b⟩ hpre
  refine And.intro (And.intro rfl (And.intro rfl rfl)) ?_
  obtain ⟨hasc, hab, hbl, hl⟩ : Asc l ∧ a < b ∧ b ≤ l.length ∧ l.length ≤ 1000 := hpre
  refine Exists.intro (LAnn.unroll 1) ?_
  refine Exists.intro (LAnn.inv { X := Nat, up := fun i => [(9, .s (iA i))], uo := fun _ => [], inv := fun i => a < i ∧ i ≤ b, meas := fun i => b - i, x0 := a + 1 }) ?_
  refine And.intro (And.intro (And.intro (by (repeat' (first | exact rfl | exact trivial | exact (fun _ => rfl) | exact (fun _ _ => rfl) | exact (fun h => absurd h Bool.false_ne_true) | refine And.intro ?_ ?_))) (And.intro ?_ ?_)) ?_) (And.intro ?_ ?_)
  · skip
    (repeat' (first | exact rfl | exact trivial | exact (fun _ => rfl) | exact (fun _ _ => rfl) | exact (fun h => absurd h Bool.false_ne_true) | refine And.intro ?_ ?_))
    show IntKind.i64.wrap ((a : Int) + 1) = ((a + 1 : Nat) : Int)
    rw [wrap_i _ (by omega) (by omega)]; rfl
  · exact trivial
  · rfl
  · exact ⟨by show a < a + 1; omega, by show a + 1 ≤ b; omega⟩
  intro (i : Nat) ⟨(hi : a < i), (hi2 : i ≤ b)⟩
  refine Exists.intro [0, 1, 2, 3, 4, 5, 6, 7, 8, 9, 10, 11, 12, 13, 14, 15, 16, 17] (And.intro (by kernel_rfl) ?_)
  refine bcase_intro (fun h1 => ?_) (fun h1 => ?_)
  · have h1 : (i : Int) < (b : Int) := of_decide_eq_true h1
    have hsub : IntKind.i64.wrap ((i : Int) - 1) = ((i - 1 : Nat) : Int) := by rw [wrap_i _ (by omega) (by omega)]; omega
    refine And.intro (And.intro (Int.natCast_nonneg _) (by show (i : Int) < (l.length : Int); omega)) ?_
    refine And.intro rfl ?_
    refine And.intro (And.intro (by show (0 : Int) ≤ IntKind.i64.wrap ((i : Int) - 1); rw [hsub]; omega) (by show IntKind.i64.wrap ((i : Int) - 1) < (l.length : Int); rw [hsub]; omega)) ?_
    refine And.intro rfl ?_
    refine Exists.intro _ (And.intro cmpC_ok (Exists.intro ((l.getD i ⟨0, 0⟩, l.getD (IntKind.i64.wrap ((i : Int) - 1)).toNat ⟨0, 0⟩)) (Exists.intro [] (And.intro (And.intro rfl (And.intro rfl (And.intro rfl (And.intro rfl (And.intro (fun _ => Or.inl rfl) (by first | exact (fun h => absurd h Bool.false_ne_true) | exact (fun _ => And.intro rfl rfl))))))) (And.intro ?_ (And.intro trivial (And.intro ?_ ?_)))))))
    · skip
      (repeat' (first | exact rfl | exact trivial | exact (fun _ => rfl) | exact (fun _ _ => rfl) | exact (fun h => absurd h Bool.false_ne_true) | refine And.intro ?_ ?_))
    · trivial
    refine bcase_intro (fun h3 => ?_) (fun h3 => ?_)
    · skip
      refine Exists.intro (i + 1) (And.intro (And.intro rfl rfl) (And.intro (And.intro ?_ rfl) (And.intro ?_ ?_)))
      · skip
        (repeat' (first | exact rfl | exact trivial | exact (fun _ => rfl) | exact (fun _ _ => rfl) | exact (fun h => absurd h Bool.false_ne_true) | refine And.intro ?_ ?_))
        show IntKind.i64.wrap ((i : Int) + 1) = ((i + 1 : Nat) : Int)
        rw [wrap_i _ (by omega) (by omega)]; rfl
      · exact ⟨by show a < i + 1; omega, by show i + 1 ≤ b; omega⟩
      · show b - (i + 1) < b - i; omega
    · exfalso
      have h3 : (!decide (cmpC (l.getD i ⟨0, 0⟩) (l.getD (IntKind.i64.wrap ((i : Int) - 1)).toNat ⟨0, 0⟩) < 0)) = false := h3
      rw [hsub, Int.toNat_natCast] at h3
      have := asc_not hasc (show i - 1 ≤ i by omega) (show i < l.length by omega)
      rw [decide_eq_false this] at h3; cases h3
  · have h1 : ¬ (i : Int) < (b : Int) := of_decide_eq_false h1
    refine bcase_intro (fun h2 => ?_) (fun h2 => ?_)
    · skip
      refine And.intro (And.intro (fun _ => (by (repeat' (first | exact rfl | exact trivial | exact (fun _ => rfl) | exact (fun _ _ => rfl) | exact (fun h => absurd h Bool.false_ne_true) | refine And.intro ?_ ?_)))) ?_) trivial
      rfl
    · exfalso
      have h2 : ((i : Int) == (b : Int)) = false := h2
      have : (i : Int) = b := by omega
      simp [this] at h2

end Go.Sx.Pn
