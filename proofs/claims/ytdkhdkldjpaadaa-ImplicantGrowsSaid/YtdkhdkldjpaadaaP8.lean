/- Contracts: sorting what is sorted. -/
import Derived.Test.YtdkhdkldjpaadaaP7
set_option maxHeartbeats 1000000
set_option maxRecDepth 4000
set_option linter.unusedSimpArgs false
set_option linter.unusedVariables false
namespace Go.Sx.Pn
open Go Go.Proofs

theorem getD_some {l : List Cu} {i : Nat} (h : i < l.length) : l[i]? = some (l.getD i ⟨0, 0⟩) := by
  rw [List.getD_eq_getElem?_getD, List.getElem?_eq_getElem h]; rfl

def insS : Spec := fnS (fun x : List Cu × Nat × Nat => [csA x.1, iA x.2.1, iA x.2.2, .fn 130 []]) (fun x => Asc x.1 ∧ x.2.1 ≤ x.2.2 ∧ x.2.2 ≤ x.1.length ∧ x.1.length ≤ 1000) (fun _ => .tup [])
theorem ins_ok : FnOk Try.prog 165 insS := by
  refine fnOk (Tb := tab) mixed tab_ok Try.func165 rfl rfl ?_
  rintro ⟨l, a, b⟩ hpre
  refine And.intro (And.intro rfl (And.intro rfl rfl)) ?_
  obtain ⟨hasc, hab, hbl, hl⟩ : Asc l ∧ a ≤ b ∧ b ≤ l.length ∧ l.length ≤ 1000 := hpre
  refine Exists.intro (LAnn.inv { X := Nat, up := fun i => [(8, .s (iA i))], uo := fun _ => [], inv := fun i => a < i ∧ i ≤ l.length + 1, meas := fun i => l.length + 1 - i, x0 := a + 1 }) ?_
  refine And.intro (And.intro (And.intro (by (repeat' (first | exact rfl | exact trivial | exact (fun _ => rfl) | exact (fun _ _ => rfl) | exact (fun h => absurd h Bool.false_ne_true) | refine And.intro ?_ ?_))) (And.intro ?_ ?_)) ?_) (And.intro ?_ ?_)
  · skip
    (repeat' (first | exact rfl | exact trivial | exact (fun _ => rfl) | exact (fun _ _ => rfl) | exact (fun h => absurd h Bool.false_ne_true) | refine And.intro ?_ ?_))
    show IntKind.i64.wrap ((a : Int) + 1) = ((a + 1 : Nat) : Int)
    rw [wrap_i _ (by omega) (by omega)]; rfl
  · exact trivial
  · rfl
  · exact ⟨by show a < a + 1; omega, by show a + 1 ≤ l.length + 1; omega⟩
  intro (i : Nat) ⟨(hi : a < i), (hi2 : i ≤ l.length + 1)⟩
  refine bcase_intro (fun h1 => ?_) (fun h1 => ?_)
  · have h1 : (i : Int) < (b : Int) := of_decide_eq_true h1
    have hsub : IntKind.i64.wrap ((i : Int) - 1) = ((i - 1 : Nat) : Int) := by rw [wrap_i _ (by omega) (by omega)]; omega
    refine Exists.intro (LAnn.unroll 1) ?_
    refine Exists.intro [0, 1, 2, 3, 4, 5, 6, 7, 8, 9, 10, 11, 12, 13, 14, 15, 16] (And.intro (by kernel_rfl) ?_)
    refine bcase_intro (fun h2 => ?_) (fun h2 => ?_)
    · refine And.intro (And.intro (Int.natCast_nonneg _) (by show (i : Int) < (l.length : Int); omega)) ?_
      refine And.intro rfl ?_
      refine And.intro (And.intro (by show (0 : Int) ≤ IntKind.i64.wrap ((i : Int) - 1); rw [hsub]; omega) (by show IntKind.i64.wrap ((i : Int) - 1) < (l.length : Int); rw [hsub]; omega)) ?_
      refine And.intro rfl ?_
      refine Exists.intro _ (And.intro cmpC_ok (Exists.intro ((l.getD i ⟨0, 0⟩, l.getD (IntKind.i64.wrap ((i : Int) - 1)).toNat ⟨0, 0⟩)) (Exists.intro [] (And.intro (And.intro rfl (And.intro rfl (And.intro rfl (And.intro rfl (And.intro (fun _ => Or.inl rfl) (by first | exact (fun h => absurd h Bool.false_ne_true) | exact (fun _ => And.intro rfl rfl))))))) (And.intro ?_ (And.intro trivial (And.intro ?_ ?_)))))))
      · skip
        (repeat' (first | exact rfl | exact trivial | exact (fun _ => rfl) | exact (fun _ _ => rfl) | exact (fun h => absurd h Bool.false_ne_true) | refine And.intro ?_ ?_))
      · trivial
      refine bcase_intro (fun h3 => ?_) (fun h3 => ?_)
      · exfalso
        have h3 : cmpC (l.getD i ⟨0, 0⟩) (l.getD (IntKind.i64.wrap ((i : Int) - 1)).toNat ⟨0, 0⟩) < 0 := of_decide_eq_true h3
        rw [hsub, Int.toNat_natCast, cmpC_swap] at h3
        have := hasc (i - 1) i _ _ (by omega) (getD_some (by omega)) (getD_some (by omega))
        omega
      · skip
        refine Exists.intro (i + 1) (And.intro (And.intro rfl rfl) (And.intro (And.intro ?_ rfl) (And.intro ?_ ?_)))
        · skip
          (repeat' (first | exact rfl | exact trivial | exact (fun _ => rfl) | exact (fun _ _ => rfl) | exact (fun h => absurd h Bool.false_ne_true) | refine And.intro ?_ ?_))
          show IntKind.i64.wrap ((i : Int) + 1) = ((i + 1 : Nat) : Int)
          rw [wrap_i _ (by omega) (by omega)]; rfl
        · exact ⟨by show a < i + 1; omega, by show i + 1 ≤ l.length + 1; omega⟩
        · show l.length + 1 - (i + 1) < l.length + 1 - i; omega
    · exfalso
      have h2 : ¬ (a : Int) < (i : Int) := of_decide_eq_false h2
      omega
  · skip
    refine And.intro (And.intro (fun _ => (by (repeat' (first | exact rfl | exact trivial | exact (fun _ => rfl) | exact (fun _ _ => rfl) | exact (fun h => absurd h Bool.false_ne_true) | refine And.intro ?_ ?_)))) ?_) trivial
    exact trivial

end Go.Sx.Pn
