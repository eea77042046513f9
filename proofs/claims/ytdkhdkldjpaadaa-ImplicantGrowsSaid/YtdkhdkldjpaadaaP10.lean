/- Contracts: sorting what is sorted, the whole. -/
import Derived.Test.YtdkhdkldjpaadaaP9
import Derived.Test.YtdkhdkldjpaadaaShelf
set_option maxHeartbeats 1000000
set_option maxRecDepth 4000
set_option linter.unusedSimpArgs false
set_option linter.unusedVariables false
namespace Go.Sx.Pn
open Go Go.Proofs

def lenU (x : U) : Nat := Lib.bitLen x.toNat
def lenS : Spec := fnS (fun x : U => [uA x]) (fun _ => True) (fun x => iP (lenU x))
theorem len_ok : FnOk Try.prog 124 lenS :=
  fnOk_pure (α := U) (vals := fun x => [.int .u64 x.toNat]) (ret := fun x => .int .i64 (lenU x)) Try.func124 rfl rfl (fun _ _ => rfl) fun x _ w => by
    refine (Try.bits_Len (x.toNat : Int) w (Int.natCast_nonneg _) (by have := uLt x; omega)).mono ?_
    rintro e w' ⟨rfl, rfl⟩
    exact ⟨rfl, RowKit.Below.refl _ _⟩

theorem quo4 {n : Nat} (h : n ≤ 1000) : IntKind.i64.wrap ((n : Int).tdiv 4) = ((n / 4 : Nat) : Int) := by
  have e : (n : Int).tdiv 4 = ((n / 4 : Nat) : Int) := by
    rw [Int.tdiv_eq_ediv_of_nonneg (Int.natCast_nonneg _)]; omega
  rw [e, wrap_i _ (by omega) (by omega)]
theorem quoM {n : Nat} (k : Nat) (h : n ≤ 1000) (hk : k ≤ 3) : IntKind.i64.wrap (0 + IntKind.i64.wrap (IntKind.i64.wrap ((n : Int).tdiv 4) * (k : Int))) = ((n / 4 * k : Nat) : Int) := by
  rw [quo4 h]
  have : n / 4 * k ≤ 1000 * 3 := Nat.mul_le_mul (by omega) hk
  have e : ((n / 4 : Nat) : Int) * (k : Int) = ((n / 4 * k : Nat) : Int) := by simp
  rw [e, wrap_i ((n / 4 * k : Nat) : Int) (by omega) (by omega), Int.zero_add, wrap_i ((n / 4 * k : Nat) : Int) (by omega) (by omega)]

def pivotS : Spec := fnS (fun l : List Cu => [csA l, iA 0, iA l.length, .fn 130 []]) (fun l => Asc l ∧ 12 < l.length ∧ l.length ≤ 1000) (fun l => .tup [iP (l.length / 4 * 2 : Nat), iP 1])
theorem pivot_ok : FnOk Try.prog 168 pivotS := by
  refine fnOk (Tb := tab) mixed tab_ok Try.func168 rfl rfl ?_
  rintro l hpre
  refine And.intro (And.intro rfl (And.intro rfl rfl)) ?_
  obtain ⟨hasc, h12, hl⟩ : Asc l ∧ 12 < l.length ∧ l.length ≤ 1000 := hpre
  have hsub : IntKind.i64.wrap ((l.length : Int) - 0) = ((l.length : Nat) : Int) := by rw [wrap_i _ (by omega) (by omega)]; omega
  have q1 : IntKind.i64.wrap (0 + IntKind.i64.wrap (IntKind.i64.wrap ((IntKind.i64.wrap ((l.length : Int) - 0)).tdiv 4) * 1)) = ((l.length / 4 * 1 : Nat) : Int) := by rw [hsub]; exact quoM 1 hl (by omega)
  have q2 : IntKind.i64.wrap (0 + IntKind.i64.wrap (IntKind.i64.wrap ((IntKind.i64.wrap ((l.length : Int) - 0)).tdiv 4) * 2)) = ((l.length / 4 * 2 : Nat) : Int) := by rw [hsub]; exact quoM 2 hl (by omega)
  have q3 : IntKind.i64.wrap (0 + IntKind.i64.wrap (IntKind.i64.wrap ((IntKind.i64.wrap ((l.length : Int) - 0)).tdiv 4) * 3)) = ((l.length / 4 * 3 : Nat) : Int) := by rw [hsub]; exact quoM 3 hl (by omega)
  refine And.intro (by decide) ?_
  refine And.intro (by decide) ?_
  refine And.intro (by decide) ?_
  refine bcase_intro (fun h1 => ?_) (fun h1 => ?_)
  · skip
    refine bcase_intro (fun h2 => ?_) (fun h2 => ?_)
    · skip
      refine Exists.intro _ (And.intro medAdj_ok (Exists.intro ((l, l.length / 4 * 1)) (Exists.intro [] (And.intro (And.intro rfl (And.intro rfl (And.intro rfl (And.intro rfl (And.intro (fun _ => Or.inl rfl) (by first | exact (fun h => absurd h Bool.false_ne_true) | exact (fun _ => And.intro rfl rfl))))))) (And.intro ?_ (And.intro trivial (And.intro ?_ ?_)))))))
      · skip
        (repeat' (first | exact rfl | exact trivial | exact (fun _ => rfl) | exact (fun _ _ => rfl) | exact (fun h => absurd h Bool.false_ne_true) | refine And.intro ?_ ?_))
        exact q1
      · exact ⟨hasc, by show 1 ≤ l.length / 4 * 1; omega, by show l.length / 4 * 1 + 1 < l.length; omega, hl⟩
      refine Exists.intro _ (And.intro medAdj_ok (Exists.intro ((l, l.length / 4 * 2)) (Exists.intro [] (And.intro (And.intro rfl (And.intro rfl (And.intro rfl (And.intro rfl (And.intro (fun _ => Or.inl rfl) (by first | exact (fun h => absurd h Bool.false_ne_true) | exact (fun _ => And.intro rfl rfl))))))) (And.intro ?_ (And.intro trivial (And.intro ?_ ?_)))))))
      · skip
        (repeat' (first | exact rfl | exact trivial | exact (fun _ => rfl) | exact (fun _ _ => rfl) | exact (fun h => absurd h Bool.false_ne_true) | refine And.intro ?_ ?_))
        exact q2
      · exact ⟨hasc, by show 1 ≤ l.length / 4 * 2; omega, by show l.length / 4 * 2 + 1 < l.length; omega, hl⟩
      refine Exists.intro _ (And.intro medAdj_ok (Exists.intro ((l, l.length / 4 * 3)) (Exists.intro [] (And.intro (And.intro rfl (And.intro rfl (And.intro rfl (And.intro rfl (And.intro (fun _ => Or.inl rfl) (by first | exact (fun h => absurd h Bool.false_ne_true) | exact (fun _ => And.intro rfl rfl))))))) (And.intro ?_ (And.intro trivial (And.intro ?_ ?_)))))))
      · skip
        (repeat' (first | exact rfl | exact trivial | exact (fun _ => rfl) | exact (fun _ _ => rfl) | exact (fun h => absurd h Bool.false_ne_true) | refine And.intro ?_ ?_))
        exact q3
      · exact ⟨hasc, by show 1 ≤ l.length / 4 * 3; omega, by have h2 := of_decide_eq_true h2; show l.length / 4 * 3 + 1 < l.length; omega, hl⟩
      refine Exists.intro _ (And.intro median_ok (Exists.intro ((l, l.length / 4 * 1, l.length / 4 * 2, l.length / 4 * 3)) (Exists.intro [] (And.intro (And.intro rfl (And.intro rfl (And.intro rfl (And.intro rfl (And.intro (fun _ => Or.inl rfl) (by first | exact (fun h => absurd h Bool.false_ne_true) | exact (fun _ => And.intro rfl rfl))))))) (And.intro ?_ (And.intro trivial (And.intro ?_ ?_)))))))
      · skip
        (repeat' (first | exact rfl | exact trivial | exact (fun _ => rfl) | exact (fun _ _ => rfl) | exact (fun h => absurd h Bool.false_ne_true) | refine And.intro ?_ ?_))
      · exact ⟨hasc, by show l.length / 4 * 1 ≤ l.length / 4 * 2; omega, by show l.length / 4 * 2 ≤ l.length / 4 * 3; omega, by show l.length / 4 * 3 < l.length; omega, hl⟩
      refine And.intro (And.intro (fun _ => (by (repeat' (first | exact rfl | exact trivial | exact (fun _ => rfl) | exact (fun _ _ => rfl) | exact (fun h => absurd h Bool.false_ne_true) | refine And.intro ?_ ?_)))) ?_) trivial
      (repeat' (first | exact rfl | exact trivial | exact (fun _ => rfl) | exact (fun _ _ => rfl) | exact (fun h => absurd h Bool.false_ne_true) | refine And.intro ?_ ?_))
    · skip
      refine Exists.intro _ (And.intro median_ok (Exists.intro ((l, l.length / 4 * 1, l.length / 4 * 2, l.length / 4 * 3)) (Exists.intro [] (And.intro (And.intro rfl (And.intro rfl (And.intro rfl (And.intro rfl (And.intro (fun _ => Or.inl rfl) (by first | exact (fun h => absurd h Bool.false_ne_true) | exact (fun _ => And.intro rfl rfl))))))) (And.intro ?_ (And.intro trivial (And.intro ?_ ?_)))))))
      · skip
        (repeat' (first | exact rfl | exact trivial | exact (fun _ => rfl) | exact (fun _ _ => rfl) | exact (fun h => absurd h Bool.false_ne_true) | refine And.intro ?_ ?_))
        · exact q1
        · exact q2
        · exact q3
      · exact ⟨hasc, by show l.length / 4 * 1 ≤ l.length / 4 * 2; omega, by show l.length / 4 * 2 ≤ l.length / 4 * 3; omega, by show l.length / 4 * 3 < l.length; omega, hl⟩
      refine And.intro (And.intro (fun _ => (by (repeat' (first | exact rfl | exact trivial | exact (fun _ => rfl) | exact (fun _ _ => rfl) | exact (fun h => absurd h Bool.false_ne_true) | refine And.intro ?_ ?_)))) ?_) trivial
      (repeat' (first | exact rfl | exact trivial | exact (fun _ => rfl) | exact (fun _ _ => rfl) | exact (fun h => absurd h Bool.false_ne_true) | refine And.intro ?_ ?_))
  · exfalso
    have h1 : ¬ (8 : Int) ≤ IntKind.i64.wrap ((l.length : Int) - 0) := of_decide_eq_false h1
    rw [hsub] at h1
    omega

def pdqS : Spec := fnS (fun x : List Cu × Int => [csA x.1, iA 0, iA x.1.length, iA x.2, .fn 130 []]) (fun x => Asc x.1 ∧ x.1.length ≤ 1000 ∧ (12 < x.1.length → x.2 ≠ 0)) (fun _ => .tup [])
theorem pdq_ok : FnOk Try.prog 158 pdqS := by
  refine fnOk (Tb := tab) mixed tab_ok Try.func158 rfl rfl ?_
  rintro ⟨l, d⟩ hpre
  refine And.intro (And.intro rfl (And.intro rfl rfl)) ?_
  obtain ⟨hasc, hl, hd⟩ : Asc l ∧ l.length ≤ 1000 ∧ (12 < l.length → d ≠ 0) := hpre
  have hsub : IntKind.i64.wrap ((l.length : Int) - 0) = ((l.length : Nat) : Int) := by rw [wrap_i _ (by omega) (by omega)]; omega
  refine Exists.intro (LAnn.unroll 1) ?_
  refine bcase_intro (fun h1 => ?_) (fun h1 => ?_)
  · skip
    refine Exists.intro _ (And.intro ins_ok (Exists.intro ((l, 0, l.length)) (Exists.intro [] (And.intro (And.intro rfl (And.intro rfl (And.intro rfl (And.intro rfl (And.intro (fun _ => Or.inl rfl) (by first | exact (fun h => absurd h Bool.false_ne_true) | exact (fun _ => And.intro rfl rfl))))))) (And.intro ?_ (And.intro trivial (And.intro ?_ ?_)))))))
    · skip
      (repeat' (first | exact rfl | exact trivial | exact (fun _ => rfl) | exact (fun _ _ => rfl) | exact (fun h => absurd h Bool.false_ne_true) | refine And.intro ?_ ?_))
    · exact ⟨hasc, Nat.zero_le _, Nat.le_refl _, hl⟩
    refine And.intro (And.intro (fun _ => (by (repeat' (first | exact rfl | exact trivial | exact (fun _ => rfl) | exact (fun _ _ => rfl) | exact (fun h => absurd h Bool.false_ne_true) | refine And.intro ?_ ?_)))) ?_) trivial
    exact trivial
  have h1 : ¬ IntKind.i64.wrap ((l.length : Int) - 0) ≤ 12 := of_decide_eq_false h1
  rw [hsub] at h1
  refine bcase_intro (fun h2 => ?_) (fun h2 => ?_)
  · exfalso
    have h2 : (d == 0) = true := h2
    have := hd (by omega)
    simp [this] at h2
  refine Exists.intro _ (And.intro pivot_ok (Exists.intro (l) (Exists.intro [] (And.intro (And.intro rfl (And.intro rfl (And.intro rfl (And.intro rfl (And.intro (fun _ => Or.inl rfl) (by first | exact (fun h => absurd h Bool.false_ne_true) | exact (fun _ => And.intro rfl rfl))))))) (And.intro ?_ (And.intro trivial (And.intro ?_ ?_)))))))
  · skip
    (repeat' (first | exact rfl | exact trivial | exact (fun _ => rfl) | exact (fun _ _ => rfl) | exact (fun h => absurd h Bool.false_ne_true) | refine And.intro ?_ ?_))
  · exact ⟨hasc, by show 12 < l.length; omega, hl⟩
  refine Exists.intro _ (And.intro partial_ok (Exists.intro ((l, 0, l.length)) (Exists.intro [] (And.intro (And.intro rfl (And.intro rfl (And.intro rfl (And.intro rfl (And.intro (fun _ => Or.inl rfl) (by first | exact (fun h => absurd h Bool.false_ne_true) | exact (fun _ => And.intro rfl rfl))))))) (And.intro ?_ (And.intro trivial (And.intro ?_ ?_)))))))
  · skip
    (repeat' (first | exact rfl | exact trivial | exact (fun _ => rfl) | exact (fun _ _ => rfl) | exact (fun h => absurd h Bool.false_ne_true) | refine And.intro ?_ ?_))
  · exact ⟨hasc, by show 0 < l.length; omega, Nat.le_refl _, hl⟩
  refine And.intro (And.intro (fun _ => (by (repeat' (first | exact rfl | exact trivial | exact (fun _ => rfl) | exact (fun _ _ => rfl) | exact (fun h => absurd h Bool.false_ne_true) | refine And.intro ?_ ?_)))) ?_) trivial
  exact trivial

end Go.Sx.Pn
