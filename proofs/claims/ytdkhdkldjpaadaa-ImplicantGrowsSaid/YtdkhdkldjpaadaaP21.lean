/- Contracts of the reference: a table made of points. -/
import Derived.Test.YtdkhdkldjpaadaaP20
set_option maxHeartbeats 1000000
set_option maxRecDepth 4000
set_option linter.unusedSimpArgs false
set_option linter.unusedVariables false
namespace Go.Sx.Pn
open Go Go.Proofs

def madeU (l : List Nat) : Nat → U
  | 0 => 0
  | k + 1 => if k ∈ l then madeU l k ||| (1#64 <<< k) else madeU l k

def madeS : Spec := fnS (fun x : Nat × List Nat => [iA x.1, nsA x.2]) (fun x => x.1 ≤ 6 ∧ x.2.length ≤ 1000) (fun x => tP ⟨x.1, madeU x.2 (2 ^ x.1)⟩)
theorem made_ok : FnOk Try.prog 49 madeS := by
  refine fnOk (Tb := tab) mixed tab_ok Try.func49 rfl rfl ?_
  rintro ⟨n, l⟩ hpre
  refine And.intro (And.intro rfl (And.intro rfl rfl)) ?_
  obtain ⟨hn, hl⟩ : n ≤ 6 ∧ l.length ≤ 1000 := hpre
  have h64 := pow_le64 hn
  refine Exists.intro (LAnn.inv { X := Nat, up := fun k => [(6, .s (iA k))], uo := fun k => [⟨1, 38, [.s (iA n), .s (uA (madeU l k))]⟩], inv := fun k => k ≤ 2 ^ n, meas := fun k => 2 ^ n - k, x0 := 0 }) ?_
  refine And.intro (And.intro (And.intro (by (repeat' (first | exact rfl | exact trivial | exact (fun _ => rfl) | exact (fun _ _ => rfl) | exact (fun h => absurd h Bool.false_ne_true) | refine And.intro ?_ ?_))) (And.intro ?_ ?_)) ?_) (And.intro ?_ ?_)
  · skip
    (repeat' (first | exact rfl | exact trivial | exact (fun _ => rfl) | exact (fun _ _ => rfl) | exact (fun h => absurd h Bool.false_ne_true) | refine And.intro ?_ ?_))
  · skip
    (repeat' (first | exact rfl | exact trivial | exact (fun _ => rfl) | exact (fun _ _ => rfl) | exact (fun h => absurd h Bool.false_ne_true) | refine And.intro ?_ ?_))
  · rfl
  · exact Nat.zero_le _
  intro (k : Nat) (hk : k ≤ 2 ^ n)
  refine Exists.intro _ (And.intro size_ok (Exists.intro (n) (Exists.intro [] (And.intro (And.intro rfl (And.intro rfl (And.intro rfl (And.intro rfl (And.intro (fun _ => Or.inl rfl) (by first | exact (fun h => absurd h Bool.false_ne_true) | exact (fun _ => And.intro rfl rfl))))))) (And.intro ?_ (And.intro trivial (And.intro ?_ ?_)))))))
  · skip
    (repeat' (first | exact rfl | exact trivial | exact (fun _ => rfl) | exact (fun _ _ => rfl) | exact (fun h => absurd h Bool.false_ne_true) | refine And.intro ?_ ?_))
  · exact hn
  refine bcase_intro (fun h1 => ?_) (fun h1 => ?_)
  · have h1 : (k : Int) < ((2 ^ n : Nat) : Int) := of_decide_eq_true h1
    have hwr : IntKind.i64.wrap ((k : Int) + 1) = ((k + 1 : Nat) : Int) := by rw [wrap_i _ (by omega) (by omega)]; rfl
    refine Exists.intro (LAnn.inv { X := Nat, up := fun j => [(7, .s (iA j))], uo := fun _ => [], inv := fun j => j ≤ l.length ∧ ∀ i, i < j → l.getD i 0 ≠ k, meas := fun j => l.length - j, x0 := 0 }) ?_
    refine And.intro (And.intro (And.intro (by (repeat' (first | exact rfl | exact trivial | exact (fun _ => rfl) | exact (fun _ _ => rfl) | exact (fun h => absurd h Bool.false_ne_true) | refine And.intro ?_ ?_))) (by (repeat' (first | exact rfl | exact trivial | exact (fun _ => rfl) | exact (fun _ _ => rfl) | exact (fun h => absurd h Bool.false_ne_true) | refine And.intro ?_ ?_)))) rfl) (And.intro ?_ ?_)
    · exact ⟨Nat.zero_le _, fun i hi => absurd hi (Nat.not_lt_zero _)⟩
    intro (j : Nat) ⟨(hj : j ≤ l.length), hall⟩
    refine bcase_intro (fun h2 => ?_) (fun h2 => ?_)
    · have h2 : (j : Int) < (l.length : Int) := of_decide_eq_true h2
      have hjl : j < l.length := by omega
      have hwj : IntKind.i64.wrap ((j : Int) + 1) = ((j + 1 : Nat) : Int) := by rw [wrap_i _ (by omega) (by omega)]; rfl
      refine And.intro (And.intro (Int.natCast_nonneg _) h2) ?_
      refine And.intro rfl ?_
      refine bcase_intro (fun h3 => ?_) (fun h3 => ?_)
      · have h3 : (((l.getD j 0 : Nat) : Int) == (k : Int)) = true := h3
        have h3 : l.getD j 0 = k := by have := eq_of_beq h3; omega
        have hm : k ∈ l := by
          rw [← h3, List.getD_eq_getElem?_getD, List.getElem?_eq_getElem hjl]
          exact List.getElem_mem hjl
        refine Exists.intro [0, 1, 2, 3, 4, 5, 6] (And.intro (by kernel_rfl) ?_)
        refine And.intro (Int.natCast_nonneg _) ?_
        refine Exists.intro (k + 1) (And.intro (And.intro rfl rfl) (And.intro (And.intro ?_ rfl) (And.intro ?_ ?_)))
        · skip
          (repeat' (first | exact rfl | exact trivial | exact (fun _ => rfl) | exact (fun _ _ => rfl) | exact (fun h => absurd h Bool.false_ne_true) | refine And.intro ?_ ?_))
          · exact hwr
          · show bits .or .u64 (madeU l k).toNat (IntKind.u64.wrap (1 * 2 ^ min (k : Int).toNat IntKind.u64.bits)) = ((madeU l (k + 1)).toNat : Int)
            rw [u_shl1, u_or, Int.toNat_natCast, madeU, if_pos hm]
        · show k + 1 ≤ 2 ^ n; omega
        · show 2 ^ n - (k + 1) < 2 ^ n - k; omega
      · have h3 : (((l.getD j 0 : Nat) : Int) == (k : Int)) = false := h3
        have h3 : l.getD j 0 ≠ k := by
          intro e
          rw [e] at h3
          simp at h3
        refine Exists.intro (j + 1) (And.intro (And.intro rfl rfl) (And.intro (And.intro ?_ rfl) (And.intro ?_ ?_)))
        · skip
          (repeat' (first | exact rfl | exact trivial | exact (fun _ => rfl) | exact (fun _ _ => rfl) | exact (fun h => absurd h Bool.false_ne_true) | refine And.intro ?_ ?_))
          exact hwj
        · refine ⟨by show j + 1 ≤ l.length; omega, fun i hi => ?_⟩
          by_cases e : i = j
          · subst e; exact h3
          · exact hall i (by have hi' : i < j + 1 := hi; omega)
        · show l.length - (j + 1) < l.length - j; omega
    · have h2 : ¬ (j : Int) < (l.length : Int) := of_decide_eq_false h2
      have hm : k ∉ l := fun hm => by
        obtain ⟨i, hi⟩ := List.getElem?_of_mem hm
        have hil : i < l.length := (List.getElem?_eq_some_iff.1 hi).1
        refine hall i (by omega) ?_
        rw [List.getD_eq_getElem?_getD, hi]; rfl
      refine Exists.intro (k + 1) (And.intro (And.intro rfl rfl) (And.intro (And.intro ?_ rfl) (And.intro ?_ ?_)))
      · skip
        (repeat' (first | exact rfl | exact trivial | exact (fun _ => rfl) | exact (fun _ _ => rfl) | exact (fun h => absurd h Bool.false_ne_true) | refine And.intro ?_ ?_))
        · exact hwr
        · show ((madeU l k).toNat : Int) = ((madeU l (k + 1)).toNat : Int)
          rw [madeU, if_neg hm]
      · show k + 1 ≤ 2 ^ n; omega
      · show 2 ^ n - (k + 1) < 2 ^ n - k; omega
  · have h1 : ¬ (k : Int) < ((2 ^ n : Nat) : Int) := of_decide_eq_false h1
    have : k = 2 ^ n := by omega
    subst this
    refine And.intro (And.intro (fun _ => (by (repeat' (first | exact rfl | exact trivial | exact (fun _ => rfl) | exact (fun _ _ => rfl) | exact (fun h => absurd h Bool.false_ne_true) | refine And.intro ?_ ?_)))) ?_) trivial
    (repeat' (first | exact rfl | exact trivial | exact (fun _ => rfl) | exact (fun _ _ => rfl) | exact (fun h => absurd h Bool.false_ne_true) | refine And.intro ?_ ?_))

end Go.Sx.Pn
