/- Contracts of the reference: Within, Inside, Covers. -/
import Derived.Test.YtdkhdkldjpaadaaP14
set_option maxHeartbeats 1000000
set_option maxRecDepth 4000
set_option linter.unusedSimpArgs false
set_option linter.unusedVariables false
namespace Go.Sx.Pn
open Go Go.Proofs

/-- by points: a cube is inside another one -/
def wAt (a b : Cu) (k : Nat) : Bool := !hasC a k || hasC b k
def withinC (n : Nat) (a b : Cu) : Bool := (List.range (2 ^ n)).all (wAt a b)
def withinS : Spec := fnS (fun x : Nat × Cu × Cu => [iA x.1, cA x.2.1, cA x.2.2]) (fun x => x.1 ≤ 6) (fun x => bP (withinC x.1 x.2.1 x.2.2))
theorem within_ok : FnOk Try.prog 86 withinS := by
  refine fnOk (Tb := tab) mixed tab_ok Try.func86 rfl rfl ?_
  rintro ⟨n, a, b⟩ hpre
  refine And.intro (And.intro rfl (And.intro rfl rfl)) ?_
  have hn : n ≤ 6 := hpre
  have h64 := pow_le64 hn
  refine Exists.intro (LAnn.inv { X := Nat, up := fun k => [(7, .s (iA k))], uo := fun _ => [], inv := fun k => k ≤ 2 ^ n ∧ ∀ j, j < k → wAt a b j = true, meas := fun k => 2 ^ n - k, x0 := 0 }) ?_
  refine And.intro (And.intro (And.intro (by (repeat' (first | exact rfl | exact trivial | exact (fun _ => rfl) | exact (fun _ _ => rfl) | exact (fun h => absurd h Bool.false_ne_true) | refine And.intro ?_ ?_))) (by (repeat' (first | exact rfl | exact trivial | exact (fun _ => rfl) | exact (fun _ _ => rfl) | exact (fun h => absurd h Bool.false_ne_true) | refine And.intro ?_ ?_)))) rfl) (And.intro ?_ ?_)
  · exact ⟨Nat.zero_le _, fun j hj => absurd hj (Nat.not_lt_zero _)⟩
  intro (k : Nat) ⟨(hk : k ≤ 2 ^ n), hall⟩
  refine Exists.intro _ (And.intro size_ok (Exists.intro (n) (Exists.intro [] (And.intro (And.intro rfl (And.intro rfl (And.intro rfl (And.intro rfl (And.intro (fun _ => Or.inl rfl) (by first | exact (fun h => absurd h Bool.false_ne_true) | exact (fun _ => And.intro rfl rfl))))))) (And.intro ?_ (And.intro trivial (And.intro ?_ ?_)))))))
  · skip
    (repeat' (first | exact rfl | exact trivial | exact (fun _ => rfl) | exact (fun _ _ => rfl) | exact (fun h => absurd h Bool.false_ne_true) | refine And.intro ?_ ?_))
  · exact hn
  refine bcase_intro (fun h1 => ?_) (fun h1 => ?_)
  · have h1 : (k : Int) < ((2 ^ n : Nat) : Int) := of_decide_eq_true h1
    have hwr : IntKind.i64.wrap ((k : Int) + 1) = ((k + 1 : Nat) : Int) := by rw [wrap_i _ (by omega) (by omega)]; rfl
    have again : wAt a b k = true → ∀ j, j < k + 1 → wAt a b j = true := fun h j hj => by
      by_cases e : j = k
      · subst e; exact h
      · exact hall j (by omega)
    refine Exists.intro _ (And.intro in_ok (Exists.intro ((a, (k : Int))) (Exists.intro [] (And.intro (And.intro rfl (And.intro rfl (And.intro rfl (And.intro rfl (And.intro (fun _ => Or.inl rfl) (by first | exact (fun h => absurd h Bool.false_ne_true) | exact (fun _ => And.intro rfl rfl))))))) (And.intro ?_ (And.intro trivial (And.intro ?_ ?_)))))))
    · skip
      (repeat' (first | exact rfl | exact trivial | exact (fun _ => rfl) | exact (fun _ _ => rfl) | exact (fun h => absurd h Bool.false_ne_true) | refine And.intro ?_ ?_))
    · trivial
    refine bcase_intro (fun h2 => ?_) (fun h2 => ?_)
    · have h2 : hasC a k = true := h2
      refine Exists.intro _ (And.intro in_ok (Exists.intro ((b, (k : Int))) (Exists.intro [] (And.intro (And.intro rfl (And.intro rfl (And.intro rfl (And.intro rfl (And.intro (fun _ => Or.inl rfl) (by first | exact (fun h => absurd h Bool.false_ne_true) | exact (fun _ => And.intro rfl rfl))))))) (And.intro ?_ (And.intro trivial (And.intro ?_ ?_)))))))
      · skip
        (repeat' (first | exact rfl | exact trivial | exact (fun _ => rfl) | exact (fun _ _ => rfl) | exact (fun h => absurd h Bool.false_ne_true) | refine And.intro ?_ ?_))
      · trivial
      refine bcase_intro (fun h3 => ?_) (fun h3 => ?_)
      · have h3 : (!hasC b k) = true := h3
        refine And.intro (And.intro (fun _ => (by (repeat' (first | exact rfl | exact trivial | exact (fun _ => rfl) | exact (fun _ _ => rfl) | exact (fun h => absurd h Bool.false_ne_true) | refine And.intro ?_ ?_)))) ?_) trivial
        show false = withinC n a b
        symm
        refine List.all_eq_false.2 ⟨k, List.mem_range.2 (by omega), ?_⟩
        have h3' : hasC b k = false := by simpa using h3
        rw [wAt, h2, h3']; decide
      · have h3 : (!hasC b k) = false := h3
        have h3' : hasC b k = true := by simpa using h3
        refine Exists.intro (k + 1) (And.intro (And.intro rfl rfl) (And.intro (And.intro ?_ rfl) (And.intro ?_ ?_)))
        · skip
          (repeat' (first | exact rfl | exact trivial | exact (fun _ => rfl) | exact (fun _ _ => rfl) | exact (fun h => absurd h Bool.false_ne_true) | refine And.intro ?_ ?_))
          exact hwr
        · exact ⟨by show k + 1 ≤ 2 ^ n; omega, again (by rw [wAt, h3', Bool.or_true])⟩
        · show 2 ^ n - (k + 1) < 2 ^ n - k; omega
    · have h2 : hasC a k = false := h2
      refine Exists.intro (k + 1) (And.intro (And.intro rfl rfl) (And.intro (And.intro ?_ rfl) (And.intro ?_ ?_)))
      · skip
        (repeat' (first | exact rfl | exact trivial | exact (fun _ => rfl) | exact (fun _ _ => rfl) | exact (fun h => absurd h Bool.false_ne_true) | refine And.intro ?_ ?_))
        exact hwr
      · exact ⟨by show k + 1 ≤ 2 ^ n; omega, again (by rw [wAt, h2]; rfl)⟩
      · show 2 ^ n - (k + 1) < 2 ^ n - k; omega
  · have h1 : ¬ (k : Int) < ((2 ^ n : Nat) : Int) := of_decide_eq_false h1
    refine And.intro (And.intro (fun _ => (by (repeat' (first | exact rfl | exact trivial | exact (fun _ => rfl) | exact (fun _ _ => rfl) | exact (fun h => absurd h Bool.false_ne_true) | refine And.intro ?_ ?_)))) ?_) trivial
    show true = withinC n a b
    symm
    refine List.all_eq_true.2 fun j hj => hall j ?_
    have := List.mem_range.1 hj
    omega

theorem chk2_zero {n : Int} {a b : Cu} (h : chk2 n a b = 0) : chkC n a = 0 ∧ chkC n b = 0 := by
  unfold chk2 at h
  split at h
  · exact ⟨by assumption, h⟩
  · rename_i h1; exact absurd h h1

def rInsideS : Spec := fnS (fun x : Int × Cu × Cu => [iA x.1, cA x.2.1, cA x.2.2]) (fun _ => True) (fun x => .tup [bP (if chk2 x.1 x.2.1 x.2.2 = 0 then withinC x.1.toNat x.2.1 x.2.2 else false), iP (chk2 x.1 x.2.1 x.2.2)])
theorem rInside_ok : FnOk Try.prog 30 rInsideS := by
  refine fnOk (Tb := tab) mixed tab_ok Try.func30 rfl rfl ?_
  rintro ⟨n, a, b⟩ hpre
  refine And.intro (And.intro rfl (And.intro rfl rfl)) ?_
  refine Exists.intro _ (And.intro both_ok (Exists.intro ((n, a, b)) (Exists.intro [] (And.intro (And.intro rfl (And.intro rfl (And.intro rfl (And.intro rfl (And.intro (fun _ => Or.inl rfl) (by first | exact (fun h => absurd h Bool.false_ne_true) | exact (fun _ => And.intro rfl rfl))))))) (And.intro ?_ (And.intro trivial (And.intro ?_ ?_)))))))
  · skip
    (repeat' (first | exact rfl | exact trivial | exact (fun _ => rfl) | exact (fun _ _ => rfl) | exact (fun h => absurd h Bool.false_ne_true) | refine And.intro ?_ ?_))
  · trivial
  refine bcase_intro (fun h1 => ?_) (fun h1 => ?_)
  · have h1 : (chk2 n a b != 0) = true := h1
    have h1 : chk2 n a b ≠ 0 := by simpa using h1
    refine And.intro (And.intro (fun _ => (by (repeat' (first | exact rfl | exact trivial | exact (fun _ => rfl) | exact (fun _ _ => rfl) | exact (fun h => absurd h Bool.false_ne_true) | refine And.intro ?_ ?_)))) ?_) trivial
    refine And.intro ?_ ?_
    · show false = (if chk2 n a b = 0 then withinC n.toNat a b else false)
      simp [h1]
    · rfl
  have h1 : (chk2 n a b != 0) = false := h1
  have h1 : chk2 n a b = 0 := by simpa using h1
  obtain ⟨k, hk, rfl, _⟩ := chkC_zero (chk2_zero h1).1
  refine Exists.intro _ (And.intro within_ok (Exists.intro ((k, a, b)) (Exists.intro [] (And.intro (And.intro rfl (And.intro rfl (And.intro rfl (And.intro rfl (And.intro (fun _ => Or.inl rfl) (by first | exact (fun h => absurd h Bool.false_ne_true) | exact (fun _ => And.intro rfl rfl))))))) (And.intro ?_ (And.intro trivial (And.intro ?_ ?_)))))))
  · skip
    (repeat' (first | exact rfl | exact trivial | exact (fun _ => rfl) | exact (fun _ _ => rfl) | exact (fun h => absurd h Bool.false_ne_true) | refine And.intro ?_ ?_))
  · exact hk
  refine And.intro (And.intro (fun _ => (by (repeat' (first | exact rfl | exact trivial | exact (fun _ => rfl) | exact (fun _ _ => rfl) | exact (fun h => absurd h Bool.false_ne_true) | refine And.intro ?_ ?_)))) ?_) trivial
  refine And.intro ?_ ?_
  · show withinC k a b = (if chk2 k a b = 0 then withinC (k : Int).toNat a b else false)
    rw [if_pos h1]; rfl
  · exact h1.symm

theorem rCovers_ok : FnOk Try.prog 42 CoversS := by
  refine fnOk (Tb := tab) mixed tab_ok Try.func42 rfl rfl ?_
  rintro ⟨n, c, p⟩ hpre
  refine And.intro (And.intro rfl (And.intro rfl rfl)) ?_
  refine Exists.intro _ (And.intro rcheck_ok (Exists.intro ((n, c)) (Exists.intro [] (And.intro (And.intro rfl (And.intro rfl (And.intro rfl (And.intro rfl (And.intro (fun _ => Or.inl rfl) (by first | exact (fun h => absurd h Bool.false_ne_true) | exact (fun _ => And.intro rfl rfl))))))) (And.intro ?_ (And.intro trivial (And.intro ?_ ?_)))))))
  · skip
    (repeat' (first | exact rfl | exact trivial | exact (fun _ => rfl) | exact (fun _ _ => rfl) | exact (fun h => absurd h Bool.false_ne_true) | refine And.intro ?_ ?_))
  · trivial
  refine bcase_intro (fun h1 => ?_) (fun h1 => ?_)
  · have h1 : (chkC n c != 0) = true := h1
    have h1 : chkC n c ≠ 0 := by simpa using h1
    refine And.intro (And.intro (fun _ => (by (repeat' (first | exact rfl | exact trivial | exact (fun _ => rfl) | exact (fun _ _ => rfl) | exact (fun h => absurd h Bool.false_ne_true) | refine And.intro ?_ ?_)))) ?_) trivial
    refine And.intro ?_ ?_
    · show false = (coversC n c p).1
      simp [coversC, h1]
    · show chkC n c = (coversC n c p).2
      simp [coversC, h1]
  have h1 : (chkC n c != 0) = false := h1
  have h1 : chkC n c = 0 := by simpa using h1
  obtain ⟨k, hk, rfl, _⟩ := chkC_zero h1
  refine bcase_intro (fun h2 => ?_) (fun h2 => ?_)
  · have h2 : p < 0 := of_decide_eq_true h2
    refine And.intro (And.intro (fun _ => (by (repeat' (first | exact rfl | exact trivial | exact (fun _ => rfl) | exact (fun _ _ => rfl) | exact (fun h => absurd h Bool.false_ne_true) | refine And.intro ?_ ?_)))) ?_) trivial
    refine And.intro ?_ ?_
    · show false = (coversC k c p).1
      simp [coversC, h1, h2]
    · show (2 : Int) = (coversC k c p).2
      simp [coversC, h1, h2]
  have h2 : ¬ p < 0 := of_decide_eq_false h2
  refine Exists.intro _ (And.intro size_ok (Exists.intro (k) (Exists.intro [] (And.intro (And.intro rfl (And.intro rfl (And.intro rfl (And.intro rfl (And.intro (fun _ => Or.inl rfl) (by first | exact (fun h => absurd h Bool.false_ne_true) | exact (fun _ => And.intro rfl rfl))))))) (And.intro ?_ (And.intro trivial (And.intro ?_ ?_)))))))
  · skip
    (repeat' (first | exact rfl | exact trivial | exact (fun _ => rfl) | exact (fun _ _ => rfl) | exact (fun h => absurd h Bool.false_ne_true) | refine And.intro ?_ ?_))
  · exact hk
  refine bcase_intro (fun h3 => ?_) (fun h3 => ?_)
  · have h3 : ((2 ^ k : Nat) : Int) ≤ p := of_decide_eq_true h3
    refine And.intro (And.intro (fun _ => (by (repeat' (first | exact rfl | exact trivial | exact (fun _ => rfl) | exact (fun _ _ => rfl) | exact (fun h => absurd h Bool.false_ne_true) | refine And.intro ?_ ?_)))) ?_) trivial
    refine And.intro ?_ ?_
    · show false = (coversC k c p).1
      simp only [coversC, h1, h2, if_true, if_false, Int.toNat_natCast, h3]
    · show (2 : Int) = (coversC k c p).2
      simp only [coversC, h1, h2, if_true, if_false, Int.toNat_natCast, h3]
  have h3 : ¬ ((2 ^ k : Nat) : Int) ≤ p := of_decide_eq_false h3
  refine Exists.intro _ (And.intro in_ok (Exists.intro ((c, p)) (Exists.intro [] (And.intro (And.intro rfl (And.intro rfl (And.intro rfl (And.intro rfl (And.intro (fun _ => Or.inl rfl) (by first | exact (fun h => absurd h Bool.false_ne_true) | exact (fun _ => And.intro rfl rfl))))))) (And.intro ?_ (And.intro trivial (And.intro ?_ ?_)))))))
  · skip
    (repeat' (first | exact rfl | exact trivial | exact (fun _ => rfl) | exact (fun _ _ => rfl) | exact (fun h => absurd h Bool.false_ne_true) | refine And.intro ?_ ?_))
  · trivial
  refine And.intro (And.intro (fun _ => (by (repeat' (first | exact rfl | exact trivial | exact (fun _ => rfl) | exact (fun _ _ => rfl) | exact (fun h => absurd h Bool.false_ne_true) | refine And.intro ?_ ?_)))) ?_) trivial
  refine And.intro ?_ ?_
  · show hasC c p = (coversC k c p).1
    simp only [coversC, h1, h2, if_true, if_false, Int.toNat_natCast, h3]
  · show (0 : Int) = (coversC k c p).2
    simp only [coversC, h1, h2, if_true, if_false, Int.toNat_natCast, h3]

end Go.Sx.Pn
