/- Contracts of the functions of package implicant: checks of lists, pairs of cubes. -/
import Derived.Test.YtdkhdkldjpaadaaP2
set_option maxHeartbeats 1000000
set_option maxRecDepth 4000
set_option linter.unusedSimpArgs false
set_option linter.unusedVariables false
namespace Go.Sx.Pn
open Go Go.Proofs

/-- the first error of cubes -/
def chksC (n : Int) : List Cu → Int
  | [] => 0
  | c :: l => if chkC n c = 0 then chksC n l else chkC n c
theorem chksC_eq (n : Int) (l : List Cu) : ∀ k, k ≤ l.length → (∀ j c, j < k → l[j]? = some c → chkC n c = 0) → chksC n l = chksC n (l.drop k) := by
  intro k
  induction k with
  | zero => intro _ _; rfl
  | succ k ih =>
    intro hk h
    rw [ih (by omega) (fun j c hj hc => h j c (by omega) hc)]
    have hk' : k < l.length := by omega
    rw [List.drop_eq_getElem_cons hk']
    have := h k _ (by omega) (List.getElem?_eq_getElem hk')
    simp [chksC, this]

def checksS : Spec := fnS (fun x : Int × List Cu => [iA x.1, csA x.2]) (fun x => x.2.length ≤ 1000) (fun x => iP (chksC x.1 x.2))
theorem checks_ok : FnOk Try.prog 83 checksS := by
  refine fnOk (Tb := tab) mixed tab_ok Try.func83 rfl rfl ?_
  rintro ⟨n, l⟩ hpre
  refine And.intro (And.intro rfl (And.intro rfl rfl)) ?_
  have hl : l.length ≤ 1000 := hpre
  refine Exists.intro (LAnn.inv { X := Nat, up := fun k => [(10, .s (iA k))], uo := fun _ => [], inv := fun k => k ≤ l.length ∧ ∀ j c, j < k → l[j]? = some c → chkC n c = 0, meas := fun k => l.length - k, x0 := 0 }) ?_
  refine And.intro (And.intro (And.intro (by (repeat' (first | exact rfl | exact trivial | exact (fun _ => rfl) | exact (fun _ _ => rfl) | exact (fun h => absurd h Bool.false_ne_true) | refine And.intro ?_ ?_))) (by (repeat' (first | exact rfl | exact trivial | exact (fun _ => rfl) | exact (fun _ _ => rfl) | exact (fun h => absurd h Bool.false_ne_true) | refine And.intro ?_ ?_)))) rfl) (And.intro ?_ ?_)
  · exact ⟨Nat.zero_le _, fun j c hj => absurd hj (Nat.not_lt_zero _)⟩
  intro (k : Nat) ⟨(hk : k ≤ l.length), hall⟩
  refine bcase_intro (fun h1 => ?_) (fun h1 => ?_)
  · have h1 : (k : Int) < (l.length : Int) := of_decide_eq_true h1
    have hkl : k < l.length := by omega
    have hwr : IntKind.i64.wrap ((k : Int) + 1) = ((k + 1 : Nat) : Int) := by rw [wrap_i _ (by omega) (by omega)]; rfl
    refine And.intro (And.intro (Int.natCast_nonneg _) h1) ?_
    refine And.intro rfl ?_
    refine Exists.intro _ (And.intro check_ok (Exists.intro ((n, l.getD k ⟨0, 0⟩)) (Exists.intro [] (And.intro (And.intro rfl (And.intro rfl (And.intro rfl (And.intro rfl (And.intro (fun _ => Or.inl rfl) (by first | exact (fun h => absurd h Bool.false_ne_true) | exact (fun _ => And.intro rfl rfl))))))) (And.intro ?_ (And.intro trivial (And.intro ?_ ?_)))))))
    · skip
      (repeat' (first | exact rfl | exact trivial | exact (fun _ => rfl) | exact (fun _ _ => rfl) | exact (fun h => absurd h Bool.false_ne_true) | refine And.intro ?_ ?_))
    · trivial
    refine bcase_intro (fun h2 => ?_) (fun h2 => ?_)
    · have h2 : (chkC n (l.getD k ⟨0, 0⟩) != 0) = true := h2
      have h2 : chkC n (l.getD k ⟨0, 0⟩) ≠ 0 := by simpa using h2
      refine And.intro (And.intro (fun _ => (by (repeat' (first | exact rfl | exact trivial | exact (fun _ => rfl) | exact (fun _ _ => rfl) | exact (fun h => absurd h Bool.false_ne_true) | refine And.intro ?_ ?_)))) ?_) trivial
      show chkC n (l.getD k ⟨0, 0⟩) = chksC n l
      rw [chksC_eq n l k hk hall, List.drop_eq_getElem_cons hkl]
      have e : l.getD k ⟨0, 0⟩ = l[k] := by rw [List.getD_eq_getElem?_getD, List.getElem?_eq_getElem hkl]; rfl
      rw [e] at h2 ⊢
      simp [chksC, h2]
    · have h2 : (chkC n (l.getD k ⟨0, 0⟩) != 0) = false := h2
      have h2 : chkC n (l.getD k ⟨0, 0⟩) = 0 := by simpa using h2
      refine Exists.intro (k + 1) (And.intro (And.intro rfl rfl) (And.intro (And.intro ?_ rfl) (And.intro ?_ ?_)))
      · skip
        (repeat' (first | exact rfl | exact trivial | exact (fun _ => rfl) | exact (fun _ _ => rfl) | exact (fun h => absurd h Bool.false_ne_true) | refine And.intro ?_ ?_))
        exact hwr
      · refine ⟨show k + 1 ≤ l.length by omega, fun j c hj hc => ?_⟩
        by_cases e : j = k
        · subst e
          rw [List.getD_eq_getElem?_getD, hc] at h2; exact h2
        · exact hall j c (by have hj' : j < k + 1 := hj; omega) hc
      · show l.length - (k + 1) < l.length - k; omega
  · have h1 : ¬ (k : Int) < (l.length : Int) := of_decide_eq_false h1
    refine And.intro (And.intro (fun _ => (by (repeat' (first | exact rfl | exact trivial | exact (fun _ => rfl) | exact (fun _ _ => rfl) | exact (fun h => absurd h Bool.false_ne_true) | refine And.intro ?_ ?_)))) ?_) trivial
    show (0 : Int) = chksC n l
    rw [chksC_eq n l k hk hall, show k = l.length by omega]
    simp [chksC]

theorem two_seq (a b : Cu) (k : Nat) (hk : k < 2) : elemsAt 2 [.val (.int .u64 a.care.toNat), .val (.int .u64 a.value.toNat), .val (.int .u64 b.care.toNat), .val (.int .u64 b.value.toNat)] k = (([a, b] : List Cu).getD k ⟨0, 0⟩).cells := by
  obtain rfl | rfl : k = 0 ∨ k = 1 := by omega
  · rfl
  · rfl

/-- the error of two cubes -/
def chk2 (n : Int) (a b : Cu) : Int := if chkC n a = 0 then chkC n b else chkC n a
theorem chks2 (n : Int) (a b : Cu) : chksC n [a, b] = chk2 n a b := by
  simp only [chksC, chk2]
  by_cases h : chkC n b = 0 <;> simp [h]

def cubeZ : Cu := ⟨0, 0⟩
def InsideS : Spec := fnS (fun x : Int × Cu × Cu => [iA x.1, cA x.2.1, cA x.2.2]) (fun _ => True) (fun x => .tup [bP (if chk2 x.1 x.2.1 x.2.2 = 0 then insideC x.2.1 x.2.2 else false), iP (chk2 x.1 x.2.1 x.2.2)])
theorem Inside_ok : FnOk Try.prog 29 InsideS := by
  refine fnOk (Tb := tab) mixed tab_ok Try.func29 rfl rfl ?_
  rintro ⟨n, a, b⟩ hpre
  refine And.intro (And.intro rfl (And.intro rfl rfl)) ?_
  refine Exists.intro _ (And.intro checks_ok (Exists.intro ((n, [a, b])) (Exists.intro [] (And.intro (And.intro rfl (And.intro rfl (And.intro rfl (And.intro rfl (And.intro (fun _ => Or.inl rfl) (by first | exact (fun h => absurd h Bool.false_ne_true) | exact (fun _ => And.intro rfl rfl))))))) (And.intro ?_ (And.intro trivial (And.intro ?_ ?_)))))))
  · skip
    (repeat' (first | exact rfl | exact trivial | exact (fun _ => rfl) | exact (fun _ _ => rfl) | exact (fun h => absurd h Bool.false_ne_true) | refine And.intro ?_ ?_))
    exact two_seq a b
  · show 2 ≤ 1000; omega
  refine bcase_intro (fun h1 => ?_) (fun h1 => ?_)
  · have h1 : (chksC n [a, b] != 0) = true := h1
    rw [chks2] at h1
    have h1 : chk2 n a b ≠ 0 := by simpa using h1
    refine And.intro (And.intro (fun _ => (by (repeat' (first | exact rfl | exact trivial | exact (fun _ => rfl) | exact (fun _ _ => rfl) | exact (fun h => absurd h Bool.false_ne_true) | refine And.intro ?_ ?_)))) ?_) trivial
    refine And.intro ?_ ?_
    · show false = (if chk2 n a b = 0 then insideC a b else false)
      simp [h1]
    · show chksC n [a, b] = chk2 n a b
      exact chks2 n a b
  · have h1 : (chksC n [a, b] != 0) = false := h1
    rw [chks2] at h1
    have h1 : chk2 n a b = 0 := by simpa using h1
    refine Exists.intro _ (And.intro inside_ok (Exists.intro ((a, b)) (Exists.intro [] (And.intro (And.intro rfl (And.intro rfl (And.intro rfl (And.intro rfl (And.intro (fun _ => Or.inl rfl) (by first | exact (fun h => absurd h Bool.false_ne_true) | exact (fun _ => And.intro rfl rfl))))))) (And.intro ?_ (And.intro trivial (And.intro ?_ ?_)))))))
    · skip
      (repeat' (first | exact rfl | exact trivial | exact (fun _ => rfl) | exact (fun _ _ => rfl) | exact (fun h => absurd h Bool.false_ne_true) | refine And.intro ?_ ?_))
    · trivial
    refine And.intro (And.intro (fun _ => (by (repeat' (first | exact rfl | exact trivial | exact (fun _ => rfl) | exact (fun _ _ => rfl) | exact (fun h => absurd h Bool.false_ne_true) | refine And.intro ?_ ?_)))) ?_) trivial
    refine And.intro ?_ ?_
    · show insideC a b = (if chk2 n a b = 0 then insideC a b else false)
      simp [h1]
    · exact h1.symm

end Go.Sx.Pn
