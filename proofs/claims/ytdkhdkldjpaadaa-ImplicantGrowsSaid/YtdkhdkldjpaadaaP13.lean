/- Contracts: Primes, Covers, Table, Meet. -/
import Derived.Test.YtdkhdkldjpaadaaP12
set_option maxHeartbeats 1000000
set_option maxRecDepth 4000
set_option linter.unusedSimpArgs false
set_option linter.unusedVariables false
namespace Go.Sx.Pn
open Go Go.Proofs

theorem chkC_zero {n : Int} {c : Cu} (h : chkC n c = 0) : ∃ k : Nat, k ≤ 6 ∧ n = k ∧ c.care &&& ~~~ allU k = 0#64 ∧ c.value &&& ~~~ c.care = 0#64 := by
  unfold chkC at h
  split at h
  · cases h
  · split at h
    · cases h
    · split at h
      · split at h
        · exact ⟨n.toNat, by omega, by omega, by assumption, by assumption⟩
        · cases h
      · cases h

def PrimesS : Spec := fnS (fun x : Tk => [kA x]) (fun _ => True) (fun x => .tup [csP (if chkK x = 0 then primesL x.on.n.toNat x else []), iP (chkK x)])
theorem Primes_ok : FnOk Try.prog 23 PrimesS := by
  refine fnOk (Tb := tab) mixed tab_ok Try.func23 rfl rfl ?_
  rintro x hpre
  refine And.intro (And.intro rfl (And.intro rfl rfl)) ?_
  refine Exists.intro _ (And.intro checkTask_ok (Exists.intro (x) (Exists.intro [] (And.intro (And.intro rfl (And.intro rfl (And.intro rfl (And.intro rfl (And.intro (fun _ => Or.inl rfl) (by first | exact (fun h => absurd h Bool.false_ne_true) | exact (fun _ => And.intro rfl rfl))))))) (And.intro ?_ (And.intro trivial (And.intro ?_ ?_)))))))
  · skip
    (repeat' (first | exact rfl | exact trivial | exact (fun _ => rfl) | exact (fun _ _ => rfl) | exact (fun h => absurd h Bool.false_ne_true) | refine And.intro ?_ ?_))
  · trivial
  refine bcase_intro (fun h1 => ?_) (fun h1 => ?_)
  · have h1 : (chkK x != 0) = true := h1
    have h1 : chkK x ≠ 0 := by simpa using h1
    refine And.intro (And.intro (fun _ => (by (repeat' (first | exact rfl | exact trivial | exact (fun _ => rfl) | exact (fun _ _ => rfl) | exact (fun h => absurd h Bool.false_ne_true) | refine And.intro ?_ ?_)))) ?_) trivial
    refine And.intro ?_ ?_
    · show (if chkK x = 0 then primesL x.on.n.toNat x else []).length = 0
      simp [h1]
    · rfl
  have h1 : (chkK x != 0) = false := h1
  have h1 : chkK x = 0 := by simpa using h1
  obtain ⟨k, hk, hn, _⟩ := chkT_zero (chkK_zero h1).1
  refine Exists.intro _ (And.intro primes_ok (Exists.intro ((k, x)) (Exists.intro [] (And.intro (And.intro rfl (And.intro rfl (And.intro rfl (And.intro rfl (And.intro (fun _ => Or.inl rfl) (by first | exact (fun h => absurd h Bool.false_ne_true) | exact (fun _ => And.intro rfl rfl))))))) (And.intro ?_ (And.intro trivial (And.intro ?_ ?_)))))))
  · skip
    (repeat' (first | exact rfl | exact trivial | exact (fun _ => rfl) | exact (fun _ _ => rfl) | exact (fun h => absurd h Bool.false_ne_true) | refine And.intro ?_ ?_))
  · exact ⟨hk, hn⟩
  have e : (if chkK x = 0 then primesL x.on.n.toNat x else []) = primesL k x := by
    rw [if_pos h1, show x.on.n.toNat = k by omega]
  refine And.intro (And.intro (fun _ => (by (repeat' (first | exact rfl | exact trivial | exact (fun _ => rfl) | exact (fun _ _ => rfl) | exact (fun h => absurd h Bool.false_ne_true) | refine And.intro ?_ ?_)))) ?_) trivial
  refine And.intro ?_ ?_
  · show ple (csP (primesL k x)) (csP (if chkK x = 0 then primesL x.on.n.toNat x else []))
    rw [e]
    (repeat' (first | exact rfl | exact trivial | exact (fun _ => rfl) | exact (fun _ _ => rfl) | exact (fun h => absurd h Bool.false_ne_true) | refine And.intro ?_ ?_))
  · exact h1.symm

def coversC (n : Int) (c : Cu) (p : Int) : Bool × Int :=
  if chkC n c = 0 then (if p < 0 then (false, 2) else if ((2 ^ n.toNat : Nat) : Int) ≤ p then (false, 2) else (hasC c p, 0)) else (false, chkC n c)
def CoversS : Spec := fnS (fun x : Int × Cu × Int => [iA x.1, cA x.2.1, iA x.2.2]) (fun _ => True) (fun x => .tup [bP (coversC x.1 x.2.1 x.2.2).1, iP (coversC x.1 x.2.1 x.2.2).2])
theorem Covers_ok : FnOk Try.prog 41 CoversS := by
  refine fnOk (Tb := tab) mixed tab_ok Try.func41 rfl rfl ?_
  rintro ⟨n, c, p⟩ hpre
  refine And.intro (And.intro rfl (And.intro rfl rfl)) ?_
  refine Exists.intro _ (And.intro check_ok (Exists.intro ((n, c)) (Exists.intro [] (And.intro (And.intro rfl (And.intro rfl (And.intro rfl (And.intro rfl (And.intro (fun _ => Or.inl rfl) (by first | exact (fun h => absurd h Bool.false_ne_true) | exact (fun _ => And.intro rfl rfl))))))) (And.intro ?_ (And.intro trivial (And.intro ?_ ?_)))))))
  · skip
    (repeat' (first | exact rfl | exact trivial | exact (fun _ => rfl) | exact (fun _ _ => rfl) | exact (fun h => absurd h Bool.false_ne_true) | refine And.intro ?_ ?_))
  · trivial
  refine bcase_intro (fun h1 => ?_) (fun h1 => ?_)
  · have h1 : (chkC n c != 0) = true := h1
    have h1 : chkC n c ≠ 0 := by simpa using h1
    refine And.intro (And.intro (fun _ => (by (repeat' (first | exact rfl | exact trivial | exact (fun _ => rfl) | exact (fun _ _ => rfl) | exact (fun h => absurd h Bool.false_ne_true) | refine And.intro ?_ ?_)))) ?_) trivial
    refine And.intro ?_ ?_
    · show false = (coversC n c p).1
      simp [coversC, h1]
    · show chkC n c = (coversC n c p).2
      simp [coversC, h1]
  have h1 : (chkC n c != 0) = false := h1
  have h1 : chkC n c = 0 := by simpa using h1
  obtain ⟨k, hk, rfl, _⟩ := chkC_zero h1
  refine bcase_intro (fun h2 => ?_) (fun h2 => ?_)
  · have h2 : p < 0 := of_decide_eq_true h2
    refine And.intro (And.intro (fun _ => (by (repeat' (first | exact rfl | exact trivial | exact (fun _ => rfl) | exact (fun _ _ => rfl) | exact (fun h => absurd h Bool.false_ne_true) | refine And.intro ?_ ?_)))) ?_) trivial
    refine And.intro ?_ ?_
    · show false = (coversC k c p).1
      simp [coversC, h1, h2]
    · show (2 : Int) = (coversC k c p).2
      simp [coversC, h1, h2]
  have h2 : ¬ p < 0 := of_decide_eq_false h2
  refine And.intro (Int.natCast_nonneg _) ?_
  refine bcase_intro (fun h3 => ?_) (fun h3 => ?_)
  · have h3 : IntKind.i64.wrap (1 * 2 ^ min (k : Int).toNat IntKind.i64.bits) ≤ p := of_decide_eq_true h3
    rw [pow6 hk] at h3
    refine And.intro (And.intro (fun _ => (by (repeat' (first | exact rfl | exact trivial | exact (fun _ => rfl) | exact (fun _ _ => rfl) | exact (fun h => absurd h Bool.false_ne_true) | refine And.intro ?_ ?_)))) ?_) trivial
    refine And.intro ?_ ?_
    · show false = (coversC k c p).1
      simp only [coversC, h1, h2, if_true, if_false, Int.toNat_natCast, h3]
    · show (2 : Int) = (coversC k c p).2
      simp only [coversC, h1, h2, if_true, if_false, Int.toNat_natCast, h3]
  have h3 : ¬ IntKind.i64.wrap (1 * 2 ^ min (k : Int).toNat IntKind.i64.bits) ≤ p := of_decide_eq_false h3
  rw [pow6 hk] at h3
  refine Exists.intro _ (And.intro has_ok (Exists.intro ((c, p)) (Exists.intro [] (And.intro (And.intro rfl (And.intro rfl (And.intro rfl (And.intro rfl (And.intro (fun _ => Or.inl rfl) (by first | exact (fun h => absurd h Bool.false_ne_true) | exact (fun _ => And.intro rfl rfl))))))) (And.intro ?_ (And.intro trivial (And.intro ?_ ?_)))))))
  · skip
    (repeat' (first | exact rfl | exact trivial | exact (fun _ => rfl) | exact (fun _ _ => rfl) | exact (fun h => absurd h Bool.false_ne_true) | refine And.intro ?_ ?_))
  · trivial
  refine And.intro (And.intro (fun _ => (by (repeat' (first | exact rfl | exact trivial | exact (fun _ => rfl) | exact (fun _ _ => rfl) | exact (fun h => absurd h Bool.false_ne_true) | refine And.intro ?_ ?_)))) ?_) trivial
  refine And.intro ?_ ?_
  · show hasC c p = (coversC k c p).1
    simp only [coversC, h1, h2, if_true, if_false, Int.toNat_natCast, h3]
  · show (0 : Int) = (coversC k c p).2
    simp only [coversC, h1, h2, if_true, if_false, Int.toNat_natCast, h3]

def tableC (n : Int) (c : Cu) : Tb × Int := if chkC n c = 0 then (⟨n, ptsC c (2 ^ n.toNat)⟩, 0) else (⟨0, 0⟩, chkC n c)
def TableS : Spec := fnS (fun x : Int × Cu => [iA x.1, cA x.2]) (fun _ => True) (fun x => .tup [tP (tableC x.1 x.2).1, iP (tableC x.1 x.2).2])
theorem Table_ok : FnOk Try.prog 40 TableS := by
  refine fnOk (Tb := tab) mixed tab_ok Try.func40 rfl rfl ?_
  rintro ⟨n, c⟩ hpre
  refine And.intro (And.intro rfl (And.intro rfl rfl)) ?_
  refine Exists.intro _ (And.intro check_ok (Exists.intro ((n, c)) (Exists.intro [] (And.intro (And.intro rfl (And.intro rfl (And.intro rfl (And.intro rfl (And.intro (fun _ => Or.inl rfl) (by first | exact (fun h => absurd h Bool.false_ne_true) | exact (fun _ => And.intro rfl rfl))))))) (And.intro ?_ (And.intro trivial (And.intro ?_ ?_)))))))
  · skip
    (repeat' (first | exact rfl | exact trivial | exact (fun _ => rfl) | exact (fun _ _ => rfl) | exact (fun h => absurd h Bool.false_ne_true) | refine And.intro ?_ ?_))
  · trivial
  refine bcase_intro (fun h1 => ?_) (fun h1 => ?_)
  · have h1 : (chkC n c != 0) = true := h1
    have h1 : chkC n c ≠ 0 := by simpa using h1
    have e : tableC n c = (⟨0, 0⟩, chkC n c) := by simp [tableC, h1]
    refine And.intro (And.intro (fun _ => (by (repeat' (first | exact rfl | exact trivial | exact (fun _ => rfl) | exact (fun _ _ => rfl) | exact (fun h => absurd h Bool.false_ne_true) | refine And.intro ?_ ?_)))) ?_) trivial
    show ple (.tup [_, _]) (.tup [tP (tableC n c).1, iP (tableC n c).2])
    rw [e]
    (repeat' (first | exact rfl | exact trivial | exact (fun _ => rfl) | exact (fun _ _ => rfl) | exact (fun h => absurd h Bool.false_ne_true) | refine And.intro ?_ ?_))
  have h1 : (chkC n c != 0) = false := h1
  have h1 : chkC n c = 0 := by simpa using h1
  obtain ⟨k, hk, rfl, _⟩ := chkC_zero h1
  refine Exists.intro _ (And.intro points_ok (Exists.intro ((k, c)) (Exists.intro [] (And.intro (And.intro rfl (And.intro rfl (And.intro rfl (And.intro rfl (And.intro (fun _ => Or.inl rfl) (by first | exact (fun h => absurd h Bool.false_ne_true) | exact (fun _ => And.intro rfl rfl))))))) (And.intro ?_ (And.intro trivial (And.intro ?_ ?_)))))))
  · skip
    (repeat' (first | exact rfl | exact trivial | exact (fun _ => rfl) | exact (fun _ _ => rfl) | exact (fun h => absurd h Bool.false_ne_true) | refine And.intro ?_ ?_))
  · exact hk
  have e : tableC k c = (⟨k, ptsC c (2 ^ k)⟩, 0) := by simp [tableC, h1]
  refine And.intro (And.intro (fun _ => (by (repeat' (first | exact rfl | exact trivial | exact (fun _ => rfl) | exact (fun _ _ => rfl) | exact (fun h => absurd h Bool.false_ne_true) | refine And.intro ?_ ?_)))) ?_) trivial
  show ple (.tup [_, _]) (.tup [tP (tableC k c).1, iP (tableC k c).2])
  rw [e]
  (repeat' (first | exact rfl | exact trivial | exact (fun _ => rfl) | exact (fun _ _ => rfl) | exact (fun h => absurd h Bool.false_ne_true) | refine And.intro ?_ ?_))

def meetC (n : Int) (a b : Cu) : Cu × Bool × Int :=
  if chk2 n a b = 0 then (if againstC a b = 0#64 then (⟨a.care ||| b.care, a.value ||| b.value⟩, true, 0) else (⟨0, 0⟩, false, 0)) else (⟨0, 0⟩, false, chk2 n a b)
def MeetS : Spec := fnS (fun x : Int × Cu × Cu => [iA x.1, cA x.2.1, cA x.2.2]) (fun _ => True) (fun x => .tup [cP (meetC x.1 x.2.1 x.2.2).1, bP (meetC x.1 x.2.1 x.2.2).2.1, iP (meetC x.1 x.2.1 x.2.2).2.2])
theorem Meet_ok : FnOk Try.prog 31 MeetS := by
  refine fnOk (Tb := tab) mixed tab_ok Try.func31 rfl rfl ?_
  rintro ⟨n, a, b⟩ hpre
  refine And.intro (And.intro rfl (And.intro rfl rfl)) ?_
  refine Exists.intro _ (And.intro checks_ok (Exists.intro ((n, [a, b])) (Exists.intro [] (And.intro (And.intro rfl (And.intro rfl (And.intro rfl (And.intro rfl (And.intro (fun _ => Or.inl rfl) (by first | exact (fun h => absurd h Bool.false_ne_true) | exact (fun _ => And.intro rfl rfl))))))) (And.intro ?_ (And.intro trivial (And.intro ?_ ?_)))))))
  · skip
    (repeat' (first | exact rfl | exact trivial | exact (fun _ => rfl) | exact (fun _ _ => rfl) | exact (fun h => absurd h Bool.false_ne_true) | refine And.intro ?_ ?_))
    exact two_seq a b
  · show 2 ≤ 1000; omega
  refine bcase_intro (fun h1 => ?_) (fun h1 => ?_)
  · have h1 : (chksC n [a, b] != 0) = true := h1
    rw [chks2] at h1
    have h1 : chk2 n a b ≠ 0 := by simpa using h1
    have e : meetC n a b = (⟨0, 0⟩, false, chk2 n a b) := by simp [meetC, h1]
    refine And.intro (And.intro (fun _ => (by (repeat' (first | exact rfl | exact trivial | exact (fun _ => rfl) | exact (fun _ _ => rfl) | exact (fun h => absurd h Bool.false_ne_true) | refine And.intro ?_ ?_)))) ?_) trivial
    show ple (.tup [_, _, .val (.int .i64 (chksC n [a, b]))]) (.tup [cP (meetC n a b).1, bP (meetC n a b).2.1, iP (meetC n a b).2.2])
    rw [e, chks2]
    (repeat' (first | exact rfl | exact trivial | exact (fun _ => rfl) | exact (fun _ _ => rfl) | exact (fun h => absurd h Bool.false_ne_true) | refine And.intro ?_ ?_))
  have h1 : (chksC n [a, b] != 0) = false := h1
  rw [chks2] at h1
  have h1 : chk2 n a b = 0 := by simpa using h1
  refine Exists.intro _ (And.intro against_ok (Exists.intro ((a, b)) (Exists.intro [] (And.intro (And.intro rfl (And.intro rfl (And.intro rfl (And.intro rfl (And.intro (fun _ => Or.inl rfl) (by first | exact (fun h => absurd h Bool.false_ne_true) | exact (fun _ => And.intro rfl rfl))))))) (And.intro ?_ (And.intro trivial (And.intro ?_ ?_)))))))
  · skip
    (repeat' (first | exact rfl | exact trivial | exact (fun _ => rfl) | exact (fun _ _ => rfl) | exact (fun h => absurd h Bool.false_ne_true) | refine And.intro ?_ ?_))
  · trivial
  refine bcase_intro (fun h2 => ?_) (fun h2 => ?_)
  · have h2 : ((againstC a b).toNat != (0 : Int)) = true := h2
    try simp only [zA, zB, zC, zD, zE, zF, zG, zH, zI, zJ, zK, zL, zM, zN, zO, zP, zQ, zR, zS, zT, zU, zV, zW, zX, zY, zZ, yA, yB, yC, yD, yE, yF, yG, yH, yI, yJ, yK, yL, yM, reduceCtorEq] at h2
    have e : meetC n a b = (⟨0, 0⟩, false, 0) := by simp [meetC, h1, h2]
    refine And.intro (And.intro (fun _ => (by (repeat' (first | exact rfl | exact trivial | exact (fun _ => rfl) | exact (fun _ _ => rfl) | exact (fun h => absurd h Bool.false_ne_true) | refine And.intro ?_ ?_)))) ?_) trivial
    show ple (.tup [_, _, _]) (.tup [cP (meetC n a b).1, bP (meetC n a b).2.1, iP (meetC n a b).2.2])
    rw [e]
    (repeat' (first | exact rfl | exact trivial | exact (fun _ => rfl) | exact (fun _ _ => rfl) | exact (fun h => absurd h Bool.false_ne_true) | refine And.intro ?_ ?_))
  have h2 : ((againstC a b).toNat != (0 : Int)) = false := h2
  try simp only [zA, zB, zC, zD, zE, zF, zG, zH, zI, zJ, zK, zL, zM, zN, zO, zP, zQ, zR, zS, zT, zU, zV, zW, zX, zY, zZ, yA, yB, yC, yD, yE, yF, yG, yH, yI, yJ, yK, yL, yM, reduceCtorEq] at h2
  have e : meetC n a b = (⟨a.care ||| b.care, a.value ||| b.value⟩, true, 0) := by simp [meetC, h1, h2]
  refine And.intro (And.intro (fun _ => (by (repeat' (first | exact rfl | exact trivial | exact (fun _ => rfl) | exact (fun _ _ => rfl) | exact (fun h => absurd h Bool.false_ne_true) | refine And.intro ?_ ?_)))) ?_) trivial
  show ple (.tup [_, _, _]) (.tup [cP (meetC n a b).1, bP (meetC n a b).2.1, iP (meetC n a b).2.2])
  rw [e]
  (repeat' (first | exact rfl | exact trivial | exact (fun _ => rfl) | exact (fun _ _ => rfl) | exact (fun h => absurd h Bool.false_ne_true) | refine And.intro ?_ ?_))
  · exact u_or _ _
  · exact u_or _ _

end Go.Sx.Pn
