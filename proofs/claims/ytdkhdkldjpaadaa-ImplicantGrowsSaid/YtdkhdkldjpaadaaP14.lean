/- Contracts of the reference: cubes and points. -/
import Derived.Test.YtdkhdkldjpaadaaP13
set_option maxHeartbeats 1000000
set_option maxRecDepth 4000
set_option linter.unusedSimpArgs false
set_option linter.unusedVariables false
namespace Go.Sx.Pn
open Go Go.Proofs

theorem allU_eq {n : Nat} (h : n ≤ 6) : allU n = BitVec.ofNat 64 (2 ^ n - 1) := by
  obtain rfl | rfl | rfl | rfl | rfl | rfl | rfl : n = 0 ∨ n = 1 ∨ n = 2 ∨ n = 3 ∨ n = 4 ∨ n = 5 ∨ n = 6 := by omega
  all_goals rfl
theorem allU_bit {n i : Nat} (h : n ≤ 6) (hi : i < 64) : (allU n).getLsbD i = decide (i < n) := by
  rw [allU_eq h, BitVec.getLsbD_ofNat]
  simp [hi, Nat.testBit_two_pow_sub_one]
theorem mask_iff {n : Nat} (h : n ≤ 6) (c : U) : c &&& ~~~ allU n = 0#64 ↔ ¬ (1#64 <<< n ≤ c) := by
  have e1 : (1#64 <<< n).toNat = 2 ^ n := by
    obtain rfl | rfl | rfl | rfl | rfl | rfl | rfl : n = 0 ∨ n = 1 ∨ n = 2 ∨ n = 3 ∨ n = 4 ∨ n = 5 ∨ n = 6 := by omega
    all_goals rfl
  rw [BitVec.le_def, e1]
  constructor
  · intro hz
    have : c.toNat < 2 ^ n := by
      refine Nat.lt_pow_two_of_testBit _ fun i hi => ?_
      by_cases h64 : i < 64
      · have := congrArg (fun b : U => b.getLsbD i) hz
        simp only [BitVec.getLsbD_and, BitVec.getLsbD_not, allU_bit h h64, BitVec.getLsbD_zero, h64] at this
        have hn : ¬ i < n := by omega
        have h2 : c.getLsbD i = false := by simpa [hn] using this
        exact h2
      · exact Nat.testBit_lt_two_pow (Nat.lt_of_lt_of_le c.isLt (Nat.pow_le_pow_right (by omega) (by omega)))
    omega
  · intro hlt
    apply BitVec.eq_of_getLsbD_eq
    intro i hi
    simp only [BitVec.getLsbD_and, BitVec.getLsbD_not, allU_bit h hi, BitVec.getLsbD_zero, hi]
    by_cases hn : i < n
    · simp [hn]
    · have : c.toNat.testBit i = false := Nat.testBit_lt_two_pow (Nat.lt_of_lt_of_le (show c.toNat < 2 ^ n by omega) (Nat.pow_le_pow_right (by omega) (by omega)))
      have hc : c.getLsbD i = false := this
      simp [hc]

theorem rcheck_ok : FnOk Try.prog 39 checkS := by
  refine fnOk (Tb := tab) mixed tab_ok Try.func39 rfl rfl ?_
  rintro ⟨n, c⟩ hpre
  refine And.intro (And.intro rfl (And.intro rfl rfl)) ?_
  refine bcase_intro (fun h1 => ?_) (fun h1 => ?_)
  · skip
    refine And.intro (And.intro (fun _ => (by (repeat' (first | exact rfl | exact trivial | exact (fun _ => rfl) | exact (fun _ _ => rfl) | exact (fun h => absurd h Bool.false_ne_true) | refine And.intro ?_ ?_)))) ?_) trivial
    show (2 : Int) = chkC n c
    try simp only [zA, zB, zC, zD, zE, zF, zG, zH, zI, zJ, zK, zL, zM, zN, zO, zP, zQ, zR, zS, zT, zU, zV, zW, zX, zY, zZ, yA, yB, yC, yD, yE, yF, yG, yH, yI, yJ, yK, yL, yM, reduceCtorEq] at h1
    simp [chkC, h1]
  refine bcase_intro (fun h2 => ?_) (fun h2 => ?_)
  · skip
    refine And.intro (And.intro (fun _ => (by (repeat' (first | exact rfl | exact trivial | exact (fun _ => rfl) | exact (fun _ _ => rfl) | exact (fun h => absurd h Bool.false_ne_true) | refine And.intro ?_ ?_)))) ?_) trivial
    show (2 : Int) = chkC n c
    try simp only [zA, zB, zC, zD, zE, zF, zG, zH, zI, zJ, zK, zL, zM, zN, zO, zP, zQ, zR, zS, zT, zU, zV, zW, zX, zY, zZ, yA, yB, yC, yD, yE, yF, yG, yH, yI, yJ, yK, yL, yM, reduceCtorEq] at h1 h2
    simp [chkC, h1, h2]
  try simp only [zA, zB, zC, zD, zE, zF, zG, zH, zI, zJ, zK, zL, zM, zN, zO, zP, zQ, zR, zS, zT, zU, zV, zW, zX, zY, zZ, yA, yB, yC, yD, yE, yF, yG, yH, yI, yJ, yK, yL, yM, reduceCtorEq] at h1 h2
  obtain ⟨k, hk, rfl⟩ : ∃ k : Nat, k ≤ 6 ∧ n = k := ⟨n.toNat, by omega, by omega⟩
  refine Exists.intro [0, 1, 2, 3, 4, 5, 6, 7, 8, 9, 10, 11, 12] (And.intro (by kernel_rfl) ?_)
  refine And.intro (Int.natCast_nonneg _) ?_
  refine bcase_intro (fun h3 => ?_) (fun h3 => ?_)
  · skip
    refine And.intro (And.intro (fun _ => (by (repeat' (first | exact rfl | exact trivial | exact (fun _ => rfl) | exact (fun _ _ => rfl) | exact (fun h => absurd h Bool.false_ne_true) | refine And.intro ?_ ?_)))) ?_) trivial
    show (3 : Int) = chkC k c
    have h3 : decide (IntKind.u64.wrap (1 * 2 ^ min (k : Int).toNat IntKind.u64.bits) ≤ (c.care.toNat : Int)) = true := h3
    try simp only [zA, zB, zC, zD, zE, zF, zG, zH, zI, zJ, zK, zL, zM, zN, zO, zP, zQ, zR, zS, zT, zU, zV, zW, zX, zY, zZ, yA, yB, yC, yD, yE, yF, yG, yH, yI, yJ, yK, yL, yM, reduceCtorEq] at h3
    have h4 : ¬ c.care &&& ~~~ allU k = 0#64 := fun h => (mask_iff hk c.care).1 h h3
    simp [chkC, h1, h2, h4]
  have h3 : decide (IntKind.u64.wrap (1 * 2 ^ min (k : Int).toNat IntKind.u64.bits) ≤ (c.care.toNat : Int)) = false := h3
  try simp only [zA, zB, zC, zD, zE, zF, zG, zH, zI, zJ, zK, zL, zM, zN, zO, zP, zQ, zR, zS, zT, zU, zV, zW, zX, zY, zZ, yA, yB, yC, yD, yE, yF, yG, yH, yI, yJ, yK, yL, yM, reduceCtorEq] at h3
  have h5 : c.care &&& ~~~ allU k = 0#64 := (mask_iff hk c.care).2 h3
  refine bcase_intro (fun h4 => ?_) (fun h4 => ?_)
  · skip
    refine And.intro (And.intro (fun _ => (by (repeat' (first | exact rfl | exact trivial | exact (fun _ => rfl) | exact (fun _ _ => rfl) | exact (fun h => absurd h Bool.false_ne_true) | refine And.intro ?_ ?_)))) ?_) trivial
    show (3 : Int) = chkC k c
    try simp only [zA, zB, zC, zD, zE, zF, zG, zH, zI, zJ, zK, zL, zM, zN, zO, zP, zQ, zR, zS, zT, zU, zV, zW, zX, zY, zZ, yA, yB, yC, yD, yE, yF, yG, yH, yI, yJ, yK, yL, yM, reduceCtorEq] at h4
    simp [chkC, h1, h2, h5, h4]
  refine And.intro (And.intro (fun _ => (by (repeat' (first | exact rfl | exact trivial | exact (fun _ => rfl) | exact (fun _ _ => rfl) | exact (fun h => absurd h Bool.false_ne_true) | refine And.intro ?_ ?_)))) ?_) trivial
  show (0 : Int) = chkC k c
  try simp only [zA, zB, zC, zD, zE, zF, zG, zH, zI, zJ, zK, zL, zM, zN, zO, zP, zQ, zR, zS, zT, zU, zV, zW, zX, zY, zZ, yA, yB, yC, yD, yE, yF, yG, yH, yI, yJ, yK, yL, yM, reduceCtorEq] at h4
  simp [chkC, h1, h2, h5, h4]

theorem in_ok : FnOk Try.prog 81 hasS := by
  refine fnOk (Tb := tab) mixed tab_ok Try.func81 rfl rfl ?_
  rintro ⟨c, p⟩ hpre
  refine And.intro (And.intro rfl (And.intro rfl rfl)) ?_
  refine And.intro (And.intro (fun _ => (by (repeat' (first | exact rfl | exact trivial | exact (fun _ => rfl) | exact (fun _ _ => rfl) | exact (fun h => absurd h Bool.false_ne_true) | refine And.intro ?_ ?_)))) ?_) trivial
  show (bits .and .u64 (IntKind.u64.wrap p) c.care.toNat == (c.value.toNat : Int)) = hasC c p
  rw [u_wrap_int]
  try simp only [zA, zB, zC, zD, zE, zF, zG, zH, zI, zJ, zK, zL, zM, zN, zO, zP, zQ, zR, zS, zT, zU, zV, zW, zX, zY, zZ, yA, yB, yC, yD, yE, yF, yG, yH, yI, yJ, yK, yL, yM, reduceCtorEq]
  rfl

def sizeS : Spec := fnS (fun n : Nat => [iA n]) (fun n => n ≤ 6) (fun n => iP (2 ^ n : Nat))
theorem size_ok : FnOk Try.prog 70 sizeS := by
  refine fnOk (Tb := tab) mixed tab_ok Try.func70 rfl rfl ?_
  rintro (n : Nat) hpre
  refine And.intro (And.intro rfl (And.intro rfl rfl)) ?_
  refine And.intro (Int.natCast_nonneg _) ?_
  refine And.intro (And.intro (fun _ => (by (repeat' (first | exact rfl | exact trivial | exact (fun _ => rfl) | exact (fun _ _ => rfl) | exact (fun h => absurd h Bool.false_ne_true) | refine And.intro ?_ ?_)))) ?_) trivial
  exact pow6 hpre

def bothS : Spec := fnS (fun x : Int × Cu × Cu => [iA x.1, cA x.2.1, cA x.2.2]) (fun _ => True) (fun x => iP (chk2 x.1 x.2.1 x.2.2))
theorem both_ok : FnOk Try.prog 85 bothS := by
  refine fnOk (Tb := tab) mixed tab_ok Try.func85 rfl rfl ?_
  rintro ⟨n, a, b⟩ hpre
  refine And.intro (And.intro rfl (And.intro rfl rfl)) ?_
  refine Exists.intro _ (And.intro rcheck_ok (Exists.intro ((n, a)) (Exists.intro [] (And.intro (And.intro rfl (And.intro rfl (And.intro rfl (And.intro rfl (And.intro (fun _ => Or.inl rfl) (by first | exact (fun h => absurd h Bool.false_ne_true) | exact (fun _ => And.intro rfl rfl))))))) (And.intro ?_ (And.intro trivial (And.intro ?_ ?_)))))))
  · skip
    (repeat' (first | exact rfl | exact trivial | exact (fun _ => rfl) | exact (fun _ _ => rfl) | exact (fun h => absurd h Bool.false_ne_true) | refine And.intro ?_ ?_))
  · trivial
  refine bcase_intro (fun h1 => ?_) (fun h1 => ?_)
  · have h1 : (chkC n a != 0) = true := h1
    have h1 : chkC n a ≠ 0 := by simpa using h1
    refine And.intro (And.intro (fun _ => (by (repeat' (first | exact rfl | exact trivial | exact (fun _ => rfl) | exact (fun _ _ => rfl) | exact (fun h => absurd h Bool.false_ne_true) | refine And.intro ?_ ?_)))) ?_) trivial
    show chkC n a = chk2 n a b
    simp [chk2, h1]
  have h1 : (chkC n a != 0) = false := h1
  have h1 : chkC n a = 0 := by simpa using h1
  refine Exists.intro _ (And.intro rcheck_ok (Exists.intro ((n, b)) (Exists.intro [] (And.intro (And.intro rfl (And.intro rfl (And.intro rfl (And.intro rfl (And.intro (fun _ => Or.inl rfl) (by first | exact (fun h => absurd h Bool.false_ne_true) | exact (fun _ => And.intro rfl rfl))))))) (And.intro ?_ (And.intro trivial (And.intro ?_ ?_)))))))
  · skip
    (repeat' (first | exact rfl | exact trivial | exact (fun _ => rfl) | exact (fun _ _ => rfl) | exact (fun h => absurd h Bool.false_ne_true) | refine And.intro ?_ ?_))
  · trivial
  refine And.intro (And.intro (fun _ => (by (repeat' (first | exact rfl | exact trivial | exact (fun _ => rfl) | exact (fun _ _ => rfl) | exact (fun h => absurd h Bool.false_ne_true) | refine And.intro ?_ ?_)))) ?_) trivial
  show chkC n b = chk2 n a b
  simp [chk2, h1]

end Go.Sx.Pn
