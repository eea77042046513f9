/- Contracts: tables, tasks, pairs of cubes. -/
import Derived.Test.YtdkhdkldjpaadaaP3
set_option maxHeartbeats 1000000
set_option maxRecDepth 4000
set_option linter.unusedSimpArgs false
set_option linter.unusedVariables false
namespace Go.Sx.Pn
open Go Go.Proofs

structure Tb where
  n : Int
  bits : U
deriving DecidableEq
def tA (t : Tb) : SV := .p false (.agg [.val (.int .i64 t.n), .val (.int .u64 t.bits.toNat)])
def tP (t : Tb) : PV := .agg [.val (.int .i64 t.n), .val (.int .u64 t.bits.toNat)]

def sizedS : Spec := fnS (fun n : Int => [iA n]) (fun _ => True) (fun n => bP (decide (0 ≤ n) && decide (n ≤ 6)))
theorem sized_ok : FnOk Try.prog 107 sizedS := by
  refine fnOk (Tb := tab) mixed tab_ok Try.func107 rfl rfl ?_
  rintro (n : Int) hpre
  refine And.intro (And.intro rfl (And.intro rfl rfl)) ?_
  refine bcase_intro (fun h1 => ?_) (fun h1 => ?_)
  · skip
    refine And.intro (And.intro (fun _ => (by (repeat' (first | exact rfl | exact trivial | exact (fun _ => rfl) | exact (fun _ _ => rfl) | exact (fun h => absurd h Bool.false_ne_true) | refine And.intro ?_ ?_)))) ?_) trivial
    show decide (n ≤ 6) = (decide (0 ≤ n) && decide (n ≤ 6))
    have h1 : decide (0 ≤ n) = true := h1
    rw [h1]; rfl
  · skip
    refine And.intro (And.intro (fun _ => (by (repeat' (first | exact rfl | exact trivial | exact (fun _ => rfl) | exact (fun _ _ => rfl) | exact (fun h => absurd h Bool.false_ne_true) | refine And.intro ?_ ?_)))) ?_) trivial
    show false = (decide (0 ≤ n) && decide (n ≤ 6))
    have h1 : decide (0 ≤ n) = false := h1
    rw [h1]; rfl

/-- the points of n variables, as bits -/
def wholeU (n : Nat) : U := if n = 6 then 18446744073709551615#64 else (1#64 <<< (2 ^ n)) - 1#64
def wholeS : Spec := fnS (fun n : Nat => [iA n]) (fun n => n ≤ 6) (fun n => uP (wholeU n))
theorem whole_ok : FnOk Try.prog 137 wholeS := by
  refine fnOk (Tb := tab) mixed tab_ok Try.func137 rfl rfl ?_
  rintro (n : Nat) hpre
  refine And.intro (And.intro rfl (And.intro rfl rfl)) ?_
  have hn : n ≤ 6 := hpre
  refine bcase_intro (fun h1 => ?_) (fun h1 => ?_)
  · skip
    refine And.intro (And.intro (fun _ => (by (repeat' (first | exact rfl | exact trivial | exact (fun _ => rfl) | exact (fun _ _ => rfl) | exact (fun h => absurd h Bool.false_ne_true) | refine And.intro ?_ ?_)))) ?_) trivial
    show (18446744073709551615 : Int) = ((wholeU n).toNat : Int)
    have h1 : ((n : Int) == 6) = true := h1
    have : n = 6 := by have := eq_of_beq h1; omega
    subst this; rfl
  · have h1 : ((n : Int) == 6) = false := h1
    have h6 : n ≠ 6 := by intro e; subst e; cases h1
    refine And.intro (Int.natCast_nonneg _) ?_
    refine And.intro ?_ ?_
    · show (0 : Int) ≤ IntKind.u64.wrap _
      exact wrap_u64_nonneg _
    refine And.intro (And.intro (fun _ => (by (repeat' (first | exact rfl | exact trivial | exact (fun _ => rfl) | exact (fun _ _ => rfl) | exact (fun h => absurd h Bool.false_ne_true) | refine And.intro ?_ ?_)))) ?_) trivial
    show IntKind.u64.wrap (IntKind.u64.wrap (1 * 2 ^ min (IntKind.u64.wrap (1 * 2 ^ min (n : Int).toNat IntKind.u64.bits)).toNat IntKind.u64.bits) - 1) = ((wholeU n).toNat : Int)
    try simp only [zA, zB, zC, zD, zE, zF, zG, zH, zI, zJ, zK, zL, zM, zN, zO, zP, zQ, zR, zS, zT, zU, zV, zW, zX, zY, zZ, yA, yB, yC, yD, yE, yF, yG, yH, yI, yJ, yK, yL, yM, reduceCtorEq]
    simp only [wholeU, h6, if_false]
    congr 3
    obtain rfl | rfl | rfl | rfl | rfl | rfl : n = 0 ∨ n = 1 ∨ n = 2 ∨ n = 3 ∨ n = 4 ∨ n = 5 := by omega
    all_goals rfl

def chkT (t : Tb) : Int := if t.n < 0 then 2 else if 6 < t.n then 2 else if t.bits &&& ~~~ wholeU t.n.toNat = 0#64 then 0 else 3
def tcheckS : Spec := fnS (fun t : Tb => [tA t]) (fun _ => True) (fun t => iP (chkT t))
theorem tcheck_ok : FnOk Try.prog 93 tcheckS := by
  refine fnOk (Tb := tab) mixed tab_ok Try.func93 rfl rfl ?_
  rintro ⟨n, b⟩ hpre
  refine And.intro (And.intro rfl (And.intro rfl rfl)) ?_
  refine Exists.intro _ (And.intro sized_ok (Exists.intro (n) (Exists.intro [] (And.intro (And.intro rfl (And.intro rfl (And.intro rfl (And.intro rfl (And.intro (fun _ => Or.inl rfl) (by first | exact (fun h => absurd h Bool.false_ne_true) | exact (fun _ => And.intro rfl rfl))))))) (And.intro ?_ (And.intro trivial (And.intro ?_ ?_)))))))
  · skip
    (repeat' (first | exact rfl | exact trivial | exact (fun _ => rfl) | exact (fun _ _ => rfl) | exact (fun h => absurd h Bool.false_ne_true) | refine And.intro ?_ ?_))
  · trivial
  refine bcase_intro (fun h1 => ?_) (fun h1 => ?_)
  · skip
    refine And.intro (And.intro (fun _ => (by (repeat' (first | exact rfl | exact trivial | exact (fun _ => rfl) | exact (fun _ _ => rfl) | exact (fun h => absurd h Bool.false_ne_true) | refine And.intro ?_ ?_)))) ?_) trivial
    show (2 : Int) = chkT ⟨n, b⟩
    have h1 : (!(decide (0 ≤ n) && decide (n ≤ 6))) = true := h1
    simp only [chkT]
    by_cases h : n < 0
    · simp [h]
    · have : ¬ n ≤ 6 := by intro h6; simp [show 0 ≤ n by omega, h6] at h1
      simp [h, show 6 < n by omega]
  · have h1 : (!(decide (0 ≤ n) && decide (n ≤ 6))) = false := h1
    have h2 : 0 ≤ n ∧ n ≤ 6 := by simpa using h1
    refine Exists.intro [0, 1, 2, 3, 4, 5, 6, 7] (And.intro (by kernel_rfl) ?_)
    refine Exists.intro _ (And.intro whole_ok (Exists.intro (n.toNat) (Exists.intro [] (And.intro (And.intro rfl (And.intro rfl (And.intro rfl (And.intro rfl (And.intro (fun _ => Or.inl rfl) (by first | exact (fun h => absurd h Bool.false_ne_true) | exact (fun _ => And.intro rfl rfl))))))) (And.intro ?_ (And.intro trivial (And.intro ?_ ?_)))))))
    · show n = (n.toNat : Int); omega
    · show n.toNat ≤ 6; omega
    have e1 : ¬ n < 0 := by omega
    have e2 : ¬ 6 < n := by omega
    refine bcase_intro (fun h3 => ?_) (fun h3 => ?_)
    · skip
      refine And.intro (And.intro (fun _ => (by (repeat' (first | exact rfl | exact trivial | exact (fun _ => rfl) | exact (fun _ _ => rfl) | exact (fun h => absurd h Bool.false_ne_true) | refine And.intro ?_ ?_)))) ?_) trivial
      show (3 : Int) = chkT ⟨n, b⟩
      have h3 : (bits .andNot .u64 b.toNat (wholeU n.toNat).toNat != 0) = true := h3
      try simp only [zA, zB, zC, zD, zE, zF, zG, zH, zI, zJ, zK, zL, zM, zN, zO, zP, zQ, zR, zS, zT, zU, zV, zW, zX, zY, zZ, yA, yB, yC, yD, yE, yF, yG, yH, yI, yJ, yK, yL, yM, reduceCtorEq] at h3
      simp [chkT, e1, e2, h3]
    · skip
      refine And.intro (And.intro (fun _ => (by (repeat' (first | exact rfl | exact trivial | exact (fun _ => rfl) | exact (fun _ _ => rfl) | exact (fun h => absurd h Bool.false_ne_true) | refine And.intro ?_ ?_)))) ?_) trivial
      show (0 : Int) = chkT ⟨n, b⟩
      have h3 : (bits .andNot .u64 b.toNat (wholeU n.toNat).toNat != 0) = false := h3
      try simp only [zA, zB, zC, zD, zE, zF, zG, zH, zI, zJ, zK, zL, zM, zN, zO, zP, zQ, zR, zS, zT, zU, zV, zW, zX, zY, zZ, yA, yB, yC, yD, yE, yF, yG, yH, yI, yJ, yK, yL, yM, reduceCtorEq] at h3
      simp [chkT, e1, e2, h3]

end Go.Sx.Pn
