/- Contracts of the functions of package implicant: the points of a cube; lists of cubes. -/
import Derived.Test.YtdkhdkldjpaadaaP1
set_option maxHeartbeats 1000000
set_option maxRecDepth 4000
set_option linter.unusedSimpArgs false
set_option linter.unusedVariables false
namespace Go.Sx.Pn
open Go Go.Proofs

theorem pow6 {n : Nat} (h : n ≤ 6) : IntKind.i64.wrap (1 * 2 ^ min (↑n : Int).toNat IntKind.i64.bits) = ((2 ^ n : Nat) : Int) := by
  obtain rfl | rfl | rfl | rfl | rfl | rfl | rfl : n = 0 ∨ n = 1 ∨ n = 2 ∨ n = 3 ∨ n = 4 ∨ n = 5 ∨ n = 6 := by omega
  all_goals rfl
theorem pow_le64 {n : Nat} (h : n ≤ 6) : 2 ^ n ≤ 64 := Nat.pow_le_pow_right (by omega) (show n ≤ 6 from h)
theorem wrap_i (n : Int) (h1 : -9223372036854775808 ≤ n) (h2 : n < 9223372036854775808) : IntKind.i64.wrap n = n := i_wrap h1 h2

/-- the points of a cube, below m -/
def ptsC (c : Cu) : Nat → U
  | 0 => 0
  | k + 1 => if hasC c k then ptsC c k ||| (1#64 <<< k) else ptsC c k

def pointsS : Spec := fnS (fun x : Nat × Cu => [iA x.1, cA x.2]) (fun x => x.1 ≤ 6) (fun x => uP (ptsC x.2 (2 ^ x.1)))
theorem points_ok : FnOk Try.prog 79 pointsS := by
  refine fnOk (Tb := tab) mixed tab_ok Try.func79 rfl rfl ?_
  rintro ⟨n, c⟩ hpre
  refine And.intro (And.intro rfl (And.intro rfl rfl)) ?_
  have hn : n ≤ 6 := hpre
  have h64 := pow_le64 hn
  refine And.intro (Int.natCast_nonneg _) ?_
  refine Exists.intro (LAnn.inv { X := Nat, up := fun k => [(9, .s (iA k)), (5, .s (uA (ptsC c k)))], uo := fun _ => [], inv := fun k => k ≤ 2 ^ n, meas := fun k => 2 ^ n - k, x0 := 0 }) ?_
  refine And.intro (And.intro (And.intro (by (repeat' (first | exact rfl | exact trivial | exact (fun _ => rfl) | exact (fun _ _ => rfl) | exact (fun h => absurd h Bool.false_ne_true) | refine And.intro ?_ ?_))) (by (repeat' (first | exact rfl | exact trivial | exact (fun _ => rfl) | exact (fun _ _ => rfl) | exact (fun h => absurd h Bool.false_ne_true) | refine And.intro ?_ ?_)))) rfl) (And.intro ?_ ?_)
  · exact Nat.zero_le _
  intro (k : Nat) (hk : k ≤ 2 ^ n)
  refine bcase_intro (fun h1 => ?_) (fun h1 => ?_)
  · -- a round
    have h1 : (k : Int) < IntKind.i64.wrap (1 * 2 ^ min (↑n : Int).toNat IntKind.i64.bits) := of_decide_eq_true h1
    rw [pow6 hn] at h1
    have hwr : IntKind.i64.wrap ((k : Int) + 1) = ((k + 1 : Nat) : Int) := by rw [wrap_i _ (by omega) (by omega)]; rfl
    refine Exists.intro _ (And.intro has_ok (Exists.intro ((c, (k : Int))) (Exists.intro [] (And.intro (And.intro rfl (And.intro rfl (And.intro rfl (And.intro rfl (And.intro (fun _ => Or.inl rfl) (by first | exact (fun h => absurd h Bool.false_ne_true) | exact (fun _ => And.intro rfl rfl))))))) (And.intro ?_ (And.intro trivial (And.intro ?_ ?_)))))))
    · skip
      (repeat' (first | exact rfl | exact trivial | exact (fun _ => rfl) | exact (fun _ _ => rfl) | exact (fun h => absurd h Bool.false_ne_true) | refine And.intro ?_ ?_))
    · trivial
    refine bcase_intro (fun h2 => ?_) (fun h2 => ?_)
    · have h2 : hasC c k = true := h2
      refine And.intro (Int.natCast_nonneg _) ?_
      refine Exists.intro (k + 1) (And.intro (And.intro rfl rfl) (And.intro (And.intro ?_ rfl) (And.intro ?_ ?_)))
      · skip
        (repeat' (first | exact rfl | exact trivial | exact (fun _ => rfl) | exact (fun _ _ => rfl) | exact (fun h => absurd h Bool.false_ne_true) | refine And.intro ?_ ?_))
        · exact hwr
        · show bits .or .u64 (ptsC c k).toNat (IntKind.u64.wrap (1 * 2 ^ min (k : Int).toNat IntKind.u64.bits)) = ((ptsC c (k + 1)).toNat : Int)
          try simp only [zA, zB, zC, zD, zE, zF, zG, zH, zI, zJ, zK, zL, zM, zN, zO, zP, zQ, zR, zS, zT, zU, zV, zW, zX, zY, zZ, yA, yB, yC, yD, yE, yF, yG, yH, yI, yJ, yK, yL, yM, reduceCtorEq]
          simp [ptsC, h2]
      · show k + 1 ≤ 2 ^ n; omega
      · show 2 ^ n - (k + 1) < 2 ^ n - k; omega
    · have h2 : hasC c k = false := h2
      refine Exists.intro (k + 1) (And.intro (And.intro rfl rfl) (And.intro (And.intro ?_ rfl) (And.intro ?_ ?_)))
      · skip
        (repeat' (first | exact rfl | exact trivial | exact (fun _ => rfl) | exact (fun _ _ => rfl) | exact (fun h => absurd h Bool.false_ne_true) | refine And.intro ?_ ?_))
        · exact hwr
        · show ((ptsC c k).toNat : Int) = ((ptsC c (k + 1)).toNat : Int)
          simp [ptsC, h2]
      · show k + 1 ≤ 2 ^ n; omega
      · show 2 ^ n - (k + 1) < 2 ^ n - k; omega
  · have h1 : ¬ (k : Int) < IntKind.i64.wrap (1 * 2 ^ min (↑n : Int).toNat IntKind.i64.bits) := of_decide_eq_false h1
    rw [pow6 hn] at h1
    have : k = 2 ^ n := by omega
    subst this
    refine And.intro (And.intro (fun _ => (by (repeat' (first | exact rfl | exact trivial | exact (fun _ => rfl) | exact (fun _ _ => rfl) | exact (fun h => absurd h Bool.false_ne_true) | refine And.intro ?_ ?_)))) ?_) trivial
    rfl

end Go.Sx.Pn
