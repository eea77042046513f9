/- Contracts of the reference: points of tables, tables checked. -/
import Derived.Test.YtdkhdkldjpaadaaP15
set_option maxHeartbeats 1000000
set_option maxRecDepth 4000
set_option linter.unusedSimpArgs false
set_option linter.unusedVariables false
namespace Go.Sx.Pn
open Go Go.Proofs

def atT (t : Tb) (k : Nat) : Bool := t.bits.getLsbD k
def atS : Spec := fnS (fun x : Tb × Nat => [tA x.1, iA x.2]) (fun _ => True) (fun x => bP (atT x.1 x.2))
theorem at_ok : FnOk Try.prog 80 atS := by
  refine fnOk (Tb := tab) mixed tab_ok Try.func80 rfl rfl ?_
  rintro ⟨t, k⟩ hpre
  refine And.intro (And.intro rfl (And.intro rfl rfl)) ?_
  refine And.intro (Int.natCast_nonneg _) ?_
  refine And.intro (And.intro (fun _ => (by (repeat' (first | exact rfl | exact trivial | exact (fun _ => rfl) | exact (fun _ _ => rfl) | exact (fun h => absurd h Bool.false_ne_true) | refine And.intro ?_ ?_)))) ?_) trivial
  show (bits .and .u64 ((t.bits.toNat : Int).fdiv (2 ^ min (k : Int).toNat IntKind.u64.bits)) 1 == 1) = atT t k
  try simp only [zA, zB, zC, zD, zE, zF, zG, zH, zI, zJ, zK, zL, zM, zN, zO, zP, zQ, zR, zS, zT, zU, zV, zW, zX, zY, zZ, yA, yB, yC, yD, yE, yF, yG, yH, yI, yJ, yK, yL, yM, reduceCtorEq]
  rfl

theorem wholeU_bit {n i : Nat} (h : n ≤ 6) (hi : i < 64) : (wholeU n).getLsbD i = decide (i < 2 ^ n) := by
  have e : wholeU n = BitVec.ofNat 64 (2 ^ (2 ^ n) - 1) := by
    obtain rfl | rfl | rfl | rfl | rfl | rfl | rfl : n = 0 ∨ n = 1 ∨ n = 2 ∨ n = 3 ∨ n = 4 ∨ n = 5 ∨ n = 6 := by omega
    all_goals rfl
  rw [e, BitVec.getLsbD_ofNat]
  simp [hi, Nat.testBit_two_pow_sub_one]
theorem whole_iff {n : Nat} (h : n ≤ 6) (b : U) : b &&& ~~~ wholeU n = 0#64 ↔ ∀ i, 2 ^ n ≤ i → i < 64 → b.getLsbD i = false := by
  constructor
  · intro hz i hi h64
    have := congrArg (fun b : U => b.getLsbD i) hz
    simp only [BitVec.getLsbD_and, BitVec.getLsbD_not, wholeU_bit h h64, BitVec.getLsbD_zero, h64] at this
    have hn : ¬ i < 2 ^ n := by omega
    simpa [hn] using this
  · intro hall
    apply BitVec.eq_of_getLsbD_eq
    intro i hi
    simp only [BitVec.getLsbD_and, BitVec.getLsbD_not, wholeU_bit h hi, BitVec.getLsbD_zero, hi]
    by_cases hn : i < 2 ^ n
    · simp [hn]
    · simp [hall i (by omega) hi]

theorem rtcheck_ok : FnOk Try.prog 73 tcheckS := by
  refine fnOk (Tb := tab) mixed tab_ok Try.func73 rfl rfl ?_
  rintro ⟨n, b⟩ hpre
  refine And.intro (And.intro rfl (And.intro rfl rfl)) ?_
  refine bcase_intro (fun h1 => ?_) (fun h1 => ?_)
  · skip
    refine And.intro (And.intro (fun _ => (by (repeat' (first | exact rfl | exact trivial | exact (fun _ => rfl) | exact (fun _ _ => rfl) | exact (fun h => absurd h Bool.false_ne_true) | refine And.intro ?_ ?_)))) ?_) trivial
    show (2 : Int) = chkT ⟨n, b⟩
    try simp only [zA, zB, zC, zD, zE, zF, zG, zH, zI, zJ, zK, zL, zM, zN, zO, zP, zQ, zR, zS, zT, zU, zV, zW, zX, zY, zZ, yA, yB, yC, yD, yE, yF, yG, yH, yI, yJ, yK, yL, yM, reduceCtorEq] at h1
    simp [chkT, h1]
  refine bcase_intro (fun h2 => ?_) (fun h2 => ?_)
  · skip
    refine And.intro (And.intro (fun _ => (by (repeat' (first | exact rfl | exact trivial | exact (fun _ => rfl) | exact (fun _ _ => rfl) | exact (fun h => absurd h Bool.false_ne_true) | refine And.intro ?_ ?_)))) ?_) trivial
    show (2 : Int) = chkT ⟨n, b⟩
    try simp only [zA, zB, zC, zD, zE, zF, zG, zH, zI, zJ, zK, zL, zM, zN, zO, zP, zQ, zR, zS, zT, zU, zV, zW, zX, zY, zZ, yA, yB, yC, yD, yE, yF, yG, yH, yI, yJ, yK, yL, yM, reduceCtorEq] at h1 h2
    simp [chkT, h1, h2]
  try simp only [zA, zB, zC, zD, zE, zF, zG, zH, zI, zJ, zK, zL, zM, zN, zO, zP, zQ, zR, zS, zT, zU, zV, zW, zX, zY, zZ, yA, yB, yC, yD, yE, yF, yG, yH, yI, yJ, yK, yL, yM, reduceCtorEq] at h1 h2
  obtain ⟨k, hk, rfl⟩ : ∃ k : Nat, k ≤ 6 ∧ n = k := ⟨n.toNat, by omega, by omega⟩
  have h64 := pow_le64 hk
  refine Exists.intro _ (And.intro size_ok (Exists.intro (k) (Exists.intro [] (And.intro (And.intro rfl (And.intro rfl (And.intro rfl (And.intro rfl (And.intro (fun _ => Or.inl rfl) (by first | exact (fun h => absurd h Bool.false_ne_true) | exact (fun _ => And.intro rfl rfl))))))) (And.intro ?_ (And.intro trivial (And.intro ?_ ?_)))))))
  · skip
    (repeat' (first | exact rfl | exact trivial | exact (fun _ => rfl) | exact (fun _ _ => rfl) | exact (fun h => absurd h Bool.false_ne_true) | refine And.intro ?_ ?_))
  · exact hk
  refine Exists.intro (LAnn.inv { X := Nat, up := fun i => [(3, .s (iA i))], uo := fun _ => [], inv := fun i => 2 ^ k ≤ i ∧ i ≤ 64 ∧ ∀ j, 2 ^ k ≤ j → j < i → b.getLsbD j = false, meas := fun i => 64 - i, x0 := 2 ^ k }) ?_
  refine And.intro (And.intro (And.intro (by (repeat' (first | exact rfl | exact trivial | exact (fun _ => rfl) | exact (fun _ _ => rfl) | exact (fun h => absurd h Bool.false_ne_true) | refine And.intro ?_ ?_))) (by (repeat' (first | exact rfl | exact trivial | exact (fun _ => rfl) | exact (fun _ _ => rfl) | exact (fun h => absurd h Bool.false_ne_true) | refine And.intro ?_ ?_)))) rfl) (And.intro ?_ ?_)
  · exact ⟨Nat.le_refl _, h64, fun j h h' => absurd h' (by have h'' : j < 2 ^ k := h'; omega)⟩
  intro (i : Nat) ⟨(hi : 2 ^ k ≤ i), (hi2 : i ≤ 64), hall⟩
  refine bcase_intro (fun h3 => ?_) (fun h3 => ?_)
  · have h3 : (i : Int) < 64 := of_decide_eq_true h3
    have hwr : IntKind.i64.wrap ((i : Int) + 1) = ((i + 1 : Nat) : Int) := by rw [wrap_i _ (by omega) (by omega)]; rfl
    refine And.intro (Int.natCast_nonneg _) ?_
    refine bcase_intro (fun h4 => ?_) (fun h4 => ?_)
    · have h4 : (bits .and .u64 ((b.toNat : Int).fdiv (2 ^ min (i : Int).toNat IntKind.u64.bits)) 1 == 1) = true := h4
      rw [u_shr, u_and1, u_beq1, and_one_eq, Int.toNat_natCast] at h4
      refine And.intro (And.intro (fun _ => (by (repeat' (first | exact rfl | exact trivial | exact (fun _ => rfl) | exact (fun _ _ => rfl) | exact (fun h => absurd h Bool.false_ne_true) | refine And.intro ?_ ?_)))) ?_) trivial
      show (3 : Int) = chkT ⟨k, b⟩
      have hne : ¬ b &&& ~~~ wholeU k = 0#64 := fun hz => by
        rw [(whole_iff hk b).1 hz i hi (by omega)] at h4; cases h4
      simp [chkT, h1, h2, hne]
    · have h4 : (bits .and .u64 ((b.toNat : Int).fdiv (2 ^ min (i : Int).toNat IntKind.u64.bits)) 1 == 1) = false := h4
      rw [u_shr, u_and1, u_beq1, and_one_eq, Int.toNat_natCast] at h4
      refine Exists.intro (i + 1) (And.intro (And.intro rfl rfl) (And.intro (And.intro ?_ rfl) (And.intro ?_ ?_)))
      · skip
        (repeat' (first | exact rfl | exact trivial | exact (fun _ => rfl) | exact (fun _ _ => rfl) | exact (fun h => absurd h Bool.false_ne_true) | refine And.intro ?_ ?_))
        exact hwr
      · refine ⟨by show 2 ^ k ≤ i + 1; omega, by show i + 1 ≤ 64; omega, fun j hj hj2 => ?_⟩
        by_cases e : j = i
        · subst e; exact h4
        · exact hall j hj (by have hj3 : j < i + 1 := hj2; omega)
      · show 64 - (i + 1) < 64 - i; omega
  · have h3 : ¬ (i : Int) < 64 := of_decide_eq_false h3
    refine And.intro (And.intro (fun _ => (by (repeat' (first | exact rfl | exact trivial | exact (fun _ => rfl) | exact (fun _ _ => rfl) | exact (fun h => absurd h Bool.false_ne_true) | refine And.intro ?_ ?_)))) ?_) trivial
    show (0 : Int) = chkT ⟨k, b⟩
    have hz : b &&& ~~~ wholeU k = 0#64 := (whole_iff hk b).2 fun j hj h64 => hall j hj (by omega)
    simp [chkT, h1, h2, hz]

end Go.Sx.Pn
