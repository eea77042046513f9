/- Contracts: sorting, cubes, growing. -/
import Derived.Test.YtdkhdkldjpaadaaP10
set_option maxHeartbeats 1000000
set_option maxRecDepth 4000
set_option linter.unusedSimpArgs false
set_option linter.unusedVariables false
namespace Go.Sx.Pn
open Go Go.Proofs

theorem lenAux_pos : ∀ (f x : Nat), x ≠ 0 → Lib.bitLenAux (f + 1) x ≠ 0 := fun f x h => by
  simp only [Lib.bitLenAux, if_neg h]; omega
theorem lenU_pos {n : Nat} (h : 0 < n) (h2 : n ≤ 1000) : (lenU (BitVec.ofInt 64 n) : Int) ≠ 0 := by
  have e : (BitVec.ofInt 64 (n : Int)).toNat = n := by rw [BitVec.toNat_ofInt]; omega
  unfold lenU
  rw [e]
  have : Lib.bitLen n ≠ 0 := by
    unfold Lib.bitLen
    exact lenAux_pos _ _ (by omega)
  omega

def sortS : Spec := fnS (fun l : List Cu => [csA l, .fn 130 []]) (fun l => Asc l ∧ l.length ≤ 1000) (fun _ => .tup [])
theorem sort_ok : FnOk Try.prog 129 sortS := by
  refine fnOk (Tb := tab) mixed tab_ok Try.func129 rfl rfl ?_
  rintro l hpre
  refine And.intro (And.intro rfl (And.intro rfl rfl)) ?_
  obtain ⟨hasc, hl⟩ : Asc l ∧ l.length ≤ 1000 := hpre
  refine Exists.intro _ (And.intro len_ok (Exists.intro (BitVec.ofInt 64 (l.length : Int)) (Exists.intro [] (And.intro (And.intro rfl (And.intro rfl (And.intro rfl (And.intro rfl (And.intro (fun _ => Or.inl rfl) (by first | exact (fun h => absurd h Bool.false_ne_true) | exact (fun _ => And.intro rfl rfl))))))) (And.intro ?_ (And.intro trivial (And.intro ?_ ?_)))))))
  · exact u_wrap_int _
  · trivial
  refine Exists.intro _ (And.intro pdq_ok (Exists.intro ((l, (lenU (BitVec.ofInt 64 (l.length : Int)) : Int))) (Exists.intro [] (And.intro (And.intro rfl (And.intro rfl (And.intro rfl (And.intro rfl (And.intro (fun _ => Or.inl rfl) (by first | exact (fun h => absurd h Bool.false_ne_true) | exact (fun _ => And.intro rfl rfl))))))) (And.intro ?_ (And.intro trivial (And.intro ?_ ?_)))))))
  · skip
    (repeat' (first | exact rfl | exact trivial | exact (fun _ => rfl) | exact (fun _ _ => rfl) | exact (fun h => absurd h Bool.false_ne_true) | refine And.intro ?_ ?_))
  · exact ⟨hasc, hl, fun h => lenU_pos (by have h' : 12 < l.length := h; omega) hl⟩
  refine And.intro (And.intro (fun _ => (by (repeat' (first | exact rfl | exact trivial | exact (fun _ => rfl) | exact (fun _ _ => rfl) | exact (fun h => absurd h Bool.false_ne_true) | refine And.intro ?_ ?_)))) ?_) trivial
  exact trivial

def cubesS : Spec := fnS (fun n : Nat => [iA n]) (fun _ => True) (fun n => .fn 157 [.pt [iP n] 0])
theorem cubes_ok : FnOk Try.prog 127 cubesS := by
  refine fnOk (Tb := tab) mixed tab_ok Try.func127 rfl rfl ?_
  rintro (n : Nat) hpre
  refine And.intro (And.intro rfl (And.intro rfl rfl)) ?_
  refine And.intro (And.intro (fun _ => (by (repeat' (first | exact rfl | exact trivial | exact (fun _ => rfl) | exact (fun _ _ => rfl) | exact (fun h => absurd h Bool.false_ne_true) | refine And.intro ?_ ?_)))) ?_) trivial
  (repeat' (first | exact rfl | exact trivial | exact (fun _ => rfl) | exact (fun _ _ => rfl) | exact (fun h => absurd h Bool.false_ne_true) | refine And.intro ?_ ?_))

def wideC (c : Cu) (i : Nat) : Cu := ⟨c.care &&& ~~~ (1#64 <<< i), c.value &&& ~~~ (1#64 <<< i)⟩
def growsAt (n : Nat) (x : Tk) (c : Cu) (i : Nat) : Bool := decide (wideC c i ≠ c) && impliesU n x (wideC c i)
def growsU (n : Nat) (x : Tk) (c : Cu) : Bool := (List.range n).any (growsAt n x c)
theorem neqC (a b : Cu) : (!(((a.care.toNat : Int) == b.care.toNat) && (((a.value.toNat : Int) == b.value.toNat) && true))) = decide (a ≠ b) := by
  rw [u_beq, u_beq]
  cases a; cases b
  rw [Bool.eq_iff_iff]
  simp
  
def growsS : Spec := fnS (fun x : Nat × Tk × Cu => [kA x.2.1, cA x.2.2]) (fun x => x.1 ≤ 6 ∧ x.2.1.on.n = x.1) (fun x => bP (growsU x.1 x.2.1 x.2.2))
theorem grows_ok : FnOk Try.prog 128 growsS := by
  refine fnOk (Tb := tab) mixed tab_ok Try.func128 rfl rfl ?_
  rintro ⟨n, ⟨⟨m, b⟩, ⟨k, d⟩⟩, c⟩ hpre
  refine And.intro (And.intro rfl (And.intro rfl rfl)) ?_
  obtain ⟨hn, hm⟩ : n ≤ 6 ∧ m = n := hpre
  subst hm
  refine Exists.intro (LAnn.inv { X := Nat, up := fun i => [(10, .s (iA i))], uo := fun _ => [], inv := fun i => i ≤ n ∧ ∀ j, j < i → growsAt n ⟨⟨n, b⟩, ⟨k, d⟩⟩ c j = false, meas := fun i => n - i, x0 := 0 }) ?_
  refine And.intro (And.intro (And.intro (by (repeat' (first | exact rfl | exact trivial | exact (fun _ => rfl) | exact (fun _ _ => rfl) | exact (fun h => absurd h Bool.false_ne_true) | refine And.intro ?_ ?_))) (by (repeat' (first | exact rfl | exact trivial | exact (fun _ => rfl) | exact (fun _ _ => rfl) | exact (fun h => absurd h Bool.false_ne_true) | refine And.intro ?_ ?_)))) rfl) (And.intro ?_ ?_)
  · exact ⟨Nat.zero_le _, fun j hj => absurd hj (Nat.not_lt_zero _)⟩
  intro (i : Nat) ⟨(hi : i ≤ n), hall⟩
  refine bcase_intro (fun h1 => ?_) (fun h1 => ?_)
  · have h1 : (i : Int) < (n : Int) := of_decide_eq_true h1
    have hwr : IntKind.i64.wrap ((i : Int) + 1) = ((i + 1 : Nat) : Int) := by rw [wrap_i _ (by omega) (by omega)]; rfl
    refine Exists.intro [0, 1, 2, 3, 4, 5, 6, 7, 8, 9, 10, 11, 12] (And.intro (by kernel_rfl) ?_)
    refine And.intro (Int.natCast_nonneg _) ?_
    refine And.intro (Int.natCast_nonneg _) ?_
    have e1 : bits .andNot .u64 c.care.toNat (IntKind.u64.wrap (1 * 2 ^ min (i : Int).toNat IntKind.u64.bits)) = ((wideC c i).care.toNat : Int) := by
      try simp only [zA, zB, zC, zD, zE, zF, zG, zH, zI, zJ, zK, zL, zM, zN, zO, zP, zQ, zR, zS, zT, zU, zV, zW, zX, zY, zZ, yA, yB, yC, yD, yE, yF, yG, yH, yI, yJ, yK, yL, yM, reduceCtorEq]
      rfl
    have e2 : bits .andNot .u64 c.value.toNat (IntKind.u64.wrap (1 * 2 ^ min (i : Int).toNat IntKind.u64.bits)) = ((wideC c i).value.toNat : Int) := by
      try simp only [zA, zB, zC, zD, zE, zF, zG, zH, zI, zJ, zK, zL, zM, zN, zO, zP, zQ, zR, zS, zT, zU, zV, zW, zX, zY, zZ, yA, yB, yC, yD, yE, yF, yG, yH, yI, yJ, yK, yL, yM, reduceCtorEq]
      rfl
    have again : growsAt n ⟨⟨n, b⟩, ⟨k, d⟩⟩ c i = false → ∀ j, j < i + 1 → growsAt n ⟨⟨n, b⟩, ⟨k, d⟩⟩ c j = false := fun h j hj => by
      by_cases e : j = i
      · subst e; exact h
      · exact hall j (by omega)
    refine bcase_intro (fun h2 => ?_) (fun h2 => ?_)
    · have h2 : (!((bits .andNot .u64 c.care.toNat (IntKind.u64.wrap (1 * 2 ^ min (i : Int).toNat IntKind.u64.bits)) == (c.care.toNat : Int)) && ((bits .andNot .u64 c.value.toNat (IntKind.u64.wrap (1 * 2 ^ min (i : Int).toNat IntKind.u64.bits)) == (c.value.toNat : Int)) && true))) = true := h2
      rw [e1, e2, neqC] at h2
      refine Exists.intro _ (And.intro implies_ok (Exists.intro ((n, ⟨⟨n, b⟩, ⟨k, d⟩⟩, wideC c i)) (Exists.intro [] (And.intro (And.intro rfl (And.intro rfl (And.intro rfl (And.intro rfl (And.intro (fun _ => Or.inl rfl) (by first | exact (fun h => absurd h Bool.false_ne_true) | exact (fun _ => And.intro rfl rfl))))))) (And.intro ?_ (And.intro trivial (And.intro ?_ ?_)))))))
      · skip
        (repeat' (first | exact rfl | exact trivial | exact (fun _ => rfl) | exact (fun _ _ => rfl) | exact (fun h => absurd h Bool.false_ne_true) | refine And.intro ?_ ?_))
        · exact e1
        · exact e2
      · exact ⟨hn, rfl⟩
      refine bcase_intro (fun h3 => ?_) (fun h3 => ?_)
      · have h3 : impliesU n ⟨⟨n, b⟩, ⟨k, d⟩⟩ (wideC c i) = true := h3
        refine And.intro (And.intro (fun _ => (by (repeat' (first | exact rfl | exact trivial | exact (fun _ => rfl) | exact (fun _ _ => rfl) | exact (fun h => absurd h Bool.false_ne_true) | refine And.intro ?_ ?_)))) ?_) trivial
        show true = growsU n ⟨⟨n, b⟩, ⟨k, d⟩⟩ c
        refine (List.any_eq_true.2 ⟨i, List.mem_range.2 (by omega), ?_⟩).symm
        rw [growsAt, h2, h3]; rfl
      · have h3 : impliesU n ⟨⟨n, b⟩, ⟨k, d⟩⟩ (wideC c i) = false := h3
        refine Exists.intro (i + 1) (And.intro (And.intro rfl rfl) (And.intro (And.intro ?_ rfl) (And.intro ?_ ?_)))
        · skip
          (repeat' (first | exact rfl | exact trivial | exact (fun _ => rfl) | exact (fun _ _ => rfl) | exact (fun h => absurd h Bool.false_ne_true) | refine And.intro ?_ ?_))
          exact hwr
        · exact ⟨by show i + 1 ≤ n; omega, again (by rw [growsAt, h3, Bool.and_false])⟩
        · show n - (i + 1) < n - i; omega
    · have h2 : (!((bits .andNot .u64 c.care.toNat (IntKind.u64.wrap (1 * 2 ^ min (i : Int).toNat IntKind.u64.bits)) == (c.care.toNat : Int)) && ((bits .andNot .u64 c.value.toNat (IntKind.u64.wrap (1 * 2 ^ min (i : Int).toNat IntKind.u64.bits)) == (c.value.toNat : Int)) && true))) = false := h2
      rw [e1, e2, neqC] at h2
      refine Exists.intro (i + 1) (And.intro (And.intro rfl rfl) (And.intro (And.intro ?_ rfl) (And.intro ?_ ?_)))
      · skip
        (repeat' (first | exact rfl | exact trivial | exact (fun _ => rfl) | exact (fun _ _ => rfl) | exact (fun h => absurd h Bool.false_ne_true) | refine And.intro ?_ ?_))
        exact hwr
      · exact ⟨by show i + 1 ≤ n; omega, again (by rw [growsAt, h2, Bool.false_and])⟩
      · show n - (i + 1) < n - i; omega
  · have h1 : ¬ (i : Int) < (n : Int) := of_decide_eq_false h1
    refine And.intro (And.intro (fun _ => (by (repeat' (first | exact rfl | exact trivial | exact (fun _ => rfl) | exact (fun _ _ => rfl) | exact (fun h => absurd h Bool.false_ne_true) | refine And.intro ?_ ?_)))) ?_) trivial
    show false = growsU n ⟨⟨n, b⟩, ⟨k, d⟩⟩ c
    refine (List.any_eq_false.2 fun j hj => ?_).symm
    rw [hall j (by have := List.mem_range.1 hj; omega)]; simp

end Go.Sx.Pn
