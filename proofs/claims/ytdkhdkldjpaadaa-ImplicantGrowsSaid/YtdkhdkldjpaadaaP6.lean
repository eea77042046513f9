/- Contracts: all cubes, in order. -/
import Derived.Test.YtdkhdkldjpaadaaP5
set_option maxHeartbeats 1000000
set_option maxRecDepth 4000
set_option linter.unusedSimpArgs false
set_option linter.unusedVariables false
namespace Go.Sx.Pn
open Go Go.Proofs

def cV (c : Cu) : Value := .agg #[.int .u64 c.care.toNat, .int .u64 c.value.toNat]
def uN (i : Nat) : U := BitVec.ofNat 64 i
/-- the cube of a care and a value, if it is one -/
def cubeAt (i j : Nat) : Option Cu := if uN j &&& ~~~ uN i = 0#64 then some ⟨uN i, uN j⟩ else none
def cubeRow (m i : Nat) : List Cu := (List.range m).filterMap (cubeAt i)
def cubesTo (n i : Nat) : List Cu := (List.range i).flatMap (cubeRow (2 ^ n))
/-- all cubes of n variables -/
def cubesL (n : Nat) : List Cu := cubesTo n (2 ^ n)

theorem cubesTo_succ (n i : Nat) : cubesTo n (i + 1) = cubesTo n i ++ cubeRow (2 ^ n) i := by
  simp [cubesTo, List.range_succ]
theorem cubeRow_succ (m i : Nat) : cubeRow (m + 1) i = cubeRow m i ++ (cubeAt i m).toList := by
  unfold cubeRow
  rw [List.range_succ, List.filterMap_append]
  cases h : cubeAt i m <;> simp [List.filterMap_cons, h]
theorem cubesTo_pre (n : Nat) : ∀ {i j : Nat}, i ≤ j → ∃ r, cubesTo n j = cubesTo n i ++ r := by
  intro i j h
  induction h with
  | refl => exact ⟨[], by simp⟩
  | @step j _ ih =>
    obtain ⟨r, hr⟩ := ih
    exact ⟨r ++ cubeRow (2 ^ n) j, by rw [cubesTo_succ, hr]; simp⟩
theorem cubeRow_pre (i : Nat) : ∀ {m k : Nat}, m ≤ k → ∃ r, cubeRow k i = cubeRow m i ++ r := by
  intro m k h
  induction h with
  | refl => exact ⟨[], by simp⟩
  | @step k _ ih =>
    obtain ⟨r, hr⟩ := ih
    exact ⟨r ++ (cubeAt i k).toList, by rw [cubeRow_succ, hr]; simp⟩
theorem cubes_at {n i j : Nat} (hi : i < 2 ^ n) (hj : j < 2 ^ n) {c : Cu} (hc : cubeAt i j = some c) : (cubesL n)[(cubesTo n i).length + (cubeRow j i).length]? = some c := by
  obtain ⟨r, hr⟩ := cubesTo_pre n (show i + 1 ≤ 2 ^ n by omega)
  obtain ⟨q, hq⟩ := cubeRow_pre i (show j + 1 ≤ 2 ^ n by omega)
  unfold cubesL
  rw [hr, cubesTo_succ, hq, cubeRow_succ, hc]
  simp

theorem uN_succ (i : Nat) : IntKind.u64.wrap (((uN i).toNat : Int) + 1) = ((uN (i + 1)).toNat : Int) := by
  try simp only [zA, zB, zC, zD, zE, zF, zG, zH, zI, zJ, zK, zL, zM, zN, zO, zP, zQ, zR, zS, zT, zU, zV, zW, zX, zY, zZ, yA, yB, yC, yD, yE, yF, yG, yH, yI, yJ, yK, yL, yM, reduceCtorEq]
  congr 2
  simp [uN, BitVec.ofNat_add]
theorem uN_small {i : Nat} (h : i ≤ 64) : ((uN i).toNat : Int) = i := by
  simp [uN]; omega
theorem allU_bound {n : Nat} (h : n ≤ 6) : IntKind.u64.wrap (((allU n).toNat : Int) + 1) = ((2 ^ n : Nat) : Int) := by
  obtain rfl | rfl | rfl | rfl | rfl | rfl | rfl : n = 0 ∨ n = 1 ∨ n = 2 ∨ n = 3 ∨ n = 4 ∨ n = 5 ∨ n = 6 := by omega
  all_goals rfl

def cubesIt : SeqSpec := { A := Nat, capt := fun n => [.pt [iP n] 0], pre := fun n => n ≤ 6, xs := fun n => (cubesL n).map fun c => [cV c] }

theorem cubesIt_ok : SeqOk Try.prog 157 cubesIt := by
  refine seqOk (Tb := tab) mixed tab_ok Try.func157 rfl rfl ?_
  rintro (n : Nat) hpre
  refine And.intro (And.intro rfl ?_) ?_
  · intro x hx v hv
    obtain ⟨c, _, rfl⟩ := List.mem_map.1 hx
    simp only [List.mem_singleton] at hv
    subst hv; rfl
  have hn : n ≤ 6 := hpre
  have h64 := pow_le64 hn
  intro l
  refine Exists.intro _ (And.intro all_ok (Exists.intro (n) (Exists.intro [] (And.intro (And.intro rfl (And.intro rfl (And.intro rfl (And.intro rfl (And.intro (fun _ => Or.inl rfl) (by first | exact (fun h => absurd h Bool.false_ne_true) | exact (fun _ => And.intro rfl rfl))))))) (And.intro ?_ (And.intro trivial (And.intro ?_ ?_)))))))
  · skip
    (repeat' (first | exact rfl | exact trivial | exact (fun _ => rfl) | exact (fun _ _ => rfl) | exact (fun h => absurd h Bool.false_ne_true) | refine And.intro ?_ ?_))
  · trivial
  refine Exists.intro (LAnn.inv { X := Nat, up := fun i => [(8, .s (uA (uN i)))], uo := fun _ => [], inv := fun i => i ≤ 2 ^ n, meas := fun i => 2 ^ n - i, x0 := 0, cnt := fun i => some (cubesTo n i).length }) ?_
  refine And.intro (And.intro (And.intro (by (repeat' (first | exact rfl | exact trivial | exact (fun _ => rfl) | exact (fun _ _ => rfl) | exact (fun h => absurd h Bool.false_ne_true) | refine And.intro ?_ ?_))) (by (repeat' (first | exact rfl | exact trivial | exact (fun _ => rfl) | exact (fun _ _ => rfl) | exact (fun h => absurd h Bool.false_ne_true) | refine And.intro ?_ ?_)))) rfl) (And.intro ?_ ?_)
  · exact Nat.zero_le _
  intro (i : Nat) (hi : i ≤ 2 ^ n)
  refine bcase_intro (fun h1 => ?_) (fun h1 => ?_)
  · have h1 : ((uN i).toNat : Int) < IntKind.u64.wrap (((allU n).toNat : Int) + 1) := of_decide_eq_true h1
    rw [allU_bound hn, uN_small (by omega)] at h1
    have hi2 : i < 2 ^ n := by omega
    refine Exists.intro _ (And.intro all_ok (Exists.intro (n) (Exists.intro [] (And.intro (And.intro rfl (And.intro rfl (And.intro rfl (And.intro rfl (And.intro (fun _ => Or.inl rfl) (by first | exact (fun h => absurd h Bool.false_ne_true) | exact (fun _ => And.intro rfl rfl))))))) (And.intro ?_ (And.intro trivial (And.intro ?_ ?_)))))))
    · skip
      (repeat' (first | exact rfl | exact trivial | exact (fun _ => rfl) | exact (fun _ _ => rfl) | exact (fun h => absurd h Bool.false_ne_true) | refine And.intro ?_ ?_))
    · trivial
    refine Exists.intro (LAnn.inv { X := Nat, up := fun j => [(14, .s (uA (uN j)))], uo := fun _ => [], inv := fun j => j ≤ 2 ^ n, meas := fun j => 2 ^ n - j, x0 := 0, cnt := fun j => some ((cubesTo n i).length + (cubeRow j i).length) }) ?_
    refine And.intro (And.intro (And.intro (by (repeat' (first | exact rfl | exact trivial | exact (fun _ => rfl) | exact (fun _ _ => rfl) | exact (fun h => absurd h Bool.false_ne_true) | refine And.intro ?_ ?_))) (by (repeat' (first | exact rfl | exact trivial | exact (fun _ => rfl) | exact (fun _ _ => rfl) | exact (fun h => absurd h Bool.false_ne_true) | refine And.intro ?_ ?_)))) rfl) (And.intro ?_ ?_)
    · exact Nat.zero_le _
    intro (j : Nat) (hj : j ≤ 2 ^ n)
    refine bcase_intro (fun h2 => ?_) (fun h2 => ?_)
    · have h2 : ((uN j).toNat : Int) < IntKind.u64.wrap (((allU n).toNat : Int) + 1) := of_decide_eq_true h2
      rw [allU_bound hn, uN_small (by omega)] at h2
      have hj2 : j < 2 ^ n := by omega
      refine bcase_intro (fun h3 => ?_) (fun h3 => ?_)
      · have h3 : (bits .andNot .u64 (uN j).toNat (uN i).toNat == 0) = true := h3
        try simp only [zA, zB, zC, zD, zE, zF, zG, zH, zI, zJ, zK, zL, zM, zN, zO, zP, zQ, zR, zS, zT, zU, zV, zW, zX, zY, zZ, yA, yB, yC, yD, yE, yF, yG, yH, yI, yJ, yK, yL, yM, reduceCtorEq] at h3
        have hc : cubeAt i j = some ⟨uN i, uN j⟩ := by simp [cubeAt, h3]
        refine And.intro rfl (Exists.intro [cV ⟨uN i, uN j⟩] (And.intro ?_ (And.intro ?_ (And.intro ?_ ?_))))
        · show ((cubesL n).map fun c => [cV c])[_]? = _
          rw [List.getElem?_map, cubes_at hi2 hj2 hc]; rfl
        · skip
          (repeat' (first | exact rfl | exact trivial | exact (fun _ => rfl) | exact (fun _ _ => rfl) | exact (fun h => absurd h Bool.false_ne_true) | refine And.intro ?_ ?_))
        · skip
          refine Exists.intro (j + 1) (And.intro (And.intro rfl rfl) (And.intro (And.intro ?_ ?_) (And.intro ?_ ?_)))
          · skip
            (repeat' (first | exact rfl | exact trivial | exact (fun _ => rfl) | exact (fun _ _ => rfl) | exact (fun h => absurd h Bool.false_ne_true) | refine And.intro ?_ ?_))
            exact uN_succ j
          · show some ((cubesTo n i).length + (cubeRow j i).length + 1) = some ((cubesTo n i).length + (cubeRow (j + 1) i).length)
            rw [cubeRow_succ, hc]; simp; omega
          · show j + 1 ≤ 2 ^ n; omega
          · show 2 ^ n - (j + 1) < 2 ^ n - j; omega
        · exact And.intro trivial trivial
      · have h3 : (bits .andNot .u64 (uN j).toNat (uN i).toNat == 0) = false := h3
        try simp only [zA, zB, zC, zD, zE, zF, zG, zH, zI, zJ, zK, zL, zM, zN, zO, zP, zQ, zR, zS, zT, zU, zV, zW, zX, zY, zZ, yA, yB, yC, yD, yE, yF, yG, yH, yI, yJ, yK, yL, yM, reduceCtorEq] at h3
        have hc : cubeAt i j = none := by simp [cubeAt, h3]
        refine Exists.intro (j + 1) (And.intro (And.intro rfl rfl) (And.intro (And.intro ?_ ?_) (And.intro ?_ ?_)))
        · skip
          (repeat' (first | exact rfl | exact trivial | exact (fun _ => rfl) | exact (fun _ _ => rfl) | exact (fun h => absurd h Bool.false_ne_true) | refine And.intro ?_ ?_))
          exact uN_succ j
        · show some ((cubesTo n i).length + (cubeRow j i).length) = some ((cubesTo n i).length + (cubeRow (j + 1) i).length)
          rw [cubeRow_succ, hc]; simp
        · show j + 1 ≤ 2 ^ n; omega
        · show 2 ^ n - (j + 1) < 2 ^ n - j; omega
    · have h2 : ¬ ((uN j).toNat : Int) < IntKind.u64.wrap (((allU n).toNat : Int) + 1) := of_decide_eq_false h2
      rw [allU_bound hn, uN_small (by omega)] at h2
      have hj2 : j = 2 ^ n := by omega
      subst hj2
      refine Exists.intro (i + 1) (And.intro (And.intro rfl rfl) (And.intro (And.intro ?_ ?_) (And.intro ?_ ?_)))
      · skip
        (repeat' (first | exact rfl | exact trivial | exact (fun _ => rfl) | exact (fun _ _ => rfl) | exact (fun h => absurd h Bool.false_ne_true) | refine And.intro ?_ ?_))
        exact uN_succ i
      · show some ((cubesTo n i).length + (cubeRow (2 ^ n) i).length) = some (cubesTo n (i + 1)).length
        rw [cubesTo_succ]; simp
      · show i + 1 ≤ 2 ^ n; omega
      · show 2 ^ n - (i + 1) < 2 ^ n - i; omega
  · have h1 : ¬ ((uN i).toNat : Int) < IntKind.u64.wrap (((allU n).toNat : Int) + 1) := of_decide_eq_false h1
    rw [allU_bound hn, uN_small (by omega)] at h1
    have hi2 : i = 2 ^ n := by omega
    subst hi2
    refine And.intro trivial ?_
    show (cubesTo n (2 ^ n)).length = ((cubesL n).map fun c => [cV c]).length
    simp [cubesL]

end Go.Sx.Pn
