/- Contracts: the prime implicants of the reference, the essential ones. -/
import Derived.Test.YtdkhdkldjpaadaaP28
set_option maxHeartbeats 1000000
set_option maxRecDepth 4000
set_option linter.unusedSimpArgs false
set_option linter.unusedVariables false
namespace Go.Sx.Pn
open Go Go.Proofs

def cubeK (n k : Nat) : Cu := (cubesL n).getD k ⟨0, 0⟩
theorem cubesL_get {n k : Nat} (h : k < (cubesL n).length) : (cubesL n)[k]? = some (cubeK n k) := by
  rw [cubeK, List.getD_eq_getElem?_getD, List.getElem?_eq_getElem h]; rfl
theorem all_ok' : FnOk Try.prog 78 primesS := by
  refine fnOk (Tb := tab) mixed tab_ok Try.func78 rfl rfl ?_
  rintro ⟨n, x⟩ hpre
  refine And.intro (And.intro rfl (And.intro rfl rfl)) ?_
  obtain ⟨hn, hx⟩ : n ≤ 6 ∧ x.on.n = n := hpre
  have hlen := cubesL_len hn
  refine Exists.intro _ (And.intro rcubes_ok (Exists.intro (n) (Exists.intro [] (And.intro (And.intro rfl (And.intro rfl (And.intro rfl (And.intro rfl (And.intro (fun _ => Or.inl rfl) (by first | exact (fun h => absurd h Bool.false_ne_true) | exact (fun _ => And.intro rfl rfl))))))) (And.intro (by (repeat' (first | with_reducible rfl | exact trivial | refine And.intro ?_ ?_ | (show (_ : Int) = _; first | with_reducible rfl | exact wr1 (by omega) | (simp only [zA, zB, zC, zD, zE, zF, zG, zH, zI, zJ, zK, zL, zM, zN, zO, zP, zQ, zR, zS, zT, zU, zV, zW, zX, zY, zZ, yA, yB, yC, yD, yE, yF, yG, yH, yI, yJ, yK, yL, yM, reduceCtorEq] <;> first | done | rfl | omega) | omega | rfl) | exact rfl | exact (fun _ => rfl) | exact (fun _ _ => rfl) | exact (fun h => absurd h Bool.false_ne_true)))) (And.intro trivial (And.intro (hn) ?_)))))))
  refine Exists.intro (LAnn.inv { X := Nat, up := fun k => [(5, .s (iA k)), (4, rowC (primesTo n x k))], uo := fun k => [], inv := fun k => k ≤ (cubesL n).length ∧ (True), meas := fun k => (cubesL n).length - k, x0 := 0 }) ?_
  refine And.intro (And.intro (And.intro (by (repeat' (first | exact rfl | exact trivial | exact (fun _ => rfl) | exact (fun _ _ => rfl) | exact (fun h => absurd h Bool.false_ne_true) | refine And.intro ?_ ?_))) (And.intro (by (repeat' (first | with_reducible rfl | exact trivial | refine And.intro ?_ ?_ | (show (_ : Int) = _; first | with_reducible rfl | exact wr1 (by omega) | (simp only [zA, zB, zC, zD, zE, zF, zG, zH, zI, zJ, zK, zL, zM, zN, zO, zP, zQ, zR, zS, zT, zU, zV, zW, zX, zY, zZ, yA, yB, yC, yD, yE, yF, yG, yH, yI, yJ, yK, yL, yM, reduceCtorEq] <;> first | done | rfl | omega) | omega | rfl) | exact rfl | exact (fun _ => rfl) | exact (fun _ _ => rfl) | exact (fun h => absurd h Bool.false_ne_true)))) (by (repeat' (first | with_reducible rfl | exact trivial | refine And.intro ?_ ?_ | (show (_ : Int) = _; first | with_reducible rfl | exact wr1 (by omega) | (simp only [zA, zB, zC, zD, zE, zF, zG, zH, zI, zJ, zK, zL, zM, zN, zO, zP, zQ, zR, zS, zT, zU, zV, zW, zX, zY, zZ, yA, yB, yC, yD, yE, yF, yG, yH, yI, yJ, yK, yL, yM, reduceCtorEq] <;> first | done | rfl | omega) | omega | rfl) | exact rfl | exact (fun _ => rfl) | exact (fun _ _ => rfl) | exact (fun h => absurd h Bool.false_ne_true)))))) rfl) (And.intro (And.intro (Nat.zero_le _) ?_) ?_)
  · trivial
  intro (k : Nat) ⟨hk, _⟩
  refine bcase_p (p := k < (cubesL n).length) (by first | (with_reducible refine bif_lt ?_; omega) | (with_reducible refine bif_le ?_; omega) | (with_reducible refine bif_eq ?_; omega) | (with_reducible refine bif_ne ?_; omega) | exact b8_eq rfl | exact b8_ne rfl | exact bif_lt (by omega) | exact bif_le (by omega) | exact bif_eq (by omega) | exact bif_ne (by omega) | exact Iff.rfl | (simp only [zA, zB, zC, zD, zE, zF, zG, zH, zI, zJ, zK, zL, zM, zN, zO, zP, zQ, zR, zS, zT, zU, zV, zW, zX, zY, zZ, yA, yB, yC, yD, yE, yF, yG, yH, yI, yJ, yK, yL, yM, reduceCtorEq] <;> first | done | omega | exact Iff.rfl) | (simp; done) | (simp; omega)) (fun h1 => ?_) (fun h1 => ?_)
  · have hget := cubesL_get h1
    have hmem : cubeK n k ∈ cubesL n := List.mem_of_getElem? hget
    refine And.intro (And.intro (Int.natCast_nonneg _) (by show (k : Int) < ((cubesL n).length : Int); omega)) ?_
    refine And.intro rfl ?_
    have hp := prime_eq hn x hmem
    have no : primeP n x (cubeK n k) = false → primesTo n x k = primesTo n x (k + 1) := fun h => by rw [primesTo_succ hget, h]; simp
    refine Exists.intro _ (And.intro touches_ok (Exists.intro ((n, x, cubeK n k)) (Exists.intro [] (And.intro (And.intro rfl (And.intro rfl (And.intro rfl (And.intro rfl (And.intro (fun _ => Or.inl rfl) (by first | exact (fun h => absurd h Bool.false_ne_true) | exact (fun _ => And.intro rfl rfl))))))) (And.intro (by (repeat' (first | with_reducible rfl | exact trivial | refine And.intro ?_ ?_ | (show (_ : Int) = _; first | with_reducible rfl | exact wr1 (by omega) | (simp only [zA, zB, zC, zD, zE, zF, zG, zH, zI, zJ, zK, zL, zM, zN, zO, zP, zQ, zR, zS, zT, zU, zV, zW, zX, zY, zZ, yA, yB, yC, yD, yE, yF, yG, yH, yI, yJ, yK, yL, yM, reduceCtorEq] <;> first | done | rfl | omega) | omega | rfl) | exact rfl | exact (fun _ => rfl) | exact (fun _ _ => rfl) | exact (fun h => absurd h Bool.false_ne_true)))) (And.intro trivial (And.intro (⟨hn, hx⟩) ?_)))))))
    refine bcase_b (b := touchC n x (cubeK n k)) (by first | exact rfl | (simp only [zA, zB, zC, zD, zE, zF, zG, zH, zI, zJ, zK, zL, zM, zN, zO, zP, zQ, zR, zS, zT, zU, zV, zW, zX, zY, zZ, yA, yB, yC, yD, yE, yF, yG, yH, yI, yJ, yK, yL, yM, reduceCtorEq] <;> first | done | exact rfl)) (fun h2 => ?_) (fun h2 => ?_)
    · skip
      refine Exists.intro _ (And.intro good_ok (Exists.intro ((n, x, cubeK n k)) (Exists.intro [] (And.intro (And.intro rfl (And.intro rfl (And.intro rfl (And.intro rfl (And.intro (fun _ => Or.inl rfl) (by first | exact (fun h => absurd h Bool.false_ne_true) | exact (fun _ => And.intro rfl rfl))))))) (And.intro (by (repeat' (first | with_reducible rfl | exact trivial | refine And.intro ?_ ?_ | (show (_ : Int) = _; first | with_reducible rfl | exact wr1 (by omega) | (simp only [zA, zB, zC, zD, zE, zF, zG, zH, zI, zJ, zK, zL, zM, zN, zO, zP, zQ, zR, zS, zT, zU, zV, zW, zX, zY, zZ, yA, yB, yC, yD, yE, yF, yG, yH, yI, yJ, yK, yL, yM, reduceCtorEq] <;> first | done | rfl | omega) | omega | rfl) | exact rfl | exact (fun _ => rfl) | exact (fun _ _ => rfl) | exact (fun h => absurd h Bool.false_ne_true)))) (And.intro trivial (And.intro (⟨hn, hx⟩) ?_)))))))
      refine bcase_b (b := goodC n x (cubeK n k)) (by first | exact rfl | (simp only [zA, zB, zC, zD, zE, zF, zG, zH, zI, zJ, zK, zL, zM, zN, zO, zP, zQ, zR, zS, zT, zU, zV, zW, zX, zY, zZ, yA, yB, yC, yD, yE, yF, yG, yH, yI, yJ, yK, yL, yM, reduceCtorEq] <;> first | done | exact rfl)) (fun h3 => ?_) (fun h3 => ?_)
      · skip
        refine Exists.intro _ (And.intro rgrows_ok (Exists.intro ((n, x, cubeK n k)) (Exists.intro [] (And.intro (And.intro rfl (And.intro rfl (And.intro rfl (And.intro rfl (And.intro (fun _ => Or.inl rfl) (by first | exact (fun h => absurd h Bool.false_ne_true) | exact (fun _ => And.intro rfl rfl))))))) (And.intro (by (repeat' (first | with_reducible rfl | exact trivial | refine And.intro ?_ ?_ | (show (_ : Int) = _; first | with_reducible rfl | exact wr1 (by omega) | (simp only [zA, zB, zC, zD, zE, zF, zG, zH, zI, zJ, zK, zL, zM, zN, zO, zP, zQ, zR, zS, zT, zU, zV, zW, zX, zY, zZ, yA, yB, yC, yD, yE, yF, yG, yH, yI, yJ, yK, yL, yM, reduceCtorEq] <;> first | done | rfl | omega) | omega | rfl) | exact rfl | exact (fun _ => rfl) | exact (fun _ _ => rfl) | exact (fun h => absurd h Bool.false_ne_true)))) (And.intro trivial (And.intro (⟨hn, hx⟩) ?_)))))))
        refine bcase_b (b := !growC n x (cubeK n k)) (by first | exact rfl | (simp only [zA, zB, zC, zD, zE, zF, zG, zH, zI, zJ, zK, zL, zM, zN, zO, zP, zQ, zR, zS, zT, zU, zV, zW, zX, zY, zZ, yA, yB, yC, yD, yE, yF, yG, yH, yI, yJ, yK, yL, yM, reduceCtorEq] <;> first | done | exact rfl)) (fun h4 => ?_) (fun h4 => ?_)
        · have hy : primeP n x (cubeK n k) = true := by rw [hp, primeR, h2, h3, h4]; rfl
          have e : primesTo n x (k + 1) = primesTo n x k ++ [cubeK n k] := by rw [primesTo_succ hget, hy]; rfl
          have hl := primesTo_len hn x k
          refine And.intro (And.intro (by show (primesTo n x k).length + 1 ≤ maxLen; unfold maxLen; omega) (by show ((primesTo n x k).length + 1) * 16 ≤ 140737488355328; omega)) ?_
          refine And.intro (fun k hk => by
            have hk : k < 1 := hk
            obtain rfl : k = 0 := by omega
            rfl) ?_
          refine Exists.intro (k + 1) (And.intro (And.intro rfl rfl) (And.intro (And.intro ?_ rfl) (And.intro (And.intro (by show k + 1 ≤ (cubesL n).length; omega) ?_) (by show (cubesL n).length - (k + 1) < (cubesL n).length - k; omega))))
          any_goals (repeat' (first | with_reducible rfl | exact trivial | refine And.intro ?_ ?_ | (show (_ : Int) = _; first | with_reducible rfl | exact wr1 (by omega) | (simp only [zA, zB, zC, zD, zE, zF, zG, zH, zI, zJ, zK, zL, zM, zN, zO, zP, zQ, zR, zS, zT, zU, zV, zW, zX, zY, zZ, yA, yB, yC, yD, yE, yF, yG, yH, yI, yJ, yK, yL, yM, reduceCtorEq] <;> first | done | rfl | omega) | omega | rfl) | exact rfl | exact (fun _ => rfl) | exact (fun _ _ => rfl) | exact (fun h => absurd h Bool.false_ne_true)))
          · exact app_len e
          · exact join_app Cu.cells ⟨0, 0⟩ e _ rfl
        · have hq : primeR n x (cubeK n k) = false := by rw [primeR, h4, Bool.and_false]
          refine Exists.intro (k + 1) (And.intro (And.intro rfl rfl) (And.intro (And.intro ?_ rfl) (And.intro (And.intro (by show k + 1 ≤ (cubesL n).length; omega) ?_) (by show (cubesL n).length - (k + 1) < (cubesL n).length - k; omega))))
          any_goals (repeat' (first | with_reducible rfl | exact trivial | refine And.intro ?_ ?_ | (show (_ : Int) = _; first | with_reducible rfl | exact wr1 (by omega) | (simp only [zA, zB, zC, zD, zE, zF, zG, zH, zI, zJ, zK, zL, zM, zN, zO, zP, zQ, zR, zS, zT, zU, zV, zW, zX, zY, zZ, yA, yB, yC, yD, yE, yF, yG, yH, yI, yJ, yK, yL, yM, reduceCtorEq] <;> first | done | rfl | omega) | omega | rfl) | exact rfl | exact (fun _ => rfl) | exact (fun _ _ => rfl) | exact (fun h => absurd h Bool.false_ne_true)))
          · exact congrArg List.length (no (by rw [hp]; exact hq))
          · exact row_same Cu.cells ⟨0, 0⟩ (no (by rw [hp]; exact hq))
      · have hq : primeR n x (cubeK n k) = false := by rw [primeR, h3, Bool.and_false, Bool.false_and]
        refine Exists.intro (k + 1) (And.intro (And.intro rfl rfl) (And.intro (And.intro ?_ rfl) (And.intro (And.intro (by show k + 1 ≤ (cubesL n).length; omega) ?_) (by show (cubesL n).length - (k + 1) < (cubesL n).length - k; omega))))
        any_goals (repeat' (first | with_reducible rfl | exact trivial | refine And.intro ?_ ?_ | (show (_ : Int) = _; first | with_reducible rfl | exact wr1 (by omega) | (simp only [zA, zB, zC, zD, zE, zF, zG, zH, zI, zJ, zK, zL, zM, zN, zO, zP, zQ, zR, zS, zT, zU, zV, zW, zX, zY, zZ, yA, yB, yC, yD, yE, yF, yG, yH, yI, yJ, yK, yL, yM, reduceCtorEq] <;> first | done | rfl | omega) | omega | rfl) | exact rfl | exact (fun _ => rfl) | exact (fun _ _ => rfl) | exact (fun h => absurd h Bool.false_ne_true)))
        · exact congrArg List.length (no (by rw [hp]; exact hq))
        · exact row_same Cu.cells ⟨0, 0⟩ (no (by rw [hp]; exact hq))
    · have hq : primeR n x (cubeK n k) = false := by rw [primeR, h2, Bool.false_and, Bool.false_and]
      refine Exists.intro (k + 1) (And.intro (And.intro rfl rfl) (And.intro (And.intro ?_ rfl) (And.intro (And.intro (by show k + 1 ≤ (cubesL n).length; omega) ?_) (by show (cubesL n).length - (k + 1) < (cubesL n).length - k; omega))))
      any_goals (repeat' (first | with_reducible rfl | exact trivial | refine And.intro ?_ ?_ | (show (_ : Int) = _; first | with_reducible rfl | exact wr1 (by omega) | (simp only [zA, zB, zC, zD, zE, zF, zG, zH, zI, zJ, zK, zL, zM, zN, zO, zP, zQ, zR, zS, zT, zU, zV, zW, zX, zY, zZ, yA, yB, yC, yD, yE, yF, yG, yH, yI, yJ, yK, yL, yM, reduceCtorEq] <;> first | done | rfl | omega) | omega | rfl) | exact rfl | exact (fun _ => rfl) | exact (fun _ _ => rfl) | exact (fun h => absurd h Bool.false_ne_true)))
      · exact congrArg List.length (no (by rw [hp]; exact hq))
      · exact row_same Cu.cells ⟨0, 0⟩ (no (by rw [hp]; exact hq))
  · obtain rfl : k = (cubesL n).length := by omega
    have e : primesTo n x (cubesL n).length = primesL n x := by rw [primesTo, List.take_length]; rfl
    refine And.intro (And.intro (fun _ => (by (repeat' (first | exact rfl | exact trivial | exact (fun _ => rfl) | exact (fun _ _ => rfl) | exact (fun h => absurd h Bool.false_ne_true) | refine And.intro ?_ ?_)))) ?_) trivial
    any_goals (repeat' (first | with_reducible rfl | exact trivial | refine And.intro ?_ ?_ | (show (_ : Int) = _; first | with_reducible rfl | exact wr1 (by omega) | (simp only [zA, zB, zC, zD, zE, zF, zG, zH, zI, zJ, zK, zL, zM, zN, zO, zP, zQ, zR, zS, zT, zU, zV, zW, zX, zY, zZ, yA, yB, yC, yD, yE, yF, yG, yH, yI, yJ, yK, yL, yM, reduceCtorEq] <;> first | done | rfl | omega) | omega | rfl) | exact rfl | exact (fun _ => rfl) | exact (fun _ _ => rfl) | exact (fun h => absurd h Bool.false_ne_true)))
    · exact congrArg List.length e
    · exact row_same Cu.cells ⟨0, 0⟩ e

def primesC (x : Tk) : List Cu × Int := if chkK x = 0 then (primesL x.on.n.toNat x, 0) else ([], chkK x)
theorem primesC_eq (x : Tk) : PV.tup [csP (if chkK x = 0 then primesL x.on.n.toNat x else []), iP (chkK x)] = .tup [csP (primesC x).1, iP (primesC x).2] := by
  unfold primesC
  by_cases h : chkK x = 0 <;> simp [h]
theorem rPrimes_ok : FnOk Try.prog 24 PrimesS := by
  refine fnOk (Tb := tab) mixed tab_ok Try.func24 rfl rfl ?_
  rintro x hpre
  refine And.intro (And.intro rfl (And.intro rfl rfl)) ?_
  refine Exists.intro _ (And.intro rCheckTask_ok (Exists.intro (x) (Exists.intro [] (And.intro (And.intro rfl (And.intro rfl (And.intro rfl (And.intro rfl (And.intro (fun _ => Or.inl rfl) (by first | exact (fun h => absurd h Bool.false_ne_true) | exact (fun _ => And.intro rfl rfl))))))) (And.intro (by (repeat' (first | with_reducible rfl | exact trivial | refine And.intro ?_ ?_ | (show (_ : Int) = _; first | with_reducible rfl | exact wr1 (by omega) | (simp only [zA, zB, zC, zD, zE, zF, zG, zH, zI, zJ, zK, zL, zM, zN, zO, zP, zQ, zR, zS, zT, zU, zV, zW, zX, zY, zZ, yA, yB, yC, yD, yE, yF, yG, yH, yI, yJ, yK, yL, yM, reduceCtorEq] <;> first | done | rfl | omega) | omega | rfl) | exact rfl | exact (fun _ => rfl) | exact (fun _ _ => rfl) | exact (fun h => absurd h Bool.false_ne_true)))) (And.intro trivial (And.intro (trivial) ?_)))))))
  refine bcase_n (p := chkK x = 0) (by first | (with_reducible refine bif_lt ?_; omega) | (with_reducible refine bif_le ?_; omega) | (with_reducible refine bif_eq ?_; omega) | (with_reducible refine bif_ne ?_; omega) | exact b8_eq rfl | exact b8_ne rfl | exact bif_lt (by omega) | exact bif_le (by omega) | exact bif_eq (by omega) | exact bif_ne (by omega) | exact Iff.rfl | (simp only [zA, zB, zC, zD, zE, zF, zG, zH, zI, zJ, zK, zL, zM, zN, zO, zP, zQ, zR, zS, zT, zU, zV, zW, zX, zY, zZ, yA, yB, yC, yD, yE, yF, yG, yH, yI, yJ, yK, yL, yM, reduceCtorEq] <;> first | done | omega | exact Iff.rfl) | (simp; done) | (simp; omega)) (fun h1 => ?_) (fun h1 => ?_)
  · skip
    refine And.intro (And.intro (fun _ => (by (repeat' (first | exact rfl | exact trivial | exact (fun _ => rfl) | exact (fun _ _ => rfl) | exact (fun h => absurd h Bool.false_ne_true) | refine And.intro ?_ ?_)))) ?_) trivial
    show ple _ (.tup [csP (if chkK x = 0 then primesL x.on.n.toNat x else []), iP (chkK x)])
    rw [if_neg h1]
    any_goals (repeat' (first | with_reducible rfl | exact trivial | refine And.intro ?_ ?_ | (show (_ : Int) = _; first | with_reducible rfl | exact wr1 (by omega) | (simp only [zA, zB, zC, zD, zE, zF, zG, zH, zI, zJ, zK, zL, zM, zN, zO, zP, zQ, zR, zS, zT, zU, zV, zW, zX, zY, zZ, yA, yB, yC, yD, yE, yF, yG, yH, yI, yJ, yK, yL, yM, reduceCtorEq] <;> first | done | rfl | omega) | omega | rfl) | exact rfl | exact (fun _ => rfl) | exact (fun _ _ => rfl) | exact (fun h => absurd h Bool.false_ne_true)))
  obtain ⟨k, hk, hx, _⟩ := chkT_zero (chkK_zero h1).1
  refine Exists.intro _ (And.intro all_ok' (Exists.intro ((k, x)) (Exists.intro [] (And.intro (And.intro rfl (And.intro rfl (And.intro rfl (And.intro rfl (And.intro (fun _ => Or.inl rfl) (by first | exact (fun h => absurd h Bool.false_ne_true) | exact (fun _ => And.intro rfl rfl))))))) (And.intro (by (repeat' (first | with_reducible rfl | exact trivial | refine And.intro ?_ ?_ | (show (_ : Int) = _; first | with_reducible rfl | exact wr1 (by omega) | (simp only [zA, zB, zC, zD, zE, zF, zG, zH, zI, zJ, zK, zL, zM, zN, zO, zP, zQ, zR, zS, zT, zU, zV, zW, zX, zY, zZ, yA, yB, yC, yD, yE, yF, yG, yH, yI, yJ, yK, yL, yM, reduceCtorEq] <;> first | done | rfl | omega) | omega | rfl) | exact rfl | exact (fun _ => rfl) | exact (fun _ _ => rfl) | exact (fun h => absurd h Bool.false_ne_true)))) (And.intro trivial (And.intro (⟨hk, hx⟩) ?_)))))))
  refine And.intro (And.intro (fun _ => (by (repeat' (first | exact rfl | exact trivial | exact (fun _ => rfl) | exact (fun _ _ => rfl) | exact (fun h => absurd h Bool.false_ne_true) | refine And.intro ?_ ?_)))) ?_) trivial
  show ple _ (.tup [csP (if chkK x = 0 then primesL x.on.n.toNat x else []), iP (chkK x)])
  rw [if_pos h1, hx]
  any_goals (repeat' (first | with_reducible rfl | exact trivial | refine And.intro ?_ ?_ | (show (_ : Int) = _; first | with_reducible rfl | exact wr1 (by omega) | (simp only [zA, zB, zC, zD, zE, zF, zG, zH, zI, zJ, zK, zL, zM, zN, zO, zP, zQ, zR, zS, zT, zU, zV, zW, zX, zY, zZ, yA, yB, yC, yD, yE, yF, yG, yH, yI, yJ, yK, yL, yM, reduceCtorEq] <;> first | done | rfl | omega) | omega | rfl) | exact rfl | exact (fun _ => rfl) | exact (fun _ _ => rfl) | exact (fun h => absurd h Bool.false_ne_true)))

def fewB (x : Tk) (m : Int) : Bool := decide (chkK x ≠ 0) || decide (x.on.n ≤ m)
def fewS : Spec := fnS (fun x : Tk × Int => [kA x.1, iA x.2]) (fun _ => True) (fun x => bP (fewB x.1 x.2))
theorem few_ok : FnOk Try.prog 22 fewS := by
  refine fnOk (Tb := tab) mixed tab_ok Try.func22 rfl rfl ?_
  rintro ⟨x, m⟩ hpre
  refine And.intro (And.intro rfl (And.intro rfl rfl)) ?_
  refine Exists.intro _ (And.intro rCheckTask_ok (Exists.intro (x) (Exists.intro [] (And.intro (And.intro rfl (And.intro rfl (And.intro rfl (And.intro rfl (And.intro (fun _ => Or.inl rfl) (by first | exact (fun h => absurd h Bool.false_ne_true) | exact (fun _ => And.intro rfl rfl))))))) (And.intro (by (repeat' (first | with_reducible rfl | exact trivial | refine And.intro ?_ ?_ | (show (_ : Int) = _; first | with_reducible rfl | exact wr1 (by omega) | (simp only [zA, zB, zC, zD, zE, zF, zG, zH, zI, zJ, zK, zL, zM, zN, zO, zP, zQ, zR, zS, zT, zU, zV, zW, zX, zY, zZ, yA, yB, yC, yD, yE, yF, yG, yH, yI, yJ, yK, yL, yM, reduceCtorEq] <;> first | done | rfl | omega) | omega | rfl) | exact rfl | exact (fun _ => rfl) | exact (fun _ _ => rfl) | exact (fun h => absurd h Bool.false_ne_true)))) (And.intro trivial (And.intro (trivial) ?_)))))))
  refine bcase_n (p := chkK x = 0) (by first | (with_reducible refine bif_lt ?_; omega) | (with_reducible refine bif_le ?_; omega) | (with_reducible refine bif_eq ?_; omega) | (with_reducible refine bif_ne ?_; omega) | exact b8_eq rfl | exact b8_ne rfl | exact bif_lt (by omega) | exact bif_le (by omega) | exact bif_eq (by omega) | exact bif_ne (by omega) | exact Iff.rfl | (simp only [zA, zB, zC, zD, zE, zF, zG, zH, zI, zJ, zK, zL, zM, zN, zO, zP, zQ, zR, zS, zT, zU, zV, zW, zX, zY, zZ, yA, yB, yC, yD, yE, yF, yG, yH, yI, yJ, yK, yL, yM, reduceCtorEq] <;> first | done | omega | exact Iff.rfl) | (simp; done) | (simp; omega)) (fun h1 => ?_) (fun h1 => ?_)
  · skip
    refine And.intro (And.intro (fun _ => (by (repeat' (first | exact rfl | exact trivial | exact (fun _ => rfl) | exact (fun _ _ => rfl) | exact (fun h => absurd h Bool.false_ne_true) | refine And.intro ?_ ?_)))) ?_) trivial
    show ple _ (bP (fewB x m))
    rw [show fewB x m = true by simp [fewB, h1]]
    any_goals (repeat' (first | with_reducible rfl | exact trivial | refine And.intro ?_ ?_ | (show (_ : Int) = _; first | with_reducible rfl | exact wr1 (by omega) | (simp only [zA, zB, zC, zD, zE, zF, zG, zH, zI, zJ, zK, zL, zM, zN, zO, zP, zQ, zR, zS, zT, zU, zV, zW, zX, zY, zZ, yA, yB, yC, yD, yE, yF, yG, yH, yI, yJ, yK, yL, yM, reduceCtorEq] <;> first | done | rfl | omega) | omega | rfl) | exact rfl | exact (fun _ => rfl) | exact (fun _ _ => rfl) | exact (fun h => absurd h Bool.false_ne_true)))
  · skip
    refine And.intro (And.intro (fun _ => (by (repeat' (first | exact rfl | exact trivial | exact (fun _ => rfl) | exact (fun _ _ => rfl) | exact (fun h => absurd h Bool.false_ne_true) | refine And.intro ?_ ?_)))) ?_) trivial
    show ple _ (bP (fewB x m))
    rw [show fewB x m = decide (x.on.n ≤ m) by simp [fewB, h1]]
    any_goals (repeat' (first | with_reducible rfl | exact trivial | refine And.intro ?_ ?_ | (show (_ : Int) = _; first | with_reducible rfl | exact wr1 (by omega) | (simp only [zA, zB, zC, zD, zE, zF, zG, zH, zI, zJ, zK, zL, zM, zN, zO, zP, zQ, zR, zS, zT, zU, zV, zW, zX, zY, zZ, yA, yB, yC, yD, yE, yF, yG, yH, yI, yJ, yK, yL, yM, reduceCtorEq] <;> first | done | rfl | omega) | omega | rfl) | exact rfl | exact (fun _ => rfl) | exact (fun _ _ => rfl) | exact (fun h => absurd h Bool.false_ne_true)))

theorem rTable_ok : FnOk Try.prog 43 TableS := by
  refine fnOk (Tb := tab) mixed tab_ok Try.func43 rfl rfl ?_
  rintro ⟨n, c⟩ hpre
  refine And.intro (And.intro rfl (And.intro rfl rfl)) ?_
  refine Exists.intro _ (And.intro rcheck_ok (Exists.intro ((n, c)) (Exists.intro [] (And.intro (And.intro rfl (And.intro rfl (And.intro rfl (And.intro rfl (And.intro (fun _ => Or.inl rfl) (by first | exact (fun h => absurd h Bool.false_ne_true) | exact (fun _ => And.intro rfl rfl))))))) (And.intro (by (repeat' (first | with_reducible rfl | exact trivial | refine And.intro ?_ ?_ | (show (_ : Int) = _; first | with_reducible rfl | exact wr1 (by omega) | (simp only [zA, zB, zC, zD, zE, zF, zG, zH, zI, zJ, zK, zL, zM, zN, zO, zP, zQ, zR, zS, zT, zU, zV, zW, zX, zY, zZ, yA, yB, yC, yD, yE, yF, yG, yH, yI, yJ, yK, yL, yM, reduceCtorEq] <;> first | done | rfl | omega) | omega | rfl) | exact rfl | exact (fun _ => rfl) | exact (fun _ _ => rfl) | exact (fun h => absurd h Bool.false_ne_true)))) (And.intro trivial (And.intro (trivial) ?_)))))))
  refine bcase_n (p := chkC n c = 0) (by first | (with_reducible refine bif_lt ?_; omega) | (with_reducible refine bif_le ?_; omega) | (with_reducible refine bif_eq ?_; omega) | (with_reducible refine bif_ne ?_; omega) | exact b8_eq rfl | exact b8_ne rfl | exact bif_lt (by omega) | exact bif_le (by omega) | exact bif_eq (by omega) | exact bif_ne (by omega) | exact Iff.rfl | (simp only [zA, zB, zC, zD, zE, zF, zG, zH, zI, zJ, zK, zL, zM, zN, zO, zP, zQ, zR, zS, zT, zU, zV, zW, zX, zY, zZ, yA, yB, yC, yD, yE, yF, yG, yH, yI, yJ, yK, yL, yM, reduceCtorEq] <;> first | done | omega | exact Iff.rfl) | (simp; done) | (simp; omega)) (fun h1 => ?_) (fun h1 => ?_)
  · skip
    refine And.intro (And.intro (fun _ => (by (repeat' (first | exact rfl | exact trivial | exact (fun _ => rfl) | exact (fun _ _ => rfl) | exact (fun h => absurd h Bool.false_ne_true) | refine And.intro ?_ ?_)))) ?_) trivial
    show ple _ (.tup [tP (tableC n c).1, iP (tableC n c).2])
    rw [show tableC n c = (⟨0, 0⟩, chkC n c) by simp [tableC, h1]]
    any_goals (repeat' (first | with_reducible rfl | exact trivial | refine And.intro ?_ ?_ | (show (_ : Int) = _; first | with_reducible rfl | exact wr1 (by omega) | (simp only [zA, zB, zC, zD, zE, zF, zG, zH, zI, zJ, zK, zL, zM, zN, zO, zP, zQ, zR, zS, zT, zU, zV, zW, zX, zY, zZ, yA, yB, yC, yD, yE, yF, yG, yH, yI, yJ, yK, yL, yM, reduceCtorEq] <;> first | done | rfl | omega) | omega | rfl) | exact rfl | exact (fun _ => rfl) | exact (fun _ _ => rfl) | exact (fun h => absurd h Bool.false_ne_true)))
  obtain ⟨k, hk, rfl, _⟩ := chkC_zero h1
  have h64 := pow_le64 hk
  have hl := ptsL_len c (2 ^ k)
  refine Exists.intro _ (And.intro rpoints_ok (Exists.intro ((k, c)) (Exists.intro [] (And.intro (And.intro rfl (And.intro rfl (And.intro rfl (And.intro rfl (And.intro (fun _ => Or.inl rfl) (by first | exact (fun h => absurd h Bool.false_ne_true) | exact (fun _ => And.intro rfl rfl))))))) (And.intro (by (repeat' (first | with_reducible rfl | exact trivial | refine And.intro ?_ ?_ | (show (_ : Int) = _; first | with_reducible rfl | exact wr1 (by omega) | (simp only [zA, zB, zC, zD, zE, zF, zG, zH, zI, zJ, zK, zL, zM, zN, zO, zP, zQ, zR, zS, zT, zU, zV, zW, zX, zY, zZ, yA, yB, yC, yD, yE, yF, yG, yH, yI, yJ, yK, yL, yM, reduceCtorEq] <;> first | done | rfl | omega) | omega | rfl) | exact rfl | exact (fun _ => rfl) | exact (fun _ _ => rfl) | exact (fun h => absurd h Bool.false_ne_true)))) (And.intro trivial (And.intro (hk) ?_)))))))
  refine Exists.intro _ (And.intro made_ok (Exists.intro ((k, ptsL c (2 ^ k))) (Exists.intro [] (And.intro (And.intro rfl (And.intro rfl (And.intro rfl (And.intro rfl (And.intro (fun _ => Or.inl rfl) (by first | exact (fun h => absurd h Bool.false_ne_true) | exact (fun _ => And.intro rfl rfl))))))) (And.intro (by (repeat' (first | with_reducible rfl | exact trivial | refine And.intro ?_ ?_ | (show (_ : Int) = _; first | with_reducible rfl | exact wr1 (by omega) | (simp only [zA, zB, zC, zD, zE, zF, zG, zH, zI, zJ, zK, zL, zM, zN, zO, zP, zQ, zR, zS, zT, zU, zV, zW, zX, zY, zZ, yA, yB, yC, yD, yE, yF, yG, yH, yI, yJ, yK, yL, yM, reduceCtorEq] <;> first | done | rfl | omega) | omega | rfl) | exact rfl | exact (fun _ => rfl) | exact (fun _ _ => rfl) | exact (fun h => absurd h Bool.false_ne_true)))) (And.intro trivial (And.intro (⟨hk, by show (ptsL c (2 ^ k)).length ≤ 1000; omega⟩) ?_)))))))
  have e : madeU (ptsL c (2 ^ k)) (2 ^ k) = ptsC c (2 ^ k) := by
    have step : ∀ m, m ≤ 2 ^ k → madeU (ptsL c (2 ^ k)) m = ptsC c m := fun m => by
      induction m with
      | zero => intro _; rfl
      | succ m ih =>
        intro hm
        rw [madeU, ptsC, ih (by omega)]
        have hmem : m ∈ ptsL c (2 ^ k) ↔ hasC c (m : Int) = true := by
          unfold ptsL
          rw [List.mem_filter]
          exact ⟨fun h => h.2, fun h => ⟨List.mem_range.2 (by omega), h⟩⟩
        by_cases hh : hasC c (m : Int) = true
        · rw [if_pos (hmem.2 hh), if_pos hh]
        · rw [if_neg (fun q => hh (hmem.1 q)), if_neg hh]
    exact step _ (Nat.le_refl _)
  refine And.intro (And.intro (fun _ => (by (repeat' (first | exact rfl | exact trivial | exact (fun _ => rfl) | exact (fun _ _ => rfl) | exact (fun h => absurd h Bool.false_ne_true) | refine And.intro ?_ ?_)))) ?_) trivial
  show ple _ (.tup [tP (tableC k c).1, iP (tableC k c).2])
  rw [show tableC k c = (⟨k, ptsC c (2 ^ k)⟩, 0) by simp [tableC, h1]]
  any_goals (repeat' (first | with_reducible rfl | exact trivial | refine And.intro ?_ ?_ | (show (_ : Int) = _; first | with_reducible rfl | exact wr1 (by omega) | (simp only [zA, zB, zC, zD, zE, zF, zG, zH, zI, zJ, zK, zL, zM, zN, zO, zP, zQ, zR, zS, zT, zU, zV, zW, zX, zY, zZ, yA, yB, yC, yD, yE, yF, yG, yH, yI, yJ, yK, yL, yM, reduceCtorEq] <;> first | done | rfl | omega) | omega | rfl) | exact rfl | exact (fun _ => rfl) | exact (fun _ _ => rfl) | exact (fun h => absurd h Bool.false_ne_true)))

theorem rImplies_ok : FnOk Try.prog 36 ImpliesS := by
  refine fnOk (Tb := tab) mixed tab_ok Try.func36 rfl rfl ?_
  rintro ⟨x, c⟩ hpre
  refine And.intro (And.intro rfl (And.intro rfl rfl)) ?_
  refine Exists.intro _ (And.intro rCheckTask_ok (Exists.intro (x) (Exists.intro [] (And.intro (And.intro rfl (And.intro rfl (And.intro rfl (And.intro rfl (And.intro (fun _ => Or.inl rfl) (by first | exact (fun h => absurd h Bool.false_ne_true) | exact (fun _ => And.intro rfl rfl))))))) (And.intro (by (repeat' (first | with_reducible rfl | exact trivial | refine And.intro ?_ ?_ | (show (_ : Int) = _; first | with_reducible rfl | exact wr1 (by omega) | (simp only [zA, zB, zC, zD, zE, zF, zG, zH, zI, zJ, zK, zL, zM, zN, zO, zP, zQ, zR, zS, zT, zU, zV, zW, zX, zY, zZ, yA, yB, yC, yD, yE, yF, yG, yH, yI, yJ, yK, yL, yM, reduceCtorEq] <;> first | done | rfl | omega) | omega | rfl) | exact rfl | exact (fun _ => rfl) | exact (fun _ _ => rfl) | exact (fun h => absurd h Bool.false_ne_true)))) (And.intro trivial (And.intro (trivial) ?_)))))))
  refine bcase_n (p := chkK x = 0) (by first | (with_reducible refine bif_lt ?_; omega) | (with_reducible refine bif_le ?_; omega) | (with_reducible refine bif_eq ?_; omega) | (with_reducible refine bif_ne ?_; omega) | exact b8_eq rfl | exact b8_ne rfl | exact bif_lt (by omega) | exact bif_le (by omega) | exact bif_eq (by omega) | exact bif_ne (by omega) | exact Iff.rfl | (simp only [zA, zB, zC, zD, zE, zF, zG, zH, zI, zJ, zK, zL, zM, zN, zO, zP, zQ, zR, zS, zT, zU, zV, zW, zX, zY, zZ, yA, yB, yC, yD, yE, yF, yG, yH, yI, yJ, yK, yL, yM, reduceCtorEq] <;> first | done | omega | exact Iff.rfl) | (simp; done) | (simp; omega)) (fun h1 => ?_) (fun h1 => ?_)
  · skip
    refine And.intro (And.intro (fun _ => (by (repeat' (first | exact rfl | exact trivial | exact (fun _ => rfl) | exact (fun _ _ => rfl) | exact (fun h => absurd h Bool.false_ne_true) | refine And.intro ?_ ?_)))) ?_) trivial
    show ple _ (.tup [bP (if chkK x = 0 then (if chkC x.on.n c = 0 then impliesU x.on.n.toNat x c else false) else false), iP (if chkK x = 0 then chkC x.on.n c else chkK x)])
    rw [if_neg h1, if_neg h1]
    any_goals (repeat' (first | with_reducible rfl | exact trivial | refine And.intro ?_ ?_ | (show (_ : Int) = _; first | with_reducible rfl | exact wr1 (by omega) | (simp only [zA, zB, zC, zD, zE, zF, zG, zH, zI, zJ, zK, zL, zM, zN, zO, zP, zQ, zR, zS, zT, zU, zV, zW, zX, zY, zZ, yA, yB, yC, yD, yE, yF, yG, yH, yI, yJ, yK, yL, yM, reduceCtorEq] <;> first | done | rfl | omega) | omega | rfl) | exact rfl | exact (fun _ => rfl) | exact (fun _ _ => rfl) | exact (fun h => absurd h Bool.false_ne_true)))
  refine Exists.intro _ (And.intro rcheck_ok (Exists.intro ((x.on.n, c)) (Exists.intro [] (And.intro (And.intro rfl (And.intro rfl (And.intro rfl (And.intro rfl (And.intro (fun _ => Or.inl rfl) (by first | exact (fun h => absurd h Bool.false_ne_true) | exact (fun _ => And.intro rfl rfl))))))) (And.intro (by (repeat' (first | with_reducible rfl | exact trivial | refine And.intro ?_ ?_ | (show (_ : Int) = _; first | with_reducible rfl | exact wr1 (by omega) | (simp only [zA, zB, zC, zD, zE, zF, zG, zH, zI, zJ, zK, zL, zM, zN, zO, zP, zQ, zR, zS, zT, zU, zV, zW, zX, zY, zZ, yA, yB, yC, yD, yE, yF, yG, yH, yI, yJ, yK, yL, yM, reduceCtorEq] <;> first | done | rfl | omega) | omega | rfl) | exact rfl | exact (fun _ => rfl) | exact (fun _ _ => rfl) | exact (fun h => absurd h Bool.false_ne_true)))) (And.intro trivial (And.intro (trivial) ?_)))))))
  refine bcase_n (p := chkC x.on.n c = 0) (by first | (with_reducible refine bif_lt ?_; omega) | (with_reducible refine bif_le ?_; omega) | (with_reducible refine bif_eq ?_; omega) | (with_reducible refine bif_ne ?_; omega) | exact b8_eq rfl | exact b8_ne rfl | exact bif_lt (by omega) | exact bif_le (by omega) | exact bif_eq (by omega) | exact bif_ne (by omega) | exact Iff.rfl | (simp only [zA, zB, zC, zD, zE, zF, zG, zH, zI, zJ, zK, zL, zM, zN, zO, zP, zQ, zR, zS, zT, zU, zV, zW, zX, zY, zZ, yA, yB, yC, yD, yE, yF, yG, yH, yI, yJ, yK, yL, yM, reduceCtorEq] <;> first | done | omega | exact Iff.rfl) | (simp; done) | (simp; omega)) (fun h2 => ?_) (fun h2 => ?_)
  · skip
    refine And.intro (And.intro (fun _ => (by (repeat' (first | exact rfl | exact trivial | exact (fun _ => rfl) | exact (fun _ _ => rfl) | exact (fun h => absurd h Bool.false_ne_true) | refine And.intro ?_ ?_)))) ?_) trivial
    show ple _ (.tup [bP (if chkK x = 0 then (if chkC x.on.n c = 0 then impliesU x.on.n.toNat x c else false) else false), iP (if chkK x = 0 then chkC x.on.n c else chkK x)])
    rw [if_pos h1, if_pos h1, if_neg h2]
    any_goals (repeat' (first | with_reducible rfl | exact trivial | refine And.intro ?_ ?_ | (show (_ : Int) = _; first | with_reducible rfl | exact wr1 (by omega) | (simp only [zA, zB, zC, zD, zE, zF, zG, zH, zI, zJ, zK, zL, zM, zN, zO, zP, zQ, zR, zS, zT, zU, zV, zW, zX, zY, zZ, yA, yB, yC, yD, yE, yF, yG, yH, yI, yJ, yK, yL, yM, reduceCtorEq] <;> first | done | rfl | omega) | omega | rfl) | exact rfl | exact (fun _ => rfl) | exact (fun _ _ => rfl) | exact (fun h => absurd h Bool.false_ne_true)))
  obtain ⟨k, hk, hx, _⟩ := chkT_zero (chkK_zero h1).1
  have h3 : chkC (k : Int) c = 0 := by rw [← hx]; exact h2
  refine Exists.intro _ (And.intro good_ok (Exists.intro ((k, x, c)) (Exists.intro [] (And.intro (And.intro rfl (And.intro rfl (And.intro rfl (And.intro rfl (And.intro (fun _ => Or.inl rfl) (by first | exact (fun h => absurd h Bool.false_ne_true) | exact (fun _ => And.intro rfl rfl))))))) (And.intro (by (repeat' (first | with_reducible rfl | exact trivial | refine And.intro ?_ ?_ | (show (_ : Int) = _; first | with_reducible rfl | exact wr1 (by omega) | (simp only [zA, zB, zC, zD, zE, zF, zG, zH, zI, zJ, zK, zL, zM, zN, zO, zP, zQ, zR, zS, zT, zU, zV, zW, zX, zY, zZ, yA, yB, yC, yD, yE, yF, yG, yH, yI, yJ, yK, yL, yM, reduceCtorEq] <;> first | done | rfl | omega) | omega | rfl) | exact rfl | exact (fun _ => rfl) | exact (fun _ _ => rfl) | exact (fun h => absurd h Bool.false_ne_true)))) (And.intro trivial (And.intro (⟨hk, hx⟩) ?_)))))))
  refine And.intro (And.intro (fun _ => (by (repeat' (first | exact rfl | exact trivial | exact (fun _ => rfl) | exact (fun _ _ => rfl) | exact (fun h => absurd h Bool.false_ne_true) | refine And.intro ?_ ?_)))) ?_) trivial
  show ple _ (.tup [bP (if chkK x = 0 then (if chkC x.on.n c = 0 then impliesU x.on.n.toNat x c else false) else false), iP (if chkK x = 0 then chkC x.on.n c else chkK x)])
  rw [if_pos h1, if_pos h1, if_pos h2, hx, Int.toNat_natCast, implies_good hk]
  any_goals (repeat' (first | with_reducible rfl | exact trivial | refine And.intro ?_ ?_ | (show (_ : Int) = _; first | with_reducible rfl | exact wr1 (by omega) | (simp only [zA, zB, zC, zD, zE, zF, zG, zH, zI, zJ, zK, zL, zM, zN, zO, zP, zQ, zR, zS, zT, zU, zV, zW, zX, zY, zZ, yA, yB, yC, yD, yE, yF, yG, yH, yI, yJ, yK, yL, yM, reduceCtorEq] <;> first | done | rfl | omega) | omega | rfl) | exact rfl | exact (fun _ => rfl) | exact (fun _ _ => rfl) | exact (fun h => absurd h Bool.false_ne_true)))

end Go.Sx.Pn
