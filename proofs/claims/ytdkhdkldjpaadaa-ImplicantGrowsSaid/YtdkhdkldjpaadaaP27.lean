/- Contracts of the reference: all cubes, prime implicants, owners. -/
import Derived.Test.YtdkhdkldjpaadaaP26
set_option maxHeartbeats 1000000
set_option maxRecDepth 4000
set_option linter.unusedSimpArgs false
set_option linter.unusedVariables false
namespace Go.Sx.Pn
open Go Go.Proofs

/-- lists at loops' heads -/
def rowC (L : List Cu) : LV := .rw 24 2 L.length (fun i => (L.getD i ⟨0, 0⟩).cells)
def rowN (L : List Nat) : LV := .rw 3 1 L.length (fun i => [iP (L.getD i 0 : Nat)])
theorem join_app {α : Type} (enc : α → List PV) (d : α) {L L' : List α} {x : α} (h : L' = L ++ [x]) (g : Nat → List PV) (hg : g 0 = enc x) : ∀ j, j < L.length + 1 → joinF L.length (fun i => enc (L.getD i d)) g j = enc (L'.getD j d) := by
  intro j hj
  subst h
  unfold joinF
  by_cases e : j < L.length
  · rw [if_pos e]; simp only [List.getD_eq_getElem?_getD, List.getElem?_append_left e]
  · obtain rfl : j = L.length := by omega
    rw [if_neg e, Nat.sub_self, hg]
    simp
theorem app_len {α : Type} {L L' : List α} {x : α} (h : L' = L ++ [x]) : L.length + 1 = L'.length := by subst h; simp
theorem row_same {α : Type} (enc : α → List PV) (d : α) {L L' : List α} (h : L = L') : ∀ j, j < L.length → enc (L.getD j d) = enc (L'.getD j d) := fun j _ => by rw [h]

def cubesS' : Spec := fnS (fun n : Nat => [iA n]) (fun n => n ≤ 6) (fun n => csP (cubesL n))
theorem cubesTo_len {n : Nat} (h : n ≤ 6) {i : Nat} (hi : i ≤ 2 ^ n) : (cubesTo n i).length ≤ 729 := by
  obtain ⟨r, hr⟩ := cubesTo_pre n hi
  have := cubesL_len h
  unfold cubesL at this
  rw [hr, List.length_append] at this
  omega
theorem rcubes_ok : FnOk Try.prog 132 cubesS' := by
  refine fnOk (Tb := tab) mixed tab_ok Try.func132 rfl rfl ?_
  rintro (n : Nat) hpre
  refine And.intro (And.intro rfl (And.intro rfl rfl)) ?_
  have hn : n ≤ 6 := hpre
  have h64 := pow_le64 hn
  refine Exists.intro (LAnn.inv { X := Nat, up := fun i => [(4, .s (iA i)), (3, rowC (cubesTo n i))], uo := fun i => [], inv := fun i => i ≤ 2 ^ n ∧ (True), meas := fun i => 2 ^ n - i, x0 := 0 }) ?_
  refine And.intro (And.intro (And.intro (by (repeat' (first | exact rfl | exact trivial | exact (fun _ => rfl) | exact (fun _ _ => rfl) | exact (fun h => absurd h Bool.false_ne_true) | refine And.intro ?_ ?_))) (And.intro (by (repeat' (first | with_reducible rfl | exact trivial | refine And.intro ?_ ?_ | (show (_ : Int) = _; first | with_reducible rfl | exact wr1 (by omega) | (simp only [zA, zB, zC, zD, zE, zF, zG, zH, zI, zJ, zK, zL, zM, zN, zO, zP, zQ, zR, zS, zT, zU, zV, zW, zX, zY, zZ, yA, yB, yC, yD, yE, yF, yG, yH, yI, yJ, yK, yL, yM, reduceCtorEq] <;> first | done | rfl | omega) | omega | rfl) | exact rfl | exact (fun _ => rfl) | exact (fun _ _ => rfl) | exact (fun h => absurd h Bool.false_ne_true)))) (by (repeat' (first | with_reducible rfl | exact trivial | refine And.intro ?_ ?_ | (show (_ : Int) = _; first | with_reducible rfl | exact wr1 (by omega) | (simp only [zA, zB, zC, zD, zE, zF, zG, zH, zI, zJ, zK, zL, zM, zN, zO, zP, zQ, zR, zS, zT, zU, zV, zW, zX, zY, zZ, yA, yB, yC, yD, yE, yF, yG, yH, yI, yJ, yK, yL, yM, reduceCtorEq] <;> first | done | rfl | omega) | omega | rfl) | exact rfl | exact (fun _ => rfl) | exact (fun _ _ => rfl) | exact (fun h => absurd h Bool.false_ne_true)))))) rfl) (And.intro (And.intro (Nat.zero_le _) ?_) ?_)
  · trivial
  intro (i : Nat) ⟨hi, _⟩
  refine Exists.intro _ (And.intro size_ok (Exists.intro (n) (Exists.intro [] (And.intro (And.intro rfl (And.intro rfl (And.intro rfl (And.intro rfl (And.intro (fun _ => Or.inl rfl) (by first | exact (fun h => absurd h Bool.false_ne_true) | exact (fun _ => And.intro rfl rfl))))))) (And.intro (by (repeat' (first | with_reducible rfl | exact trivial | refine And.intro ?_ ?_ | (show (_ : Int) = _; first | with_reducible rfl | exact wr1 (by omega) | (simp only [zA, zB, zC, zD, zE, zF, zG, zH, zI, zJ, zK, zL, zM, zN, zO, zP, zQ, zR, zS, zT, zU, zV, zW, zX, zY, zZ, yA, yB, yC, yD, yE, yF, yG, yH, yI, yJ, yK, yL, yM, reduceCtorEq] <;> first | done | rfl | omega) | omega | rfl) | exact rfl | exact (fun _ => rfl) | exact (fun _ _ => rfl) | exact (fun h => absurd h Bool.false_ne_true)))) (And.intro trivial (And.intro (hn) ?_)))))))
  refine bcase_p (p := i < 2 ^ n) (by first | (with_reducible refine bif_lt ?_; omega) | (with_reducible refine bif_le ?_; omega) | (with_reducible refine bif_eq ?_; omega) | (with_reducible refine bif_ne ?_; omega) | exact b8_eq rfl | exact b8_ne rfl | exact bif_lt (by omega) | exact bif_le (by omega) | exact bif_eq (by omega) | exact bif_ne (by omega) | exact Iff.rfl | (simp only [zA, zB, zC, zD, zE, zF, zG, zH, zI, zJ, zK, zL, zM, zN, zO, zP, zQ, zR, zS, zT, zU, zV, zW, zX, zY, zZ, yA, yB, yC, yD, yE, yF, yG, yH, yI, yJ, yK, yL, yM, reduceCtorEq] <;> first | done | omega | exact Iff.rfl) | (simp; done) | (simp; omega)) (fun h1 => ?_) (fun h1 => ?_)
  · have hbase := cubesTo_len hn hi
    refine Exists.intro (LAnn.inv { X := Nat, up := fun j => [(5, .s (iA j)), (3, rowC (cubesTo n i ++ cubeRow j i))], uo := fun j => [], inv := fun j => j ≤ i + 1 ∧ (True), meas := fun j => i + 1 - j, x0 := 0 }) ?_
    refine And.intro (And.intro (And.intro (by (repeat' (first | exact rfl | exact trivial | exact (fun _ => rfl) | exact (fun _ _ => rfl) | exact (fun h => absurd h Bool.false_ne_true) | refine And.intro ?_ ?_))) (And.intro ?_ ?_)) rfl) (And.intro (And.intro (Nat.zero_le _) ?_) ?_)
    · skip
      (repeat' (first | exact rfl | exact trivial | exact (fun _ => rfl) | exact (fun _ _ => rfl) | exact (fun h => absurd h Bool.false_ne_true) | refine And.intro ?_ ?_))
      · show (cubesTo n i).length = (cubesTo n i ++ cubeRow 0 i).length
        simp [cubeRow]
      · intro q _
        show ((cubesTo n i).getD q ⟨0, 0⟩).cells = ((cubesTo n i ++ cubeRow 0 i).getD q ⟨0, 0⟩).cells
        simp [cubeRow]
    · skip
      (repeat' (first | exact rfl | exact trivial | exact (fun _ => rfl) | exact (fun _ _ => rfl) | exact (fun h => absurd h Bool.false_ne_true) | refine And.intro ?_ ?_))
    · trivial
    intro (j : Nat) ⟨hj, _⟩
    refine bcase_p (p := j ≤ i) (by first | (with_reducible refine bif_lt ?_; omega) | (with_reducible refine bif_le ?_; omega) | (with_reducible refine bif_eq ?_; omega) | (with_reducible refine bif_ne ?_; omega) | exact b8_eq rfl | exact b8_ne rfl | exact bif_lt (by omega) | exact bif_le (by omega) | exact bif_eq (by omega) | exact bif_ne (by omega) | exact Iff.rfl | (simp only [zA, zB, zC, zD, zE, zF, zG, zH, zI, zJ, zK, zL, zM, zN, zO, zP, zQ, zR, zS, zT, zU, zV, zW, zX, zY, zZ, yA, yB, yC, yD, yE, yF, yG, yH, yI, yJ, yK, yL, yM, reduceCtorEq] <;> first | done | omega | exact Iff.rfl) | (simp; done) | (simp; omega)) (fun h2 => ?_) (fun h2 => ?_)
    · have hlen : (cubesTo n i ++ cubeRow j i).length ≤ 1000 := by
        have : (cubeRow j i).length ≤ j := by have := List.length_filterMap_le (cubeAt i) (List.range j); simpa [cubeRow] using this
        rw [List.length_append]; omega
      have ea : bits .andNot .i64 (j : Int) (i : Int) = ((uN j &&& ~~~ uN i).toNat : Int) := i_andNot (by omega)
      refine bcase_p (p := uN j &&& ~~~ uN i = 0#64) (by show (bits .andNot .i64 (j : Int) (i : Int) == 0) = true ↔ _; rw [ea, u_beq0, beq_iff_eq]) (fun h3 => ?_) (fun h3 => ?_)
      · have hc : cubeAt i j = some ⟨uN i, uN j⟩ := by rw [cubeAt, if_pos h3]
        have e : cubesTo n i ++ cubeRow (j + 1) i = (cubesTo n i ++ cubeRow j i) ++ [⟨uN i, uN j⟩] := by rw [cubeRow_succ, hc]; simp
        refine And.intro (And.intro (by show (cubesTo n i ++ cubeRow j i).length + 1 ≤ maxLen; unfold maxLen; omega) (by show ((cubesTo n i ++ cubeRow j i).length + 1) * 16 ≤ 140737488355328; omega)) ?_
        refine And.intro (fun k hk => by
          have hk : k < 1 := hk
          obtain rfl : k = 0 := by omega
          rfl) ?_
        refine Exists.intro (j + 1) (And.intro (And.intro rfl rfl) (And.intro (And.intro ?_ rfl) (And.intro (And.intro (by show j + 1 ≤ i + 1; omega) ?_) (by show i + 1 - (j + 1) < i + 1 - j; omega))))
        any_goals (repeat' (first | with_reducible rfl | exact trivial | refine And.intro ?_ ?_ | (show (_ : Int) = _; first | with_reducible rfl | exact wr1 (by omega) | (simp only [zA, zB, zC, zD, zE, zF, zG, zH, zI, zJ, zK, zL, zM, zN, zO, zP, zQ, zR, zS, zT, zU, zV, zW, zX, zY, zZ, yA, yB, yC, yD, yE, yF, yG, yH, yI, yJ, yK, yL, yM, reduceCtorEq] <;> first | done | rfl | omega) | omega | rfl) | exact rfl | exact (fun _ => rfl) | exact (fun _ _ => rfl) | exact (fun h => absurd h Bool.false_ne_true)))
        · exact app_len e
        · refine join_app Cu.cells ⟨0, 0⟩ e _ ?_
          show [PV.val (.int .u64 (IntKind.u64.wrap (i : Int))), .val (.int .u64 (IntKind.u64.wrap (j : Int)))] = _
          rw [u_wrap_nat, u_wrap_nat]; rfl
      · have hc : cubeAt i j = none := by rw [cubeAt, if_neg h3]
        have e : cubesTo n i ++ cubeRow j i = cubesTo n i ++ cubeRow (j + 1) i := by rw [cubeRow_succ, hc]; simp
        refine Exists.intro (j + 1) (And.intro (And.intro rfl rfl) (And.intro (And.intro ?_ rfl) (And.intro (And.intro (by show j + 1 ≤ i + 1; omega) ?_) (by show i + 1 - (j + 1) < i + 1 - j; omega))))
        any_goals (repeat' (first | with_reducible rfl | exact trivial | refine And.intro ?_ ?_ | (show (_ : Int) = _; first | with_reducible rfl | exact wr1 (by omega) | (simp only [zA, zB, zC, zD, zE, zF, zG, zH, zI, zJ, zK, zL, zM, zN, zO, zP, zQ, zR, zS, zT, zU, zV, zW, zX, zY, zZ, yA, yB, yC, yD, yE, yF, yG, yH, yI, yJ, yK, yL, yM, reduceCtorEq] <;> first | done | rfl | omega) | omega | rfl) | exact rfl | exact (fun _ => rfl) | exact (fun _ _ => rfl) | exact (fun h => absurd h Bool.false_ne_true)))
        · exact congrArg List.length e
        · exact row_same Cu.cells ⟨0, 0⟩ e
    · obtain rfl : j = i + 1 := by omega
      have e : cubesTo n i ++ cubeRow (i + 1) i = cubesTo n (i + 1) := by rw [cubesTo_succ, cubeRow_all (show i + 1 ≤ 2 ^ n by omega) h64]
      refine Exists.intro (i + 1) (And.intro (And.intro rfl rfl) (And.intro (And.intro ?_ rfl) (And.intro (And.intro (by show i + 1 ≤ 2 ^ n; omega) ?_) (by show 2 ^ n - (i + 1) < 2 ^ n - i; omega))))
      any_goals (repeat' (first | with_reducible rfl | exact trivial | refine And.intro ?_ ?_ | (show (_ : Int) = _; first | with_reducible rfl | exact wr1 (by omega) | (simp only [zA, zB, zC, zD, zE, zF, zG, zH, zI, zJ, zK, zL, zM, zN, zO, zP, zQ, zR, zS, zT, zU, zV, zW, zX, zY, zZ, yA, yB, yC, yD, yE, yF, yG, yH, yI, yJ, yK, yL, yM, reduceCtorEq] <;> first | done | rfl | omega) | omega | rfl) | exact rfl | exact (fun _ => rfl) | exact (fun _ _ => rfl) | exact (fun h => absurd h Bool.false_ne_true)))
      · exact congrArg List.length e
      · exact row_same Cu.cells ⟨0, 0⟩ e
  · obtain rfl : i = 2 ^ n := by omega
    refine And.intro (And.intro (fun _ => (by (repeat' (first | exact rfl | exact trivial | exact (fun _ => rfl) | exact (fun _ _ => rfl) | exact (fun h => absurd h Bool.false_ne_true) | refine And.intro ?_ ?_)))) ?_) trivial
    any_goals (repeat' (first | with_reducible rfl | exact trivial | refine And.intro ?_ ?_ | (show (_ : Int) = _; first | with_reducible rfl | exact wr1 (by omega) | (simp only [zA, zB, zC, zD, zE, zF, zG, zH, zI, zJ, zK, zL, zM, zN, zO, zP, zQ, zR, zS, zT, zU, zV, zW, zX, zY, zZ, yA, yB, yC, yD, yE, yF, yG, yH, yI, yJ, yK, yL, yM, reduceCtorEq] <;> first | done | rfl | omega) | omega | rfl) | exact rfl | exact (fun _ => rfl) | exact (fun _ _ => rfl) | exact (fun h => absurd h Bool.false_ne_true)))

end Go.Sx.Pn
