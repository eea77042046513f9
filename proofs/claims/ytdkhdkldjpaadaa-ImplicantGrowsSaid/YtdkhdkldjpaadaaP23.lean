/- Contracts: the texts of cubes. -/
import Derived.Test.YtdkhdkldjpaadaaP22
set_option maxHeartbeats 1000000
set_option maxRecDepth 4000
set_option linter.unusedSimpArgs false
set_option linter.unusedVariables false
namespace Go.Sx.Pn
open Go Go.Proofs

def strA (l : List UInt8) : SV := .p false (.val (.string (strOf l)))
def strP (l : List UInt8) : PV := .val (.string (strOf l))

/-- the sign of a variable -/
def chAt (c : Cu) (i : Nat) : UInt8 := if c.care.getLsbD i then (if c.value.getLsbD i then 49 else 48) else 45
def txtL (c : Cu) (n : Nat) : List UInt8 := (List.range n).map (chAt c)
theorem txtL_len (c : Cu) (n : Nat) : (txtL c n).length = n := by simp [txtL]
theorem txtL_succ (c : Cu) (n : Nat) : txtL c (n + 1) = txtL c n ++ [chAt c n] := by simp [txtL, List.range_succ]
theorem txt_add (c : Cu) (n : Nat) (x : UInt8) (h : chAt c n = x) (y : ByteArray) (hy : y = strOf [x]) : strOf (txtL c n) ++ y = strOf (txtL c (n + 1)) := by
  rw [hy, strOf_append, txtL_succ, h]

def writtenS : Spec := fnS (fun x : Nat × Cu => [iA x.1, cA x.2]) (fun x => x.1 ≤ 6) (fun x => strP (txtL x.2 x.1))
theorem written_ok : FnOk Try.prog 76 writtenS := by
  refine fnOk (Tb := tab) mixed tab_ok Try.func76 rfl rfl ?_
  rintro ⟨n, c⟩ hpre
  refine And.intro (And.intro rfl (And.intro rfl rfl)) ?_
  have hn : n ≤ 6 := hpre
  refine Exists.intro (LAnn.inv { X := Nat, up := fun k => [(6, .s (iA k)), (5, .s (strA (txtL c k)))], uo := fun k => [], inv := fun k => k ≤ n ∧ (True), meas := fun k => n - k, x0 := 0 }) ?_
  refine And.intro (And.intro (And.intro (by (repeat' (first | exact rfl | exact trivial | exact (fun _ => rfl) | exact (fun _ _ => rfl) | exact (fun h => absurd h Bool.false_ne_true) | refine And.intro ?_ ?_))) (And.intro (by (repeat' (first | with_reducible rfl | exact trivial | refine And.intro ?_ ?_ | (show (_ : Int) = _; first | with_reducible rfl | exact wr1 (by omega) | (simp only [zA, zB, zC, zD, zE, zF, zG, zH, zI, zJ, zK, zL, zM, zN, zO, zP, zQ, zR, zS, zT, zU, zV, zW, zX, zY, zZ, yA, yB, yC, yD, yE, yF, yG, yH, yI, yJ, yK, yL, yM, reduceCtorEq] <;> first | done | rfl | omega) | omega | rfl) | exact rfl | exact (fun _ => rfl) | exact (fun _ _ => rfl) | exact (fun h => absurd h Bool.false_ne_true)))) (by (repeat' (first | with_reducible rfl | exact trivial | refine And.intro ?_ ?_ | (show (_ : Int) = _; first | with_reducible rfl | exact wr1 (by omega) | (simp only [zA, zB, zC, zD, zE, zF, zG, zH, zI, zJ, zK, zL, zM, zN, zO, zP, zQ, zR, zS, zT, zU, zV, zW, zX, zY, zZ, yA, yB, yC, yD, yE, yF, yG, yH, yI, yJ, yK, yL, yM, reduceCtorEq] <;> first | done | rfl | omega) | omega | rfl) | exact rfl | exact (fun _ => rfl) | exact (fun _ _ => rfl) | exact (fun h => absurd h Bool.false_ne_true)))))) rfl) (And.intro (And.intro (Nat.zero_le _) ?_) ?_)
  · trivial
  intro (k : Nat) ⟨hk, _⟩
  have hsz : (strOf (txtL c k)).size = k := by rw [strOf_size, txtL_len]
  refine bcase_p (p := k < n) (by first | (with_reducible refine bif_lt ?_; omega) | (with_reducible refine bif_le ?_; omega) | (with_reducible refine bif_eq ?_; omega) | (with_reducible refine bif_ne ?_; omega) | exact b8_eq rfl | exact b8_ne rfl | exact bif_lt (by omega) | exact bif_le (by omega) | exact bif_eq (by omega) | exact bif_ne (by omega) | exact Iff.rfl | (simp only [zA, zB, zC, zD, zE, zF, zG, zH, zI, zJ, zK, zL, zM, zN, zO, zP, zQ, zR, zS, zT, zU, zV, zW, zX, zY, zZ, yA, yB, yC, yD, yE, yF, yG, yH, yI, yJ, yK, yL, yM, reduceCtorEq] <;> first | done | omega | exact Iff.rfl) | (simp; done) | (simp; omega)) (fun h1 => ?_) (fun h1 => ?_)
  · have step : ∀ (y : ByteArray) (x : UInt8), y = strOf [x] → (((strOf (txtL c k)).size + y.size : Nat) : Int) ≤ 9223372036854775807 := fun y x hy => by
      have : y.size = 1 := by rw [hy, strOf_size]; rfl
      omega
    repeat (refine And.intro (by first | exact Int.natCast_nonneg _ | omega | exact And.intro (Int.natCast_nonneg _) (by omega)) ?_)
    refine bcase_b (b := !c.care.getLsbD k) (by first | exact rfl | (simp only [zA, zB, zC, zD, zE, zF, zG, zH, zI, zJ, zK, zL, zM, zN, zO, zP, zQ, zR, zS, zT, zU, zV, zW, zX, zY, zZ, yA, yB, yC, yD, yE, yF, yG, yH, yI, yJ, yK, yL, yM, reduceCtorEq] <;> first | done | exact rfl)) (fun h2 => ?_) (fun h2 => ?_)
    · have h2 : c.care.getLsbD k = false := by simpa using h2
      refine And.intro (step _ 45 rfl) ?_
      refine Exists.intro (k + 1) (And.intro (And.intro rfl rfl) (And.intro (And.intro ?_ rfl) (And.intro (And.intro (by show k + 1 ≤ n; omega) ?_) (by show n - (k + 1) < n - k; omega))))
      any_goals (repeat' (first | with_reducible rfl | exact trivial | refine And.intro ?_ ?_ | (show (_ : Int) = _; first | with_reducible rfl | exact wr1 (by omega) | (simp only [zA, zB, zC, zD, zE, zF, zG, zH, zI, zJ, zK, zL, zM, zN, zO, zP, zQ, zR, zS, zT, zU, zV, zW, zX, zY, zZ, yA, yB, yC, yD, yE, yF, yG, yH, yI, yJ, yK, yL, yM, reduceCtorEq] <;> first | done | rfl | omega) | omega | rfl) | exact rfl | exact (fun _ => rfl) | exact (fun _ _ => rfl) | exact (fun h => absurd h Bool.false_ne_true)))
      exact txt_add c k 45 (by simp only [chAt, h2]; rfl) _ rfl
    have h2 : c.care.getLsbD k = true := by simpa using h2
    repeat (refine And.intro (by first | exact Int.natCast_nonneg _ | omega | exact And.intro (Int.natCast_nonneg _) (by omega)) ?_)
    refine bcase_b (b := c.value.getLsbD k) (by first | exact rfl | (simp only [zA, zB, zC, zD, zE, zF, zG, zH, zI, zJ, zK, zL, zM, zN, zO, zP, zQ, zR, zS, zT, zU, zV, zW, zX, zY, zZ, yA, yB, yC, yD, yE, yF, yG, yH, yI, yJ, yK, yL, yM, reduceCtorEq] <;> first | done | exact rfl)) (fun h3 => ?_) (fun h3 => ?_)
    · refine And.intro (step _ 49 rfl) ?_
      refine Exists.intro (k + 1) (And.intro (And.intro rfl rfl) (And.intro (And.intro ?_ rfl) (And.intro (And.intro (by show k + 1 ≤ n; omega) ?_) (by show n - (k + 1) < n - k; omega))))
      any_goals (repeat' (first | with_reducible rfl | exact trivial | refine And.intro ?_ ?_ | (show (_ : Int) = _; first | with_reducible rfl | exact wr1 (by omega) | (simp only [zA, zB, zC, zD, zE, zF, zG, zH, zI, zJ, zK, zL, zM, zN, zO, zP, zQ, zR, zS, zT, zU, zV, zW, zX, zY, zZ, yA, yB, yC, yD, yE, yF, yG, yH, yI, yJ, yK, yL, yM, reduceCtorEq] <;> first | done | rfl | omega) | omega | rfl) | exact rfl | exact (fun _ => rfl) | exact (fun _ _ => rfl) | exact (fun h => absurd h Bool.false_ne_true)))
      exact txt_add c k 49 (by simp only [chAt, h2, h3]; rfl) _ rfl
    · refine And.intro (step _ 48 rfl) ?_
      refine Exists.intro (k + 1) (And.intro (And.intro rfl rfl) (And.intro (And.intro ?_ rfl) (And.intro (And.intro (by show k + 1 ≤ n; omega) ?_) (by show n - (k + 1) < n - k; omega))))
      any_goals (repeat' (first | with_reducible rfl | exact trivial | refine And.intro ?_ ?_ | (show (_ : Int) = _; first | with_reducible rfl | exact wr1 (by omega) | (simp only [zA, zB, zC, zD, zE, zF, zG, zH, zI, zJ, zK, zL, zM, zN, zO, zP, zQ, zR, zS, zT, zU, zV, zW, zX, zY, zZ, yA, yB, yC, yD, yE, yF, yG, yH, yI, yJ, yK, yL, yM, reduceCtorEq] <;> first | done | rfl | omega) | omega | rfl) | exact rfl | exact (fun _ => rfl) | exact (fun _ _ => rfl) | exact (fun h => absurd h Bool.false_ne_true)))
      exact txt_add c k 48 (by simp only [chAt, h2, h3]; rfl) _ rfl
  · obtain rfl : k = n := by omega
    refine And.intro (And.intro (fun _ => (by (repeat' (first | exact rfl | exact trivial | exact (fun _ => rfl) | exact (fun _ _ => rfl) | exact (fun h => absurd h Bool.false_ne_true) | refine And.intro ?_ ?_)))) ?_) trivial
    any_goals (repeat' (first | with_reducible rfl | exact trivial | refine And.intro ?_ ?_ | (show (_ : Int) = _; first | with_reducible rfl | exact wr1 (by omega) | (simp only [zA, zB, zC, zD, zE, zF, zG, zH, zI, zJ, zK, zL, zM, zN, zO, zP, zQ, zR, zS, zT, zU, zV, zW, zX, zY, zZ, yA, yB, yC, yD, yE, yF, yG, yH, yI, yJ, yK, yL, yM, reduceCtorEq] <;> first | done | rfl | omega) | omega | rfl) | exact rfl | exact (fun _ => rfl) | exact (fun _ _ => rfl) | exact (fun h => absurd h Bool.false_ne_true)))

def txtC (n : Int) (c : Cu) : List UInt8 × Int := if chkC n c = 0 then (txtL c n.toNat, 0) else ([], chkC n c)
def TextS : Spec := fnS (fun x : Int × Cu => [iA x.1, cA x.2]) (fun _ => True) (fun x => .tup [strP (txtC x.1 x.2).1, iP (txtC x.1 x.2).2])
theorem rText_ok : FnOk Try.prog 19 TextS := by
  refine fnOk (Tb := tab) mixed tab_ok Try.func19 rfl rfl ?_
  rintro ⟨n, c⟩ hpre
  refine And.intro (And.intro rfl (And.intro rfl rfl)) ?_
  refine Exists.intro _ (And.intro rcheck_ok (Exists.intro ((n, c)) (Exists.intro [] (And.intro (And.intro rfl (And.intro rfl (And.intro rfl (And.intro rfl (And.intro (fun _ => Or.inl rfl) (by first | exact (fun h => absurd h Bool.false_ne_true) | exact (fun _ => And.intro rfl rfl))))))) (And.intro (by (repeat' (first | with_reducible rfl | exact trivial | refine And.intro ?_ ?_ | (show (_ : Int) = _; first | with_reducible rfl | exact wr1 (by omega) | (simp only [zA, zB, zC, zD, zE, zF, zG, zH, zI, zJ, zK, zL, zM, zN, zO, zP, zQ, zR, zS, zT, zU, zV, zW, zX, zY, zZ, yA, yB, yC, yD, yE, yF, yG, yH, yI, yJ, yK, yL, yM, reduceCtorEq] <;> first | done | rfl | omega) | omega | rfl) | exact rfl | exact (fun _ => rfl) | exact (fun _ _ => rfl) | exact (fun h => absurd h Bool.false_ne_true)))) (And.intro trivial (And.intro (trivial) ?_)))))))
  refine bcase_n (p := chkC n c = 0) (by first | (with_reducible refine bif_lt ?_; omega) | (with_reducible refine bif_le ?_; omega) | (with_reducible refine bif_eq ?_; omega) | (with_reducible refine bif_ne ?_; omega) | exact b8_eq rfl | exact b8_ne rfl | exact bif_lt (by omega) | exact bif_le (by omega) | exact bif_eq (by omega) | exact bif_ne (by omega) | exact Iff.rfl | (simp only [zA, zB, zC, zD, zE, zF, zG, zH, zI, zJ, zK, zL, zM, zN, zO, zP, zQ, zR, zS, zT, zU, zV, zW, zX, zY, zZ, yA, yB, yC, yD, yE, yF, yG, yH, yI, yJ, yK, yL, yM, reduceCtorEq] <;> first | done | omega | exact Iff.rfl) | (simp; done) | (simp; omega)) (fun h1 => ?_) (fun h1 => ?_)
  · skip
    refine And.intro (And.intro (fun _ => (by (repeat' (first | exact rfl | exact trivial | exact (fun _ => rfl) | exact (fun _ _ => rfl) | exact (fun h => absurd h Bool.false_ne_true) | refine And.intro ?_ ?_)))) ?_) trivial
    show ple _ (.tup [strP (txtC n c).1, iP (txtC n c).2])
    rw [show txtC n c = ([], chkC n c) by simp [txtC, h1]]
    any_goals (repeat' (first | with_reducible rfl | exact trivial | refine And.intro ?_ ?_ | (show (_ : Int) = _; first | with_reducible rfl | exact wr1 (by omega) | (simp only [zA, zB, zC, zD, zE, zF, zG, zH, zI, zJ, zK, zL, zM, zN, zO, zP, zQ, zR, zS, zT, zU, zV, zW, zX, zY, zZ, yA, yB, yC, yD, yE, yF, yG, yH, yI, yJ, yK, yL, yM, reduceCtorEq] <;> first | done | rfl | omega) | omega | rfl) | exact rfl | exact (fun _ => rfl) | exact (fun _ _ => rfl) | exact (fun h => absurd h Bool.false_ne_true)))
  have h1 : chkC n c = 0 := h1
  obtain ⟨k, hk, rfl, _⟩ := chkC_zero h1
  refine Exists.intro _ (And.intro written_ok (Exists.intro ((k, c)) (Exists.intro [] (And.intro (And.intro rfl (And.intro rfl (And.intro rfl (And.intro rfl (And.intro (fun _ => Or.inl rfl) (by first | exact (fun h => absurd h Bool.false_ne_true) | exact (fun _ => And.intro rfl rfl))))))) (And.intro (by (repeat' (first | with_reducible rfl | exact trivial | refine And.intro ?_ ?_ | (show (_ : Int) = _; first | with_reducible rfl | exact wr1 (by omega) | (simp only [zA, zB, zC, zD, zE, zF, zG, zH, zI, zJ, zK, zL, zM, zN, zO, zP, zQ, zR, zS, zT, zU, zV, zW, zX, zY, zZ, yA, yB, yC, yD, yE, yF, yG, yH, yI, yJ, yK, yL, yM, reduceCtorEq] <;> first | done | rfl | omega) | omega | rfl) | exact rfl | exact (fun _ => rfl) | exact (fun _ _ => rfl) | exact (fun h => absurd h Bool.false_ne_true)))) (And.intro trivial (And.intro (hk) ?_)))))))
  refine And.intro (And.intro (fun _ => (by (repeat' (first | exact rfl | exact trivial | exact (fun _ => rfl) | exact (fun _ _ => rfl) | exact (fun h => absurd h Bool.false_ne_true) | refine And.intro ?_ ?_)))) ?_) trivial
  show ple _ (.tup [strP (txtC k c).1, iP (txtC k c).2])
  rw [show txtC k c = (txtL c k, 0) by simp [txtC, h1]]
  any_goals (repeat' (first | with_reducible rfl | exact trivial | refine And.intro ?_ ?_ | (show (_ : Int) = _; first | with_reducible rfl | exact wr1 (by omega) | (simp only [zA, zB, zC, zD, zE, zF, zG, zH, zI, zJ, zK, zL, zM, zN, zO, zP, zQ, zR, zS, zT, zU, zV, zW, zX, zY, zZ, yA, yB, yC, yD, yE, yF, yG, yH, yI, yJ, yK, yL, yM, reduceCtorEq] <;> first | done | rfl | omega) | omega | rfl) | exact rfl | exact (fun _ => rfl) | exact (fun _ _ => rfl) | exact (fun h => absurd h Bool.false_ne_true)))

theorem Text_ok : FnOk Try.prog 18 TextS := by
  refine fnOk (Tb := tab) mixed tab_ok Try.func18 rfl rfl ?_
  rintro ⟨n, c⟩ hpre
  refine And.intro (And.intro rfl (And.intro rfl rfl)) ?_
  refine Exists.intro _ (And.intro check_ok (Exists.intro ((n, c)) (Exists.intro [] (And.intro (And.intro rfl (And.intro rfl (And.intro rfl (And.intro rfl (And.intro (fun _ => Or.inl rfl) (by first | exact (fun h => absurd h Bool.false_ne_true) | exact (fun _ => And.intro rfl rfl))))))) (And.intro (by (repeat' (first | with_reducible rfl | exact trivial | refine And.intro ?_ ?_ | (show (_ : Int) = _; first | with_reducible rfl | exact wr1 (by omega) | (simp only [zA, zB, zC, zD, zE, zF, zG, zH, zI, zJ, zK, zL, zM, zN, zO, zP, zQ, zR, zS, zT, zU, zV, zW, zX, zY, zZ, yA, yB, yC, yD, yE, yF, yG, yH, yI, yJ, yK, yL, yM, reduceCtorEq] <;> first | done | rfl | omega) | omega | rfl) | exact rfl | exact (fun _ => rfl) | exact (fun _ _ => rfl) | exact (fun h => absurd h Bool.false_ne_true)))) (And.intro trivial (And.intro (trivial) ?_)))))))
  refine bcase_n (p := chkC n c = 0) (by first | (with_reducible refine bif_lt ?_; omega) | (with_reducible refine bif_le ?_; omega) | (with_reducible refine bif_eq ?_; omega) | (with_reducible refine bif_ne ?_; omega) | exact b8_eq rfl | exact b8_ne rfl | exact bif_lt (by omega) | exact bif_le (by omega) | exact bif_eq (by omega) | exact bif_ne (by omega) | exact Iff.rfl | (simp only [zA, zB, zC, zD, zE, zF, zG, zH, zI, zJ, zK, zL, zM, zN, zO, zP, zQ, zR, zS, zT, zU, zV, zW, zX, zY, zZ, yA, yB, yC, yD, yE, yF, yG, yH, yI, yJ, yK, yL, yM, reduceCtorEq] <;> first | done | omega | exact Iff.rfl) | (simp; done) | (simp; omega)) (fun h1 => ?_) (fun h1 => ?_)
  · skip
    refine And.intro (And.intro (fun _ => (by (repeat' (first | exact rfl | exact trivial | exact (fun _ => rfl) | exact (fun _ _ => rfl) | exact (fun h => absurd h Bool.false_ne_true) | refine And.intro ?_ ?_)))) ?_) trivial
    show ple _ (.tup [strP (txtC n c).1, iP (txtC n c).2])
    rw [show txtC n c = ([], chkC n c) by simp [txtC, h1]]
    any_goals (repeat' (first | with_reducible rfl | exact trivial | refine And.intro ?_ ?_ | (show (_ : Int) = _; first | with_reducible rfl | exact wr1 (by omega) | (simp only [zA, zB, zC, zD, zE, zF, zG, zH, zI, zJ, zK, zL, zM, zN, zO, zP, zQ, zR, zS, zT, zU, zV, zW, zX, zY, zZ, yA, yB, yC, yD, yE, yF, yG, yH, yI, yJ, yK, yL, yM, reduceCtorEq] <;> first | done | rfl | omega) | omega | rfl) | exact rfl | exact (fun _ => rfl) | exact (fun _ _ => rfl) | exact (fun h => absurd h Bool.false_ne_true)))
  have hz : chkC n c = 0 := h1
  clear h1
  obtain ⟨m, hm, rfl, _⟩ := chkC_zero hz
  refine And.intro (And.intro (Int.natCast_nonneg _) (And.intro (Int.le_refl _) (And.intro (by omega) (by show 1 * m ≤ 281474976710656; omega)))) ?_
  refine Exists.intro (LAnn.inv { X := Nat, up := fun k => [(19, .s (iA k)), (7, .rw 5 1 m (fun i => [.val (.int .u8 (if i < k then chAt c i else 0).toNat)]))], uo := fun k => [], inv := fun k => k ≤ m ∧ (True), meas := fun k => m - k, x0 := 0 }) ?_
  refine And.intro (And.intro (And.intro (by (repeat' (first | exact rfl | exact trivial | exact (fun _ => rfl) | exact (fun _ _ => rfl) | exact (fun h => absurd h Bool.false_ne_true) | refine And.intro ?_ ?_))) (And.intro ?_ ?_)) rfl) (And.intro (And.intro (Nat.zero_le _) ?_) ?_)
  · skip
    (repeat' (first | exact rfl | exact trivial | exact (fun _ => rfl) | exact (fun _ _ => rfl) | exact (fun h => absurd h Bool.false_ne_true) | refine And.intro ?_ ?_))
  · skip
    (repeat' (first | exact rfl | exact trivial | exact (fun _ => rfl) | exact (fun _ _ => rfl) | exact (fun h => absurd h Bool.false_ne_true) | refine And.intro ?_ ?_))
  · trivial
  intro (k : Nat) ⟨hk, _⟩
  refine bcase_p (p := k < m) (by first | (with_reducible refine bif_lt ?_; omega) | (with_reducible refine bif_le ?_; omega) | (with_reducible refine bif_eq ?_; omega) | (with_reducible refine bif_ne ?_; omega) | exact b8_eq rfl | exact b8_ne rfl | exact bif_lt (by omega) | exact bif_le (by omega) | exact bif_eq (by omega) | exact bif_ne (by omega) | exact Iff.rfl | (simp only [zA, zB, zC, zD, zE, zF, zG, zH, zI, zJ, zK, zL, zM, zN, zO, zP, zQ, zR, zS, zT, zU, zV, zW, zX, zY, zZ, yA, yB, yC, yD, yE, yF, yG, yH, yI, yJ, yK, yL, yM, reduceCtorEq] <;> first | done | omega | exact Iff.rfl) | (simp; done) | (simp; omega)) (fun h1 => ?_) (fun h1 => ?_)
  · have put : ∀ x : UInt8, chAt c k = x → ∀ i, i < m → putEl (fun i => [.val (.int .u8 (if i < k then chAt c i else 0).toNat)]) k 0 [.val (.int .u8 x.toNat)] i = [.val (.int .u8 (if i < k + 1 then chAt c i else 0).toNat)] := by
      intro x hx i hi
      unfold putEl
      by_cases e : i = k
      · subst e; rw [if_pos rfl, if_pos (Nat.lt_succ_self i), hx]; rfl
      · rw [if_neg e]
        dsimp only
        by_cases h : i < k
        · rw [if_pos h, if_pos (by omega)]
        · rw [if_neg h, if_neg (by omega)]
    repeat (refine And.intro (by first | exact Int.natCast_nonneg _ | omega | exact And.intro (Int.natCast_nonneg _) (by omega)) ?_)
    refine bcase_b (b := !c.care.getLsbD k) (by first | exact rfl | (simp only [zA, zB, zC, zD, zE, zF, zG, zH, zI, zJ, zK, zL, zM, zN, zO, zP, zQ, zR, zS, zT, zU, zV, zW, zX, zY, zZ, yA, yB, yC, yD, yE, yF, yG, yH, yI, yJ, yK, yL, yM, reduceCtorEq] <;> first | done | exact rfl)) (fun h2 => ?_) (fun h2 => ?_)
    · have h2 : c.care.getLsbD k = false := by simpa using h2
      refine And.intro (And.intro (Int.natCast_nonneg _) (by show (k : Int) < (m : Int); omega)) ?_
      refine And.intro (And.intro (by show k < m; omega) (Nat.le_refl _)) ?_
      refine Exists.intro (k + 1) (And.intro (And.intro rfl rfl) (And.intro (And.intro ?_ rfl) (And.intro (And.intro (by show k + 1 ≤ m; omega) ?_) (by show m - (k + 1) < m - k; omega))))
      any_goals (repeat' (first | with_reducible rfl | exact trivial | refine And.intro ?_ ?_ | (show (_ : Int) = _; first | with_reducible rfl | exact wr1 (by omega) | (simp only [zA, zB, zC, zD, zE, zF, zG, zH, zI, zJ, zK, zL, zM, zN, zO, zP, zQ, zR, zS, zT, zU, zV, zW, zX, zY, zZ, yA, yB, yC, yD, yE, yF, yG, yH, yI, yJ, yK, yL, yM, reduceCtorEq] <;> first | done | rfl | omega) | omega | rfl) | exact rfl | exact (fun _ => rfl) | exact (fun _ _ => rfl) | exact (fun h => absurd h Bool.false_ne_true)))
      exact put 45 (by simp only [chAt, h2]; rfl)
    have h2 : c.care.getLsbD k = true := by simpa using h2
    repeat (refine And.intro (by first | exact Int.natCast_nonneg _ | omega | exact And.intro (Int.natCast_nonneg _) (by omega)) ?_)
    refine bcase_b (b := c.value.getLsbD k) (by first | exact rfl | (simp only [zA, zB, zC, zD, zE, zF, zG, zH, zI, zJ, zK, zL, zM, zN, zO, zP, zQ, zR, zS, zT, zU, zV, zW, zX, zY, zZ, yA, yB, yC, yD, yE, yF, yG, yH, yI, yJ, yK, yL, yM, reduceCtorEq] <;> first | done | exact rfl)) (fun h3 => ?_) (fun h3 => ?_)
    · refine And.intro (And.intro (Int.natCast_nonneg _) (by show (k : Int) < (m : Int); omega)) ?_
      refine And.intro (And.intro (by show k < m; omega) (Nat.le_refl _)) ?_
      refine Exists.intro (k + 1) (And.intro (And.intro rfl rfl) (And.intro (And.intro ?_ rfl) (And.intro (And.intro (by show k + 1 ≤ m; omega) ?_) (by show m - (k + 1) < m - k; omega))))
      any_goals (repeat' (first | with_reducible rfl | exact trivial | refine And.intro ?_ ?_ | (show (_ : Int) = _; first | with_reducible rfl | exact wr1 (by omega) | (simp only [zA, zB, zC, zD, zE, zF, zG, zH, zI, zJ, zK, zL, zM, zN, zO, zP, zQ, zR, zS, zT, zU, zV, zW, zX, zY, zZ, yA, yB, yC, yD, yE, yF, yG, yH, yI, yJ, yK, yL, yM, reduceCtorEq] <;> first | done | rfl | omega) | omega | rfl) | exact rfl | exact (fun _ => rfl) | exact (fun _ _ => rfl) | exact (fun h => absurd h Bool.false_ne_true)))
      exact put 49 (by simp only [chAt, h2, h3]; rfl)
    · refine And.intro (And.intro (Int.natCast_nonneg _) (by show (k : Int) < (m : Int); omega)) ?_
      refine And.intro (And.intro (by show k < m; omega) (Nat.le_refl _)) ?_
      refine Exists.intro (k + 1) (And.intro (And.intro rfl rfl) (And.intro (And.intro ?_ rfl) (And.intro (And.intro (by show k + 1 ≤ m; omega) ?_) (by show m - (k + 1) < m - k; omega))))
      any_goals (repeat' (first | with_reducible rfl | exact trivial | refine And.intro ?_ ?_ | (show (_ : Int) = _; first | with_reducible rfl | exact wr1 (by omega) | (simp only [zA, zB, zC, zD, zE, zF, zG, zH, zI, zJ, zK, zL, zM, zN, zO, zP, zQ, zR, zS, zT, zU, zV, zW, zX, zY, zZ, yA, yB, yC, yD, yE, yF, yG, yH, yI, yJ, yK, yL, yM, reduceCtorEq] <;> first | done | rfl | omega) | omega | rfl) | exact rfl | exact (fun _ => rfl) | exact (fun _ _ => rfl) | exact (fun h => absurd h Bool.false_ne_true)))
      exact put 48 (by simp only [chAt, h2, h3]; rfl)
  · obtain rfl : k = m := by omega
    refine Exists.intro (strOf (txtL c k)) (And.intro (And.intro (by rw [strOf_size, txtL_len]) (fun j hj => ?_)) ?_)
    · have hj : j < k := hj
      show [PV.val (.int .u8 (if j < k then chAt c j else 0).toNat)] = [.val (.int .u8 (bAt (txtL c k) j).toNat)]
      rw [if_pos hj, bAt_eq]
      simp [txtL, List.getD, hj]
    refine And.intro (And.intro (fun _ => (by (repeat' (first | exact rfl | exact trivial | exact (fun _ => rfl) | exact (fun _ _ => rfl) | exact (fun h => absurd h Bool.false_ne_true) | refine And.intro ?_ ?_)))) ?_) trivial
    show ple _ (.tup [strP (txtC k c).1, iP (txtC k c).2])
    rw [show txtC k c = (txtL c k, 0) by simp [txtC, hz]]
    any_goals (repeat' (first | with_reducible rfl | exact trivial | refine And.intro ?_ ?_ | (show (_ : Int) = _; first | with_reducible rfl | exact wr1 (by omega) | (simp only [zA, zB, zC, zD, zE, zF, zG, zH, zI, zJ, zK, zL, zM, zN, zO, zP, zQ, zR, zS, zT, zU, zV, zW, zX, zY, zZ, yA, yB, yC, yD, yE, yF, yG, yH, yI, yJ, yK, yL, yM, reduceCtorEq] <;> first | done | rfl | omega) | omega | rfl) | exact rfl | exact (fun _ => rfl) | exact (fun _ _ => rfl) | exact (fun h => absurd h Bool.false_ne_true)))

end Go.Sx.Pn
