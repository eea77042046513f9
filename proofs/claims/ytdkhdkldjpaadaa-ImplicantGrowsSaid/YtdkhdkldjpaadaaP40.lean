/- Contracts of the closures of ImplicantGrows. -/
import Derived.Test.YtdkhdkldjpaadaaP39
set_option maxHeartbeats 1000000
set_option maxRecDepth 4000
set_option linter.unusedSimpArgs false
set_option linter.unusedVariables false
namespace Go.Sx.Pn
open Go Go.Proofs

def taskB (x : Tk) : Ob := .cells 40 [.p false (.val (.int .i64 x.on.n)), .p false (.val (.int .u64 x.on.bits.toNat)), .p false (.val (.int .i64 x.free.n)), .p false (.val (.int .u64 x.free.bits.toNat))]
def cubeB (c : Cu) : Ob := .cells 24 [.p false (.val (.int .u64 c.care.toNat)), .p false (.val (.int .u64 c.value.toNat))]
def listB (l : List Cu) : Ob := .cells 43 [.p false (csP l)]
theorem chk2_of {n : Int} {a b : Cu} (ha : chkC n a = 0) (hb : chkC n b = 0) : chk2 n a b = 0 := by simp only [chk2, ha, hb, if_true]

def mkS {α : Type} (args : α → List SV) (objs : α → List Ob) (pre : α → Prop) (res : α → PV) (objs' : α → List Ob) (ro : Nat) : Spec := { A := α, args := args, objs := objs, pre := pre, res := res, objs' := objs', fresh := true, ro := ro }
def inS : Spec := mkS (fun x : Nat × Tk × Cu × Cu => [cA x.2.2.2, .own 0 0, .own 1 0, .own 2 0]) (fun x => [taskB x.2.1, cubeB x.2.2.1, boxB false])
  (fun x => x.2.1.on.n = (x.1 : Int) ∧ chkC (x.1 : Int) x.2.2.1 = 0 ∧ chkC (x.1 : Int) x.2.2.2 = 0) (fun x => bP (insideC x.2.2.1 x.2.2.2)) (fun _ => [boxB false]) 2
theorem in_ok' : FnOk Try.prog 47 inS := by
  refine fnOk (Tb := tab) mixed tab_ok Try.func47 rfl rfl ?_
  rintro ⟨n, x, c, d⟩ hpre
  refine And.intro (And.intro rfl (And.intro rfl rfl)) ?_
  obtain ⟨hx, hc, hd⟩ : x.on.n = n ∧ chkC (n : Int) c = 0 ∧ chkC (n : Int) d = 0 := hpre
  refine Exists.intro _ (And.intro (inside_at' (z := 0) rfl (chk2_of hc hd) rfl) (Exists.intro (()) (Exists.intro [] (And.intro (And.intro rfl (And.intro rfl (And.intro rfl (And.intro rfl (And.intro (fun _ => Or.inl rfl) (by first | exact (fun h => absurd h Bool.false_ne_true) | exact (fun _ => And.intro rfl rfl))))))) (And.intro (by (repeat' (first | with_reducible rfl | exact trivial | refine And.intro ?_ ?_ | (show (_ : Int) = _; first | with_reducible rfl | exact wr1 (by omega) | (simp only [zA, zB, zC, zD, zE, zF, zG, zH, zI, zJ, zK, zL, zM, zN, zO, zP, zQ, zR, zS, zT, zU, zV, zW, zX, zY, zZ, yA, yB, yC, yD, yE, yF, yG, yH, yI, yJ, yK, yL, yM, reduceCtorEq] <;> first | done | rfl | omega) | omega | rfl) | exact rfl | exact (fun _ => rfl) | exact (fun _ _ => rfl) | exact (fun h => absurd h Bool.false_ne_true)))) (And.intro trivial (And.intro (trivial) ?_)))))))
  refine And.intro (And.intro (fun _ => trivial) ?_) ?_
  · skip
    (repeat' (first | exact rfl | exact trivial | exact (fun _ => rfl) | exact (fun _ _ => rfl) | exact (fun h => absurd h Bool.false_ne_true) | refine And.intro ?_ ?_))
  · skip
    (repeat' (first | exact rfl | exact trivial | exact (fun _ => rfl) | exact (fun _ _ => rfl) | exact (fun h => absurd h Bool.false_ne_true) | refine And.intro ?_ ?_))

/-- the first of some cubes that has a cube inside, or -1 -/
def firstIn (l : List Cu) (c : Cu) : Int := if l.any (insideC c) then (l.findIdx (insideC c) : Nat) else -1
theorem first_at {l : List Cu} {c : Cu} {k : Nat} (hk : k < l.length) (h : insideC c (l.getD k ⟨0, 0⟩) = true) (hall : ∀ j, j < k → insideC c (l.getD j ⟨0, 0⟩) = false) : firstIn l c = (k : Int) := by
  have e : ∀ j (hj : j < l.length), l.getD j ⟨0, 0⟩ = l[j] := fun j hj => by simp [List.getD_eq_getElem?_getD, hj]
  have h1 : l.any (insideC c) = true := List.any_eq_true.2 ⟨_, List.getElem_mem hk, by rw [← e k hk]; exact h⟩
  have h2 : l.findIdx (insideC c) = k := (List.findIdx_eq hk).2 ⟨by rw [← e k hk]; exact h, fun j hj => by
    have := hall j hj
    rw [e j (by omega)] at this; simpa using this⟩
  rw [firstIn, if_pos h1, h2]
theorem first_no {l : List Cu} {c : Cu} (hall : ∀ j, j < l.length → insideC c (l.getD j ⟨0, 0⟩) = false) : firstIn l c = -1 := by
  have h1 : ¬ l.any (insideC c) = true := fun h => by
    obtain ⟨d, hd, hh⟩ := List.any_eq_true.1 h
    obtain ⟨j, hj⟩ := List.getElem?_of_mem hd
    have := hall j (List.getElem?_eq_some_iff.1 hj).1
    rw [List.getD_eq_getElem?_getD, hj] at this
    rw [show (some d).getD ⟨0, 0⟩ = d from rfl, hh] at this; cases this
  rw [firstIn, if_neg h1]
theorem first_any (l : List Cu) (c : Cu) : decide (0 ≤ firstIn l c) = l.any (insideC c) := by
  unfold firstIn
  cases h : l.any (insideC c) <;> simp

def allChk (n : Nat) (l : List Cu) : Prop := ∀ j, j < l.length → chkC (n : Int) (l.getD j ⟨0, 0⟩) = 0
def idxS : Spec := mkS (fun x : Nat × Tk × Cu × List Cu => [csA x.2.2.2, .fn 47 [.own 0 0, .own 1 0, .own 2 0]]) (fun x => [taskB x.2.1, cubeB x.2.2.1, boxB false])
  (fun x => x.2.1.on.n = (x.1 : Int) ∧ chkC (x.1 : Int) x.2.2.1 = 0 ∧ allChk x.1 x.2.2.2 ∧ x.2.2.2.length ≤ 1000) (fun x => iP (firstIn x.2.2.2 x.2.2.1)) (fun _ => [boxB false]) 2
theorem idx_ok : FnOk Try.prog 96 idxS := by
  refine fnOk (Tb := tab) mixed tab_ok Try.func96 rfl rfl ?_
  rintro ⟨n, x, c, l⟩ hpre
  refine And.intro (And.intro rfl (And.intro rfl rfl)) ?_
  obtain ⟨hx, hc, hall, hl⟩ : x.on.n = n ∧ chkC (n : Int) c = 0 ∧ allChk n l ∧ l.length ≤ 1000 := hpre
  refine Exists.intro (LAnn.inv { X := Nat, up := fun k => [(8, .s (iA k))], uo := fun k => [⟨2, 4, [.s (bA false)]⟩], inv := fun k => k ≤ l.length ∧ (∀ j, j < k → insideC c (l.getD j ⟨0, 0⟩) = false), meas := fun k => l.length - k, x0 := 0 }) ?_
  refine And.intro (And.intro (And.intro (by (repeat' (first | exact rfl | exact trivial | exact (fun _ => rfl) | exact (fun _ _ => rfl) | exact (fun h => absurd h Bool.false_ne_true) | refine And.intro ?_ ?_))) (And.intro (by (repeat' (first | with_reducible rfl | exact trivial | refine And.intro ?_ ?_ | (show (_ : Int) = _; first | with_reducible rfl | exact wr1 (by omega) | (simp only [zA, zB, zC, zD, zE, zF, zG, zH, zI, zJ, zK, zL, zM, zN, zO, zP, zQ, zR, zS, zT, zU, zV, zW, zX, zY, zZ, yA, yB, yC, yD, yE, yF, yG, yH, yI, yJ, yK, yL, yM, reduceCtorEq] <;> first | done | rfl | omega) | omega | rfl) | exact rfl | exact (fun _ => rfl) | exact (fun _ _ => rfl) | exact (fun h => absurd h Bool.false_ne_true)))) (by (repeat' (first | with_reducible rfl | exact trivial | refine And.intro ?_ ?_ | (show (_ : Int) = _; first | with_reducible rfl | exact wr1 (by omega) | (simp only [zA, zB, zC, zD, zE, zF, zG, zH, zI, zJ, zK, zL, zM, zN, zO, zP, zQ, zR, zS, zT, zU, zV, zW, zX, zY, zZ, yA, yB, yC, yD, yE, yF, yG, yH, yI, yJ, yK, yL, yM, reduceCtorEq] <;> first | done | rfl | omega) | omega | rfl) | exact rfl | exact (fun _ => rfl) | exact (fun _ _ => rfl) | exact (fun h => absurd h Bool.false_ne_true)))))) rfl) (And.intro (And.intro (Nat.zero_le _) ?_) ?_)
  · exact fun j hj => absurd hj (Nat.not_lt_zero _)
  intro (k : Nat) ⟨hk, hno⟩
  refine bcase_p (p := k < l.length) (by first | (with_reducible refine bif_lt ?_; omega) | (with_reducible refine bif_le ?_; omega) | (with_reducible refine bif_eq ?_; omega) | (with_reducible refine bif_ne ?_; omega) | exact b8_eq rfl | exact b8_ne rfl | exact bif_lt (by omega) | exact bif_le (by omega) | exact bif_eq (by omega) | exact bif_ne (by omega) | exact Iff.rfl | (simp only [zA, zB, zC, zD, zE, zF, zG, zH, zI, zJ, zK, zL, zM, zN, zO, zP, zQ, zR, zS, zT, zU, zV, zW, zX, zY, zZ, yA, yB, yC, yD, yE, yF, yG, yH, yI, yJ, yK, yL, yM, reduceCtorEq] <;> first | done | omega | exact Iff.rfl) | (simp; done) | (simp; omega)) (fun h1 => ?_) (fun h1 => ?_)
  · refine And.intro (And.intro (Int.natCast_nonneg _) (by show (k : Int) < (l.length : Int); omega)) ?_
    refine And.intro rfl ?_
    refine Exists.intro _ (And.intro in_ok' (Exists.intro ((n, x, c, l.getD k ⟨0, 0⟩)) (Exists.intro [0, 1, 2] (And.intro (And.intro rfl (And.intro rfl (And.intro rfl (And.intro rfl (And.intro (by first | exact (fun _ => Or.inl rfl) | exact (fun h => absurd h Bool.false_ne_true) | exact (fun _ => Or.inr (by (repeat' (first | exact rfl | exact trivial | exact (fun _ => rfl) | exact (fun _ _ => rfl) | exact (fun h => absurd h Bool.false_ne_true) | refine And.intro ?_ ?_))))) (by first | exact (fun h => absurd h Bool.false_ne_true) | exact (fun _ => And.intro rfl rfl))))))) (And.intro (by (repeat' (first | with_reducible rfl | exact trivial | refine And.intro ?_ ?_ | (show (_ : Int) = _; first | with_reducible rfl | exact wr1 (by omega) | (simp only [zA, zB, zC, zD, zE, zF, zG, zH, zI, zJ, zK, zL, zM, zN, zO, zP, zQ, zR, zS, zT, zU, zV, zW, zX, zY, zZ, yA, yB, yC, yD, yE, yF, yG, yH, yI, yJ, yK, yL, yM, reduceCtorEq] <;> first | done | rfl | omega) | omega | rfl) | exact rfl | exact (fun _ => rfl) | exact (fun _ _ => rfl) | exact (fun h => absurd h Bool.false_ne_true)))) (And.intro (by (repeat' (first | with_reducible rfl | exact trivial | refine And.intro ?_ ?_ | (show (_ : Int) = _; first | with_reducible rfl | exact wr1 (by omega) | (simp only [zA, zB, zC, zD, zE, zF, zG, zH, zI, zJ, zK, zL, zM, zN, zO, zP, zQ, zR, zS, zT, zU, zV, zW, zX, zY, zZ, yA, yB, yC, yD, yE, yF, yG, yH, yI, yJ, yK, yL, yM, reduceCtorEq] <;> first | done | rfl | omega) | omega | rfl) | exact rfl | exact (fun _ => rfl) | exact (fun _ _ => rfl) | exact (fun h => absurd h Bool.false_ne_true)))) (And.intro (⟨hx, hc, hall k h1⟩) ?_)))))))
    refine bcase_b (b := insideC c (l.getD k ⟨0, 0⟩)) (by first | exact rfl | (simp only [zA, zB, zC, zD, zE, zF, zG, zH, zI, zJ, zK, zL, zM, zN, zO, zP, zQ, zR, zS, zT, zU, zV, zW, zX, zY, zZ, yA, yB, yC, yD, yE, yF, yG, yH, yI, yJ, yK, yL, yM, reduceCtorEq] <;> first | done | exact rfl)) (fun h2 => ?_) (fun h2 => ?_)
    · refine And.intro (And.intro (fun _ => trivial) ?_) ?_
      · show (k : Int) = firstIn l c
        exact (first_at h1 h2 hno).symm
      · skip
        (repeat' (first | exact rfl | exact trivial | exact (fun _ => rfl) | exact (fun _ _ => rfl) | exact (fun h => absurd h Bool.false_ne_true) | refine And.intro ?_ ?_))
    · skip
      refine Exists.intro (k + 1) (And.intro (And.intro rfl rfl) (And.intro (And.intro ?_ rfl) (And.intro (And.intro (by show k + 1 ≤ l.length; omega) ?_) (by show l.length - (k + 1) < l.length - k; omega))))
      any_goals (repeat' (first | with_reducible rfl | exact trivial | refine And.intro ?_ ?_ | (show (_ : Int) = _; first | with_reducible rfl | exact wr1 (by omega) | (simp only [zA, zB, zC, zD, zE, zF, zG, zH, zI, zJ, zK, zL, zM, zN, zO, zP, zQ, zR, zS, zT, zU, zV, zW, zX, zY, zZ, yA, yB, yC, yD, yE, yF, yG, yH, yI, yJ, yK, yL, yM, reduceCtorEq] <;> first | done | rfl | omega) | omega | rfl) | exact rfl | exact (fun _ => rfl) | exact (fun _ _ => rfl) | exact (fun h => absurd h Bool.false_ne_true)))
      exact upto_succ hno h2
  · obtain rfl : k = l.length := by omega
    refine And.intro (And.intro (fun _ => trivial) ?_) ?_
    · show (-1 : Int) = firstIn l c
      exact (first_no hno).symm
    · skip
      (repeat' (first | exact rfl | exact trivial | exact (fun _ => rfl) | exact (fun _ _ => rfl) | exact (fun h => absurd h Bool.false_ne_true) | refine And.intro ?_ ?_))

def conS : Spec := mkS (fun x : Nat × Tk × Cu × List Cu => [csA x.2.2.2, .fn 47 [.own 0 0, .own 1 0, .own 2 0]]) (fun x => [taskB x.2.1, cubeB x.2.2.1, boxB false])
  (fun x => x.2.1.on.n = (x.1 : Int) ∧ chkC (x.1 : Int) x.2.2.1 = 0 ∧ allChk x.1 x.2.2.2 ∧ x.2.2.2.length ≤ 1000) (fun x => bP (x.2.2.2.any (insideC x.2.2.1))) (fun _ => [boxB false]) 2
theorem con_ok : FnOk Try.prog 46 conS := by
  refine fnOk (Tb := tab) mixed tab_ok Try.func46 rfl rfl ?_
  rintro ⟨n, x, c, l⟩ hpre
  refine And.intro (And.intro rfl (And.intro rfl rfl)) ?_
  refine Exists.intro _ (And.intro idx_ok (Exists.intro ((n, x, c, l)) (Exists.intro [0, 1, 2] (And.intro (And.intro rfl (And.intro rfl (And.intro rfl (And.intro rfl (And.intro (by first | exact (fun _ => Or.inl rfl) | exact (fun h => absurd h Bool.false_ne_true) | exact (fun _ => Or.inr (by (repeat' (first | exact rfl | exact trivial | exact (fun _ => rfl) | exact (fun _ _ => rfl) | exact (fun h => absurd h Bool.false_ne_true) | refine And.intro ?_ ?_))))) (by first | exact (fun h => absurd h Bool.false_ne_true) | exact (fun _ => And.intro rfl rfl))))))) (And.intro (by (repeat' (first | with_reducible rfl | exact trivial | refine And.intro ?_ ?_ | (show (_ : Int) = _; first | with_reducible rfl | exact wr1 (by omega) | (simp only [zA, zB, zC, zD, zE, zF, zG, zH, zI, zJ, zK, zL, zM, zN, zO, zP, zQ, zR, zS, zT, zU, zV, zW, zX, zY, zZ, yA, yB, yC, yD, yE, yF, yG, yH, yI, yJ, yK, yL, yM, reduceCtorEq] <;> first | done | rfl | omega) | omega | rfl) | exact rfl | exact (fun _ => rfl) | exact (fun _ _ => rfl) | exact (fun h => absurd h Bool.false_ne_true)))) (And.intro (by (repeat' (first | with_reducible rfl | exact trivial | refine And.intro ?_ ?_ | (show (_ : Int) = _; first | with_reducible rfl | exact wr1 (by omega) | (simp only [zA, zB, zC, zD, zE, zF, zG, zH, zI, zJ, zK, zL, zM, zN, zO, zP, zQ, zR, zS, zT, zU, zV, zW, zX, zY, zZ, yA, yB, yC, yD, yE, yF, yG, yH, yI, yJ, yK, yL, yM, reduceCtorEq] <;> first | done | rfl | omega) | omega | rfl) | exact rfl | exact (fun _ => rfl) | exact (fun _ _ => rfl) | exact (fun h => absurd h Bool.false_ne_true)))) (And.intro (hpre) ?_)))))))
  refine And.intro (And.intro (fun _ => trivial) ?_) ?_
  · show decide (0 ≤ firstIn l c) = l.any (insideC c)
    exact first_any l c
  · skip
    (repeat' (first | exact rfl | exact trivial | exact (fun _ => rfl) | exact (fun _ _ => rfl) | exact (fun h => absurd h Bool.false_ne_true) | refine And.intro ?_ ?_))

def heldC (n : Nat) (x : Tk) (l : List Cu) (c : Cu) : Bool := (ptsC c (2 ^ n) &&& x.on.bits == 0#64) || l.any (insideC c)
def heldS : Spec := mkS (fun x : Nat × Tk × Cu × List Cu => [cA x.2.2.1, .own 0 0, .own 2 0, .own 1 0]) (fun x => [taskB x.2.1, listB x.2.2.2, boxB false])
  (fun x => x.2.1.on.n = (x.1 : Int) ∧ chkC (x.1 : Int) x.2.2.1 = 0 ∧ allChk x.1 x.2.2.2 ∧ x.2.2.2.length ≤ 1000) (fun x => bP (heldC x.1 x.2.1 x.2.2.2 x.2.2.1)) (fun _ => [boxB false]) 2
theorem held_ok : FnOk Try.prog 45 heldS := by
  refine fnOk (Tb := tab) mixed tab_ok Try.func45 rfl rfl ?_
  rintro ⟨n, x, c, l⟩ hpre
  refine And.intro (And.intro rfl (And.intro rfl rfl)) ?_
  obtain ⟨hx, hc, hall, hl⟩ : x.on.n = n ∧ chkC (n : Int) c = 0 ∧ allChk n l ∧ l.length ≤ 1000 := hpre
  refine Exists.intro _ (And.intro (tab_at (z := 0) rfl hc) (Exists.intro (()) (Exists.intro [] (And.intro (And.intro rfl (And.intro rfl (And.intro rfl (And.intro rfl (And.intro (fun _ => Or.inl rfl) (by first | exact (fun h => absurd h Bool.false_ne_true) | exact (fun _ => And.intro rfl rfl))))))) (And.intro (by (repeat' (first | with_reducible rfl | exact trivial | refine And.intro ?_ ?_ | (show (_ : Int) = _; first | with_reducible rfl | exact wr1 (by omega) | (simp only [zA, zB, zC, zD, zE, zF, zG, zH, zI, zJ, zK, zL, zM, zN, zO, zP, zQ, zR, zS, zT, zU, zV, zW, zX, zY, zZ, yA, yB, yC, yD, yE, yF, yG, yH, yI, yJ, yK, yL, yM, reduceCtorEq] <;> first | done | rfl | omega) | omega | rfl) | exact rfl | exact (fun _ => rfl) | exact (fun _ _ => rfl) | exact (fun h => absurd h Bool.false_ne_true)))) (And.intro trivial (And.intro (trivial) ?_)))))))
  refine bcase_b (b := ptsC c (2 ^ n) &&& x.on.bits == 0#64) (by first | exact rfl | (simp only [zA, zB, zC, zD, zE, zF, zG, zH, zI, zJ, zK, zL, zM, zN, zO, zP, zQ, zR, zS, zT, zU, zV, zW, zX, zY, zZ, yA, yB, yC, yD, yE, yF, yG, yH, yI, yJ, yK, yL, yM, reduceCtorEq] <;> first | done | exact rfl)) (fun h1 => ?_) (fun h1 => ?_)
  · refine And.intro (And.intro (fun _ => trivial) ?_) ?_
    · show true = heldC n x l c
      rw [heldC, h1]; rfl
    · skip
      (repeat' (first | exact rfl | exact trivial | exact (fun _ => rfl) | exact (fun _ _ => rfl) | exact (fun h => absurd h Bool.false_ne_true) | refine And.intro ?_ ?_))
  · skip
    refine Exists.intro _ (And.intro con_ok (Exists.intro ((n, x, c, l)) (Exists.intro [0, 3, 2] (And.intro (And.intro rfl (And.intro rfl (And.intro rfl (And.intro rfl (And.intro (by first | exact (fun _ => Or.inl rfl) | exact (fun h => absurd h Bool.false_ne_true) | exact (fun _ => Or.inr (by (repeat' (first | exact rfl | exact trivial | exact (fun _ => rfl) | exact (fun _ _ => rfl) | exact (fun h => absurd h Bool.false_ne_true) | refine And.intro ?_ ?_))))) (by first | exact (fun h => absurd h Bool.false_ne_true) | exact (fun _ => And.intro rfl rfl))))))) (And.intro (by (repeat' (first | with_reducible rfl | exact trivial | refine And.intro ?_ ?_ | (show (_ : Int) = _; first | with_reducible rfl | exact wr1 (by omega) | (simp only [zA, zB, zC, zD, zE, zF, zG, zH, zI, zJ, zK, zL, zM, zN, zO, zP, zQ, zR, zS, zT, zU, zV, zW, zX, zY, zZ, yA, yB, yC, yD, yE, yF, yG, yH, yI, yJ, yK, yL, yM, reduceCtorEq] <;> first | done | rfl | omega) | omega | rfl) | exact rfl | exact (fun _ => rfl) | exact (fun _ _ => rfl) | exact (fun h => absurd h Bool.false_ne_true)))) (And.intro (by (repeat' (first | with_reducible rfl | exact trivial | refine And.intro ?_ ?_ | (show (_ : Int) = _; first | with_reducible rfl | exact wr1 (by omega) | (simp only [zA, zB, zC, zD, zE, zF, zG, zH, zI, zJ, zK, zL, zM, zN, zO, zP, zQ, zR, zS, zT, zU, zV, zW, zX, zY, zZ, yA, yB, yC, yD, yE, yF, yG, yH, yI, yJ, yK, yL, yM, reduceCtorEq] <;> first | done | rfl | omega) | omega | rfl) | exact rfl | exact (fun _ => rfl) | exact (fun _ _ => rfl) | exact (fun h => absurd h Bool.false_ne_true)))) (And.intro (⟨hx, hc, hall, hl⟩) ?_)))))))
    refine And.intro (And.intro (fun _ => trivial) ?_) ?_
    · show l.any (insideC c) = heldC n x l c
      rw [heldC, h1]; rfl
    · skip
      (repeat' (first | exact rfl | exact trivial | exact (fun _ => rfl) | exact (fun _ _ => rfl) | exact (fun h => absurd h Bool.false_ne_true) | refine And.intro ?_ ?_))

end Go.Sx.Pn
