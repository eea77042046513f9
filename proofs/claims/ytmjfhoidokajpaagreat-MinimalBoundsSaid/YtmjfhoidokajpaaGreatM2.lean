/- Contracts of chapter 7: points that are apart. -/
import Derived.Test.YtmjfhoidokajpaaGreatM1
set_option maxHeartbeats 1000000
set_option maxRecDepth 4000
set_option linter.unusedSimpArgs false
set_option linter.unusedVariables false
set_option linter.unusedSectionVars false
namespace Go.Sx.Pn
open Go Go.Proofs

/-- the first of some values that a question holds of, or -1 -/
def firstG {α : Type} (q : α → Bool) (l : List α) : Int := if l.any q then (l.findIdx q : Nat) else -1
theorem firstG_at {α : Type} {d : α} {l : List α} {q : α → Bool} {k : Nat} (hk : k < l.length) (h : q (l.getD k d) = true) (hall : ∀ j, j < k → q (l.getD j d) = false) : firstG q l = (k : Int) := by
  have e : ∀ j (hj : j < l.length), l.getD j d = l[j] := fun j hj => by simp [List.getD_eq_getElem?_getD, hj]
  have h1 : l.any q = true := List.any_eq_true.2 ⟨_, List.getElem_mem hk, by rw [← e k hk]; exact h⟩
  have h2 : l.findIdx q = k := (List.findIdx_eq hk).2 ⟨by rw [← e k hk]; exact h, fun j hj => by
    have := hall j hj
    rw [e j (by omega)] at this; simpa using this⟩
  rw [firstG, if_pos h1, h2]
theorem firstG_no {α : Type} {d : α} {l : List α} {q : α → Bool} (hall : ∀ j, j < l.length → q (l.getD j d) = false) : firstG q l = -1 := by
  have h1 : ¬ l.any q = true := fun h => by
    obtain ⟨x, hd, hh⟩ := List.any_eq_true.1 h
    obtain ⟨j, hj⟩ := List.getElem?_of_mem hd
    have := hall j (List.getElem?_eq_some_iff.1 hj).1
    rw [List.getD_eq_getElem?_getD, hj] at this
    rw [show (some x).getD d = x from rfl, hh] at this; cases this
  rw [firstG, if_neg h1]
theorem firstG_any {α : Type} (q : α → Bool) (l : List α) : decide (0 ≤ firstG q l) = l.any q := by
  unfold firstG
  cases h : l.any q <;> simp

def cubeB (c : Cu) : Ob := .cells 67 [.p false (.val (.int .u64 c.care.toNat)), .p false (.val (.int .u64 c.value.toNat))]
def listB (l : List Nat) : Ob := .cells 36 [nsA l]
def intB (p : Int) : Ob := .cells 3 [iA p]
def taskB (x : Tk) (L : List Cu) : Ob := .cells 75 [wA x L]

def dk1S : Spec := { A := Cu × Int, args := fun y => [iA y.2, .own 0 0], objs := fun y => [cubeB y.1], pre := fun _ => True, res := fun y => bP (hasC y.1 y.2), objs' := fun _ => [], fresh := true, ro := 1 }
theorem dk1_ok : FnOk Tryz.prog 99 dk1S := by
  refine fnOk (Tb := tab) mixed tab_ok Tryz.func99 rfl rfl ?_
  rintro ⟨c, p⟩ hpre
  refine ai (ai rfl (ai rfl rfl)) ?_
  refine ei _ (ai min_ok (ei ((c, p)) (ei [] (ai (ai rfl (ai rfl (ai rfl (ai rfl (ai (fun _ => Or.inl rfl) (ai (by first | exact nof | exact (fun _ => ai rfl rfl)) (by first | exact Or.inl rfl | exact Or.inr rfl))))))) (ai (by (repeat' (first | with_reducible rfl | exact trivial | refine ai ?_ ?_ | (show (_ : Int) = _; first | with_reducible rfl | exact wr1 (by omega) | (simp only [zz, reduceCtorEq] <;> first | done | rfl | omega) | omega | rfl) | exact rfl | exact (fun _ => rfl) | exact (fun _ _ => rfl) | exact nof))) (ai trivial (ai (trivial) ?_)))))))
  refine ai (ai (fun _ => (by (repeat' (first | exact rfl | exact trivial | exact (fun _ => rfl) | exact (fun _ _ => rfl) | exact nof | refine ai ?_ ?_)))) ?_) trivial
  any_goals (repeat' (first | with_reducible rfl | exact trivial | refine ai ?_ ?_ | (show (_ : Int) = _; first | with_reducible rfl | exact wr1 (by omega) | (simp only [zz, reduceCtorEq] <;> first | done | rfl | omega) | omega | rfl) | exact rfl | exact (fun _ => rfl) | exact (fun _ _ => rfl) | exact nof))
def iN1S (g : Nat) : Spec := { A := Cu × List Nat, args := fun y => [nsA y.2, .fn g [.own 0 0]], objs := fun y => [cubeB y.1], pre := fun y => y.2.length ≤ 1000000, res := fun y => iP (firstG (fun k : Nat => hasC y.1 k) y.2), objs' := fun _ => [], fresh := true, ro := 1 }
theorem iN1_ok {g : Nat} (hg : FnOk Tryz.prog g dk1S) : FnOk Tryz.prog 111 (iN1S g) := by
  refine fnOk (Tb := tab) mixed tab_ok Tryz.func111 rfl rfl ?_
  rintro ⟨c, l⟩ hpre
  refine ai (ai rfl (ai rfl rfl)) ?_
  have hl : l.length ≤ 1000000 := hpre
  refine ei (LAnn.inv { X := Nat, up := fun k => [(8, .s (iA k))], uo := fun k => [], inv := fun k => k ≤ l.length ∧ (∀ j, j < k → hasC c ((l.getD j 0 : Nat) : Int) = false), meas := fun k => l.length - k, x0 := 0 }) ?_
  refine ai (ai (ai (by (repeat' (first | exact rfl | exact trivial | exact (fun _ => rfl) | exact (fun _ _ => rfl) | exact nof | refine ai ?_ ?_))) (ai (by (repeat' (first | with_reducible rfl | exact trivial | refine ai ?_ ?_ | (show (_ : Int) = _; first | with_reducible rfl | exact wr1 (by omega) | (simp only [zz, reduceCtorEq] <;> first | done | rfl | omega) | omega | rfl) | exact rfl | exact (fun _ => rfl) | exact (fun _ _ => rfl) | exact nof))) (by (repeat' (first | with_reducible rfl | exact trivial | refine ai ?_ ?_ | (show (_ : Int) = _; first | with_reducible rfl | exact wr1 (by omega) | (simp only [zz, reduceCtorEq] <;> first | done | rfl | omega) | omega | rfl) | exact rfl | exact (fun _ => rfl) | exact (fun _ _ => rfl) | exact nof))))) rfl) (ai (ai (Nat.zero_le _) ?_) ?_)
  · exact fun j hj => absurd hj (Nat.not_lt_zero _)
  intro (k : Nat) ⟨hk, hno⟩
  refine bcase_p (p := k < l.length) (by first | (with_reducible refine bif_lt ?_; omega) | (with_reducible refine bif_le ?_; omega) | (with_reducible refine bif_eq ?_; omega) | (with_reducible refine bif_ne ?_; omega) | exact b8_eq rfl | exact b8_ne rfl | exact bif_lt (by omega) | exact bif_le (by omega) | exact bif_eq (by omega) | exact bif_ne (by omega) | exact Iff.rfl | (simp only [zz, reduceCtorEq] <;> first | done | omega | exact Iff.rfl) | (simp; done) | (simp; omega)) (fun h1 => ?_) (fun h1 => ?_)
  · refine ai (ai (Int.natCast_nonneg _) (by show (k : Int) < (l.length : Int); omega)) ?_
    refine ai rfl ?_
    refine ei _ (ai hg (ei ((c, ((l.getD k 0 : Nat) : Int))) (ei [0] (ai (ai rfl (ai rfl (ai rfl (ai rfl (ai (by first | exact (fun _ => Or.inl rfl) | exact nof | exact (fun _ => Or.inr (by (repeat' (first | exact rfl | exact trivial | exact (fun _ => rfl) | exact (fun _ _ => rfl) | exact nof | refine ai ?_ ?_))))) (ai (by first | exact nof | exact (fun _ => ai rfl rfl)) (by first | exact Or.inl rfl | exact Or.inr rfl))))))) (ai (by (repeat' (first | with_reducible rfl | exact trivial | refine ai ?_ ?_ | (show (_ : Int) = _; first | with_reducible rfl | exact wr1 (by omega) | (simp only [zz, reduceCtorEq] <;> first | done | rfl | omega) | omega | rfl) | exact rfl | exact (fun _ => rfl) | exact (fun _ _ => rfl) | exact nof))) (ai (by (repeat' (first | with_reducible rfl | exact trivial | refine ai ?_ ?_ | (show (_ : Int) = _; first | with_reducible rfl | exact wr1 (by omega) | (simp only [zz, reduceCtorEq] <;> first | done | rfl | omega) | omega | rfl) | exact rfl | exact (fun _ => rfl) | exact (fun _ _ => rfl) | exact nof))) (ai (trivial) ?_)))))))
    refine bcase_b (b := hasC c ((l.getD k 0 : Nat) : Int)) (by first | exact rfl | (simp only [zz, reduceCtorEq] <;> first | done | exact rfl)) (fun h2 => ?_) (fun h2 => ?_)
    · refine ai (ai (fun _ => trivial) ?_) trivial
      show (k : Int) = firstG (fun k : Nat => hasC c k) l
      exact (firstG_at (d := 0) h1 h2 hno).symm
    · skip
      refine ei (k + 1) (ai (ai rfl rfl) (ai (ai ?_ rfl) (ai (ai (by show k + 1 ≤ l.length; omega) ?_) (by show l.length - (k + 1) < l.length - k; omega))))
      any_goals (repeat' (first | with_reducible rfl | exact trivial | refine ai ?_ ?_ | (show (_ : Int) = _; first | with_reducible rfl | exact wr1 (by omega) | (simp only [zz, reduceCtorEq] <;> first | done | rfl | omega) | omega | rfl) | exact rfl | exact (fun _ => rfl) | exact (fun _ _ => rfl) | exact nof))
      exact upto_succ hno h2
  · obtain rfl : k = l.length := by omega
    refine ai (ai (fun _ => trivial) ?_) trivial
    show (-1 : Int) = firstG (fun k : Nat => hasC c k) l
    exact (firstG_no (d := 0) hno).symm
def cN1S (g : Nat) : Spec := { A := Cu × List Nat, args := fun y => [nsA y.2, .fn g [.own 0 0]], objs := fun y => [cubeB y.1], pre := fun y => y.2.length ≤ 1000000, res := fun y => bP (y.2.any fun k : Nat => hasC y.1 k), objs' := fun _ => [], fresh := true, ro := 1 }
theorem cN1_ok {g : Nat} (hg : FnOk Tryz.prog g dk1S) : FnOk Tryz.prog 98 (cN1S g) := by
  refine fnOk (Tb := tab) mixed tab_ok Tryz.func98 rfl rfl ?_
  rintro ⟨c, l⟩ hpre
  refine ai (ai rfl (ai rfl rfl)) ?_
  refine ei _ (ai (iN1_ok hg) (ei ((c, l)) (ei [0] (ai (ai rfl (ai rfl (ai rfl (ai rfl (ai (by first | exact (fun _ => Or.inl rfl) | exact nof | exact (fun _ => Or.inr (by (repeat' (first | exact rfl | exact trivial | exact (fun _ => rfl) | exact (fun _ _ => rfl) | exact nof | refine ai ?_ ?_))))) (ai (by first | exact nof | exact (fun _ => ai rfl rfl)) (by first | exact Or.inl rfl | exact Or.inr rfl))))))) (ai (by (repeat' (first | with_reducible rfl | exact trivial | refine ai ?_ ?_ | (show (_ : Int) = _; first | with_reducible rfl | exact wr1 (by omega) | (simp only [zz, reduceCtorEq] <;> first | done | rfl | omega) | omega | rfl) | exact rfl | exact (fun _ => rfl) | exact (fun _ _ => rfl) | exact nof))) (ai (by (repeat' (first | with_reducible rfl | exact trivial | refine ai ?_ ?_ | (show (_ : Int) = _; first | with_reducible rfl | exact wr1 (by omega) | (simp only [zz, reduceCtorEq] <;> first | done | rfl | omega) | omega | rfl) | exact rfl | exact (fun _ => rfl) | exact (fun _ _ => rfl) | exact nof))) (ai (hpre) ?_)))))))
  refine ai (ai (fun _ => trivial) ?_) trivial
  show decide (0 ≤ firstG (fun k : Nat => hasC c k) l) = _
  exact firstG_any _ l

/-- a point is in one cube with one of a list -/
def dvQ (l : List Nat) (p : Int) (c : Cu) : Bool := hasC c p && l.any fun k : Nat => hasC c k
def dvO (l : List Nat) (p : Int) : List Ob := [intB p, listB l]
def dv1S : Spec := { A := Cu × List Nat × Int, args := fun y => [cA y.1, .own 0 0, .own 1 0], objs := fun y => dvO y.2.1 y.2.2, pre := fun y => y.2.1.length ≤ 1000000, res := fun y => bP (dvQ y.2.1 y.2.2 y.1), objs' := fun _ => [], fresh := true, ro := 2 }
theorem dv1_ok : FnOk Tryz.prog 96 dv1S := by
  refine fnOk (Tb := tab) mixed tab_ok Tryz.func96 rfl rfl ?_
  rintro ⟨c, l, p⟩ hpre
  refine ai (ai rfl (ai rfl rfl)) ?_
  refine ei _ (ai min_ok (ei ((c, p)) (ei [] (ai (ai rfl (ai rfl (ai rfl (ai rfl (ai (fun _ => Or.inl rfl) (ai (by first | exact nof | exact (fun _ => ai rfl rfl)) (by first | exact Or.inl rfl | exact Or.inr rfl))))))) (ai (by (repeat' (first | with_reducible rfl | exact trivial | refine ai ?_ ?_ | (show (_ : Int) = _; first | with_reducible rfl | exact wr1 (by omega) | (simp only [zz, reduceCtorEq] <;> first | done | rfl | omega) | omega | rfl) | exact rfl | exact (fun _ => rfl) | exact (fun _ _ => rfl) | exact nof))) (ai trivial (ai (trivial) ?_)))))))
  refine bcase_b (b := hasC c p) (by first | exact rfl | (simp only [zz, reduceCtorEq] <;> first | done | exact rfl)) (fun h1 => ?_) (fun h1 => ?_)
  · skip
    refine ei _ (ai (cN1_ok dk1_ok) (ei ((c, l)) (ei [2] (ai (ai rfl (ai rfl (ai rfl (ai rfl (ai (by first | exact (fun _ => Or.inl rfl) | exact nof | exact (fun _ => Or.inr (by (repeat' (first | exact rfl | exact trivial | exact (fun _ => rfl) | exact (fun _ _ => rfl) | exact nof | refine ai ?_ ?_))))) (ai (by first | exact nof | exact (fun _ => ai rfl rfl)) (by first | exact Or.inl rfl | exact Or.inr rfl))))))) (ai (by (repeat' (first | with_reducible rfl | exact trivial | refine ai ?_ ?_ | (show (_ : Int) = _; first | with_reducible rfl | exact wr1 (by omega) | (simp only [zz, reduceCtorEq] <;> first | done | rfl | omega) | omega | rfl) | exact rfl | exact (fun _ => rfl) | exact (fun _ _ => rfl) | exact nof))) (ai (by (repeat' (first | with_reducible rfl | exact trivial | refine ai ?_ ?_ | (show (_ : Int) = _; first | with_reducible rfl | exact wr1 (by omega) | (simp only [zz, reduceCtorEq] <;> first | done | rfl | omega) | omega | rfl) | exact rfl | exact (fun _ => rfl) | exact (fun _ _ => rfl) | exact nof))) (ai (hpre) ?_)))))))
    refine ai (ai (fun _ => (by (repeat' (first | exact rfl | exact trivial | exact (fun _ => rfl) | exact (fun _ _ => rfl) | exact nof | refine ai ?_ ?_)))) ?_) trivial
    show ple _ (bP (dvQ l p c))
    rw [show dvQ l p c = l.any fun k : Nat => hasC c k by rw [dvQ, h1]; rfl]
    any_goals (repeat' (first | with_reducible rfl | exact trivial | refine ai ?_ ?_ | (show (_ : Int) = _; first | with_reducible rfl | exact wr1 (by omega) | (simp only [zz, reduceCtorEq] <;> first | done | rfl | omega) | omega | rfl) | exact rfl | exact (fun _ => rfl) | exact (fun _ _ => rfl) | exact nof))
  · skip
    refine ai (ai (fun _ => (by (repeat' (first | exact rfl | exact trivial | exact (fun _ => rfl) | exact (fun _ _ => rfl) | exact nof | refine ai ?_ ?_)))) ?_) trivial
    show ple _ (bP (dvQ l p c))
    rw [show dvQ l p c = false by rw [dvQ, h1]; rfl]
    any_goals (repeat' (first | with_reducible rfl | exact trivial | refine ai ?_ ?_ | (show (_ : Int) = _; first | with_reducible rfl | exact wr1 (by omega) | (simp only [zz, reduceCtorEq] <;> first | done | rfl | omega) | omega | rfl) | exact rfl | exact (fun _ => rfl) | exact (fun _ _ => rfl) | exact nof))
def iCdS (g : Nat) : Spec := { A := List Cu × List Nat × Int, args := fun y => [csA y.1, .fn g [.own 0 0, .own 1 0]], objs := fun y => dvO y.2.1 y.2.2, pre := fun y => y.1.length ≤ 1000000 ∧ y.2.1.length ≤ 1000000, res := fun y => iP (firstG (dvQ y.2.1 y.2.2) y.1), objs' := fun _ => [], fresh := true, ro := 2 }
theorem iCd_ok {g : Nat} (hg : FnOk Tryz.prog g dv1S) : FnOk Tryz.prog 110 (iCdS g) := by
  refine fnOk (Tb := tab) mixed tab_ok Tryz.func110 rfl rfl ?_
  rintro ⟨L, l, p⟩ hpre
  refine ai (ai rfl (ai rfl rfl)) ?_
  obtain ⟨hL, hl⟩ : L.length ≤ 1000000 ∧ l.length ≤ 1000000 := hpre
  refine ei (LAnn.inv { X := Nat, up := fun k => [(8, .s (iA k))], uo := fun k => [], inv := fun k => k ≤ L.length ∧ (∀ j, j < k → dvQ l p (L.getD j ⟨0, 0⟩) = false), meas := fun k => L.length - k, x0 := 0 }) ?_
  refine ai (ai (ai (by (repeat' (first | exact rfl | exact trivial | exact (fun _ => rfl) | exact (fun _ _ => rfl) | exact nof | refine ai ?_ ?_))) (ai (by (repeat' (first | with_reducible rfl | exact trivial | refine ai ?_ ?_ | (show (_ : Int) = _; first | with_reducible rfl | exact wr1 (by omega) | (simp only [zz, reduceCtorEq] <;> first | done | rfl | omega) | omega | rfl) | exact rfl | exact (fun _ => rfl) | exact (fun _ _ => rfl) | exact nof))) (by (repeat' (first | with_reducible rfl | exact trivial | refine ai ?_ ?_ | (show (_ : Int) = _; first | with_reducible rfl | exact wr1 (by omega) | (simp only [zz, reduceCtorEq] <;> first | done | rfl | omega) | omega | rfl) | exact rfl | exact (fun _ => rfl) | exact (fun _ _ => rfl) | exact nof))))) rfl) (ai (ai (Nat.zero_le _) ?_) ?_)
  · exact fun j hj => absurd hj (Nat.not_lt_zero _)
  intro (k : Nat) ⟨hk, hno⟩
  refine bcase_p (p := k < L.length) (by first | (with_reducible refine bif_lt ?_; omega) | (with_reducible refine bif_le ?_; omega) | (with_reducible refine bif_eq ?_; omega) | (with_reducible refine bif_ne ?_; omega) | exact b8_eq rfl | exact b8_ne rfl | exact bif_lt (by omega) | exact bif_le (by omega) | exact bif_eq (by omega) | exact bif_ne (by omega) | exact Iff.rfl | (simp only [zz, reduceCtorEq] <;> first | done | omega | exact Iff.rfl) | (simp; done) | (simp; omega)) (fun h1 => ?_) (fun h1 => ?_)
  · refine ai (ai (Int.natCast_nonneg _) (by show (k : Int) < (L.length : Int); omega)) ?_
    refine ai rfl ?_
    refine ei _ (ai hg (ei ((L.getD k ⟨0, 0⟩, l, p)) (ei [0, 1] (ai (ai rfl (ai rfl (ai rfl (ai rfl (ai (by first | exact (fun _ => Or.inl rfl) | exact nof | exact (fun _ => Or.inr (by (repeat' (first | exact rfl | exact trivial | exact (fun _ => rfl) | exact (fun _ _ => rfl) | exact nof | refine ai ?_ ?_))))) (ai (by first | exact nof | exact (fun _ => ai rfl rfl)) (by first | exact Or.inl rfl | exact Or.inr rfl))))))) (ai (by (repeat' (first | with_reducible rfl | exact trivial | refine ai ?_ ?_ | (show (_ : Int) = _; first | with_reducible rfl | exact wr1 (by omega) | (simp only [zz, reduceCtorEq] <;> first | done | rfl | omega) | omega | rfl) | exact rfl | exact (fun _ => rfl) | exact (fun _ _ => rfl) | exact nof))) (ai (by (repeat' (first | with_reducible rfl | exact trivial | refine ai ?_ ?_ | (show (_ : Int) = _; first | with_reducible rfl | exact wr1 (by omega) | (simp only [zz, reduceCtorEq] <;> first | done | rfl | omega) | omega | rfl) | exact rfl | exact (fun _ => rfl) | exact (fun _ _ => rfl) | exact nof))) (ai (hl) ?_)))))))
    refine bcase_b (b := dvQ l p (L.getD k ⟨0, 0⟩)) (by first | exact rfl | (simp only [zz, reduceCtorEq] <;> first | done | exact rfl)) (fun h2 => ?_) (fun h2 => ?_)
    · refine ai (ai (fun _ => trivial) ?_) trivial
      show (k : Int) = firstG (dvQ l p) L
      exact (firstG_at (d := ⟨0, 0⟩) h1 h2 hno).symm
    · skip
      refine ei (k + 1) (ai (ai rfl rfl) (ai (ai ?_ rfl) (ai (ai (by show k + 1 ≤ L.length; omega) ?_) (by show L.length - (k + 1) < L.length - k; omega))))
      any_goals (repeat' (first | with_reducible rfl | exact trivial | refine ai ?_ ?_ | (show (_ : Int) = _; first | with_reducible rfl | exact wr1 (by omega) | (simp only [zz, reduceCtorEq] <;> first | done | rfl | omega) | omega | rfl) | exact rfl | exact (fun _ => rfl) | exact (fun _ _ => rfl) | exact nof))
      exact upto_succ hno h2
  · obtain rfl : k = L.length := by omega
    refine ai (ai (fun _ => trivial) ?_) trivial
    show (-1 : Int) = firstG (dvQ l p) L
    exact (firstG_no (d := ⟨0, 0⟩) hno).symm
def cCdS (g : Nat) : Spec := { A := List Cu × List Nat × Int, args := fun y => [csA y.1, .fn g [.own 0 0, .own 1 0]], objs := fun y => dvO y.2.1 y.2.2, pre := fun y => y.1.length ≤ 1000000 ∧ y.2.1.length ≤ 1000000, res := fun y => bP (y.1.any (dvQ y.2.1 y.2.2)), objs' := fun _ => [], fresh := true, ro := 2 }
theorem cCd_ok {g : Nat} (hg : FnOk Tryz.prog g dv1S) : FnOk Tryz.prog 95 (cCdS g) := by
  refine fnOk (Tb := tab) mixed tab_ok Tryz.func95 rfl rfl ?_
  rintro ⟨L, l, p⟩ hpre
  refine ai (ai rfl (ai rfl rfl)) ?_
  refine ei _ (ai (iCd_ok hg) (ei ((L, l, p)) (ei [0, 1] (ai (ai rfl (ai rfl (ai rfl (ai rfl (ai (by first | exact (fun _ => Or.inl rfl) | exact nof | exact (fun _ => Or.inr (by (repeat' (first | exact rfl | exact trivial | exact (fun _ => rfl) | exact (fun _ _ => rfl) | exact nof | refine ai ?_ ?_))))) (ai (by first | exact nof | exact (fun _ => ai rfl rfl)) (by first | exact Or.inl rfl | exact Or.inr rfl))))))) (ai (by (repeat' (first | with_reducible rfl | exact trivial | refine ai ?_ ?_ | (show (_ : Int) = _; first | with_reducible rfl | exact wr1 (by omega) | (simp only [zz, reduceCtorEq] <;> first | done | rfl | omega) | omega | rfl) | exact rfl | exact (fun _ => rfl) | exact (fun _ _ => rfl) | exact nof))) (ai (by (repeat' (first | with_reducible rfl | exact trivial | refine ai ?_ ?_ | (show (_ : Int) = _; first | with_reducible rfl | exact wr1 (by omega) | (simp only [zz, reduceCtorEq] <;> first | done | rfl | omega) | omega | rfl) | exact rfl | exact (fun _ => rfl) | exact (fun _ _ => rfl) | exact nof))) (ai (hpre) ?_)))))))
  refine ai (ai (fun _ => trivial) ?_) trivial
  show decide (0 ≤ firstG (dvQ l p) L) = _
  exact firstG_any _ L
/-- a point is apart from all of a list -/
def dvB (L : List Cu) (l : List Nat) (p : Int) : Bool := !(L.any (dvQ l p))
def dvS : Spec := fnS (fun y : Tk × List Cu × List Nat × Int => [wA y.1 y.2.1, nsA y.2.2.1, iA y.2.2.2]) (fun y => y.2.1.length ≤ 1000000 ∧ y.2.2.1.length ≤ 1000000) (fun y => bP (dvB y.2.1 y.2.2.1 y.2.2.2))
theorem dv_ok : FnOk Tryz.prog 72 dvS := by
  refine fnOk (Tb := tab) mixed tab_ok Tryz.func72 rfl rfl ?_
  rintro ⟨x, L, l, p⟩ hpre
  refine ai (ai rfl (ai rfl rfl)) ?_
  refine ei _ (ai (cCd_ok dv1_ok) (ei ((L, l, p)) (ei [1, 0] (ai (ai rfl (ai rfl (ai rfl (ai rfl (ai (by first | exact (fun _ => Or.inl rfl) | exact nof | exact (fun _ => Or.inr (by (repeat' (first | exact rfl | exact trivial | exact (fun _ => rfl) | exact (fun _ _ => rfl) | exact nof | refine ai ?_ ?_))))) (ai (by first | exact nof | exact (fun _ => ai rfl rfl)) (by first | exact Or.inl rfl | exact Or.inr rfl))))))) (ai (by (repeat' (first | with_reducible rfl | exact trivial | refine ai ?_ ?_ | (show (_ : Int) = _; first | with_reducible rfl | exact wr1 (by omega) | (simp only [zz, reduceCtorEq] <;> first | done | rfl | omega) | omega | rfl) | exact rfl | exact (fun _ => rfl) | exact (fun _ _ => rfl) | exact nof))) (ai (by (repeat' (first | with_reducible rfl | exact trivial | refine ai ?_ ?_ | (show (_ : Int) = _; first | with_reducible rfl | exact wr1 (by omega) | (simp only [zz, reduceCtorEq] <;> first | done | rfl | omega) | omega | rfl) | exact rfl | exact (fun _ => rfl) | exact (fun _ _ => rfl) | exact nof))) (ai (hpre) ?_)))))))
  refine ai (ai (fun _ => (by (repeat' (first | exact rfl | exact trivial | exact (fun _ => rfl) | exact (fun _ _ => rfl) | exact nof | refine ai ?_ ?_)))) ?_) trivial
  any_goals (repeat' (first | with_reducible rfl | exact trivial | refine ai ?_ ?_ | (show (_ : Int) = _; first | with_reducible rfl | exact wr1 (by omega) | (simp only [zz, reduceCtorEq] <;> first | done | rfl | omega) | omega | rfl) | exact rfl | exact (fun _ => rfl) | exact (fun _ _ => rfl) | exact nof))

/- slices.Clone -/
def clS : Spec := fnS (fun l : List Nat => [nsA l]) (fun l => l.length ≤ 1000000) (fun l => nsP l)
theorem cl_ok : FnOk Tryz.prog 71 clS := by
  refine fnOk (Tb := tab) mixed tab_ok Tryz.func71 rfl rfl ?_
  rintro (l : List Nat) hpre
  refine ai (ai rfl (ai rfl rfl)) ?_
  have hl : l.length ≤ 1000000 := hpre
  intro b hb
  cases b with
  | true =>
    refine ai (ai (fun _ => (by (repeat' (first | exact rfl | exact trivial | exact (fun _ => rfl) | exact (fun _ _ => rfl) | exact nof | refine ai ?_ ?_)))) ?_) trivial
    show l.length = 0
    exact hb rfl
  | false =>
    refine ai (ai (by show 0 + l.length ≤ maxLen; unfold maxLen; omega) (by show (0 + l.length) * 8 ≤ 140737488355328; omega)) ?_
    refine ai (fun k hk => rfl) ?_
    refine ai (ai (fun _ k hk => rfl) ?_) trivial
    refine ai ?_ ?_
    · exact Nat.zero_add _
    · exact fun k hk => rfl

/- the longest list of points that are apart -/
def lonL (a b : List Nat) : List Nat := if b.length < a.length then a else b
def loopG (L : List Cu) : List Nat → List Nat → List Nat → List Nat
  | [], _, best => best
  | p :: rest, l, best => loopG L rest l (if dvB L l p then loopG L rest (l ++ [p]) (lonL (l ++ [p]) best) else best)
def growL (L : List Cu) (rest l best : List Nat) : List Nat := loopG L rest l (lonL l best)
theorem drop_getD {l : List Nat} {k : Nat} (hk : k < l.length) : l.drop k = l.getD k 0 :: l.drop (k + 1) := by
  rw [List.drop_eq_getElem_cons hk]
  simp [List.getD_eq_getElem?_getD, hk]
structure GrA where
  x : Tk
  L : List Cu
  pts : List Nat
  l : List Nat
  i : Nat
  best : List Nat
def grFn : SV := .fn 70 [.own 3 0, .own 0 0, .own 1 0, .own 2 0]
def grO (y : GrA) : List Ob := [listB y.pts, taskB y.x y.L, .cells 108 [grFn], listB y.best]
def grS (m : Nat) : Spec := { A := GrA, args := fun y => [nsA y.l, iA y.i, .own 3 0, .own 0 0, .own 1 0, .own 2 0], objs := grO, pre := fun y => y.pts.length - y.i ≤ m ∧ y.L.length ≤ 1000000 ∧ y.pts.length ≤ 1000 ∧ y.l.length ≤ y.i ∧ y.i ≤ y.pts.length, res := fun _ => .tup [], objs' := fun y => [listB (growL y.L (y.pts.drop y.i) y.l y.best)], fresh := true, ro := 3 }
theorem full_app {l : List Nat} {x n : Nat} (hn : n = l.length) (g : Nat → List PV) (hg : g 0 = [iP (x : Nat)]) : ∀ k, k < n + 1 → joinF n (fun k => [iP (l.getD (0 + k) 0 : Nat)]) g k = [iP ((l ++ [x]).getD k 0 : Nat)] := by
  subst hn
  intro k hk
  by_cases h : k < l.length
  · rw [joinF_lt _ _ h]
    simp only [List.getD_eq_getElem?_getD, Nat.zero_add, List.getElem?_append_left h]
  · have e : k = l.length := by omega
    subst e
    rw [joinF_ge _ _ (Nat.le_refl _), Nat.sub_self, hg]
    simp [List.getD_eq_getElem?_getD]
theorem gr_step {m : Nat} (ih : ∀ k, k < m → FnOk Tryz.prog 70 (grS k)) : FnOk Tryz.prog 70 (grS m) := by
  refine fnOk (Tb := tab) mixed tab_ok Tryz.func70 rfl rfl ?_
  rintro ⟨x, L, pts, l, i, best⟩ hpre
  refine ai (ai rfl (ai rfl rfl)) ?_
  obtain ⟨hm, hL, hp, hl, hi⟩ : pts.length - i ≤ m ∧ L.length ≤ 1000000 ∧ pts.length ≤ 1000 ∧ l.length ≤ i ∧ i ≤ pts.length := hpre
  refine bcase_p (p := best.length < l.length) (by first | (with_reducible refine bif_lt ?_; omega) | (with_reducible refine bif_le ?_; omega) | (with_reducible refine bif_eq ?_; omega) | (with_reducible refine bif_ne ?_; omega) | exact b8_eq rfl | exact b8_ne rfl | exact bif_lt (by omega) | exact bif_le (by omega) | exact bif_eq (by omega) | exact bif_ne (by omega) | exact Iff.rfl | (simp only [zz, reduceCtorEq] <;> first | done | omega | exact Iff.rfl) | (simp; done) | (simp; omega)) (fun h1 => ?_) (fun h1 => ?_)
  · skip
    refine ei _ (ai cl_ok (ei (l) (ei [] (ai (ai rfl (ai rfl (ai rfl (ai rfl (ai (fun _ => Or.inl rfl) (ai (by first | exact nof | exact (fun _ => ai rfl rfl)) (by first | exact Or.inl rfl | exact Or.inr rfl))))))) (ai (by (repeat' (first | with_reducible rfl | exact trivial | refine ai ?_ ?_ | (show (_ : Int) = _; first | with_reducible rfl | exact wr1 (by omega) | (simp only [zz, reduceCtorEq] <;> first | done | rfl | omega) | omega | rfl) | exact rfl | exact (fun _ => rfl) | exact (fun _ _ => rfl) | exact nof))) (ai trivial (ai ((by show l.length ≤ 1000000; omega)) ?_)))))))
    refine ei (LAnn.inv { X := Nat × List Nat, up := fun y => [(8, .s (iA y.1))], uo := fun y => [⟨3, 36, [.s (nsA y.2)]⟩], inv := fun y => i ≤ y.1 ∧ loopG L (pts.drop y.1) l y.2 = growL L (pts.drop i) l best, meas := fun y => pts.length - y.1, x0 := (i, l) }) ?_
    refine ai (ai (ai (by (repeat' (first | exact rfl | exact trivial | exact (fun _ => rfl) | exact (fun _ _ => rfl) | exact nof | refine ai ?_ ?_))) (ai ?_ ?_)) ?_) (ai ?_ ?_)
    · skip
      (repeat' (first | exact rfl | exact trivial | exact (fun _ => rfl) | exact (fun _ _ => rfl) | exact nof | refine ai ?_ ?_))
    · skip
      (repeat' (first | exact rfl | exact trivial | exact (fun _ => rfl) | exact (fun _ _ => rfl) | exact nof | refine ai ?_ ?_))
    · rfl
    · exact ⟨Nat.le_refl _, by rw [growL, show lonL l best = l from if_pos h1]⟩
    rintro ⟨j, b⟩ ⟨hj, hb⟩
    have hj : i ≤ j := hj
    have hb : loopG L (pts.drop j) l b = growL L (pts.drop i) l best := hb
    refine bcase_p (p := j < pts.length) (by first | (with_reducible refine bif_lt ?_; omega) | (with_reducible refine bif_le ?_; omega) | (with_reducible refine bif_eq ?_; omega) | (with_reducible refine bif_ne ?_; omega) | exact b8_eq rfl | exact b8_ne rfl | exact bif_lt (by omega) | exact bif_le (by omega) | exact bif_eq (by omega) | exact bif_ne (by omega) | exact Iff.rfl | (simp only [zz, reduceCtorEq] <;> first | done | omega | exact Iff.rfl) | (simp; done) | (simp; omega)) (fun h2 => ?_) (fun h2 => ?_)
    · rw [drop_getD h2, loopG] at hb
      refine ei (.seq [0, 1, 2, 3, 4, 5, 6]) (ai (by kernel_rfl) ?_)
      refine ai (ai (Int.natCast_nonneg _) (by show (j : Int) < (pts.length : Int); omega)) ?_
      refine ai rfl ?_
      refine ei _ (ai dv_ok (ei ((x, L, l, ((pts.getD j 0 : Nat) : Int))) (ei [] (ai (ai rfl (ai rfl (ai rfl (ai rfl (ai (fun _ => Or.inl rfl) (ai (by first | exact nof | exact (fun _ => ai rfl rfl)) (by first | exact Or.inl rfl | exact Or.inr rfl))))))) (ai (by (repeat' (first | with_reducible rfl | exact trivial | refine ai ?_ ?_ | (show (_ : Int) = _; first | with_reducible rfl | exact wr1 (by omega) | (simp only [zz, reduceCtorEq] <;> first | done | rfl | omega) | omega | rfl) | exact rfl | exact (fun _ => rfl) | exact (fun _ _ => rfl) | exact nof))) (ai trivial (ai (⟨hL, by show l.length ≤ 1000000; omega⟩) ?_)))))))
      refine bcase_b (b := dvB L l ((pts.getD j 0 : Nat) : Int)) (by first | exact rfl | (simp only [zz, reduceCtorEq] <;> first | done | exact rfl)) (fun h3 => ?_) (fun h3 => ?_)
      · rw [if_pos h3] at hb
        refine ei (.one 1 (.one 2 (.one 3 (.one 4 (.one 5 (.one 6 (.one 7 (.one 8 (.one 9 (.one 10 (.one 13 (.one 14 (.alt 0 (.one 11 (.one 12 (.wr 15 .done))) (.alt 11 (.alt 0 (.one 12 (.wr 15 .done)) (.alt 12 (.one 0 (.wr 15 .done)) .stop)) .stop)))))))))))))) (ai (by kernel_rfl) ?_)
        refine ai (ai (Int.le_refl _) (ai (Int.natCast_nonneg _) (ai rfl (Int.le_refl _)))) ?_
        refine ai (fun k hk => rfl) ?_
        refine ai (ai (Int.natCast_nonneg _) (by show (j : Int) < (pts.length : Int); omega)) ?_
        refine ai rfl ?_
        refine ai ?_ (ai (ai ?_ (ai ?_ trivial)) trivial)
        · skip
          refine ai (ai Nat.zero_lt_one (ai (by show l.length - 0 + 1 ≤ maxLen; unfold maxLen; omega) (by show (l.length - 0 + 1) * 8 ≤ 140737488355328; omega))) ?_
          refine ai (fun k hk => rfl) (ai (fun k hk => by
            have hk : k < 1 := hk
            obtain rfl : k = 0 := by omega
            rfl) ?_)
          refine ei _ (ai (ih (m - 1) (by omega)) (ei ((⟨x, L, pts, l ++ [pts.getD j 0], j + 1, b⟩ : GrA)) (ei [0, 1, 2, 3] (ai (ai rfl (ai rfl (ai rfl (ai rfl (ai (by first | exact (fun _ => Or.inl rfl) | exact nof | exact (fun _ => Or.inr (by (repeat' (first | exact rfl | exact trivial | exact (fun _ => rfl) | exact (fun _ _ => rfl) | exact nof | refine ai ?_ ?_))))) (ai (by first | exact nof | exact (fun _ => ai rfl rfl)) (by first | exact Or.inl rfl | exact Or.inr rfl))))))) (ai ?_ (ai (by (repeat' (first | with_reducible rfl | exact trivial | refine ai ?_ ?_ | (show (_ : Int) = _; first | with_reducible rfl | exact wr1 (by omega) | (simp only [zz, reduceCtorEq] <;> first | done | rfl | omega) | omega | rfl) | exact rfl | exact (fun _ => rfl) | exact (fun _ _ => rfl) | exact nof))) (ai ((by show pts.length - (j + 1) ≤ m - 1 ∧ L.length ≤ 1000000 ∧ pts.length ≤ 1000 ∧ (l ++ [pts.getD j 0]).length ≤ j + 1 ∧ j + 1 ≤ pts.length; rw [List.length_append]; exact ⟨by omega, hL, hp, by show l.length + 1 ≤ j + 1; omega, h2⟩)) ?_)))))))
          · skip
            (repeat' (first | with_reducible rfl | exact trivial | refine ai ?_ ?_ | (show (_ : Int) = _; first | with_reducible rfl | exact wr1 (by omega) | (simp only [zz, reduceCtorEq] <;> first | done | rfl | omega) | omega | rfl) | exact rfl | exact (fun _ => rfl) | exact (fun _ _ => rfl) | exact nof))
            · show l.length - 0 + 1 = (l ++ [pts.getD j 0]).length
              rw [List.length_append]; rfl
            · exact full_app (x := pts.getD j 0) rfl _ rfl
          refine ei ((j + 1, growL L (pts.drop (j + 1)) (l ++ [pts.getD j 0]) b)) (ai (ai rfl rfl) (ai (ai ?_ rfl) (ai ?_ ?_)))
          · skip
            (repeat' (first | with_reducible rfl | exact trivial | refine ai ?_ ?_ | (show (_ : Int) = _; first | with_reducible rfl | exact wr1 (by omega) | (simp only [zz, reduceCtorEq] <;> first | done | rfl | omega) | omega | rfl) | exact rfl | exact (fun _ => rfl) | exact (fun _ _ => rfl) | exact nof))
          · exact ⟨by show i ≤ j + 1; omega, hb⟩
          · show pts.length - (j + 1) < pts.length - j; omega
        · skip
          refine ai (ai Nat.zero_lt_one (ai (by show l.length - 0 + 1 ≤ maxLen; unfold maxLen; omega) (by show (l.length - 0 + 1) * 8 ≤ 140737488355328; omega))) ?_
          refine ai (fun k hk => rfl) (ai (fun k hk => by
            have hk : k < 1 := hk
            obtain rfl : k = 0 := by omega
            rfl) ?_)
          refine ei _ (ai (ih (m - 1) (by omega)) (ei ((⟨x, L, pts, l ++ [pts.getD j 0], j + 1, b⟩ : GrA)) (ei [0, 1, 2, 3] (ai (ai rfl (ai rfl (ai rfl (ai rfl (ai (by first | exact (fun _ => Or.inl rfl) | exact nof | exact (fun _ => Or.inr (by (repeat' (first | exact rfl | exact trivial | exact (fun _ => rfl) | exact (fun _ _ => rfl) | exact nof | refine ai ?_ ?_))))) (ai (by first | exact nof | exact (fun _ => ai rfl rfl)) (by first | exact Or.inl rfl | exact Or.inr rfl))))))) (ai ?_ (ai (by (repeat' (first | with_reducible rfl | exact trivial | refine ai ?_ ?_ | (show (_ : Int) = _; first | with_reducible rfl | exact wr1 (by omega) | (simp only [zz, reduceCtorEq] <;> first | done | rfl | omega) | omega | rfl) | exact rfl | exact (fun _ => rfl) | exact (fun _ _ => rfl) | exact nof))) (ai ((by show pts.length - (j + 1) ≤ m - 1 ∧ L.length ≤ 1000000 ∧ pts.length ≤ 1000 ∧ (l ++ [pts.getD j 0]).length ≤ j + 1 ∧ j + 1 ≤ pts.length; rw [List.length_append]; exact ⟨by omega, hL, hp, by show l.length + 1 ≤ j + 1; omega, h2⟩)) ?_)))))))
          · skip
            (repeat' (first | with_reducible rfl | exact trivial | refine ai ?_ ?_ | (show (_ : Int) = _; first | with_reducible rfl | exact wr1 (by omega) | (simp only [zz, reduceCtorEq] <;> first | done | rfl | omega) | omega | rfl) | exact rfl | exact (fun _ => rfl) | exact (fun _ _ => rfl) | exact nof))
            · show l.length - 0 + 1 = (l ++ [pts.getD j 0]).length
              rw [List.length_append]; rfl
            · exact full_app (x := pts.getD j 0) rfl _ rfl
          refine ei ((j + 1, growL L (pts.drop (j + 1)) (l ++ [pts.getD j 0]) b)) (ai (ai rfl rfl) (ai (ai ?_ rfl) (ai ?_ ?_)))
          · skip
            (repeat' (first | with_reducible rfl | exact trivial | refine ai ?_ ?_ | (show (_ : Int) = _; first | with_reducible rfl | exact wr1 (by omega) | (simp only [zz, reduceCtorEq] <;> first | done | rfl | omega) | omega | rfl) | exact rfl | exact (fun _ => rfl) | exact (fun _ _ => rfl) | exact nof))
          · exact ⟨by show i ≤ j + 1; omega, hb⟩
          · show pts.length - (j + 1) < pts.length - j; omega
        · skip
          refine ai (ai Nat.zero_lt_one (ai (by show l.length - 0 + 1 ≤ maxLen; unfold maxLen; omega) (by show (l.length - 0 + 1) * 8 ≤ 140737488355328; omega))) ?_
          refine ai (fun k hk => rfl) (ai (fun k hk => by
            have hk : k < 1 := hk
            obtain rfl : k = 0 := by omega
            rfl) ?_)
          refine ei _ (ai (ih (m - 1) (by omega)) (ei ((⟨x, L, pts, l ++ [pts.getD j 0], j + 1, b⟩ : GrA)) (ei [0, 1, 2, 3] (ai (ai rfl (ai rfl (ai rfl (ai rfl (ai (by first | exact (fun _ => Or.inl rfl) | exact nof | exact (fun _ => Or.inr (by (repeat' (first | exact rfl | exact trivial | exact (fun _ => rfl) | exact (fun _ _ => rfl) | exact nof | refine ai ?_ ?_))))) (ai (by first | exact nof | exact (fun _ => ai rfl rfl)) (by first | exact Or.inl rfl | exact Or.inr rfl))))))) (ai ?_ (ai (by (repeat' (first | with_reducible rfl | exact trivial | refine ai ?_ ?_ | (show (_ : Int) = _; first | with_reducible rfl | exact wr1 (by omega) | (simp only [zz, reduceCtorEq] <;> first | done | rfl | omega) | omega | rfl) | exact rfl | exact (fun _ => rfl) | exact (fun _ _ => rfl) | exact nof))) (ai ((by show pts.length - (j + 1) ≤ m - 1 ∧ L.length ≤ 1000000 ∧ pts.length ≤ 1000 ∧ (l ++ [pts.getD j 0]).length ≤ j + 1 ∧ j + 1 ≤ pts.length; rw [List.length_append]; exact ⟨by omega, hL, hp, by show l.length + 1 ≤ j + 1; omega, h2⟩)) ?_)))))))
          · skip
            (repeat' (first | with_reducible rfl | exact trivial | refine ai ?_ ?_ | (show (_ : Int) = _; first | with_reducible rfl | exact wr1 (by omega) | (simp only [zz, reduceCtorEq] <;> first | done | rfl | omega) | omega | rfl) | exact rfl | exact (fun _ => rfl) | exact (fun _ _ => rfl) | exact nof))
            · show l.length - 0 + 1 = (l ++ [pts.getD j 0]).length
              rw [List.length_append]; rfl
            · exact full_app (x := pts.getD j 0) rfl _ rfl
          refine ei ((j + 1, growL L (pts.drop (j + 1)) (l ++ [pts.getD j 0]) b)) (ai (ai rfl rfl) (ai (ai ?_ rfl) (ai ?_ ?_)))
          · skip
            (repeat' (first | with_reducible rfl | exact trivial | refine ai ?_ ?_ | (show (_ : Int) = _; first | with_reducible rfl | exact wr1 (by omega) | (simp only [zz, reduceCtorEq] <;> first | done | rfl | omega) | omega | rfl) | exact rfl | exact (fun _ => rfl) | exact (fun _ _ => rfl) | exact nof))
          · exact ⟨by show i ≤ j + 1; omega, hb⟩
          · show pts.length - (j + 1) < pts.length - j; omega
      · rw [h3, if_neg (by decide)] at hb
        refine ei ((j + 1, b)) (ai (ai rfl rfl) (ai (ai ?_ rfl) (ai ?_ ?_)))
        · skip
          (repeat' (first | with_reducible rfl | exact trivial | refine ai ?_ ?_ | (show (_ : Int) = _; first | with_reducible rfl | exact wr1 (by omega) | (simp only [zz, reduceCtorEq] <;> first | done | rfl | omega) | omega | rfl) | exact rfl | exact (fun _ => rfl) | exact (fun _ _ => rfl) | exact nof))
        · exact ⟨by show i ≤ j + 1; omega, hb⟩
        · show pts.length - (j + 1) < pts.length - j; omega
    · rw [List.drop_eq_nil_of_le (by omega), loopG] at hb
      refine ai (ai (fun _ => trivial) ?_) ?_
      · skip
        (repeat' (first | exact rfl | exact trivial | exact (fun _ => rfl) | exact (fun _ _ => rfl) | exact nof | refine ai ?_ ?_))
      · refine ai rfl (ai nof ?_)
        show ple (nsP b) (nsP (growL L (pts.drop i) l best))
        rw [← hb]
        (repeat' (first | exact rfl | exact trivial | exact (fun _ => rfl) | exact (fun _ _ => rfl) | exact nof | refine ai ?_ ?_))
  · skip
    refine ei (LAnn.inv { X := Nat × List Nat, up := fun y => [(8, .s (iA y.1))], uo := fun y => [⟨3, 36, [.s (nsA y.2)]⟩], inv := fun y => i ≤ y.1 ∧ loopG L (pts.drop y.1) l y.2 = growL L (pts.drop i) l best, meas := fun y => pts.length - y.1, x0 := (i, best) }) ?_
    refine ai (ai (ai (by (repeat' (first | exact rfl | exact trivial | exact (fun _ => rfl) | exact (fun _ _ => rfl) | exact nof | refine ai ?_ ?_))) (ai ?_ ?_)) ?_) (ai ?_ ?_)
    · skip
      (repeat' (first | exact rfl | exact trivial | exact (fun _ => rfl) | exact (fun _ _ => rfl) | exact nof | refine ai ?_ ?_))
    · skip
      (repeat' (first | exact rfl | exact trivial | exact (fun _ => rfl) | exact (fun _ _ => rfl) | exact nof | refine ai ?_ ?_))
    · rfl
    · exact ⟨Nat.le_refl _, by rw [growL, show lonL l best = best from if_neg h1]⟩
    rintro ⟨j, b⟩ ⟨hj, hb⟩
    have hj : i ≤ j := hj
    have hb : loopG L (pts.drop j) l b = growL L (pts.drop i) l best := hb
    refine bcase_p (p := j < pts.length) (by first | (with_reducible refine bif_lt ?_; omega) | (with_reducible refine bif_le ?_; omega) | (with_reducible refine bif_eq ?_; omega) | (with_reducible refine bif_ne ?_; omega) | exact b8_eq rfl | exact b8_ne rfl | exact bif_lt (by omega) | exact bif_le (by omega) | exact bif_eq (by omega) | exact bif_ne (by omega) | exact Iff.rfl | (simp only [zz, reduceCtorEq] <;> first | done | omega | exact Iff.rfl) | (simp; done) | (simp; omega)) (fun h2 => ?_) (fun h2 => ?_)
    · rw [drop_getD h2, loopG] at hb
      refine ei (.seq [0, 1, 2, 3, 4, 5, 6]) (ai (by kernel_rfl) ?_)
      refine ai (ai (Int.natCast_nonneg _) (by show (j : Int) < (pts.length : Int); omega)) ?_
      refine ai rfl ?_
      refine ei _ (ai dv_ok (ei ((x, L, l, ((pts.getD j 0 : Nat) : Int))) (ei [] (ai (ai rfl (ai rfl (ai rfl (ai rfl (ai (fun _ => Or.inl rfl) (ai (by first | exact nof | exact (fun _ => ai rfl rfl)) (by first | exact Or.inl rfl | exact Or.inr rfl))))))) (ai (by (repeat' (first | with_reducible rfl | exact trivial | refine ai ?_ ?_ | (show (_ : Int) = _; first | with_reducible rfl | exact wr1 (by omega) | (simp only [zz, reduceCtorEq] <;> first | done | rfl | omega) | omega | rfl) | exact rfl | exact (fun _ => rfl) | exact (fun _ _ => rfl) | exact nof))) (ai trivial (ai (⟨hL, by show l.length ≤ 1000000; omega⟩) ?_)))))))
      refine bcase_b (b := dvB L l ((pts.getD j 0 : Nat) : Int)) (by first | exact rfl | (simp only [zz, reduceCtorEq] <;> first | done | exact rfl)) (fun h3 => ?_) (fun h3 => ?_)
      · rw [if_pos h3] at hb
        refine ei (.one 1 (.one 2 (.one 3 (.one 4 (.one 5 (.one 6 (.one 7 (.one 8 (.one 9 (.one 10 (.one 13 (.one 14 (.alt 0 (.one 11 (.one 12 (.wr 15 .done))) (.alt 11 (.alt 0 (.one 12 (.wr 15 .done)) (.alt 12 (.one 0 (.wr 15 .done)) .stop)) .stop)))))))))))))) (ai (by kernel_rfl) ?_)
        refine ai (ai (Int.le_refl _) (ai (Int.natCast_nonneg _) (ai rfl (Int.le_refl _)))) ?_
        refine ai (fun k hk => rfl) ?_
        refine ai (ai (Int.natCast_nonneg _) (by show (j : Int) < (pts.length : Int); omega)) ?_
        refine ai rfl ?_
        refine ai ?_ (ai (ai ?_ (ai ?_ trivial)) trivial)
        · skip
          refine ai (ai Nat.zero_lt_one (ai (by show l.length - 0 + 1 ≤ maxLen; unfold maxLen; omega) (by show (l.length - 0 + 1) * 8 ≤ 140737488355328; omega))) ?_
          refine ai (fun k hk => rfl) (ai (fun k hk => by
            have hk : k < 1 := hk
            obtain rfl : k = 0 := by omega
            rfl) ?_)
          refine ei _ (ai (ih (m - 1) (by omega)) (ei ((⟨x, L, pts, l ++ [pts.getD j 0], j + 1, b⟩ : GrA)) (ei [0, 1, 2, 3] (ai (ai rfl (ai rfl (ai rfl (ai rfl (ai (by first | exact (fun _ => Or.inl rfl) | exact nof | exact (fun _ => Or.inr (by (repeat' (first | exact rfl | exact trivial | exact (fun _ => rfl) | exact (fun _ _ => rfl) | exact nof | refine ai ?_ ?_))))) (ai (by first | exact nof | exact (fun _ => ai rfl rfl)) (by first | exact Or.inl rfl | exact Or.inr rfl))))))) (ai ?_ (ai (by (repeat' (first | with_reducible rfl | exact trivial | refine ai ?_ ?_ | (show (_ : Int) = _; first | with_reducible rfl | exact wr1 (by omega) | (simp only [zz, reduceCtorEq] <;> first | done | rfl | omega) | omega | rfl) | exact rfl | exact (fun _ => rfl) | exact (fun _ _ => rfl) | exact nof))) (ai ((by show pts.length - (j + 1) ≤ m - 1 ∧ L.length ≤ 1000000 ∧ pts.length ≤ 1000 ∧ (l ++ [pts.getD j 0]).length ≤ j + 1 ∧ j + 1 ≤ pts.length; rw [List.length_append]; exact ⟨by omega, hL, hp, by show l.length + 1 ≤ j + 1; omega, h2⟩)) ?_)))))))
          · skip
            (repeat' (first | with_reducible rfl | exact trivial | refine ai ?_ ?_ | (show (_ : Int) = _; first | with_reducible rfl | exact wr1 (by omega) | (simp only [zz, reduceCtorEq] <;> first | done | rfl | omega) | omega | rfl) | exact rfl | exact (fun _ => rfl) | exact (fun _ _ => rfl) | exact nof))
            · show l.length - 0 + 1 = (l ++ [pts.getD j 0]).length
              rw [List.length_append]; rfl
            · exact full_app (x := pts.getD j 0) rfl _ rfl
          refine ei ((j + 1, growL L (pts.drop (j + 1)) (l ++ [pts.getD j 0]) b)) (ai (ai rfl rfl) (ai (ai ?_ rfl) (ai ?_ ?_)))
          · skip
            (repeat' (first | with_reducible rfl | exact trivial | refine ai ?_ ?_ | (show (_ : Int) = _; first | with_reducible rfl | exact wr1 (by omega) | (simp only [zz, reduceCtorEq] <;> first | done | rfl | omega) | omega | rfl) | exact rfl | exact (fun _ => rfl) | exact (fun _ _ => rfl) | exact nof))
          · exact ⟨by show i ≤ j + 1; omega, hb⟩
          · show pts.length - (j + 1) < pts.length - j; omega
        · skip
          refine ai (ai Nat.zero_lt_one (ai (by show l.length - 0 + 1 ≤ maxLen; unfold maxLen; omega) (by show (l.length - 0 + 1) * 8 ≤ 140737488355328; omega))) ?_
          refine ai (fun k hk => rfl) (ai (fun k hk => by
            have hk : k < 1 := hk
            obtain rfl : k = 0 := by omega
            rfl) ?_)
          refine ei _ (ai (ih (m - 1) (by omega)) (ei ((⟨x, L, pts, l ++ [pts.getD j 0], j + 1, b⟩ : GrA)) (ei [0, 1, 2, 3] (ai (ai rfl (ai rfl (ai rfl (ai rfl (ai (by first | exact (fun _ => Or.inl rfl) | exact nof | exact (fun _ => Or.inr (by (repeat' (first | exact rfl | exact trivial | exact (fun _ => rfl) | exact (fun _ _ => rfl) | exact nof | refine ai ?_ ?_))))) (ai (by first | exact nof | exact (fun _ => ai rfl rfl)) (by first | exact Or.inl rfl | exact Or.inr rfl))))))) (ai ?_ (ai (by (repeat' (first | with_reducible rfl | exact trivial | refine ai ?_ ?_ | (show (_ : Int) = _; first | with_reducible rfl | exact wr1 (by omega) | (simp only [zz, reduceCtorEq] <;> first | done | rfl | omega) | omega | rfl) | exact rfl | exact (fun _ => rfl) | exact (fun _ _ => rfl) | exact nof))) (ai ((by show pts.length - (j + 1) ≤ m - 1 ∧ L.length ≤ 1000000 ∧ pts.length ≤ 1000 ∧ (l ++ [pts.getD j 0]).length ≤ j + 1 ∧ j + 1 ≤ pts.length; rw [List.length_append]; exact ⟨by omega, hL, hp, by show l.length + 1 ≤ j + 1; omega, h2⟩)) ?_)))))))
          · skip
            (repeat' (first | with_reducible rfl | exact trivial | refine ai ?_ ?_ | (show (_ : Int) = _; first | with_reducible rfl | exact wr1 (by omega) | (simp only [zz, reduceCtorEq] <;> first | done | rfl | omega) | omega | rfl) | exact rfl | exact (fun _ => rfl) | exact (fun _ _ => rfl) | exact nof))
            · show l.length - 0 + 1 = (l ++ [pts.getD j 0]).length
              rw [List.length_append]; rfl
            · exact full_app (x := pts.getD j 0) rfl _ rfl
          refine ei ((j + 1, growL L (pts.drop (j + 1)) (l ++ [pts.getD j 0]) b)) (ai (ai rfl rfl) (ai (ai ?_ rfl) (ai ?_ ?_)))
          · skip
            (repeat' (first | with_reducible rfl | exact trivial | refine ai ?_ ?_ | (show (_ : Int) = _; first | with_reducible rfl | exact wr1 (by omega) | (simp only [zz, reduceCtorEq] <;> first | done | rfl | omega) | omega | rfl) | exact rfl | exact (fun _ => rfl) | exact (fun _ _ => rfl) | exact nof))
          · exact ⟨by show i ≤ j + 1; omega, hb⟩
          · show pts.length - (j + 1) < pts.length - j; omega
        · skip
          refine ai (ai Nat.zero_lt_one (ai (by show l.length - 0 + 1 ≤ maxLen; unfold maxLen; omega) (by show (l.length - 0 + 1) * 8 ≤ 140737488355328; omega))) ?_
          refine ai (fun k hk => rfl) (ai (fun k hk => by
            have hk : k < 1 := hk
            obtain rfl : k = 0 := by omega
            rfl) ?_)
          refine ei _ (ai (ih (m - 1) (by omega)) (ei ((⟨x, L, pts, l ++ [pts.getD j 0], j + 1, b⟩ : GrA)) (ei [0, 1, 2, 3] (ai (ai rfl (ai rfl (ai rfl (ai rfl (ai (by first | exact (fun _ => Or.inl rfl) | exact nof | exact (fun _ => Or.inr (by (repeat' (first | exact rfl | exact trivial | exact (fun _ => rfl) | exact (fun _ _ => rfl) | exact nof | refine ai ?_ ?_))))) (ai (by first | exact nof | exact (fun _ => ai rfl rfl)) (by first | exact Or.inl rfl | exact Or.inr rfl))))))) (ai ?_ (ai (by (repeat' (first | with_reducible rfl | exact trivial | refine ai ?_ ?_ | (show (_ : Int) = _; first | with_reducible rfl | exact wr1 (by omega) | (simp only [zz, reduceCtorEq] <;> first | done | rfl | omega) | omega | rfl) | exact rfl | exact (fun _ => rfl) | exact (fun _ _ => rfl) | exact nof))) (ai ((by show pts.length - (j + 1) ≤ m - 1 ∧ L.length ≤ 1000000 ∧ pts.length ≤ 1000 ∧ (l ++ [pts.getD j 0]).length ≤ j + 1 ∧ j + 1 ≤ pts.length; rw [List.length_append]; exact ⟨by omega, hL, hp, by show l.length + 1 ≤ j + 1; omega, h2⟩)) ?_)))))))
          · skip
            (repeat' (first | with_reducible rfl | exact trivial | refine ai ?_ ?_ | (show (_ : Int) = _; first | with_reducible rfl | exact wr1 (by omega) | (simp only [zz, reduceCtorEq] <;> first | done | rfl | omega) | omega | rfl) | exact rfl | exact (fun _ => rfl) | exact (fun _ _ => rfl) | exact nof))
            · show l.length - 0 + 1 = (l ++ [pts.getD j 0]).length
              rw [List.length_append]; rfl
            · exact full_app (x := pts.getD j 0) rfl _ rfl
          refine ei ((j + 1, growL L (pts.drop (j + 1)) (l ++ [pts.getD j 0]) b)) (ai (ai rfl rfl) (ai (ai ?_ rfl) (ai ?_ ?_)))
          · skip
            (repeat' (first | with_reducible rfl | exact trivial | refine ai ?_ ?_ | (show (_ : Int) = _; first | with_reducible rfl | exact wr1 (by omega) | (simp only [zz, reduceCtorEq] <;> first | done | rfl | omega) | omega | rfl) | exact rfl | exact (fun _ => rfl) | exact (fun _ _ => rfl) | exact nof))
          · exact ⟨by show i ≤ j + 1; omega, hb⟩
          · show pts.length - (j + 1) < pts.length - j; omega
      · rw [h3, if_neg (by decide)] at hb
        refine ei ((j + 1, b)) (ai (ai rfl rfl) (ai (ai ?_ rfl) (ai ?_ ?_)))
        · skip
          (repeat' (first | with_reducible rfl | exact trivial | refine ai ?_ ?_ | (show (_ : Int) = _; first | with_reducible rfl | exact wr1 (by omega) | (simp only [zz, reduceCtorEq] <;> first | done | rfl | omega) | omega | rfl) | exact rfl | exact (fun _ => rfl) | exact (fun _ _ => rfl) | exact nof))
        · exact ⟨by show i ≤ j + 1; omega, hb⟩
        · show pts.length - (j + 1) < pts.length - j; omega
    · rw [List.drop_eq_nil_of_le (by omega), loopG] at hb
      refine ai (ai (fun _ => trivial) ?_) ?_
      · skip
        (repeat' (first | exact rfl | exact trivial | exact (fun _ => rfl) | exact (fun _ _ => rfl) | exact nof | refine ai ?_ ?_))
      · refine ai rfl (ai nof ?_)
        show ple (nsP b) (nsP (growL L (pts.drop i) l best))
        rw [← hb]
        (repeat' (first | exact rfl | exact trivial | exact (fun _ => rfl) | exact (fun _ _ => rfl) | exact nof | refine ai ?_ ?_))
theorem gr_ok (m : Nat) : FnOk Tryz.prog 70 (grS m) := Nat.strongRecOn m fun _ ih => gr_step ih

end Go.Sx.Pn
