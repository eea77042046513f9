/- Contracts: comparisons; sorting what is sorted. -/
import Derived.Test.YtdkhdkldjpaadaaP6
set_option maxHeartbeats 1000000
set_option maxRecDepth 4000
set_option linter.unusedSimpArgs false
set_option linter.unusedVariables false
namespace Go.Sx.Pn
open Go Go.Proofs

def isNaNuS : Spec := fnS (fun x : U => [uA x]) (fun _ => True) (fun _ => bP false)
theorem isNaNu_ok : FnOk Try.prog 159 isNaNuS := by
  refine fnOk (Tb := tab) mixed tab_ok Try.func159 rfl rfl ?_
  rintro (x : U) hpre
  refine And.intro (And.intro rfl (And.intro rfl rfl)) ?_
  refine And.intro (And.intro (fun _ => (by (repeat' (first | exact rfl | exact trivial | exact (fun _ => rfl) | exact (fun _ _ => rfl) | exact (fun h => absurd h Bool.false_ne_true) | refine And.intro ?_ ?_)))) ?_) trivial
  show ((x.toNat : Int) != x.toNat) = false
  simp

def cmpU (a b : U) : Int := if a < b then -1 else if b < a then 1 else 0
def cmpUS : Spec := fnS (fun x : U × U => [uA x.1, uA x.2]) (fun _ => True) (fun x => iP (cmpU x.1 x.2))
theorem cmpU_ok : FnOk Try.prog 131 cmpUS := by
  refine fnOk (Tb := tab) mixed tab_ok Try.func131 rfl rfl ?_
  rintro ⟨a, b⟩ hpre
  refine And.intro (And.intro rfl (And.intro rfl rfl)) ?_
  refine Exists.intro _ (And.intro isNaNu_ok (Exists.intro (a) (Exists.intro [] (And.intro (And.intro rfl (And.intro rfl (And.intro rfl (And.intro rfl (And.intro (fun _ => Or.inl rfl) (by first | exact (fun h => absurd h Bool.false_ne_true) | exact (fun _ => And.intro rfl rfl))))))) (And.intro ?_ (And.intro trivial (And.intro ?_ ?_)))))))
  · skip
    (repeat' (first | exact rfl | exact trivial | exact (fun _ => rfl) | exact (fun _ _ => rfl) | exact (fun h => absurd h Bool.false_ne_true) | refine And.intro ?_ ?_))
  · trivial
  refine Exists.intro _ (And.intro isNaNu_ok (Exists.intro (b) (Exists.intro [] (And.intro (And.intro rfl (And.intro rfl (And.intro rfl (And.intro rfl (And.intro (fun _ => Or.inl rfl) (by first | exact (fun h => absurd h Bool.false_ne_true) | exact (fun _ => And.intro rfl rfl))))))) (And.intro ?_ (And.intro trivial (And.intro ?_ ?_)))))))
  · skip
    (repeat' (first | exact rfl | exact trivial | exact (fun _ => rfl) | exact (fun _ _ => rfl) | exact (fun h => absurd h Bool.false_ne_true) | refine And.intro ?_ ?_))
  · trivial
  refine bcase_intro (fun h1 => ?_) (fun h1 => ?_)
  · skip
    refine And.intro (And.intro (fun _ => (by (repeat' (first | exact rfl | exact trivial | exact (fun _ => rfl) | exact (fun _ _ => rfl) | exact (fun h => absurd h Bool.false_ne_true) | refine And.intro ?_ ?_)))) ?_) trivial
    show (-1 : Int) = cmpU a b
    have h1 : decide ((a.toNat : Int) < b.toNat) = true := h1
    try simp only [zA, zB, zC, zD, zE, zF, zG, zH, zI, zJ, zK, zL, zM, zN, zO, zP, zQ, zR, zS, zT, zU, zV, zW, zX, zY, zZ, yA, yB, yC, yD, yE, yF, yG, yH, yI, yJ, yK, yL, yM, reduceCtorEq] at h1
    simp [cmpU, h1]
  have h1 : decide ((a.toNat : Int) < b.toNat) = false := h1
  try simp only [zA, zB, zC, zD, zE, zF, zG, zH, zI, zJ, zK, zL, zM, zN, zO, zP, zQ, zR, zS, zT, zU, zV, zW, zX, zY, zZ, yA, yB, yC, yD, yE, yF, yG, yH, yI, yJ, yK, yL, yM, reduceCtorEq] at h1
  refine bcase_intro (fun h2 => ?_) (fun h2 => ?_)
  · skip
    refine And.intro (And.intro (fun _ => (by (repeat' (first | exact rfl | exact trivial | exact (fun _ => rfl) | exact (fun _ _ => rfl) | exact (fun h => absurd h Bool.false_ne_true) | refine And.intro ?_ ?_)))) ?_) trivial
    show (1 : Int) = cmpU a b
    have h2 : decide ((b.toNat : Int) < a.toNat) = true := h2
    try simp only [zA, zB, zC, zD, zE, zF, zG, zH, zI, zJ, zK, zL, zM, zN, zO, zP, zQ, zR, zS, zT, zU, zV, zW, zX, zY, zZ, yA, yB, yC, yD, yE, yF, yG, yH, yI, yJ, yK, yL, yM, reduceCtorEq] at h2
    simp [cmpU, h1, h2]
  have h2 : decide ((b.toNat : Int) < a.toNat) = false := h2
  try simp only [zA, zB, zC, zD, zE, zF, zG, zH, zI, zJ, zK, zL, zM, zN, zO, zP, zQ, zR, zS, zT, zU, zV, zW, zX, zY, zZ, yA, yB, yC, yD, yE, yF, yG, yH, yI, yJ, yK, yL, yM, reduceCtorEq] at h2
  refine And.intro (And.intro (fun _ => (by (repeat' (first | exact rfl | exact trivial | exact (fun _ => rfl) | exact (fun _ _ => rfl) | exact (fun h => absurd h Bool.false_ne_true) | refine And.intro ?_ ?_)))) ?_) trivial
  show (0 : Int) = cmpU a b
  simp [cmpU, h1, h2]

def orS : Spec := fnS (fun x : Int × Int => [.p false (.seq 2 fun i => [iP (([x.1, x.2] : List Int).getD i 0)])]) (fun _ => True) (fun x => iP (if x.1 = 0 then x.2 else x.1))
theorem or_ok : FnOk Try.prog 125 orS := by
  refine fnOk (Tb := tab) mixed tab_ok Try.func125 rfl rfl ?_
  rintro ⟨a, b⟩ hpre
  refine And.intro (And.intro rfl (And.intro rfl rfl)) ?_
  refine Exists.intro (LAnn.unroll 3) ?_
  refine And.intro (And.intro (by decide) (by decide)) ?_
  refine And.intro rfl ?_
  refine bcase_intro (fun h1 => ?_) (fun h1 => ?_)
  · skip
    refine And.intro (And.intro (fun _ => (by (repeat' (first | exact rfl | exact trivial | exact (fun _ => rfl) | exact (fun _ _ => rfl) | exact (fun h => absurd h Bool.false_ne_true) | refine And.intro ?_ ?_)))) ?_) trivial
    show a = if a = 0 then b else a
    have h1 : (a != 0) = true := h1
    have h1 : a ≠ 0 := by simpa using h1
    simp [h1]
  have h1 : (a != 0) = false := h1
  have h1 : a = 0 := by simpa using h1
  refine And.intro (And.intro (by decide) (by decide)) ?_
  refine And.intro rfl ?_
  refine bcase_intro (fun h2 => ?_) (fun h2 => ?_)
  · skip
    refine And.intro (And.intro (fun _ => (by (repeat' (first | exact rfl | exact trivial | exact (fun _ => rfl) | exact (fun _ _ => rfl) | exact (fun h => absurd h Bool.false_ne_true) | refine And.intro ?_ ?_)))) ?_) trivial
    show b = if a = 0 then b else a
    simp [h1]
  have h2 : (b != 0) = false := h2
  have h2 : b = 0 := by simpa using h2
  refine And.intro (And.intro (fun _ => (by (repeat' (first | exact rfl | exact trivial | exact (fun _ => rfl) | exact (fun _ _ => rfl) | exact (fun h => absurd h Bool.false_ne_true) | refine And.intro ?_ ?_)))) ?_) trivial
  show (0 : Int) = if a = 0 then b else a
  simp [h1, h2]

def cmpC (a b : Cu) : Int := if cmpU a.care b.care = 0 then cmpU a.value b.value else cmpU a.care b.care
def cmpCS : Spec := fnS (fun x : Cu × Cu => [cA x.1, cA x.2]) (fun _ => True) (fun x => iP (cmpC x.1 x.2))
theorem cmpC_ok : FnOk Try.prog 130 cmpCS := by
  refine fnOk (Tb := tab) mixed tab_ok Try.func130 rfl rfl ?_
  rintro ⟨a, b⟩ hpre
  refine And.intro (And.intro rfl (And.intro rfl rfl)) ?_
  refine Exists.intro [0, 1, 2, 3, 5, 6, 7, 8, 4, 9, 10, 11, 12] (And.intro (by kernel_rfl) ?_)
  refine Exists.intro _ (And.intro cmpU_ok (Exists.intro ((a.care, b.care)) (Exists.intro [] (And.intro (And.intro rfl (And.intro rfl (And.intro rfl (And.intro rfl (And.intro (fun _ => Or.inl rfl) (by first | exact (fun h => absurd h Bool.false_ne_true) | exact (fun _ => And.intro rfl rfl))))))) (And.intro ?_ (And.intro trivial (And.intro ?_ ?_)))))))
  · skip
    (repeat' (first | exact rfl | exact trivial | exact (fun _ => rfl) | exact (fun _ _ => rfl) | exact (fun h => absurd h Bool.false_ne_true) | refine And.intro ?_ ?_))
  · trivial
  refine Exists.intro _ (And.intro cmpU_ok (Exists.intro ((a.value, b.value)) (Exists.intro [] (And.intro (And.intro rfl (And.intro rfl (And.intro rfl (And.intro rfl (And.intro (fun _ => Or.inl rfl) (by first | exact (fun h => absurd h Bool.false_ne_true) | exact (fun _ => And.intro rfl rfl))))))) (And.intro ?_ (And.intro trivial (And.intro ?_ ?_)))))))
  · skip
    (repeat' (first | exact rfl | exact trivial | exact (fun _ => rfl) | exact (fun _ _ => rfl) | exact (fun h => absurd h Bool.false_ne_true) | refine And.intro ?_ ?_))
  · trivial
  refine Exists.intro _ (And.intro or_ok (Exists.intro ((cmpU a.care b.care, cmpU a.value b.value)) (Exists.intro [] (And.intro (And.intro rfl (And.intro rfl (And.intro rfl (And.intro rfl (And.intro (fun _ => Or.inl rfl) (by first | exact (fun h => absurd h Bool.false_ne_true) | exact (fun _ => And.intro rfl rfl))))))) (And.intro ?_ (And.intro trivial (And.intro ?_ ?_)))))))
  · skip
    (repeat' (first | exact rfl | exact trivial | exact (fun _ => rfl) | exact (fun _ _ => rfl) | exact (fun h => absurd h Bool.false_ne_true) | refine And.intro ?_ ?_))
    intro k hk
    obtain rfl | rfl : k = 0 ∨ k = 1 := by have : k < 2 := hk; omega
    · rfl
    · rfl
  · trivial
  refine And.intro (And.intro (fun _ => (by (repeat' (first | exact rfl | exact trivial | exact (fun _ => rfl) | exact (fun _ _ => rfl) | exact (fun h => absurd h Bool.false_ne_true) | refine And.intro ?_ ?_)))) ?_) trivial
  rfl

/-- the comparison never says that a later cube comes first -/
def Asc (l : List Cu) : Prop := ∀ (i j : Nat) (a b : Cu), i < j → l[i]? = some a → l[j]? = some b → cmpC a b < 0
theorem cmpU_swap (a b : U) : cmpU b a = - cmpU a b := by
  unfold cmpU
  by_cases h : a < b
  · have : ¬ b < a := by simp only [BitVec.lt_def] at *; omega
    simp [h, this]
  · by_cases h' : b < a <;> simp [h, h']
theorem cmpC_swap (a b : Cu) : cmpC b a = - cmpC a b := by
  unfold cmpC
  rw [cmpU_swap a.care b.care, cmpU_swap a.value b.value]
  by_cases h : cmpU a.care b.care = 0 <;> simp [h]

end Go.Sx.Pn
