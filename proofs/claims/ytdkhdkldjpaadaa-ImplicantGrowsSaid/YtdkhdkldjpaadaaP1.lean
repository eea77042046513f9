/- Contracts of the functions of package implicant: cubes and points. -/
import Derived.Test.YtdkhdkldjpaadaaTab
set_option maxHeartbeats 1000000
set_option maxRecDepth 4000
set_option linter.unusedSimpArgs false
set_option linter.unusedVariables false
namespace Go.Sx.Pn
open Go Go.Proofs

def iP (n : Int) : PV := .val (.int .i64 n)
def uP (n : U) : PV := .val (.int .u64 n.toNat)
def bP (b : Bool) : PV := .val (.bool b)
structure Cu where
  care : U
  value : U
deriving DecidableEq
def Cu.cells (c : Cu) : List PV := [.val (.int .u64 c.care.toNat), .val (.int .u64 c.value.toNat)]
def iA (n : Int) : SV := .p false (.val (.int .i64 n))
def uA (n : U) : SV := .p false (.val (.int .u64 n.toNat))
def cA (c : Cu) : SV := .p false (.agg [.val (.int .u64 c.care.toNat), .val (.int .u64 c.value.toNat)])
def cP (c : Cu) : PV := .agg [.val (.int .u64 c.care.toNat), .val (.int .u64 c.value.toNat)]
def csP (l : List Cu) : PV := .seq l.length (fun i => (l.getD i ⟨0, 0⟩).cells)
def csA (l : List Cu) : SV := .p false (csP l)

def fnS {α : Type} (args : α → List SV) (pre : α → Prop) (res : α → PV) : Spec := { A := α, args := args, objs := fun _ => [], pre := pre, res := res, objs' := fun _ => [], fresh := true, ro := 0 }

theorem k1 : (1 : Int) = ((1#64 : U).toNat : Int) := rfl
theorem k0 : (0 : Int) = ((0#64 : U).toNat : Int) := rfl

/-- the variables of n -/
def allU (n : Nat) : U := 1#64 <<< n - 1#64

def allS : Spec := fnS (fun n : Nat => [iA n]) (fun _ => True) (fun n => uP (allU n))
theorem all_ok : FnOk Try.prog 95 allS := by
  refine fnOk (Tb := tab) mixed tab_ok Try.func95 rfl rfl ?_
  rintro (n : Nat) hpre
  refine And.intro (And.intro rfl (And.intro rfl rfl)) ?_
  refine And.intro (Int.natCast_nonneg _) ?_
  refine And.intro (And.intro (fun _ => (by (repeat' (first | exact rfl | exact trivial | exact (fun _ => rfl) | exact (fun _ _ => rfl) | exact (fun h => absurd h Bool.false_ne_true) | refine And.intro ?_ ?_)))) ?_) trivial
  show IntKind.u64.wrap (IntKind.u64.wrap (1 * 2 ^ min (↑n : Int).toNat IntKind.u64.bits) - 1) = ((allU n).toNat : Int)
  try simp only [zA, zB, zC, zD, zE, zF, zG, zH, zI, zJ, zK, zL, zM, zN, zO, zP, zQ, zR, zS, zT, zU, zV, zW, zX, zY, zZ, yA, yB, yC, yD, yE, yF, yG, yH, yI, yJ, yK, yL, yM, reduceCtorEq]
  rfl

def chkC (n : Int) (c : Cu) : Int := if n < 0 then 2 else if 6 < n then 2 else if c.care &&& ~~~ allU n.toNat = 0#64 then (if c.value &&& ~~~ c.care = 0#64 then 0 else 3) else 3

def checkS : Spec := fnS (fun x : Int × Cu => [iA x.1, cA x.2]) (fun _ => True) (fun x => iP (chkC x.1 x.2))
theorem check_ok : FnOk Try.prog 44 checkS := by
  refine fnOk (Tb := tab) mixed tab_ok Try.func44 rfl rfl ?_
  rintro ⟨n, c⟩ hpre
  refine And.intro (And.intro rfl (And.intro rfl rfl)) ?_
  refine bcase_intro (fun h1 => ?_) (fun h1 => ?_)
  · skip
    refine And.intro (And.intro (fun _ => (by (repeat' (first | exact rfl | exact trivial | exact (fun _ => rfl) | exact (fun _ _ => rfl) | exact (fun h => absurd h Bool.false_ne_true) | refine And.intro ?_ ?_)))) ?_) trivial
    show (2 : Int) = chkC n c
    try simp only [zA, zB, zC, zD, zE, zF, zG, zH, zI, zJ, zK, zL, zM, zN, zO, zP, zQ, zR, zS, zT, zU, zV, zW, zX, zY, zZ, yA, yB, yC, yD, yE, yF, yG, yH, yI, yJ, yK, yL, yM, reduceCtorEq] at h1
    simp [chkC, h1]
  refine bcase_intro (fun h2 => ?_) (fun h2 => ?_)
  · skip
    refine And.intro (And.intro (fun _ => (by (repeat' (first | exact rfl | exact trivial | exact (fun _ => rfl) | exact (fun _ _ => rfl) | exact (fun h => absurd h Bool.false_ne_true) | refine And.intro ?_ ?_)))) ?_) trivial
    show (2 : Int) = chkC n c
    try simp only [zA, zB, zC, zD, zE, zF, zG, zH, zI, zJ, zK, zL, zM, zN, zO, zP, zQ, zR, zS, zT, zU, zV, zW, zX, zY, zZ, yA, yB, yC, yD, yE, yF, yG, yH, yI, yJ, yK, yL, yM, reduceCtorEq] at h1 h2
    simp [chkC, h1, h2]
  try simp only [zA, zB, zC, zD, zE, zF, zG, zH, zI, zJ, zK, zL, zM, zN, zO, zP, zQ, zR, zS, zT, zU, zV, zW, zX, zY, zZ, yA, yB, yC, yD, yE, yF, yG, yH, yI, yJ, yK, yL, yM, reduceCtorEq] at h1 h2
  refine Exists.intro [0, 1, 2, 3, 4, 5, 6, 7, 8, 9, 10, 11, 12, 13, 14] (And.intro (by kernel_rfl) ?_)
  refine Exists.intro _ (And.intro all_ok (Exists.intro (n.toNat) (Exists.intro [] (And.intro (And.intro rfl (And.intro rfl (And.intro rfl (And.intro rfl (And.intro (fun _ => Or.inl rfl) (by first | exact (fun h => absurd h Bool.false_ne_true) | exact (fun _ => And.intro rfl rfl))))))) (And.intro ?_ (And.intro trivial (And.intro ?_ ?_)))))))
  · show n = (n.toNat : Int); omega
  · trivial
  refine bcase_intro (fun h3 => ?_) (fun h3 => ?_)
  · skip
    refine And.intro (And.intro (fun _ => (by (repeat' (first | exact rfl | exact trivial | exact (fun _ => rfl) | exact (fun _ _ => rfl) | exact (fun h => absurd h Bool.false_ne_true) | refine And.intro ?_ ?_)))) ?_) trivial
    show (3 : Int) = chkC n c
    try simp only [zA, zB, zC, zD, zE, zF, zG, zH, zI, zJ, zK, zL, zM, zN, zO, zP, zQ, zR, zS, zT, zU, zV, zW, zX, zY, zZ, yA, yB, yC, yD, yE, yF, yG, yH, yI, yJ, yK, yL, yM, reduceCtorEq] at h3
    simp [chkC, h1, h2, h3]
  refine bcase_intro (fun h4 => ?_) (fun h4 => ?_)
  · skip
    refine And.intro (And.intro (fun _ => (by (repeat' (first | exact rfl | exact trivial | exact (fun _ => rfl) | exact (fun _ _ => rfl) | exact (fun h => absurd h Bool.false_ne_true) | refine And.intro ?_ ?_)))) ?_) trivial
    show (3 : Int) = chkC n c
    try simp only [zA, zB, zC, zD, zE, zF, zG, zH, zI, zJ, zK, zL, zM, zN, zO, zP, zQ, zR, zS, zT, zU, zV, zW, zX, zY, zZ, yA, yB, yC, yD, yE, yF, yG, yH, yI, yJ, yK, yL, yM, reduceCtorEq] at h3 h4
    simp [chkC, h1, h2, h3, h4]
  refine And.intro (And.intro (fun _ => (by (repeat' (first | exact rfl | exact trivial | exact (fun _ => rfl) | exact (fun _ _ => rfl) | exact (fun h => absurd h Bool.false_ne_true) | refine And.intro ?_ ?_)))) ?_) trivial
  show (0 : Int) = chkC n c
  try simp only [zA, zB, zC, zD, zE, zF, zG, zH, zI, zJ, zK, zL, zM, zN, zO, zP, zQ, zR, zS, zT, zU, zV, zW, zX, zY, zZ, yA, yB, yC, yD, yE, yF, yG, yH, yI, yJ, yK, yL, yM, reduceCtorEq] at h3 h4
  simp [chkC, h1, h2, h3, h4]

/-- a point is in a cube -/
def hasC (c : Cu) (p : Int) : Bool := BitVec.ofInt 64 p &&& c.care == c.value
def hasS : Spec := fnS (fun x : Cu × Int => [cA x.1, iA x.2]) (fun _ => True) (fun x => bP (hasC x.1 x.2))
theorem has_ok : FnOk Try.prog 94 hasS := by
  refine fnOk (Tb := tab) mixed tab_ok Try.func94 rfl rfl ?_
  rintro ⟨c, p⟩ hpre
  refine And.intro (And.intro rfl (And.intro rfl rfl)) ?_
  refine And.intro (And.intro (fun _ => (by (repeat' (first | exact rfl | exact trivial | exact (fun _ => rfl) | exact (fun _ _ => rfl) | exact (fun h => absurd h Bool.false_ne_true) | refine And.intro ?_ ?_)))) ?_) trivial
  show (bits .and .u64 (IntKind.u64.wrap p) c.care.toNat == (c.value.toNat : Int)) = hasC c p
  rw [u_wrap_int]
  try simp only [zA, zB, zC, zD, zE, zF, zG, zH, zI, zJ, zK, zL, zM, zN, zO, zP, zQ, zR, zS, zT, zU, zV, zW, zX, zY, zZ, yA, yB, yC, yD, yE, yF, yG, yH, yI, yJ, yK, yL, yM, reduceCtorEq]
  rfl

def againstC (a b : Cu) : U := a.care &&& b.care &&& (a.value ^^^ b.value)
def againstS : Spec := fnS (fun x : Cu × Cu => [cA x.1, cA x.2]) (fun _ => True) (fun x => uP (againstC x.1 x.2))
theorem against_ok : FnOk Try.prog 87 againstS := by
  refine fnOk (Tb := tab) mixed tab_ok Try.func87 rfl rfl ?_
  rintro ⟨a, b⟩ hpre
  refine And.intro (And.intro rfl (And.intro rfl rfl)) ?_
  refine And.intro (And.intro (fun _ => (by (repeat' (first | exact rfl | exact trivial | exact (fun _ => rfl) | exact (fun _ _ => rfl) | exact (fun h => absurd h Bool.false_ne_true) | refine And.intro ?_ ?_)))) ?_) trivial
  show bits .and .u64 (bits .and .u64 a.care.toNat b.care.toNat) (bits .xor .u64 a.value.toNat b.value.toNat) = ((againstC a b).toNat : Int)
  try simp only [zA, zB, zC, zD, zE, zF, zG, zH, zI, zJ, zK, zL, zM, zN, zO, zP, zQ, zR, zS, zT, zU, zV, zW, zX, zY, zZ, yA, yB, yC, yD, yE, yF, yG, yH, yI, yJ, yK, yL, yM, reduceCtorEq]
  rfl

def insideC (a b : Cu) : Bool := b.care &&& ~~~ a.care == 0#64 && (a.value &&& b.care == b.value)
def insideS : Spec := fnS (fun x : Cu × Cu => [cA x.1, cA x.2]) (fun _ => True) (fun x => bP (insideC x.1 x.2))
theorem inside_ok : FnOk Try.prog 84 insideS := by
  refine fnOk (Tb := tab) mixed tab_ok Try.func84 rfl rfl ?_
  rintro ⟨a, b⟩ hpre
  refine And.intro (And.intro rfl (And.intro rfl rfl)) ?_
  refine bcase_intro (fun h1 => ?_) (fun h1 => ?_)
  · skip
    refine And.intro (And.intro (fun _ => (by (repeat' (first | exact rfl | exact trivial | exact (fun _ => rfl) | exact (fun _ _ => rfl) | exact (fun h => absurd h Bool.false_ne_true) | refine And.intro ?_ ?_)))) ?_) trivial
    show (bits .and .u64 a.value.toNat b.care.toNat == (b.value.toNat : Int)) = insideC a b
    try simp only [zA, zB, zC, zD, zE, zF, zG, zH, zI, zJ, zK, zL, zM, zN, zO, zP, zQ, zR, zS, zT, zU, zV, zW, zX, zY, zZ, yA, yB, yC, yD, yE, yF, yG, yH, yI, yJ, yK, yL, yM, reduceCtorEq] at h1
    try simp only [zA, zB, zC, zD, zE, zF, zG, zH, zI, zJ, zK, zL, zM, zN, zO, zP, zQ, zR, zS, zT, zU, zV, zW, zX, zY, zZ, yA, yB, yC, yD, yE, yF, yG, yH, yI, yJ, yK, yL, yM, reduceCtorEq]
    simp [insideC, h1]
  · skip
    refine And.intro (And.intro (fun _ => (by (repeat' (first | exact rfl | exact trivial | exact (fun _ => rfl) | exact (fun _ _ => rfl) | exact (fun h => absurd h Bool.false_ne_true) | refine And.intro ?_ ?_)))) ?_) trivial
    show false = insideC a b
    try simp only [zA, zB, zC, zD, zE, zF, zG, zH, zI, zJ, zK, zL, zM, zN, zO, zP, zQ, zR, zS, zT, zU, zV, zW, zX, zY, zZ, yA, yB, yC, yD, yE, yF, yG, yH, yI, yJ, yK, yL, yM, reduceCtorEq] at h1
    simp [insideC, h1]

end Go.Sx.Pn
