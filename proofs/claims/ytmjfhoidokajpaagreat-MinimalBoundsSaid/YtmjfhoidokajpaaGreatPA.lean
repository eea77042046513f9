/- Contracts of the functions of package implicant: cubes and points. -/
import Derived.Test.YtmjfhoidokajpaaGreatTab
import Derived.Test.YtmjfhoidokajpaaGreatShelf
set_option maxHeartbeats 1000000
set_option maxRecDepth 4000
set_option linter.unusedSimpArgs false
set_option linter.unusedVariables false
set_option linter.unusedSectionVars false
namespace Go.Sx.Pn
open Go Go.Proofs

def iP (n : Int) : PV := .val (.int .i64 n)
def uP (n : U) : PV := .val (.int .u64 n.toNat)
def bP (b : Bool) : PV := .val (.bool b)
structure Cu where
  care : U
  value : U
deriving DecidableEq
def Cu.cells (c : Cu) : List PV := [.val (.int .u64 c.care.toNat), .val (.int .u64 c.value.toNat)]
def iA (n : Int) : SV := .p false (.val (.int .i64 n))
def uA (n : U) : SV := .p false (.val (.int .u64 n.toNat))
def cA (c : Cu) : SV := .p false (.agg [.val (.int .u64 c.care.toNat), .val (.int .u64 c.value.toNat)])
def cP (c : Cu) : PV := .agg [.val (.int .u64 c.care.toNat), .val (.int .u64 c.value.toNat)]
def csP (l : List Cu) : PV := .seq l.length (fun i => (l.getD i ⟨0, 0⟩).cells)
def csA (l : List Cu) : SV := .p false (csP l)

def fnS {α : Type} (args : α → List SV) (pre : α → Prop) (res : α → PV) : Spec := { A := α, args := args, objs := fun _ => [], pre := pre, res := res, objs' := fun _ => [], fresh := true, ro := 0 }

theorem k1 : (1 : Int) = ((1#64 : U).toNat : Int) := rfl
/-- the variables of n -/
def allU (n : Nat) : U := 1#64 <<< n - 1#64

def allS : Spec := fnS (fun n : Nat => [iA n]) (fun _ => True) (fun n => uP (allU n))
theorem all_ok : FnOk Tryz.prog 92 allS := by
  refine fnOk (Tb := tab) mixed tab_ok Tryz.func92 rfl rfl ?_
  rintro (n : Nat) hpre
  refine ai (ai rfl (ai rfl rfl)) ?_
  refine ai (Int.natCast_nonneg _) ?_
  refine ai (ai (fun _ => (by (repeat' (first | exact rfl | exact trivial | exact (fun _ => rfl) | exact (fun _ _ => rfl) | exact nof | refine ai ?_ ?_)))) ?_) trivial
  show IntKind.u64.wrap (IntKind.u64.wrap (1 * 2 ^ min (↑n : Int).toNat IntKind.u64.bits) - 1) = ((allU n).toNat : Int)
  try simp only [zz, reduceCtorEq]
  rfl

def chkC (n : Int) (c : Cu) : Int := if n < 0 then 2 else if 6 < n then 2 else if c.care &&& ~~~ allU n.toNat = 0#64 then (if c.value &&& ~~~ c.care = 0#64 then 0 else 3) else 3

def checkS : Spec := fnS (fun x : Int × Cu => [iA x.1, cA x.2]) (fun _ => True) (fun x => iP (chkC x.1 x.2))
theorem check_ok : FnOk Tryz.prog 67 checkS := by
  refine fnOk (Tb := tab) mixed tab_ok Tryz.func67 rfl rfl ?_
  rintro ⟨n, c⟩ hpre
  refine ai (ai rfl (ai rfl rfl)) ?_
  refine bcase_intro (fun h1 => ?_) (fun h1 => ?_)
  · skip
    refine ai (ai (fun _ => (by (repeat' (first | exact rfl | exact trivial | exact (fun _ => rfl) | exact (fun _ _ => rfl) | exact nof | refine ai ?_ ?_)))) ?_) trivial
    show (2 : Int) = chkC n c
    try simp only [zz, reduceCtorEq] at h1
    simp [chkC, h1]
  refine bcase_intro (fun h2 => ?_) (fun h2 => ?_)
  · skip
    refine ai (ai (fun _ => (by (repeat' (first | exact rfl | exact trivial | exact (fun _ => rfl) | exact (fun _ _ => rfl) | exact nof | refine ai ?_ ?_)))) ?_) trivial
    show (2 : Int) = chkC n c
    try simp only [zz, reduceCtorEq] at h1 h2
    simp [chkC, h1, h2]
  try simp only [zz, reduceCtorEq] at h1 h2
  refine ei (.seq [0, 1, 2, 3, 4, 5, 6, 7, 8, 9, 10, 11, 12, 13, 14]) (ai (by kernel_rfl) ?_)
  refine ei _ (ai all_ok (ei (n.toNat) (ei [] (ai (ai rfl (ai rfl (ai rfl (ai rfl (ai (fun _ => Or.inl rfl) (ai (by first | exact nof | exact (fun _ => ai rfl rfl)) (by first | exact Or.inl rfl | exact Or.inr rfl))))))) (ai ?_ (ai trivial (ai ?_ ?_)))))))
  · show n = (n.toNat : Int); omega
  · trivial
  refine bcase_intro (fun h3 => ?_) (fun h3 => ?_)
  · skip
    refine ai (ai (fun _ => (by (repeat' (first | exact rfl | exact trivial | exact (fun _ => rfl) | exact (fun _ _ => rfl) | exact nof | refine ai ?_ ?_)))) ?_) trivial
    show (3 : Int) = chkC n c
    try simp only [zz, reduceCtorEq] at h3
    simp [chkC, h1, h2, h3]
  refine bcase_intro (fun h4 => ?_) (fun h4 => ?_)
  · skip
    refine ai (ai (fun _ => (by (repeat' (first | exact rfl | exact trivial | exact (fun _ => rfl) | exact (fun _ _ => rfl) | exact nof | refine ai ?_ ?_)))) ?_) trivial
    show (3 : Int) = chkC n c
    try simp only [zz, reduceCtorEq] at h3 h4
    simp [chkC, h1, h2, h3, h4]
  refine ai (ai (fun _ => (by (repeat' (first | exact rfl | exact trivial | exact (fun _ => rfl) | exact (fun _ _ => rfl) | exact nof | refine ai ?_ ?_)))) ?_) trivial
  show (0 : Int) = chkC n c
  try simp only [zz, reduceCtorEq] at h3 h4
  simp [chkC, h1, h2, h3, h4]

/-- a point is in a cube -/
def hasC (c : Cu) (p : Int) : Bool := BitVec.ofInt 64 p &&& c.care == c.value
def hasS : Spec := fnS (fun x : Cu × Int => [cA x.1, iA x.2]) (fun _ => True) (fun x => bP (hasC x.1 x.2))
theorem has_ok : FnOk Tryz.prog 125 hasS := by
  refine fnOk (Tb := tab) mixed tab_ok Tryz.func125 rfl rfl ?_
  rintro ⟨c, p⟩ hpre
  refine ai (ai rfl (ai rfl rfl)) ?_
  refine ai (ai (fun _ => (by (repeat' (first | exact rfl | exact trivial | exact (fun _ => rfl) | exact (fun _ _ => rfl) | exact nof | refine ai ?_ ?_)))) ?_) trivial
  show (bits .and .u64 (IntKind.u64.wrap p) c.care.toNat == (c.value.toNat : Int)) = hasC c p
  rw [u_wrap_int]
  try simp only [zz, reduceCtorEq]
  rfl

def insideC (a b : Cu) : Bool := b.care &&& ~~~ a.care == 0#64 && (a.value &&& b.care == b.value)
end Go.Sx.Pn

namespace Go.Sx.Pn
open Go Go.Proofs

theorem pow6 {n : Nat} (h : n ≤ 6) : IntKind.i64.wrap (1 * 2 ^ min (↑n : Int).toNat IntKind.i64.bits) = ((2 ^ n : Nat) : Int) := by
  obtain rfl | rfl | rfl | rfl | rfl | rfl | rfl : n = 0 ∨ n = 1 ∨ n = 2 ∨ n = 3 ∨ n = 4 ∨ n = 5 ∨ n = 6 := by omega
  all_goals rfl
theorem pow_le64 {n : Nat} (h : n ≤ 6) : 2 ^ n ≤ 64 := Nat.pow_le_pow_right (by omega) (show n ≤ 6 from h)
theorem wrap_i (n : Int) (h1 : -9223372036854775808 ≤ n) (h2 : n < 9223372036854775808) : IntKind.i64.wrap n = n := i_wrap h1 h2

/-- the points of a cube, below m -/
def ptsC (c : Cu) : Nat → U
  | 0 => 0
  | k + 1 => if hasC c k then ptsC c k ||| (1#64 <<< k) else ptsC c k

def pointsS : Spec := fnS (fun x : Nat × Cu => [iA x.1, cA x.2]) (fun x => x.1 ≤ 6) (fun x => uP (ptsC x.2 (2 ^ x.1)))
theorem points_ok : FnOk Tryz.prog 116 pointsS := by
  refine fnOk (Tb := tab) mixed tab_ok Tryz.func116 rfl rfl ?_
  rintro ⟨n, c⟩ hpre
  refine ai (ai rfl (ai rfl rfl)) ?_
  have hn : n ≤ 6 := hpre
  have h64 := pow_le64 hn
  refine ai (Int.natCast_nonneg _) ?_
  refine ei (LAnn.inv { X := Nat, up := fun k => [(9, .s (iA k)), (5, .s (uA (ptsC c k)))], uo := fun _ => [], inv := fun k => k ≤ 2 ^ n, meas := fun k => 2 ^ n - k, x0 := 0 }) ?_
  refine ai (ai (ai (by (repeat' (first | exact rfl | exact trivial | exact (fun _ => rfl) | exact (fun _ _ => rfl) | exact nof | refine ai ?_ ?_))) (by (repeat' (first | exact rfl | exact trivial | exact (fun _ => rfl) | exact (fun _ _ => rfl) | exact nof | refine ai ?_ ?_)))) rfl) (ai ?_ ?_)
  · exact Nat.zero_le _
  intro (k : Nat) (hk : k ≤ 2 ^ n)
  refine bcase_intro (fun h1 => ?_) (fun h1 => ?_)
  · -- a round
    have h1 : (k : Int) < IntKind.i64.wrap (1 * 2 ^ min (↑n : Int).toNat IntKind.i64.bits) := of_decide_eq_true h1
    rw [pow6 hn] at h1
    have hwr : IntKind.i64.wrap ((k : Int) + 1) = ((k + 1 : Nat) : Int) := by rw [wrap_i _ (by omega) (by omega)]; rfl
    refine ei _ (ai has_ok (ei ((c, (k : Int))) (ei [] (ai (ai rfl (ai rfl (ai rfl (ai rfl (ai (fun _ => Or.inl rfl) (ai (by first | exact nof | exact (fun _ => ai rfl rfl)) (by first | exact Or.inl rfl | exact Or.inr rfl))))))) (ai ?_ (ai trivial (ai ?_ ?_)))))))
    · skip
      (repeat' (first | exact rfl | exact trivial | exact (fun _ => rfl) | exact (fun _ _ => rfl) | exact nof | refine ai ?_ ?_))
    · trivial
    refine bcase_intro (fun h2 => ?_) (fun h2 => ?_)
    · have h2 : hasC c k = true := h2
      refine ai (Int.natCast_nonneg _) ?_
      refine ei (k + 1) (ai (ai rfl rfl) (ai (ai ?_ rfl) (ai ?_ ?_)))
      · skip
        (repeat' (first | exact rfl | exact trivial | exact (fun _ => rfl) | exact (fun _ _ => rfl) | exact nof | refine ai ?_ ?_))
        · exact hwr
        · show bits .or .u64 (ptsC c k).toNat (IntKind.u64.wrap (1 * 2 ^ min (k : Int).toNat IntKind.u64.bits)) = ((ptsC c (k + 1)).toNat : Int)
          try simp only [zz, reduceCtorEq]
          simp [ptsC, h2]
      · show k + 1 ≤ 2 ^ n; omega
      · show 2 ^ n - (k + 1) < 2 ^ n - k; omega
    · have h2 : hasC c k = false := h2
      refine ei (k + 1) (ai (ai rfl rfl) (ai (ai ?_ rfl) (ai ?_ ?_)))
      · skip
        (repeat' (first | exact rfl | exact trivial | exact (fun _ => rfl) | exact (fun _ _ => rfl) | exact nof | refine ai ?_ ?_))
        · exact hwr
        · show ((ptsC c k).toNat : Int) = ((ptsC c (k + 1)).toNat : Int)
          simp [ptsC, h2]
      · show k + 1 ≤ 2 ^ n; omega
      · show 2 ^ n - (k + 1) < 2 ^ n - k; omega
  · have h1 : ¬ (k : Int) < IntKind.i64.wrap (1 * 2 ^ min (↑n : Int).toNat IntKind.i64.bits) := of_decide_eq_false h1
    rw [pow6 hn] at h1
    have : k = 2 ^ n := by omega
    subst this
    refine ai (ai (fun _ => (by (repeat' (first | exact rfl | exact trivial | exact (fun _ => rfl) | exact (fun _ _ => rfl) | exact nof | refine ai ?_ ?_)))) ?_) trivial
    rfl

end Go.Sx.Pn

namespace Go.Sx.Pn
open Go Go.Proofs

end Go.Sx.Pn

namespace Go.Sx.Pn
open Go Go.Proofs

structure Tb where
  n : Int
  bits : U
deriving DecidableEq
def tA (t : Tb) : SV := .p false (.agg [.val (.int .i64 t.n), .val (.int .u64 t.bits.toNat)])
def sizedS : Spec := fnS (fun n : Int => [iA n]) (fun _ => True) (fun n => bP (decide (0 ≤ n) && decide (n ≤ 6)))
theorem sized_ok : FnOk Tryz.prog 80 sizedS := by
  refine fnOk (Tb := tab) mixed tab_ok Tryz.func80 rfl rfl ?_
  rintro (n : Int) hpre
  refine ai (ai rfl (ai rfl rfl)) ?_
  refine bcase_intro (fun h1 => ?_) (fun h1 => ?_)
  · skip
    refine ai (ai (fun _ => (by (repeat' (first | exact rfl | exact trivial | exact (fun _ => rfl) | exact (fun _ _ => rfl) | exact nof | refine ai ?_ ?_)))) ?_) trivial
    show decide (n ≤ 6) = (decide (0 ≤ n) && decide (n ≤ 6))
    have h1 : decide (0 ≤ n) = true := h1
    rw [h1]; rfl
  · skip
    refine ai (ai (fun _ => (by (repeat' (first | exact rfl | exact trivial | exact (fun _ => rfl) | exact (fun _ _ => rfl) | exact nof | refine ai ?_ ?_)))) ?_) trivial
    show false = (decide (0 ≤ n) && decide (n ≤ 6))
    have h1 : decide (0 ≤ n) = false := h1
    rw [h1]; rfl

/-- the points of n variables, as bits -/
def wholeU (n : Nat) : U := if n = 6 then 18446744073709551615#64 else (1#64 <<< (2 ^ n)) - 1#64
def wholeS : Spec := fnS (fun n : Nat => [iA n]) (fun n => n ≤ 6) (fun n => uP (wholeU n))
theorem whole_ok : FnOk Tryz.prog 81 wholeS := by
  refine fnOk (Tb := tab) mixed tab_ok Tryz.func81 rfl rfl ?_
  rintro (n : Nat) hpre
  refine ai (ai rfl (ai rfl rfl)) ?_
  have hn : n ≤ 6 := hpre
  refine bcase_intro (fun h1 => ?_) (fun h1 => ?_)
  · skip
    refine ai (ai (fun _ => (by (repeat' (first | exact rfl | exact trivial | exact (fun _ => rfl) | exact (fun _ _ => rfl) | exact nof | refine ai ?_ ?_)))) ?_) trivial
    show (18446744073709551615 : Int) = ((wholeU n).toNat : Int)
    have h1 : ((n : Int) == 6) = true := h1
    have : n = 6 := by have := eq_of_beq h1; omega
    subst this; rfl
  · have h1 : ((n : Int) == 6) = false := h1
    have h6 : n ≠ 6 := by intro e; subst e; cases h1
    refine ai (Int.natCast_nonneg _) ?_
    refine ai ?_ ?_
    · show (0 : Int) ≤ IntKind.u64.wrap _
      exact wrap_u64_nonneg _
    refine ai (ai (fun _ => (by (repeat' (first | exact rfl | exact trivial | exact (fun _ => rfl) | exact (fun _ _ => rfl) | exact nof | refine ai ?_ ?_)))) ?_) trivial
    show IntKind.u64.wrap (IntKind.u64.wrap (1 * 2 ^ min (IntKind.u64.wrap (1 * 2 ^ min (n : Int).toNat IntKind.u64.bits)).toNat IntKind.u64.bits) - 1) = ((wholeU n).toNat : Int)
    try simp only [zz, reduceCtorEq]
    simp only [wholeU, h6, if_false]
    congr 3
    obtain rfl | rfl | rfl | rfl | rfl | rfl : n = 0 ∨ n = 1 ∨ n = 2 ∨ n = 3 ∨ n = 4 ∨ n = 5 := by omega
    all_goals rfl

def chkT (t : Tb) : Int := if t.n < 0 then 2 else if 6 < t.n then 2 else if t.bits &&& ~~~ wholeU t.n.toNat = 0#64 then 0 else 3
def tcheckS : Spec := fnS (fun t : Tb => [tA t]) (fun _ => True) (fun t => iP (chkT t))
theorem tcheck_ok : FnOk Tryz.prog 46 tcheckS := by
  refine fnOk (Tb := tab) mixed tab_ok Tryz.func46 rfl rfl ?_
  rintro ⟨n, b⟩ hpre
  refine ai (ai rfl (ai rfl rfl)) ?_
  refine ei _ (ai sized_ok (ei (n) (ei [] (ai (ai rfl (ai rfl (ai rfl (ai rfl (ai (fun _ => Or.inl rfl) (ai (by first | exact nof | exact (fun _ => ai rfl rfl)) (by first | exact Or.inl rfl | exact Or.inr rfl))))))) (ai ?_ (ai trivial (ai ?_ ?_)))))))
  · skip
    (repeat' (first | exact rfl | exact trivial | exact (fun _ => rfl) | exact (fun _ _ => rfl) | exact nof | refine ai ?_ ?_))
  · trivial
  refine bcase_intro (fun h1 => ?_) (fun h1 => ?_)
  · skip
    refine ai (ai (fun _ => (by (repeat' (first | exact rfl | exact trivial | exact (fun _ => rfl) | exact (fun _ _ => rfl) | exact nof | refine ai ?_ ?_)))) ?_) trivial
    show (2 : Int) = chkT ⟨n, b⟩
    have h1 : (!(decide (0 ≤ n) && decide (n ≤ 6))) = true := h1
    simp only [chkT]
    by_cases h : n < 0
    · simp [h]
    · have : ¬ n ≤ 6 := by intro h6; simp [show 0 ≤ n by omega, h6] at h1
      simp [h, show 6 < n by omega]
  · have h1 : (!(decide (0 ≤ n) && decide (n ≤ 6))) = false := h1
    have h2 : 0 ≤ n ∧ n ≤ 6 := by simpa using h1
    refine ei (.seq [0, 1, 2, 3, 4, 5, 6, 7]) (ai (by kernel_rfl) ?_)
    refine ei _ (ai whole_ok (ei (n.toNat) (ei [] (ai (ai rfl (ai rfl (ai rfl (ai rfl (ai (fun _ => Or.inl rfl) (ai (by first | exact nof | exact (fun _ => ai rfl rfl)) (by first | exact Or.inl rfl | exact Or.inr rfl))))))) (ai ?_ (ai trivial (ai ?_ ?_)))))))
    · show n = (n.toNat : Int); omega
    · show n.toNat ≤ 6; omega
    have e1 : ¬ n < 0 := by omega
    have e2 : ¬ 6 < n := by omega
    refine bcase_intro (fun h3 => ?_) (fun h3 => ?_)
    · skip
      refine ai (ai (fun _ => (by (repeat' (first | exact rfl | exact trivial | exact (fun _ => rfl) | exact (fun _ _ => rfl) | exact nof | refine ai ?_ ?_)))) ?_) trivial
      show (3 : Int) = chkT ⟨n, b⟩
      have h3 : (bits .andNot .u64 b.toNat (wholeU n.toNat).toNat != 0) = true := h3
      try simp only [zz, reduceCtorEq] at h3
      simp [chkT, e1, e2, h3]
    · skip
      refine ai (ai (fun _ => (by (repeat' (first | exact rfl | exact trivial | exact (fun _ => rfl) | exact (fun _ _ => rfl) | exact nof | refine ai ?_ ?_)))) ?_) trivial
      show (0 : Int) = chkT ⟨n, b⟩
      have h3 : (bits .andNot .u64 b.toNat (wholeU n.toNat).toNat != 0) = false := h3
      try simp only [zz, reduceCtorEq] at h3
      simp [chkT, e1, e2, h3]

end Go.Sx.Pn

namespace Go.Sx.Pn
open Go Go.Proofs

structure Tk where
  on : Tb
  free : Tb
deriving DecidableEq
def kA (x : Tk) : SV := .p false (.agg [.val (.int .i64 x.on.n), .val (.int .u64 x.on.bits.toNat), .val (.int .i64 x.free.n), .val (.int .u64 x.free.bits.toNat)])
def kP (x : Tk) : PV := .agg [.val (.int .i64 x.on.n), .val (.int .u64 x.on.bits.toNat), .val (.int .i64 x.free.n), .val (.int .u64 x.free.bits.toNat)]

def chkK (x : Tk) : Int := if chkT x.on = 0 then (if chkT x.free = 0 then (if x.on.n = x.free.n then (if x.on.bits &&& x.free.bits = 0#64 then 0 else 16) else 8) else chkT x.free) else chkT x.on

def checkTaskS : Spec := fnS (fun x : Tk => [kA x]) (fun _ => True) (fun x => iP (chkK x))
theorem checkTask_ok : FnOk Tryz.prog 86 checkTaskS := by
  refine fnOk (Tb := tab) mixed tab_ok Tryz.func86 rfl rfl ?_
  rintro ⟨⟨n, b⟩, ⟨m, c⟩⟩ hpre
  refine ai (ai rfl (ai rfl rfl)) ?_
  refine ei (LAnn.unroll 3) ?_
  refine ai (ai (by decide) (by decide)) ?_
  refine ei _ (ai tcheck_ok (ei (⟨n, b⟩) (ei [] (ai (ai rfl (ai rfl (ai rfl (ai rfl (ai (fun _ => Or.inl rfl) (ai (by first | exact nof | exact (fun _ => ai rfl rfl)) (by first | exact Or.inl rfl | exact Or.inr rfl))))))) (ai ?_ (ai trivial (ai ?_ ?_)))))))
  · skip
    (repeat' (first | exact rfl | exact trivial | exact (fun _ => rfl) | exact (fun _ _ => rfl) | exact nof | refine ai ?_ ?_))
  · trivial
  refine bcase_intro (fun h1 => ?_) (fun h1 => ?_)
  · have h1 : (chkT ⟨n, b⟩ != 0) = true := h1
    have h1 : chkT ⟨n, b⟩ ≠ 0 := by simpa using h1
    refine ai (ai (fun _ => (by (repeat' (first | exact rfl | exact trivial | exact (fun _ => rfl) | exact (fun _ _ => rfl) | exact nof | refine ai ?_ ?_)))) ?_) trivial
    show chkT ⟨n, b⟩ = chkK ⟨⟨n, b⟩, ⟨m, c⟩⟩
    simp [chkK, h1]
  have h1 : (chkT ⟨n, b⟩ != 0) = false := h1
  have h1 : chkT ⟨n, b⟩ = 0 := by simpa using h1
  refine ai (ai (by decide) (by decide)) ?_
  refine ei _ (ai tcheck_ok (ei (⟨m, c⟩) (ei [] (ai (ai rfl (ai rfl (ai rfl (ai rfl (ai (fun _ => Or.inl rfl) (ai (by first | exact nof | exact (fun _ => ai rfl rfl)) (by first | exact Or.inl rfl | exact Or.inr rfl))))))) (ai ?_ (ai trivial (ai ?_ ?_)))))))
  · skip
    (repeat' (first | exact rfl | exact trivial | exact (fun _ => rfl) | exact (fun _ _ => rfl) | exact nof | refine ai ?_ ?_))
  · trivial
  refine bcase_intro (fun h2 => ?_) (fun h2 => ?_)
  · have h2 : (chkT ⟨m, c⟩ != 0) = true := h2
    have h2 : chkT ⟨m, c⟩ ≠ 0 := by simpa using h2
    refine ai (ai (fun _ => (by (repeat' (first | exact rfl | exact trivial | exact (fun _ => rfl) | exact (fun _ _ => rfl) | exact nof | refine ai ?_ ?_)))) ?_) trivial
    show chkT ⟨m, c⟩ = chkK ⟨⟨n, b⟩, ⟨m, c⟩⟩
    simp [chkK, h1, h2]
  have h2 : (chkT ⟨m, c⟩ != 0) = false := h2
  have h2 : chkT ⟨m, c⟩ = 0 := by simpa using h2
  refine bcase_intro (fun h3 => ?_) (fun h3 => ?_)
  · skip
    refine ai (ai (fun _ => (by (repeat' (first | exact rfl | exact trivial | exact (fun _ => rfl) | exact (fun _ _ => rfl) | exact nof | refine ai ?_ ?_)))) ?_) trivial
    show (8 : Int) = chkK ⟨⟨n, b⟩, ⟨m, c⟩⟩
    have h3 : (n != m) = true := h3
    have h3 : n ≠ m := by simpa using h3
    simp [chkK, h1, h2, h3]
  have h3 : (n != m) = false := h3
  have h3 : n = m := by simpa using h3
  subst h3
  refine bcase_intro (fun h4 => ?_) (fun h4 => ?_)
  · skip
    refine ai (ai (fun _ => (by (repeat' (first | exact rfl | exact trivial | exact (fun _ => rfl) | exact (fun _ _ => rfl) | exact nof | refine ai ?_ ?_)))) ?_) trivial
    show (16 : Int) = chkK ⟨⟨n, b⟩, ⟨n, c⟩⟩
    have h4 : (bits .and .u64 b.toNat c.toNat != 0) = true := h4
    try simp only [zz, reduceCtorEq] at h4
    simp [chkK, h1, h2, h4]
  refine ai (ai (fun _ => (by (repeat' (first | exact rfl | exact trivial | exact (fun _ => rfl) | exact (fun _ _ => rfl) | exact nof | refine ai ?_ ?_)))) ?_) trivial
  show (0 : Int) = chkK ⟨⟨n, b⟩, ⟨n, c⟩⟩
  have h4 : (bits .and .u64 b.toNat c.toNat != 0) = false := h4
  try simp only [zz, reduceCtorEq] at h4
  simp [chkK, h1, h2, h4]

theorem chkT_zero {t : Tb} (h : chkT t = 0) : ∃ n : Nat, n ≤ 6 ∧ t.n = n ∧ t.bits &&& ~~~ wholeU n = 0#64 := by
  unfold chkT at h
  split at h
  · cases h
  · split at h
    · cases h
    · split at h
      · rename_i h1 h2 h3
        exact ⟨t.n.toNat, by omega, by omega, h3⟩
      · cases h

/-- a cube is an implicant -/
def impliesU (n : Nat) (x : Tk) (c : Cu) : Bool := ptsC c (2 ^ n) &&& ~~~ (x.on.bits ||| x.free.bits) == 0#64
def impliesS : Spec := fnS (fun x : Nat × Tk × Cu => [kA x.2.1, cA x.2.2]) (fun x => x.1 ≤ 6 ∧ x.2.1.on.n = x.1) (fun x => bP (impliesU x.1 x.2.1 x.2.2))
theorem implies_ok : FnOk Tryz.prog 107 impliesS := by
  refine fnOk (Tb := tab) mixed tab_ok Tryz.func107 rfl rfl ?_
  rintro ⟨k, ⟨⟨n, b⟩, ⟨m, c⟩⟩, q⟩ hpre
  refine ai (ai rfl (ai rfl rfl)) ?_
  obtain ⟨hk, hn⟩ : k ≤ 6 ∧ n = k := hpre
  refine ei (.seq [0, 1, 2, 3, 5, 6, 7, 8, 9, 10, 11, 4, 12, 13, 14]) (ai (by kernel_rfl) ?_)
  refine ei _ (ai points_ok (ei ((k, q)) (ei [] (ai (ai rfl (ai rfl (ai rfl (ai rfl (ai (fun _ => Or.inl rfl) (ai (by first | exact nof | exact (fun _ => ai rfl rfl)) (by first | exact Or.inl rfl | exact Or.inr rfl))))))) (ai ?_ (ai trivial (ai ?_ ?_)))))))
  · skip
    (repeat' (first | exact rfl | exact trivial | exact (fun _ => rfl) | exact (fun _ _ => rfl) | exact nof | refine ai ?_ ?_))
    exact hn
  · exact hk
  refine ai (ai (fun _ => (by (repeat' (first | exact rfl | exact trivial | exact (fun _ => rfl) | exact (fun _ _ => rfl) | exact nof | refine ai ?_ ?_)))) ?_) trivial
  show (bits .andNot .u64 (ptsC q (2 ^ k)).toNat (bits .or .u64 b.toNat c.toNat) == 0) = impliesU k ⟨⟨n, b⟩, ⟨m, c⟩⟩ q
  try simp only [zz, reduceCtorEq]
  rfl

def ImpliesS : Spec := fnS (fun x : Tk × Cu => [kA x.1, cA x.2]) (fun _ => True)
  (fun x => .tup [bP (if chkK x.1 = 0 then (if chkC x.1.on.n x.2 = 0 then impliesU x.1.on.n.toNat x.1 x.2 else false) else false), iP (if chkK x.1 = 0 then chkC x.1.on.n x.2 else chkK x.1)])
theorem chkK_zero {x : Tk} (h : chkK x = 0) : chkT x.on = 0 ∧ chkT x.free = 0 ∧ x.on.n = x.free.n ∧ x.on.bits &&& x.free.bits = 0#64 := by
  unfold chkK at h
  split at h
  · split at h
    · split at h
      · split at h
        · exact ⟨by assumption, by assumption, by assumption, by assumption⟩
        · cases h
      · cases h
    · rename_i h1; exact absurd h h1
  · rename_i h1; exact absurd h h1
theorem Implies_ok : FnOk Tryz.prog 79 ImpliesS := by
  refine fnOk (Tb := tab) mixed tab_ok Tryz.func79 rfl rfl ?_
  rintro ⟨x, q⟩ hpre
  refine ai (ai rfl (ai rfl rfl)) ?_
  refine ei _ (ai checkTask_ok (ei (x) (ei [] (ai (ai rfl (ai rfl (ai rfl (ai rfl (ai (fun _ => Or.inl rfl) (ai (by first | exact nof | exact (fun _ => ai rfl rfl)) (by first | exact Or.inl rfl | exact Or.inr rfl))))))) (ai ?_ (ai trivial (ai ?_ ?_)))))))
  · skip
    (repeat' (first | exact rfl | exact trivial | exact (fun _ => rfl) | exact (fun _ _ => rfl) | exact nof | refine ai ?_ ?_))
  · trivial
  refine bcase_intro (fun h1 => ?_) (fun h1 => ?_)
  · have h1 : (chkK x != 0) = true := h1
    have h1 : chkK x ≠ 0 := by simpa using h1
    refine ai (ai (fun _ => (by (repeat' (first | exact rfl | exact trivial | exact (fun _ => rfl) | exact (fun _ _ => rfl) | exact nof | refine ai ?_ ?_)))) ?_) trivial
    refine ai ?_ ?_
    · show false = _
      simp [h1]
    · show chkK x = _
      simp [h1]
  have h1 : (chkK x != 0) = false := h1
  have h1 : chkK x = 0 := by simpa using h1
  refine ei _ (ai check_ok (ei ((x.on.n, q)) (ei [] (ai (ai rfl (ai rfl (ai rfl (ai rfl (ai (fun _ => Or.inl rfl) (ai (by first | exact nof | exact (fun _ => ai rfl rfl)) (by first | exact Or.inl rfl | exact Or.inr rfl))))))) (ai ?_ (ai trivial (ai ?_ ?_)))))))
  · skip
    (repeat' (first | exact rfl | exact trivial | exact (fun _ => rfl) | exact (fun _ _ => rfl) | exact nof | refine ai ?_ ?_))
  · trivial
  refine bcase_intro (fun h2 => ?_) (fun h2 => ?_)
  · have h2 : (chkC x.on.n q != 0) = true := h2
    have h2 : chkC x.on.n q ≠ 0 := by simpa using h2
    refine ai (ai (fun _ => (by (repeat' (first | exact rfl | exact trivial | exact (fun _ => rfl) | exact (fun _ _ => rfl) | exact nof | refine ai ?_ ?_)))) ?_) trivial
    refine ai ?_ ?_
    · show false = _
      simp [h1, h2]
    · show chkC x.on.n q = _
      simp [h1]
  have h2 : (chkC x.on.n q != 0) = false := h2
  have h2 : chkC x.on.n q = 0 := by simpa using h2
  obtain ⟨k, hk, hn, _⟩ := chkT_zero (chkK_zero h1).1
  refine ei _ (ai implies_ok (ei ((k, x, q)) (ei [] (ai (ai rfl (ai rfl (ai rfl (ai rfl (ai (fun _ => Or.inl rfl) (ai (by first | exact nof | exact (fun _ => ai rfl rfl)) (by first | exact Or.inl rfl | exact Or.inr rfl))))))) (ai ?_ (ai trivial (ai ?_ ?_)))))))
  · skip
    (repeat' (first | exact rfl | exact trivial | exact (fun _ => rfl) | exact (fun _ _ => rfl) | exact nof | refine ai ?_ ?_))
  · exact ⟨hk, hn⟩
  refine ai (ai (fun _ => (by (repeat' (first | exact rfl | exact trivial | exact (fun _ => rfl) | exact (fun _ _ => rfl) | exact nof | refine ai ?_ ?_)))) ?_) trivial
  refine ai ?_ ?_
  · show impliesU k x q = _
    have : x.on.n.toNat = k := by omega
    simp [h1, h2, this]
  · show (0 : Int) = _
    simp [h1, h2]

end Go.Sx.Pn

namespace Go.Sx.Pn
open Go Go.Proofs

def cV (c : Cu) : Value := .agg #[.int .u64 c.care.toNat, .int .u64 c.value.toNat]
def uN (i : Nat) : U := BitVec.ofNat 64 i
/-- the cube of a care and a value, if it is one -/
def cubeAt (i j : Nat) : Option Cu := if uN j &&& ~~~ uN i = 0#64 then some ⟨uN i, uN j⟩ else none
def cubeRow (m i : Nat) : List Cu := (List.range m).filterMap (cubeAt i)
def cubesTo (n i : Nat) : List Cu := (List.range i).flatMap (cubeRow (2 ^ n))
/-- all cubes of n variables -/
def cubesL (n : Nat) : List Cu := cubesTo n (2 ^ n)

theorem cubesTo_succ (n i : Nat) : cubesTo n (i + 1) = cubesTo n i ++ cubeRow (2 ^ n) i := by
  simp [cubesTo, List.range_succ]
theorem cubeRow_succ (m i : Nat) : cubeRow (m + 1) i = cubeRow m i ++ (cubeAt i m).toList := by
  unfold cubeRow
  rw [List.range_succ, List.filterMap_append]
  cases h : cubeAt i m <;> simp [List.filterMap_cons, h]
theorem cubesTo_pre (n : Nat) : ∀ {i j : Nat}, i ≤ j → ∃ r, cubesTo n j = cubesTo n i ++ r := by
  intro i j h
  induction h with
  | refl => exact ⟨[], by simp⟩
  | @step j _ ih =>
    obtain ⟨r, hr⟩ := ih
    exact ⟨r ++ cubeRow (2 ^ n) j, by rw [cubesTo_succ, hr]; simp⟩
theorem cubeRow_pre (i : Nat) : ∀ {m k : Nat}, m ≤ k → ∃ r, cubeRow k i = cubeRow m i ++ r := by
  intro m k h
  induction h with
  | refl => exact ⟨[], by simp⟩
  | @step k _ ih =>
    obtain ⟨r, hr⟩ := ih
    exact ⟨r ++ (cubeAt i k).toList, by rw [cubeRow_succ, hr]; simp⟩
theorem cubes_at {n i j : Nat} (hi : i < 2 ^ n) (hj : j < 2 ^ n) {c : Cu} (hc : cubeAt i j = some c) : (cubesL n)[(cubesTo n i).length + (cubeRow j i).length]? = some c := by
  obtain ⟨r, hr⟩ := cubesTo_pre n (show i + 1 ≤ 2 ^ n by omega)
  obtain ⟨q, hq⟩ := cubeRow_pre i (show j + 1 ≤ 2 ^ n by omega)
  unfold cubesL
  rw [hr, cubesTo_succ, hq, cubeRow_succ, hc]
  simp

theorem uN_succ (i : Nat) : IntKind.u64.wrap (((uN i).toNat : Int) + 1) = ((uN (i + 1)).toNat : Int) := by
  try simp only [zz, reduceCtorEq]
  congr 2
  simp [uN, BitVec.ofNat_add]
theorem uN_small {i : Nat} (h : i ≤ 64) : ((uN i).toNat : Int) = i := by
  simp [uN]; omega
theorem allU_bound {n : Nat} (h : n ≤ 6) : IntKind.u64.wrap (((allU n).toNat : Int) + 1) = ((2 ^ n : Nat) : Int) := by
  obtain rfl | rfl | rfl | rfl | rfl | rfl | rfl : n = 0 ∨ n = 1 ∨ n = 2 ∨ n = 3 ∨ n = 4 ∨ n = 5 ∨ n = 6 := by omega
  all_goals rfl

def cubesIt : SeqSpec := { A := Nat, capt := fun n => [.pt [iP n] 0], pre := fun n => n ≤ 6, xs := fun n => (cubesL n).map fun c => [cV c] }

theorem cubesIt_ok : SeqOk Tryz.prog 126 cubesIt := by
  refine seqOk (Tb := tab) mixed tab_ok Tryz.func126 rfl rfl ?_
  rintro (n : Nat) hpre
  refine ai (ai rfl ?_) ?_
  · intro x hx v hv
    obtain ⟨c, _, rfl⟩ := List.mem_map.1 hx
    simp only [List.mem_singleton] at hv
    subst hv; rfl
  have hn : n ≤ 6 := hpre
  have h64 := pow_le64 hn
  intro l
  refine ei _ (ai all_ok (ei (n) (ei [] (ai (ai rfl (ai rfl (ai rfl (ai rfl (ai (fun _ => Or.inl rfl) (ai (by first | exact nof | exact (fun _ => ai rfl rfl)) (by first | exact Or.inl rfl | exact Or.inr rfl))))))) (ai ?_ (ai trivial (ai ?_ ?_)))))))
  · skip
    (repeat' (first | exact rfl | exact trivial | exact (fun _ => rfl) | exact (fun _ _ => rfl) | exact nof | refine ai ?_ ?_))
  · trivial
  refine ei (LAnn.inv { X := Nat, up := fun i => [(8, .s (uA (uN i)))], uo := fun _ => [], inv := fun i => i ≤ 2 ^ n, meas := fun i => 2 ^ n - i, x0 := 0, cnt := fun i => some (cubesTo n i).length }) ?_
  refine ai (ai (ai (by (repeat' (first | exact rfl | exact trivial | exact (fun _ => rfl) | exact (fun _ _ => rfl) | exact nof | refine ai ?_ ?_))) (by (repeat' (first | exact rfl | exact trivial | exact (fun _ => rfl) | exact (fun _ _ => rfl) | exact nof | refine ai ?_ ?_)))) rfl) (ai ?_ ?_)
  · exact Nat.zero_le _
  intro (i : Nat) (hi : i ≤ 2 ^ n)
  refine bcase_intro (fun h1 => ?_) (fun h1 => ?_)
  · have h1 : ((uN i).toNat : Int) < IntKind.u64.wrap (((allU n).toNat : Int) + 1) := of_decide_eq_true h1
    rw [allU_bound hn, uN_small (by omega)] at h1
    have hi2 : i < 2 ^ n := by omega
    refine ei _ (ai all_ok (ei (n) (ei [] (ai (ai rfl (ai rfl (ai rfl (ai rfl (ai (fun _ => Or.inl rfl) (ai (by first | exact nof | exact (fun _ => ai rfl rfl)) (by first | exact Or.inl rfl | exact Or.inr rfl))))))) (ai ?_ (ai trivial (ai ?_ ?_)))))))
    · skip
      (repeat' (first | exact rfl | exact trivial | exact (fun _ => rfl) | exact (fun _ _ => rfl) | exact nof | refine ai ?_ ?_))
    · trivial
    refine ei (LAnn.inv { X := Nat, up := fun j => [(14, .s (uA (uN j)))], uo := fun _ => [], inv := fun j => j ≤ 2 ^ n, meas := fun j => 2 ^ n - j, x0 := 0, cnt := fun j => some ((cubesTo n i).length + (cubeRow j i).length) }) ?_
    refine ai (ai (ai (by (repeat' (first | exact rfl | exact trivial | exact (fun _ => rfl) | exact (fun _ _ => rfl) | exact nof | refine ai ?_ ?_))) (by (repeat' (first | exact rfl | exact trivial | exact (fun _ => rfl) | exact (fun _ _ => rfl) | exact nof | refine ai ?_ ?_)))) rfl) (ai ?_ ?_)
    · exact Nat.zero_le _
    intro (j : Nat) (hj : j ≤ 2 ^ n)
    refine bcase_intro (fun h2 => ?_) (fun h2 => ?_)
    · have h2 : ((uN j).toNat : Int) < IntKind.u64.wrap (((allU n).toNat : Int) + 1) := of_decide_eq_true h2
      rw [allU_bound hn, uN_small (by omega)] at h2
      have hj2 : j < 2 ^ n := by omega
      refine bcase_intro (fun h3 => ?_) (fun h3 => ?_)
      · have h3 : (bits .andNot .u64 (uN j).toNat (uN i).toNat == 0) = true := h3
        try simp only [zz, reduceCtorEq] at h3
        have hc : cubeAt i j = some ⟨uN i, uN j⟩ := by simp [cubeAt, h3]
        refine ai rfl (ei [cV ⟨uN i, uN j⟩] (ai ?_ (ai ?_ (ai ?_ ?_))))
        · show ((cubesL n).map fun c => [cV c])[_]? = _
          rw [List.getElem?_map, cubes_at hi2 hj2 hc]; rfl
        · skip
          (repeat' (first | exact rfl | exact trivial | exact (fun _ => rfl) | exact (fun _ _ => rfl) | exact nof | refine ai ?_ ?_))
        · skip
          refine ei (j + 1) (ai (ai rfl rfl) (ai (ai ?_ ?_) (ai ?_ ?_)))
          · skip
            (repeat' (first | exact rfl | exact trivial | exact (fun _ => rfl) | exact (fun _ _ => rfl) | exact nof | refine ai ?_ ?_))
            exact uN_succ j
          · show some ((cubesTo n i).length + (cubeRow j i).length + 1) = some ((cubesTo n i).length + (cubeRow (j + 1) i).length)
            rw [cubeRow_succ, hc]; simp; omega
          · show j + 1 ≤ 2 ^ n; omega
          · show 2 ^ n - (j + 1) < 2 ^ n - j; omega
        · exact ai trivial trivial
      · have h3 : (bits .andNot .u64 (uN j).toNat (uN i).toNat == 0) = false := h3
        try simp only [zz, reduceCtorEq] at h3
        have hc : cubeAt i j = none := by simp [cubeAt, h3]
        refine ei (j + 1) (ai (ai rfl rfl) (ai (ai ?_ ?_) (ai ?_ ?_)))
        · skip
          (repeat' (first | exact rfl | exact trivial | exact (fun _ => rfl) | exact (fun _ _ => rfl) | exact nof | refine ai ?_ ?_))
          exact uN_succ j
        · show some ((cubesTo n i).length + (cubeRow j i).length) = some ((cubesTo n i).length + (cubeRow (j + 1) i).length)
          rw [cubeRow_succ, hc]; simp
        · show j + 1 ≤ 2 ^ n; omega
        · show 2 ^ n - (j + 1) < 2 ^ n - j; omega
    · have h2 : ¬ ((uN j).toNat : Int) < IntKind.u64.wrap (((allU n).toNat : Int) + 1) := of_decide_eq_false h2
      rw [allU_bound hn, uN_small (by omega)] at h2
      have hj2 : j = 2 ^ n := by omega
      subst hj2
      refine ei (i + 1) (ai (ai rfl rfl) (ai (ai ?_ ?_) (ai ?_ ?_)))
      · skip
        (repeat' (first | exact rfl | exact trivial | exact (fun _ => rfl) | exact (fun _ _ => rfl) | exact nof | refine ai ?_ ?_))
        exact uN_succ i
      · show some ((cubesTo n i).length + (cubeRow (2 ^ n) i).length) = some (cubesTo n (i + 1)).length
        rw [cubesTo_succ]; simp
      · show i + 1 ≤ 2 ^ n; omega
      · show 2 ^ n - (i + 1) < 2 ^ n - i; omega
  · have h1 : ¬ ((uN i).toNat : Int) < IntKind.u64.wrap (((allU n).toNat : Int) + 1) := of_decide_eq_false h1
    rw [allU_bound hn, uN_small (by omega)] at h1
    have hi2 : i = 2 ^ n := by omega
    subst hi2
    refine ai trivial ?_
    show (cubesTo n (2 ^ n)).length = ((cubesL n).map fun c => [cV c]).length
    simp [cubesL]

end Go.Sx.Pn

namespace Go.Sx.Pn
open Go Go.Proofs

def isNaNuS : Spec := fnS (fun x : U => [uA x]) (fun _ => True) (fun _ => bP false)
theorem isNaNu_ok : FnOk Tryz.prog 128 isNaNuS := by
  refine fnOk (Tb := tab) mixed tab_ok Tryz.func128 rfl rfl ?_
  rintro (x : U) hpre
  refine ai (ai rfl (ai rfl rfl)) ?_
  refine ai (ai (fun _ => (by (repeat' (first | exact rfl | exact trivial | exact (fun _ => rfl) | exact (fun _ _ => rfl) | exact nof | refine ai ?_ ?_)))) ?_) trivial
  show ((x.toNat : Int) != x.toNat) = false
  simp

def cmpU (a b : U) : Int := if a < b then -1 else if b < a then 1 else 0
def cmpUS : Spec := fnS (fun x : U × U => [uA x.1, uA x.2]) (fun _ => True) (fun x => iP (cmpU x.1 x.2))
theorem cmpU_ok : FnOk Tryz.prog 121 cmpUS := by
  refine fnOk (Tb := tab) mixed tab_ok Tryz.func121 rfl rfl ?_
  rintro ⟨a, b⟩ hpre
  refine ai (ai rfl (ai rfl rfl)) ?_
  refine ei _ (ai isNaNu_ok (ei (a) (ei [] (ai (ai rfl (ai rfl (ai rfl (ai rfl (ai (fun _ => Or.inl rfl) (ai (by first | exact nof | exact (fun _ => ai rfl rfl)) (by first | exact Or.inl rfl | exact Or.inr rfl))))))) (ai ?_ (ai trivial (ai ?_ ?_)))))))
  · skip
    (repeat' (first | exact rfl | exact trivial | exact (fun _ => rfl) | exact (fun _ _ => rfl) | exact nof | refine ai ?_ ?_))
  · trivial
  refine ei _ (ai isNaNu_ok (ei (b) (ei [] (ai (ai rfl (ai rfl (ai rfl (ai rfl (ai (fun _ => Or.inl rfl) (ai (by first | exact nof | exact (fun _ => ai rfl rfl)) (by first | exact Or.inl rfl | exact Or.inr rfl))))))) (ai ?_ (ai trivial (ai ?_ ?_)))))))
  · skip
    (repeat' (first | exact rfl | exact trivial | exact (fun _ => rfl) | exact (fun _ _ => rfl) | exact nof | refine ai ?_ ?_))
  · trivial
  refine bcase_intro (fun h1 => ?_) (fun h1 => ?_)
  · skip
    refine ai (ai (fun _ => (by (repeat' (first | exact rfl | exact trivial | exact (fun _ => rfl) | exact (fun _ _ => rfl) | exact nof | refine ai ?_ ?_)))) ?_) trivial
    show (-1 : Int) = cmpU a b
    have h1 : decide ((a.toNat : Int) < b.toNat) = true := h1
    try simp only [zz, reduceCtorEq] at h1
    simp [cmpU, h1]
  have h1 : decide ((a.toNat : Int) < b.toNat) = false := h1
  try simp only [zz, reduceCtorEq] at h1
  refine bcase_intro (fun h2 => ?_) (fun h2 => ?_)
  · skip
    refine ai (ai (fun _ => (by (repeat' (first | exact rfl | exact trivial | exact (fun _ => rfl) | exact (fun _ _ => rfl) | exact nof | refine ai ?_ ?_)))) ?_) trivial
    show (1 : Int) = cmpU a b
    have h2 : decide ((b.toNat : Int) < a.toNat) = true := h2
    try simp only [zz, reduceCtorEq] at h2
    simp [cmpU, h1, h2]
  have h2 : decide ((b.toNat : Int) < a.toNat) = false := h2
  try simp only [zz, reduceCtorEq] at h2
  refine ai (ai (fun _ => (by (repeat' (first | exact rfl | exact trivial | exact (fun _ => rfl) | exact (fun _ _ => rfl) | exact nof | refine ai ?_ ?_)))) ?_) trivial
  show (0 : Int) = cmpU a b
  simp [cmpU, h1, h2]

def orS : Spec := fnS (fun x : Int × Int => [.p false (.seq 2 fun i => [iP (([x.1, x.2] : List Int).getD i 0)])]) (fun _ => True) (fun x => iP (if x.1 = 0 then x.2 else x.1))
theorem or_ok : FnOk Tryz.prog 101 orS := by
  refine fnOk (Tb := tab) mixed tab_ok Tryz.func101 rfl rfl ?_
  rintro ⟨a, b⟩ hpre
  refine ai (ai rfl (ai rfl rfl)) ?_
  refine ei (LAnn.unroll 3) ?_
  refine ai (ai (by decide) (by decide)) ?_
  refine ai rfl ?_
  refine bcase_intro (fun h1 => ?_) (fun h1 => ?_)
  · skip
    refine ai (ai (fun _ => (by (repeat' (first | exact rfl | exact trivial | exact (fun _ => rfl) | exact (fun _ _ => rfl) | exact nof | refine ai ?_ ?_)))) ?_) trivial
    show a = if a = 0 then b else a
    have h1 : (a != 0) = true := h1
    have h1 : a ≠ 0 := by simpa using h1
    simp [h1]
  have h1 : (a != 0) = false := h1
  have h1 : a = 0 := by simpa using h1
  refine ai (ai (by decide) (by decide)) ?_
  refine ai rfl ?_
  refine bcase_intro (fun h2 => ?_) (fun h2 => ?_)
  · skip
    refine ai (ai (fun _ => (by (repeat' (first | exact rfl | exact trivial | exact (fun _ => rfl) | exact (fun _ _ => rfl) | exact nof | refine ai ?_ ?_)))) ?_) trivial
    show b = if a = 0 then b else a
    simp [h1]
  have h2 : (b != 0) = false := h2
  have h2 : b = 0 := by simpa using h2
  refine ai (ai (fun _ => (by (repeat' (first | exact rfl | exact trivial | exact (fun _ => rfl) | exact (fun _ _ => rfl) | exact nof | refine ai ?_ ?_)))) ?_) trivial
  show (0 : Int) = if a = 0 then b else a
  simp [h1, h2]

def cmpC (a b : Cu) : Int := if cmpU a.care b.care = 0 then cmpU a.value b.value else cmpU a.care b.care
def cmpCS : Spec := fnS (fun x : Cu × Cu => [cA x.1, cA x.2]) (fun _ => True) (fun x => iP (cmpC x.1 x.2))
theorem cmpC_ok : FnOk Tryz.prog 120 cmpCS := by
  refine fnOk (Tb := tab) mixed tab_ok Tryz.func120 rfl rfl ?_
  rintro ⟨a, b⟩ hpre
  refine ai (ai rfl (ai rfl rfl)) ?_
  refine ei (.seq [0, 1, 2, 3, 5, 6, 7, 8, 4, 9, 10, 11, 12]) (ai (by kernel_rfl) ?_)
  refine ei _ (ai cmpU_ok (ei ((a.care, b.care)) (ei [] (ai (ai rfl (ai rfl (ai rfl (ai rfl (ai (fun _ => Or.inl rfl) (ai (by first | exact nof | exact (fun _ => ai rfl rfl)) (by first | exact Or.inl rfl | exact Or.inr rfl))))))) (ai ?_ (ai trivial (ai ?_ ?_)))))))
  · skip
    (repeat' (first | exact rfl | exact trivial | exact (fun _ => rfl) | exact (fun _ _ => rfl) | exact nof | refine ai ?_ ?_))
  · trivial
  refine ei _ (ai cmpU_ok (ei ((a.value, b.value)) (ei [] (ai (ai rfl (ai rfl (ai rfl (ai rfl (ai (fun _ => Or.inl rfl) (ai (by first | exact nof | exact (fun _ => ai rfl rfl)) (by first | exact Or.inl rfl | exact Or.inr rfl))))))) (ai ?_ (ai trivial (ai ?_ ?_)))))))
  · skip
    (repeat' (first | exact rfl | exact trivial | exact (fun _ => rfl) | exact (fun _ _ => rfl) | exact nof | refine ai ?_ ?_))
  · trivial
  refine ei _ (ai or_ok (ei ((cmpU a.care b.care, cmpU a.value b.value)) (ei [] (ai (ai rfl (ai rfl (ai rfl (ai rfl (ai (fun _ => Or.inl rfl) (ai (by first | exact nof | exact (fun _ => ai rfl rfl)) (by first | exact Or.inl rfl | exact Or.inr rfl))))))) (ai ?_ (ai trivial (ai ?_ ?_)))))))
  · skip
    (repeat' (first | exact rfl | exact trivial | exact (fun _ => rfl) | exact (fun _ _ => rfl) | exact nof | refine ai ?_ ?_))
    intro k hk
    obtain rfl | rfl : k = 0 ∨ k = 1 := by have : k < 2 := hk; omega
    · rfl
    · rfl
  · trivial
  refine ai (ai (fun _ => (by (repeat' (first | exact rfl | exact trivial | exact (fun _ => rfl) | exact (fun _ _ => rfl) | exact nof | refine ai ?_ ?_)))) ?_) trivial
  rfl

/-- the comparison never says that a later cube comes first -/
def Asc (l : List Cu) : Prop := ∀ (i j : Nat) (a b : Cu), i < j → l[i]? = some a → l[j]? = some b → cmpC a b < 0
theorem cmpU_swap (a b : U) : cmpU b a = - cmpU a b := by
  unfold cmpU
  by_cases h : a < b
  · have : ¬ b < a := by simp only [BitVec.lt_def] at *; omega
    simp [h, this]
  · by_cases h' : b < a <;> simp [h, h']
theorem cmpC_swap (a b : Cu) : cmpC b a = - cmpC a b := by
  unfold cmpC
  rw [cmpU_swap a.care b.care, cmpU_swap a.value b.value]
  by_cases h : cmpU a.care b.care = 0 <;> simp [h]

end Go.Sx.Pn

namespace Go.Sx.Pn
open Go Go.Proofs

theorem getD_some {l : List Cu} {i : Nat} (h : i < l.length) : l[i]? = some (l.getD i ⟨0, 0⟩) := by
  rw [List.getD_eq_getElem?_getD, List.getElem?_eq_getElem h]; rfl

def insS : Spec := fnS (fun x : List Cu × Nat × Nat => [csA x.1, iA x.2.1, iA x.2.2, .fn 120 []]) (fun x => Asc x.1 ∧ x.2.1 ≤ x.2.2 ∧ x.2.2 ≤ x.1.length ∧ x.1.length ≤ 1000) (fun _ => .tup [])
theorem ins_ok : FnOk Tryz.prog 140 insS := by
  refine fnOk (Tb := tab) mixed tab_ok Tryz.func140 rfl rfl ?_
  rintro ⟨l, a, b⟩ hpre
  refine ai (ai rfl (ai rfl rfl)) ?_
  obtain ⟨hasc, hab, hbl, hl⟩ : Asc l ∧ a ≤ b ∧ b ≤ l.length ∧ l.length ≤ 1000 := hpre
  refine ei (LAnn.inv { X := Nat, up := fun i => [(8, .s (iA i))], uo := fun _ => [], inv := fun i => a < i ∧ i ≤ l.length + 1, meas := fun i => l.length + 1 - i, x0 := a + 1 }) ?_
  refine ai (ai (ai (by (repeat' (first | exact rfl | exact trivial | exact (fun _ => rfl) | exact (fun _ _ => rfl) | exact nof | refine ai ?_ ?_))) (ai ?_ ?_)) ?_) (ai ?_ ?_)
  · skip
    (repeat' (first | exact rfl | exact trivial | exact (fun _ => rfl) | exact (fun _ _ => rfl) | exact nof | refine ai ?_ ?_))
    show IntKind.i64.wrap ((a : Int) + 1) = ((a + 1 : Nat) : Int)
    rw [wrap_i _ (by omega) (by omega)]; rfl
  · exact trivial
  · rfl
  · exact ⟨by show a < a + 1; omega, by show a + 1 ≤ l.length + 1; omega⟩
  intro (i : Nat) ⟨(hi : a < i), (hi2 : i ≤ l.length + 1)⟩
  refine bcase_intro (fun h1 => ?_) (fun h1 => ?_)
  · have h1 : (i : Int) < (b : Int) := of_decide_eq_true h1
    have hsub : IntKind.i64.wrap ((i : Int) - 1) = ((i - 1 : Nat) : Int) := by rw [wrap_i _ (by omega) (by omega)]; omega
    refine ei (LAnn.unroll 1) ?_
    refine ei (.seq [0, 1, 2, 3, 4, 5, 6, 7, 8, 9, 10, 11, 12, 13, 14, 15, 16]) (ai (by kernel_rfl) ?_)
    refine bcase_intro (fun h2 => ?_) (fun h2 => ?_)
    · refine ai (ai (Int.natCast_nonneg _) (by show (i : Int) < (l.length : Int); omega)) ?_
      refine ai rfl ?_
      refine ai (ai (by show (0 : Int) ≤ IntKind.i64.wrap ((i : Int) - 1); rw [hsub]; omega) (by show IntKind.i64.wrap ((i : Int) - 1) < (l.length : Int); rw [hsub]; omega)) ?_
      refine ai rfl ?_
      refine ei _ (ai cmpC_ok (ei ((l.getD i ⟨0, 0⟩, l.getD (IntKind.i64.wrap ((i : Int) - 1)).toNat ⟨0, 0⟩)) (ei [] (ai (ai rfl (ai rfl (ai rfl (ai rfl (ai (fun _ => Or.inl rfl) (ai (by first | exact nof | exact (fun _ => ai rfl rfl)) (by first | exact Or.inl rfl | exact Or.inr rfl))))))) (ai ?_ (ai trivial (ai ?_ ?_)))))))
      · skip
        (repeat' (first | exact rfl | exact trivial | exact (fun _ => rfl) | exact (fun _ _ => rfl) | exact nof | refine ai ?_ ?_))
      · trivial
      refine bcase_intro (fun h3 => ?_) (fun h3 => ?_)
      · exfalso
        have h3 : cmpC (l.getD i ⟨0, 0⟩) (l.getD (IntKind.i64.wrap ((i : Int) - 1)).toNat ⟨0, 0⟩) < 0 := of_decide_eq_true h3
        rw [hsub, Int.toNat_natCast, cmpC_swap] at h3
        have := hasc (i - 1) i _ _ (by omega) (getD_some (by omega)) (getD_some (by omega))
        omega
      · skip
        refine ei (i + 1) (ai (ai rfl rfl) (ai (ai ?_ rfl) (ai ?_ ?_)))
        · skip
          (repeat' (first | exact rfl | exact trivial | exact (fun _ => rfl) | exact (fun _ _ => rfl) | exact nof | refine ai ?_ ?_))
          show IntKind.i64.wrap ((i : Int) + 1) = ((i + 1 : Nat) : Int)
          rw [wrap_i _ (by omega) (by omega)]; rfl
        · exact ⟨by show a < i + 1; omega, by show i + 1 ≤ l.length + 1; omega⟩
        · show l.length + 1 - (i + 1) < l.length + 1 - i; omega
    · exfalso
      have h2 : ¬ (a : Int) < (i : Int) := of_decide_eq_false h2
      omega
  · skip
    refine ai (ai (fun _ => (by (repeat' (first | exact rfl | exact trivial | exact (fun _ => rfl) | exact (fun _ _ => rfl) | exact nof | refine ai ?_ ?_)))) ?_) trivial
    exact trivial

end Go.Sx.Pn

namespace Go.Sx.Pn
open Go Go.Proofs

theorem asc_not {l : List Cu} (h : Asc l) {i j : Nat} (hij : i ≤ j) (hj : j < l.length) : ¬ cmpC (l.getD j ⟨0, 0⟩) (l.getD i ⟨0, 0⟩) < 0 := by
  by_cases e : i = j
  · subst e
    have := cmpC_swap (l.getD i ⟨0, 0⟩) (l.getD i ⟨0, 0⟩)
    omega
  · have := h i j _ _ (by omega) (getD_some (by omega)) (getD_some hj)
    rw [cmpC_swap]; omega

def order2S : Spec := fnS (fun x : List Cu × Nat × Nat => [csA x.1, iA x.2.1, iA x.2.2, .any, .fn 120 []]) (fun x => Asc x.1 ∧ x.2.1 ≤ x.2.2 ∧ x.2.2 < x.1.length ∧ x.1.length ≤ 1000) (fun x => .tup [iP x.2.1, iP x.2.2])
theorem order2_ok : FnOk Tryz.prog 157 order2S := by
  refine fnOk (Tb := tab) mixed tab_ok Tryz.func157 rfl rfl ?_
  rintro ⟨l, a, b⟩ hpre
  refine ai (ai rfl (ai rfl rfl)) ?_
  obtain ⟨hasc, hab, hbl, hl⟩ : Asc l ∧ a ≤ b ∧ b < l.length ∧ l.length ≤ 1000 := hpre
  refine ei (.seq [0, 1, 2, 3, 4, 5, 6, 7, 8, 9, 10]) (ai (by kernel_rfl) ?_)
  refine ai (ai (Int.natCast_nonneg _) (by show (b : Int) < (l.length : Int); omega)) ?_
  refine ai rfl ?_
  refine ai (ai (Int.natCast_nonneg _) (by show (a : Int) < (l.length : Int); omega)) ?_
  refine ai rfl ?_
  refine ei _ (ai cmpC_ok (ei ((l.getD b ⟨0, 0⟩, l.getD a ⟨0, 0⟩)) (ei [] (ai (ai rfl (ai rfl (ai rfl (ai rfl (ai (fun _ => Or.inl rfl) (ai (by first | exact nof | exact (fun _ => ai rfl rfl)) (by first | exact Or.inl rfl | exact Or.inr rfl))))))) (ai ?_ (ai trivial (ai ?_ ?_)))))))
  · skip
    (repeat' (first | exact rfl | exact trivial | exact (fun _ => rfl) | exact (fun _ _ => rfl) | exact nof | refine ai ?_ ?_))
  · trivial
  refine bcase_intro (fun h1 => ?_) (fun h1 => ?_)
  · exact absurd (of_decide_eq_true h1) (asc_not hasc hab hbl)
  refine ai (ai (fun _ => (by (repeat' (first | exact rfl | exact trivial | exact (fun _ => rfl) | exact (fun _ _ => rfl) | exact nof | refine ai ?_ ?_)))) ?_) trivial
  (repeat' (first | exact rfl | exact trivial | exact (fun _ => rfl) | exact (fun _ _ => rfl) | exact nof | refine ai ?_ ?_))

def medianS : Spec := fnS (fun x : List Cu × Nat × Nat × Nat => [csA x.1, iA x.2.1, iA x.2.2.1, iA x.2.2.2, .any, .fn 120 []]) (fun x => Asc x.1 ∧ x.2.1 ≤ x.2.2.1 ∧ x.2.2.1 ≤ x.2.2.2 ∧ x.2.2.2 < x.1.length ∧ x.1.length ≤ 1000) (fun x => iP x.2.2.1)
theorem median_ok : FnOk Tryz.prog 155 medianS := by
  refine fnOk (Tb := tab) mixed tab_ok Tryz.func155 rfl rfl ?_
  rintro ⟨l, a, b, c⟩ hpre
  refine ai (ai rfl (ai rfl rfl)) ?_
  obtain ⟨hasc, hab, hbc, hcl, hl⟩ : Asc l ∧ a ≤ b ∧ b ≤ c ∧ c < l.length ∧ l.length ≤ 1000 := hpre
  refine ei _ (ai order2_ok (ei ((l, a, b)) (ei [] (ai (ai rfl (ai rfl (ai rfl (ai rfl (ai (fun _ => Or.inl rfl) (ai (by first | exact nof | exact (fun _ => ai rfl rfl)) (by first | exact Or.inl rfl | exact Or.inr rfl))))))) (ai ?_ (ai trivial (ai ?_ ?_)))))))
  · skip
    (repeat' (first | exact rfl | exact trivial | exact (fun _ => rfl) | exact (fun _ _ => rfl) | exact nof | refine ai ?_ ?_))
  · exact ⟨hasc, hab, by show b < l.length; omega, hl⟩
  refine ei _ (ai order2_ok (ei ((l, b, c)) (ei [] (ai (ai rfl (ai rfl (ai rfl (ai rfl (ai (fun _ => Or.inl rfl) (ai (by first | exact nof | exact (fun _ => ai rfl rfl)) (by first | exact Or.inl rfl | exact Or.inr rfl))))))) (ai ?_ (ai trivial (ai ?_ ?_)))))))
  · skip
    (repeat' (first | exact rfl | exact trivial | exact (fun _ => rfl) | exact (fun _ _ => rfl) | exact nof | refine ai ?_ ?_))
  · exact ⟨hasc, hbc, hcl, hl⟩
  refine ei _ (ai order2_ok (ei ((l, a, b)) (ei [] (ai (ai rfl (ai rfl (ai rfl (ai rfl (ai (fun _ => Or.inl rfl) (ai (by first | exact nof | exact (fun _ => ai rfl rfl)) (by first | exact Or.inl rfl | exact Or.inr rfl))))))) (ai ?_ (ai trivial (ai ?_ ?_)))))))
  · skip
    (repeat' (first | exact rfl | exact trivial | exact (fun _ => rfl) | exact (fun _ _ => rfl) | exact nof | refine ai ?_ ?_))
  · exact ⟨hasc, hab, by show b < l.length; omega, hl⟩
  refine ai (ai (fun _ => (by (repeat' (first | exact rfl | exact trivial | exact (fun _ => rfl) | exact (fun _ _ => rfl) | exact nof | refine ai ?_ ?_)))) ?_) trivial
  rfl

def medAdjS : Spec := fnS (fun x : List Cu × Nat => [csA x.1, iA x.2, .any, .fn 120 []]) (fun x => Asc x.1 ∧ 1 ≤ x.2 ∧ x.2 + 1 < x.1.length ∧ x.1.length ≤ 1000) (fun x => iP x.2)
theorem medAdj_ok : FnOk Tryz.prog 154 medAdjS := by
  refine fnOk (Tb := tab) mixed tab_ok Tryz.func154 rfl rfl ?_
  rintro ⟨l, a⟩ hpre
  refine ai (ai rfl (ai rfl rfl)) ?_
  obtain ⟨hasc, h1, hal, hl⟩ : Asc l ∧ 1 ≤ a ∧ a + 1 < l.length ∧ l.length ≤ 1000 := hpre
  refine ei _ (ai median_ok (ei ((l, a - 1, a, a + 1)) (ei [] (ai (ai rfl (ai rfl (ai rfl (ai rfl (ai (fun _ => Or.inl rfl) (ai (by first | exact nof | exact (fun _ => ai rfl rfl)) (by first | exact Or.inl rfl | exact Or.inr rfl))))))) (ai ?_ (ai trivial (ai ?_ ?_)))))))
  · skip
    (repeat' (first | exact rfl | exact trivial | exact (fun _ => rfl) | exact (fun _ _ => rfl) | exact nof | refine ai ?_ ?_))
    · show IntKind.i64.wrap ((a : Int) - 1) = ((a - 1 : Nat) : Int)
      rw [wrap_i _ (by omega) (by omega)]; omega
    · show IntKind.i64.wrap ((a : Int) + 1) = ((a + 1 : Nat) : Int)
      rw [wrap_i _ (by omega) (by omega)]; rfl
  · exact ⟨hasc, by show a - 1 ≤ a; omega, by show a ≤ a + 1; omega, hal, hl⟩
  refine ai (ai (fun _ => (by (repeat' (first | exact rfl | exact trivial | exact (fun _ => rfl) | exact (fun _ _ => rfl) | exact nof | refine ai ?_ ?_)))) ?_) trivial
  rfl

def partialS : Spec := fnS (fun x : List Cu × Nat × Nat => [csA x.1, iA x.2.1, iA x.2.2, .fn 120 []]) (fun x => Asc x.1 ∧ x.2.1 < x.2.2 ∧ x.2.2 ≤ x.1.length ∧ x.1.length ≤ 1000) (fun _ => bP true)
theorem partial_ok : FnOk Tryz.prog 145 partialS := by
  refine fnOk (Tb := tab) mixed tab_ok Tryz.func145 rfl rfl ?_
  rintro ⟨l, a, b⟩ hpre
  refine ai (ai rfl (ai rfl rfl)) ?_
  obtain ⟨hasc, hab, hbl, hl⟩ : Asc l ∧ a < b ∧ b ≤ l.length ∧ l.length ≤ 1000 := hpre
  refine ei (LAnn.unroll 1) ?_
  refine ei (LAnn.inv { X := Nat, up := fun i => [(9, .s (iA i))], uo := fun _ => [], inv := fun i => a < i ∧ i ≤ b, meas := fun i => b - i, x0 := a + 1 }) ?_
  refine ai (ai (ai (by (repeat' (first | exact rfl | exact trivial | exact (fun _ => rfl) | exact (fun _ _ => rfl) | exact nof | refine ai ?_ ?_))) (ai ?_ ?_)) ?_) (ai ?_ ?_)
  · skip
    (repeat' (first | exact rfl | exact trivial | exact (fun _ => rfl) | exact (fun _ _ => rfl) | exact nof | refine ai ?_ ?_))
    show IntKind.i64.wrap ((a : Int) + 1) = ((a + 1 : Nat) : Int)
    rw [wrap_i _ (by omega) (by omega)]; rfl
  · exact trivial
  · rfl
  · exact ⟨by show a < a + 1; omega, by show a + 1 ≤ b; omega⟩
  intro (i : Nat) ⟨(hi : a < i), (hi2 : i ≤ b)⟩
  refine ei (.seq [0, 1, 2, 3, 4, 5, 6, 7, 8, 9, 10, 11, 12, 13, 14, 15, 16, 17]) (ai (by kernel_rfl) ?_)
  refine bcase_intro (fun h1 => ?_) (fun h1 => ?_)
  · have h1 : (i : Int) < (b : Int) := of_decide_eq_true h1
    have hsub : IntKind.i64.wrap ((i : Int) - 1) = ((i - 1 : Nat) : Int) := by rw [wrap_i _ (by omega) (by omega)]; omega
    refine ai (ai (Int.natCast_nonneg _) (by show (i : Int) < (l.length : Int); omega)) ?_
    refine ai rfl ?_
    refine ai (ai (by show (0 : Int) ≤ IntKind.i64.wrap ((i : Int) - 1); rw [hsub]; omega) (by show IntKind.i64.wrap ((i : Int) - 1) < (l.length : Int); rw [hsub]; omega)) ?_
    refine ai rfl ?_
    refine ei _ (ai cmpC_ok (ei ((l.getD i ⟨0, 0⟩, l.getD (IntKind.i64.wrap ((i : Int) - 1)).toNat ⟨0, 0⟩)) (ei [] (ai (ai rfl (ai rfl (ai rfl (ai rfl (ai (fun _ => Or.inl rfl) (ai (by first | exact nof | exact (fun _ => ai rfl rfl)) (by first | exact Or.inl rfl | exact Or.inr rfl))))))) (ai ?_ (ai trivial (ai ?_ ?_)))))))
    · skip
      (repeat' (first | exact rfl | exact trivial | exact (fun _ => rfl) | exact (fun _ _ => rfl) | exact nof | refine ai ?_ ?_))
    · trivial
    refine bcase_intro (fun h3 => ?_) (fun h3 => ?_)
    · skip
      refine ei (i + 1) (ai (ai rfl rfl) (ai (ai ?_ rfl) (ai ?_ ?_)))
      · skip
        (repeat' (first | exact rfl | exact trivial | exact (fun _ => rfl) | exact (fun _ _ => rfl) | exact nof | refine ai ?_ ?_))
        show IntKind.i64.wrap ((i : Int) + 1) = ((i + 1 : Nat) : Int)
        rw [wrap_i _ (by omega) (by omega)]; rfl
      · exact ⟨by show a < i + 1; omega, by show i + 1 ≤ b; omega⟩
      · show b - (i + 1) < b - i; omega
    · exfalso
      have h3 : (!decide (cmpC (l.getD i ⟨0, 0⟩) (l.getD (IntKind.i64.wrap ((i : Int) - 1)).toNat ⟨0, 0⟩) < 0)) = false := h3
      rw [hsub, Int.toNat_natCast] at h3
      have := asc_not hasc (show i - 1 ≤ i by omega) (show i < l.length by omega)
      rw [decide_eq_false this] at h3; cases h3
  · have h1 : ¬ (i : Int) < (b : Int) := of_decide_eq_false h1
    refine bcase_intro (fun h2 => ?_) (fun h2 => ?_)
    · skip
      refine ai (ai (fun _ => (by (repeat' (first | exact rfl | exact trivial | exact (fun _ => rfl) | exact (fun _ _ => rfl) | exact nof | refine ai ?_ ?_)))) ?_) trivial
      rfl
    · exfalso
      have h2 : ((i : Int) == (b : Int)) = false := h2
      have : (i : Int) = b := by omega
      simp [this] at h2

end Go.Sx.Pn

namespace Go.Sx.Pn
open Go Go.Proofs

def lenU (x : U) : Nat := Lib.bitLen x.toNat
def lenS : Spec := fnS (fun x : U => [uA x]) (fun _ => True) (fun x => iP (lenU x))
theorem len_ok : FnOk Tryz.prog 124 lenS :=
  fnOk_pure (α := U) (vals := fun x => [.int .u64 x.toNat]) (ret := fun x => .int .i64 (lenU x)) Tryz.func124 rfl rfl (fun _ _ => rfl) fun x _ w => by
    refine (Tryz.bits_Len (x.toNat : Int) w (Int.natCast_nonneg _) (by have := uLt x; omega)).mono ?_
    rintro e w' ⟨rfl, rfl⟩
    exact ⟨rfl, RowKit.Below.refl _ _⟩

theorem quo4 {n : Nat} (h : n ≤ 1000) : IntKind.i64.wrap ((n : Int).tdiv 4) = ((n / 4 : Nat) : Int) := by
  have e : (n : Int).tdiv 4 = ((n / 4 : Nat) : Int) := by
    rw [Int.tdiv_eq_ediv_of_nonneg (Int.natCast_nonneg _)]; omega
  rw [e, wrap_i _ (by omega) (by omega)]
theorem quoM {n : Nat} (k : Nat) (h : n ≤ 1000) (hk : k ≤ 3) : IntKind.i64.wrap (0 + IntKind.i64.wrap (IntKind.i64.wrap ((n : Int).tdiv 4) * (k : Int))) = ((n / 4 * k : Nat) : Int) := by
  rw [quo4 h]
  have : n / 4 * k ≤ 1000 * 3 := Nat.mul_le_mul (by omega) hk
  have e : ((n / 4 : Nat) : Int) * (k : Int) = ((n / 4 * k : Nat) : Int) := by simp
  rw [e, wrap_i ((n / 4 * k : Nat) : Int) (by omega) (by omega), Int.zero_add, wrap_i ((n / 4 * k : Nat) : Int) (by omega) (by omega)]

def pivotS : Spec := fnS (fun l : List Cu => [csA l, iA 0, iA l.length, .fn 120 []]) (fun l => Asc l ∧ 12 < l.length ∧ l.length ≤ 1000) (fun l => .tup [iP (l.length / 4 * 2 : Nat), iP 1])
theorem pivot_ok : FnOk Tryz.prog 143 pivotS := by
  refine fnOk (Tb := tab) mixed tab_ok Tryz.func143 rfl rfl ?_
  rintro l hpre
  refine ai (ai rfl (ai rfl rfl)) ?_
  obtain ⟨hasc, h12, hl⟩ : Asc l ∧ 12 < l.length ∧ l.length ≤ 1000 := hpre
  have hsub : IntKind.i64.wrap ((l.length : Int) - 0) = ((l.length : Nat) : Int) := by rw [wrap_i _ (by omega) (by omega)]; omega
  have q1 : IntKind.i64.wrap (0 + IntKind.i64.wrap (IntKind.i64.wrap ((IntKind.i64.wrap ((l.length : Int) - 0)).tdiv 4) * 1)) = ((l.length / 4 * 1 : Nat) : Int) := by rw [hsub]; exact quoM 1 hl (by omega)
  have q2 : IntKind.i64.wrap (0 + IntKind.i64.wrap (IntKind.i64.wrap ((IntKind.i64.wrap ((l.length : Int) - 0)).tdiv 4) * 2)) = ((l.length / 4 * 2 : Nat) : Int) := by rw [hsub]; exact quoM 2 hl (by omega)
  have q3 : IntKind.i64.wrap (0 + IntKind.i64.wrap (IntKind.i64.wrap ((IntKind.i64.wrap ((l.length : Int) - 0)).tdiv 4) * 3)) = ((l.length / 4 * 3 : Nat) : Int) := by rw [hsub]; exact quoM 3 hl (by omega)
  refine ai (by decide) ?_
  refine ai (by decide) ?_
  refine ai (by decide) ?_
  refine bcase_intro (fun h1 => ?_) (fun h1 => ?_)
  · skip
    refine bcase_intro (fun h2 => ?_) (fun h2 => ?_)
    · skip
      refine ei _ (ai medAdj_ok (ei ((l, l.length / 4 * 1)) (ei [] (ai (ai rfl (ai rfl (ai rfl (ai rfl (ai (fun _ => Or.inl rfl) (ai (by first | exact nof | exact (fun _ => ai rfl rfl)) (by first | exact Or.inl rfl | exact Or.inr rfl))))))) (ai ?_ (ai trivial (ai ?_ ?_)))))))
      · skip
        (repeat' (first | exact rfl | exact trivial | exact (fun _ => rfl) | exact (fun _ _ => rfl) | exact nof | refine ai ?_ ?_))
        exact q1
      · exact ⟨hasc, by show 1 ≤ l.length / 4 * 1; omega, by show l.length / 4 * 1 + 1 < l.length; omega, hl⟩
      refine ei _ (ai medAdj_ok (ei ((l, l.length / 4 * 2)) (ei [] (ai (ai rfl (ai rfl (ai rfl (ai rfl (ai (fun _ => Or.inl rfl) (ai (by first | exact nof | exact (fun _ => ai rfl rfl)) (by first | exact Or.inl rfl | exact Or.inr rfl))))))) (ai ?_ (ai trivial (ai ?_ ?_)))))))
      · skip
        (repeat' (first | exact rfl | exact trivial | exact (fun _ => rfl) | exact (fun _ _ => rfl) | exact nof | refine ai ?_ ?_))
        exact q2
      · exact ⟨hasc, by show 1 ≤ l.length / 4 * 2; omega, by show l.length / 4 * 2 + 1 < l.length; omega, hl⟩
      refine ei _ (ai medAdj_ok (ei ((l, l.length / 4 * 3)) (ei [] (ai (ai rfl (ai rfl (ai rfl (ai rfl (ai (fun _ => Or.inl rfl) (ai (by first | exact nof | exact (fun _ => ai rfl rfl)) (by first | exact Or.inl rfl | exact Or.inr rfl))))))) (ai ?_ (ai trivial (ai ?_ ?_)))))))
      · skip
        (repeat' (first | exact rfl | exact trivial | exact (fun _ => rfl) | exact (fun _ _ => rfl) | exact nof | refine ai ?_ ?_))
        exact q3
      · exact ⟨hasc, by show 1 ≤ l.length / 4 * 3; omega, by have h2 := of_decide_eq_true h2; show l.length / 4 * 3 + 1 < l.length; omega, hl⟩
      refine ei _ (ai median_ok (ei ((l, l.length / 4 * 1, l.length / 4 * 2, l.length / 4 * 3)) (ei [] (ai (ai rfl (ai rfl (ai rfl (ai rfl (ai (fun _ => Or.inl rfl) (ai (by first | exact nof | exact (fun _ => ai rfl rfl)) (by first | exact Or.inl rfl | exact Or.inr rfl))))))) (ai ?_ (ai trivial (ai ?_ ?_)))))))
      · skip
        (repeat' (first | exact rfl | exact trivial | exact (fun _ => rfl) | exact (fun _ _ => rfl) | exact nof | refine ai ?_ ?_))
      · exact ⟨hasc, by show l.length / 4 * 1 ≤ l.length / 4 * 2; omega, by show l.length / 4 * 2 ≤ l.length / 4 * 3; omega, by show l.length / 4 * 3 < l.length; omega, hl⟩
      refine ai (ai (fun _ => (by (repeat' (first | exact rfl | exact trivial | exact (fun _ => rfl) | exact (fun _ _ => rfl) | exact nof | refine ai ?_ ?_)))) ?_) trivial
      (repeat' (first | exact rfl | exact trivial | exact (fun _ => rfl) | exact (fun _ _ => rfl) | exact nof | refine ai ?_ ?_))
    · skip
      refine ei _ (ai median_ok (ei ((l, l.length / 4 * 1, l.length / 4 * 2, l.length / 4 * 3)) (ei [] (ai (ai rfl (ai rfl (ai rfl (ai rfl (ai (fun _ => Or.inl rfl) (ai (by first | exact nof | exact (fun _ => ai rfl rfl)) (by first | exact Or.inl rfl | exact Or.inr rfl))))))) (ai ?_ (ai trivial (ai ?_ ?_)))))))
      · skip
        (repeat' (first | exact rfl | exact trivial | exact (fun _ => rfl) | exact (fun _ _ => rfl) | exact nof | refine ai ?_ ?_))
        · exact q1
        · exact q2
        · exact q3
      · exact ⟨hasc, by show l.length / 4 * 1 ≤ l.length / 4 * 2; omega, by show l.length / 4 * 2 ≤ l.length / 4 * 3; omega, by show l.length / 4 * 3 < l.length; omega, hl⟩
      refine ai (ai (fun _ => (by (repeat' (first | exact rfl | exact trivial | exact (fun _ => rfl) | exact (fun _ _ => rfl) | exact nof | refine ai ?_ ?_)))) ?_) trivial
      (repeat' (first | exact rfl | exact trivial | exact (fun _ => rfl) | exact (fun _ _ => rfl) | exact nof | refine ai ?_ ?_))
  · exfalso
    have h1 : ¬ (8 : Int) ≤ IntKind.i64.wrap ((l.length : Int) - 0) := of_decide_eq_false h1
    rw [hsub] at h1
    omega

def pdqS : Spec := fnS (fun x : List Cu × Int => [csA x.1, iA 0, iA x.1.length, iA x.2, .fn 120 []]) (fun x => Asc x.1 ∧ x.1.length ≤ 1000 ∧ (12 < x.1.length → x.2 ≠ 0)) (fun _ => .tup [])
theorem pdq_ok : FnOk Tryz.prog 127 pdqS := by
  refine fnOk (Tb := tab) mixed tab_ok Tryz.func127 rfl rfl ?_
  rintro ⟨l, d⟩ hpre
  refine ai (ai rfl (ai rfl rfl)) ?_
  obtain ⟨hasc, hl, hd⟩ : Asc l ∧ l.length ≤ 1000 ∧ (12 < l.length → d ≠ 0) := hpre
  have hsub : IntKind.i64.wrap ((l.length : Int) - 0) = ((l.length : Nat) : Int) := by rw [wrap_i _ (by omega) (by omega)]; omega
  refine ei (LAnn.unroll 1) ?_
  refine bcase_intro (fun h1 => ?_) (fun h1 => ?_)
  · skip
    refine ei _ (ai ins_ok (ei ((l, 0, l.length)) (ei [] (ai (ai rfl (ai rfl (ai rfl (ai rfl (ai (fun _ => Or.inl rfl) (ai (by first | exact nof | exact (fun _ => ai rfl rfl)) (by first | exact Or.inl rfl | exact Or.inr rfl))))))) (ai ?_ (ai trivial (ai ?_ ?_)))))))
    · skip
      (repeat' (first | exact rfl | exact trivial | exact (fun _ => rfl) | exact (fun _ _ => rfl) | exact nof | refine ai ?_ ?_))
    · exact ⟨hasc, Nat.zero_le _, Nat.le_refl _, hl⟩
    refine ai (ai (fun _ => (by (repeat' (first | exact rfl | exact trivial | exact (fun _ => rfl) | exact (fun _ _ => rfl) | exact nof | refine ai ?_ ?_)))) ?_) trivial
    exact trivial
  have h1 : ¬ IntKind.i64.wrap ((l.length : Int) - 0) ≤ 12 := of_decide_eq_false h1
  rw [hsub] at h1
  refine bcase_intro (fun h2 => ?_) (fun h2 => ?_)
  · exfalso
    have h2 : (d == 0) = true := h2
    have := hd (by omega)
    simp [this] at h2
  refine ei _ (ai pivot_ok (ei (l) (ei [] (ai (ai rfl (ai rfl (ai rfl (ai rfl (ai (fun _ => Or.inl rfl) (ai (by first | exact nof | exact (fun _ => ai rfl rfl)) (by first | exact Or.inl rfl | exact Or.inr rfl))))))) (ai ?_ (ai trivial (ai ?_ ?_)))))))
  · skip
    (repeat' (first | exact rfl | exact trivial | exact (fun _ => rfl) | exact (fun _ _ => rfl) | exact nof | refine ai ?_ ?_))
  · exact ⟨hasc, by show 12 < l.length; omega, hl⟩
  refine ei _ (ai partial_ok (ei ((l, 0, l.length)) (ei [] (ai (ai rfl (ai rfl (ai rfl (ai rfl (ai (fun _ => Or.inl rfl) (ai (by first | exact nof | exact (fun _ => ai rfl rfl)) (by first | exact Or.inl rfl | exact Or.inr rfl))))))) (ai ?_ (ai trivial (ai ?_ ?_)))))))
  · skip
    (repeat' (first | exact rfl | exact trivial | exact (fun _ => rfl) | exact (fun _ _ => rfl) | exact nof | refine ai ?_ ?_))
  · exact ⟨hasc, by show 0 < l.length; omega, Nat.le_refl _, hl⟩
  refine ai (ai (fun _ => (by (repeat' (first | exact rfl | exact trivial | exact (fun _ => rfl) | exact (fun _ _ => rfl) | exact nof | refine ai ?_ ?_)))) ?_) trivial
  exact trivial

end Go.Sx.Pn
