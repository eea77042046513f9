/- Contracts: tasks. -/
import Derived.Test.YtdkhdkldjpaadaaP4
set_option maxHeartbeats 1000000
set_option maxRecDepth 4000
set_option linter.unusedSimpArgs false
set_option linter.unusedVariables false
namespace Go.Sx.Pn
open Go Go.Proofs

structure Tk where
  on : Tb
  free : Tb
deriving DecidableEq
def kA (x : Tk) : SV := .p false (.agg [.val (.int .i64 x.on.n), .val (.int .u64 x.on.bits.toNat), .val (.int .i64 x.free.n), .val (.int .u64 x.free.bits.toNat)])
def kP (x : Tk) : PV := .agg [.val (.int .i64 x.on.n), .val (.int .u64 x.on.bits.toNat), .val (.int .i64 x.free.n), .val (.int .u64 x.free.bits.toNat)]

def chkK (x : Tk) : Int := if chkT x.on = 0 then (if chkT x.free = 0 then (if x.on.n = x.free.n then (if x.on.bits &&& x.free.bits = 0#64 then 0 else 16) else 8) else chkT x.free) else chkT x.on

def checkTaskS : Spec := fnS (fun x : Tk => [kA x]) (fun _ => True) (fun x => iP (chkK x))
theorem checkTask_ok : FnOk Try.prog 37 checkTaskS := by
  refine fnOk (Tb := tab) mixed tab_ok Try.func37 rfl rfl ?_
  rintro ⟨⟨n, b⟩, ⟨m, c⟩⟩ hpre
  refine And.intro (And.intro rfl (And.intro rfl rfl)) ?_
  refine Exists.intro (LAnn.unroll 3) ?_
  refine And.intro (And.intro (by decide) (by decide)) ?_
  refine Exists.intro _ (And.intro tcheck_ok (Exists.intro (⟨n, b⟩) (Exists.intro [] (And.intro (And.intro rfl (And.intro rfl (And.intro rfl (And.intro rfl (And.intro (fun _ => Or.inl rfl) (by first | exact (fun h => absurd h Bool.false_ne_true) | exact (fun _ => And.intro rfl rfl))))))) (And.intro ?_ (And.intro trivial (And.intro ?_ ?_)))))))
  · skip
    (repeat' (first | exact rfl | exact trivial | exact (fun _ => rfl) | exact (fun _ _ => rfl) | exact (fun h => absurd h Bool.false_ne_true) | refine And.intro ?_ ?_))
  · trivial
  refine bcase_intro (fun h1 => ?_) (fun h1 => ?_)
  · have h1 : (chkT ⟨n, b⟩ != 0) = true := h1
    have h1 : chkT ⟨n, b⟩ ≠ 0 := by simpa using h1
    refine And.intro (And.intro (fun _ => (by (repeat' (first | exact rfl | exact trivial | exact (fun _ => rfl) | exact (fun _ _ => rfl) | exact (fun h => absurd h Bool.false_ne_true) | refine And.intro ?_ ?_)))) ?_) trivial
    show chkT ⟨n, b⟩ = chkK ⟨⟨n, b⟩, ⟨m, c⟩⟩
    simp [chkK, h1]
  have h1 : (chkT ⟨n, b⟩ != 0) = false := h1
  have h1 : chkT ⟨n, b⟩ = 0 := by simpa using h1
  refine And.intro (And.intro (by decide) (by decide)) ?_
  refine Exists.intro _ (And.intro tcheck_ok (Exists.intro (⟨m, c⟩) (Exists.intro [] (And.intro (And.intro rfl (And.intro rfl (And.intro rfl (And.intro rfl (And.intro (fun _ => Or.inl rfl) (by first | exact (fun h => absurd h Bool.false_ne_true) | exact (fun _ => And.intro rfl rfl))))))) (And.intro ?_ (And.intro trivial (And.intro ?_ ?_)))))))
  · skip
    (repeat' (first | exact rfl | exact trivial | exact (fun _ => rfl) | exact (fun _ _ => rfl) | exact (fun h => absurd h Bool.false_ne_true) | refine And.intro ?_ ?_))
  · trivial
  refine bcase_intro (fun h2 => ?_) (fun h2 => ?_)
  · have h2 : (chkT ⟨m, c⟩ != 0) = true := h2
    have h2 : chkT ⟨m, c⟩ ≠ 0 := by simpa using h2
    refine And.intro (And.intro (fun _ => (by (repeat' (first | exact rfl | exact trivial | exact (fun _ => rfl) | exact (fun _ _ => rfl) | exact (fun h => absurd h Bool.false_ne_true) | refine And.intro ?_ ?_)))) ?_) trivial
    show chkT ⟨m, c⟩ = chkK ⟨⟨n, b⟩, ⟨m, c⟩⟩
    simp [chkK, h1, h2]
  have h2 : (chkT ⟨m, c⟩ != 0) = false := h2
  have h2 : chkT ⟨m, c⟩ = 0 := by simpa using h2
  refine bcase_intro (fun h3 => ?_) (fun h3 => ?_)
  · skip
    refine And.intro (And.intro (fun _ => (by (repeat' (first | exact rfl | exact trivial | exact (fun _ => rfl) | exact (fun _ _ => rfl) | exact (fun h => absurd h Bool.false_ne_true) | refine And.intro ?_ ?_)))) ?_) trivial
    show (8 : Int) = chkK ⟨⟨n, b⟩, ⟨m, c⟩⟩
    have h3 : (n != m) = true := h3
    have h3 : n ≠ m := by simpa using h3
    simp [chkK, h1, h2, h3]
  have h3 : (n != m) = false := h3
  have h3 : n = m := by simpa using h3
  subst h3
  refine bcase_intro (fun h4 => ?_) (fun h4 => ?_)
  · skip
    refine And.intro (And.intro (fun _ => (by (repeat' (first | exact rfl | exact trivial | exact (fun _ => rfl) | exact (fun _ _ => rfl) | exact (fun h => absurd h Bool.false_ne_true) | refine And.intro ?_ ?_)))) ?_) trivial
    show (16 : Int) = chkK ⟨⟨n, b⟩, ⟨n, c⟩⟩
    have h4 : (bits .and .u64 b.toNat c.toNat != 0) = true := h4
    try simp only [zA, zB, zC, zD, zE, zF, zG, zH, zI, zJ, zK, zL, zM, zN, zO, zP, zQ, zR, zS, zT, zU, zV, zW, zX, zY, zZ, yA, yB, yC, yD, yE, yF, yG, yH, yI, yJ, yK, yL, yM, reduceCtorEq] at h4
    simp [chkK, h1, h2, h4]
  refine And.intro (And.intro (fun _ => (by (repeat' (first | exact rfl | exact trivial | exact (fun _ => rfl) | exact (fun _ _ => rfl) | exact (fun h => absurd h Bool.false_ne_true) | refine And.intro ?_ ?_)))) ?_) trivial
  show (0 : Int) = chkK ⟨⟨n, b⟩, ⟨n, c⟩⟩
  have h4 : (bits .and .u64 b.toNat c.toNat != 0) = false := h4
  try simp only [zA, zB, zC, zD, zE, zF, zG, zH, zI, zJ, zK, zL, zM, zN, zO, zP, zQ, zR, zS, zT, zU, zV, zW, zX, zY, zZ, yA, yB, yC, yD, yE, yF, yG, yH, yI, yJ, yK, yL, yM, reduceCtorEq] at h4
  simp [chkK, h1, h2, h4]

theorem chkT_zero {t : Tb} (h : chkT t = 0) : ∃ n : Nat, n ≤ 6 ∧ t.n = n ∧ t.bits &&& ~~~ wholeU n = 0#64 := by
  unfold chkT at h
  split at h
  · cases h
  · split at h
    · cases h
    · split at h
      · rename_i h1 h2 h3
        exact ⟨t.n.toNat, by omega, by omega, h3⟩
      · cases h

/-- a cube is an implicant -/
def impliesU (n : Nat) (x : Tk) (c : Cu) : Bool := ptsC c (2 ^ n) &&& ~~~ (x.on.bits ||| x.free.bits) == 0#64
def impliesS : Spec := fnS (fun x : Nat × Tk × Cu => [kA x.2.1, cA x.2.2]) (fun x => x.1 ≤ 6 ∧ x.2.1.on.n = x.1) (fun x => bP (impliesU x.1 x.2.1 x.2.2))
theorem implies_ok : FnOk Try.prog 91 impliesS := by
  refine fnOk (Tb := tab) mixed tab_ok Try.func91 rfl rfl ?_
  rintro ⟨k, ⟨⟨n, b⟩, ⟨m, c⟩⟩, q⟩ hpre
  refine And.intro (And.intro rfl (And.intro rfl rfl)) ?_
  obtain ⟨hk, hn⟩ : k ≤ 6 ∧ n = k := hpre
  refine Exists.intro [0, 1, 2, 3, 5, 6, 7, 8, 9, 10, 11, 4, 12, 13, 14] (And.intro (by kernel_rfl) ?_)
  refine Exists.intro _ (And.intro points_ok (Exists.intro ((k, q)) (Exists.intro [] (And.intro (And.intro rfl (And.intro rfl (And.intro rfl (And.intro rfl (And.intro (fun _ => Or.inl rfl) (by first | exact (fun h => absurd h Bool.false_ne_true) | exact (fun _ => And.intro rfl rfl))))))) (And.intro ?_ (And.intro trivial (And.intro ?_ ?_)))))))
  · skip
    (repeat' (first | exact rfl | exact trivial | exact (fun _ => rfl) | exact (fun _ _ => rfl) | exact (fun h => absurd h Bool.false_ne_true) | refine And.intro ?_ ?_))
    exact hn
  · exact hk
  refine And.intro (And.intro (fun _ => (by (repeat' (first | exact rfl | exact trivial | exact (fun _ => rfl) | exact (fun _ _ => rfl) | exact (fun h => absurd h Bool.false_ne_true) | refine And.intro ?_ ?_)))) ?_) trivial
  show (bits .andNot .u64 (ptsC q (2 ^ k)).toNat (bits .or .u64 b.toNat c.toNat) == 0) = impliesU k ⟨⟨n, b⟩, ⟨m, c⟩⟩ q
  try simp only [zA, zB, zC, zD, zE, zF, zG, zH, zI, zJ, zK, zL, zM, zN, zO, zP, zQ, zR, zS, zT, zU, zV, zW, zX, zY, zZ, yA, yB, yC, yD, yE, yF, yG, yH, yI, yJ, yK, yL, yM, reduceCtorEq]
  rfl

def ImpliesS : Spec := fnS (fun x : Tk × Cu => [kA x.1, cA x.2]) (fun _ => True)
  (fun x => .tup [bP (if chkK x.1 = 0 then (if chkC x.1.on.n x.2 = 0 then impliesU x.1.on.n.toNat x.1 x.2 else false) else false), iP (if chkK x.1 = 0 then chkC x.1.on.n x.2 else chkK x.1)])
theorem chkK_zero {x : Tk} (h : chkK x = 0) : chkT x.on = 0 ∧ chkT x.free = 0 ∧ x.on.n = x.free.n ∧ x.on.bits &&& x.free.bits = 0#64 := by
  unfold chkK at h
  split at h
  · split at h
    · split at h
      · split at h
        · exact ⟨by assumption, by assumption, by assumption, by assumption⟩
        · cases h
      · cases h
    · rename_i h1; exact absurd h h1
  · rename_i h1; exact absurd h h1
theorem Implies_ok : FnOk Try.prog 35 ImpliesS := by
  refine fnOk (Tb := tab) mixed tab_ok Try.func35 rfl rfl ?_
  rintro ⟨x, q⟩ hpre
  refine And.intro (And.intro rfl (And.intro rfl rfl)) ?_
  refine Exists.intro _ (And.intro checkTask_ok (Exists.intro (x) (Exists.intro [] (And.intro (And.intro rfl (And.intro rfl (And.intro rfl (And.intro rfl (And.intro (fun _ => Or.inl rfl) (by first | exact (fun h => absurd h Bool.false_ne_true) | exact (fun _ => And.intro rfl rfl))))))) (And.intro ?_ (And.intro trivial (And.intro ?_ ?_)))))))
  · skip
    (repeat' (first | exact rfl | exact trivial | exact (fun _ => rfl) | exact (fun _ _ => rfl) | exact (fun h => absurd h Bool.false_ne_true) | refine And.intro ?_ ?_))
  · trivial
  refine bcase_intro (fun h1 => ?_) (fun h1 => ?_)
  · have h1 : (chkK x != 0) = true := h1
    have h1 : chkK x ≠ 0 := by simpa using h1
    refine And.intro (And.intro (fun _ => (by (repeat' (first | exact rfl | exact trivial | exact (fun _ => rfl) | exact (fun _ _ => rfl) | exact (fun h => absurd h Bool.false_ne_true) | refine And.intro ?_ ?_)))) ?_) trivial
    refine And.intro ?_ ?_
    · show false = _
      simp [h1]
    · show chkK x = _
      simp [h1]
  have h1 : (chkK x != 0) = false := h1
  have h1 : chkK x = 0 := by simpa using h1
  refine Exists.intro _ (And.intro check_ok (Exists.intro ((x.on.n, q)) (Exists.intro [] (And.intro (And.intro rfl (And.intro rfl (And.intro rfl (And.intro rfl (And.intro (fun _ => Or.inl rfl) (by first | exact (fun h => absurd h Bool.false_ne_true) | exact (fun _ => And.intro rfl rfl))))))) (And.intro ?_ (And.intro trivial (And.intro ?_ ?_)))))))
  · skip
    (repeat' (first | exact rfl | exact trivial | exact (fun _ => rfl) | exact (fun _ _ => rfl) | exact (fun h => absurd h Bool.false_ne_true) | refine And.intro ?_ ?_))
  · trivial
  refine bcase_intro (fun h2 => ?_) (fun h2 => ?_)
  · have h2 : (chkC x.on.n q != 0) = true := h2
    have h2 : chkC x.on.n q ≠ 0 := by simpa using h2
    refine And.intro (And.intro (fun _ => (by (repeat' (first | exact rfl | exact trivial | exact (fun _ => rfl) | exact (fun _ _ => rfl) | exact (fun h => absurd h Bool.false_ne_true) | refine And.intro ?_ ?_)))) ?_) trivial
    refine And.intro ?_ ?_
    · show false = _
      simp [h1, h2]
    · show chkC x.on.n q = _
      simp [h1]
  have h2 : (chkC x.on.n q != 0) = false := h2
  have h2 : chkC x.on.n q = 0 := by simpa using h2
  obtain ⟨k, hk, hn, _⟩ := chkT_zero (chkK_zero h1).1
  refine Exists.intro _ (And.intro implies_ok (Exists.intro ((k, x, q)) (Exists.intro [] (And.intro (And.intro rfl (And.intro rfl (And.intro rfl (And.intro rfl (And.intro (fun _ => Or.inl rfl) (by first | exact (fun h => absurd h Bool.false_ne_true) | exact (fun _ => And.intro rfl rfl))))))) (And.intro ?_ (And.intro trivial (And.intro ?_ ?_)))))))
  · skip
    (repeat' (first | exact rfl | exact trivial | exact (fun _ => rfl) | exact (fun _ _ => rfl) | exact (fun h => absurd h Bool.false_ne_true) | refine And.intro ?_ ?_))
  · exact ⟨hk, hn⟩
  refine And.intro (And.intro (fun _ => (by (repeat' (first | exact rfl | exact trivial | exact (fun _ => rfl) | exact (fun _ _ => rfl) | exact (fun h => absurd h Bool.false_ne_true) | refine And.intro ?_ ?_)))) ?_) trivial
  refine And.intro ?_ ?_
  · show impliesU k x q = _
    have : x.on.n.toNat = k := by omega
    simp [h1, h2, this]
  · show (0 : Int) = _
    simp [h1, h2]

end Go.Sx.Pn
