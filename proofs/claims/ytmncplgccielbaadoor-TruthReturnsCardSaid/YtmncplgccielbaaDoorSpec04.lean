/- What the functions of layer 4 (truth tables) answer, as plain functions. -/
import Derived.Test.YtmncplgccielbaaDoorMath
set_option maxHeartbeats 1000000
set_option maxRecDepth 4000
set_option linter.unusedSimpArgs false
set_option linter.unusedVariables false
set_option linter.unusedSectionVars false
namespace Go.Proofs.YtmncplgccielbaaDoor
namespace T
open M

/-- the number of the error of a table -/
def chk (N : Int) (b : Nat) : Int := if 0 ≤ N ∧ N ≤ 6 then (if b < 2 ^ sz N.toNat then 0 else 3) else 2
def Right (N : Int) (b : Nat) : Prop := 0 ≤ N ∧ N ≤ 6 ∧ b < 2 ^ sz N.toNat
theorem chk_right {N : Int} {b : Nat} (h : Right N b) : chk N b = 0 := by
  unfold chk; rw [if_pos ⟨h.1, h.2.1⟩, if_pos h.2.2]
theorem right_of_chk {N : Int} {b : Nat} (h : chk N b = 0) : Right N b := by
  unfold chk at h
  split at h
  · rename_i h1
    split at h
    · exact ⟨h1.1, h1.2, by assumption⟩
    · omega
  · omega
theorem chk_cases (N : Int) (b : Nat) : (Right N b ∧ chk N b = 0) ∨ (¬ Right N b ∧ (chk N b = 2 ∨ chk N b = 3)) := by
  by_cases h : Right N b
  · exact .inl ⟨h, chk_right h⟩
  · refine .inr ⟨h, ?_⟩
    unfold chk
    split
    · rename_i h1
      split
      · exact absurd ⟨h1.1, h1.2, by assumption⟩ h
      · exact .inr rfl
    · exact .inl rfl
theorem Right.lt64 {N : Int} {b : Nat} (h : Right N b) : b < 2 ^ 64 :=
  Nat.lt_of_lt_of_le h.2.2 (pow_sz_le (by have := h.1; have := h.2.1; omega))

/-- a point with a value of a variable -/
def setb (k i : Nat) (v : Bool) : Nat := if k.testBit i = v then k else k ^^^ 2 ^ i
theorem testBit_setb (k i j : Nat) (v : Bool) : (setb k i v).testBit j = if j = i then v else k.testBit j := by
  unfold setb
  split
  · rename_i h
    split
    · rename_i e; rw [e, h]
    · rfl
  · rename_i h
    rw [Nat.testBit_xor, Nat.testBit_two_pow]
    split
    · rename_i e; subst e
      cases hk : k.testBit j <;> cases v <;> simp_all
    · rename_i e
      simp [Ne.symm e]
theorem or_setb (k i : Nat) : k ||| 2 ^ i = setb k i true := by
  apply Nat.eq_of_testBit_eq; intro j
  rw [testBit_setb, Nat.testBit_or, Nat.testBit_two_pow]
  by_cases e : j = i
  · simp [e]
  · simp [e, Ne.symm e]
theorem setb_lt {k i n : Nat} (v : Bool) (hk : k < 2 ^ n) (hi : i < n) : setb k i v < 2 ^ n := by
  apply Nat.lt_pow_two_of_testBit
  intro j hj
  rw [testBit_setb, if_neg (by omega)]
  exact Nat.testBit_lt_two_pow (Nat.lt_of_lt_of_le hk (Nat.pow_le_pow_right (by omega) hj))

/-- the bits of a cofactor -/
def fixB (b i : Nat) (v : Bool) (m : Nat) : Nat := mkB (fun k => b.testBit (setb k i v)) m

def constS (N : Int) (v : Bool) : Int × Nat × Int := if 0 ≤ N ∧ N ≤ 6 then (N, mkB (fun _ => v) (sz N.toNat), 0) else (0, 0, 2)
def varS (N i : Int) : Int × Nat × Int := if 0 ≤ N ∧ N ≤ 6 ∧ 0 ≤ i ∧ i < N then (N, mkB (fun k => k.testBit i.toNat) (sz N.toNat), 0) else (0, 0, 2)
def valueS (N : Int) (b : Nat) (p : Int) : Bool × Int :=
  if chk N b = 0 then (if 0 ≤ p ∧ p < sz N.toNat then (b.testBit p.toNat, 0) else (false, 2)) else (false, chk N b)
def notS (N : Int) (b : Nat) : Int × Nat × Int := if chk N b = 0 then (N, mkB (fun k => !b.testBit k) (sz N.toNat), 0) else (0, 0, chk N b)
/-- the number of the error of two tables -/
def givenS (N : Int) (a : Nat) (O : Int) (b : Nat) : Int := if chk N a = 0 then (if chk O b = 0 then (if N = O then 0 else 8) else chk O b) else chk N a
def joinS (f : Nat → Nat → Nat) (N : Int) (a : Nat) (O : Int) (b : Nat) : Int × Nat × Int :=
  if givenS N a O b = 0 then (N, f a b, 0) else (0, 0, givenS N a O b)
def ptsS (N : Int) (b : Nat) : List Nat := if chk N b = 0 then pts b.testBit (sz N.toNat) else []
/-- the number of the error of a table and a variable -/
def vchk (N : Int) (b : Nat) (i : Int) : Int := if chk N b = 0 then (if 0 ≤ i ∧ i < N then 0 else 2) else chk N b
def cofS (N : Int) (b : Nat) (i : Int) (v : Bool) : Int × Nat × Int :=
  if vchk N b i = 0 then (N, fixB b i.toNat v (sz N.toNat), 0) else (0, 0, vchk N b i)
def depP (N b i : Nat) : Bool := fixB b i false (sz N) != fixB b i true (sz N)
def depL (N : Nat) (b : Nat) : List Nat := pts (depP N b) N
def depS (N : Int) (b : Nat) : List Nat := if chk N b = 0 then depL N.toNat b else []
/-- every bit of a below m is one of b -/
def subB (a b m : Nat) : Bool := (List.range m).all fun k => !a.testBit k || b.testBit k
def unateS (N : Int) (b : Nat) (i : Int) : Bool × Bool × Int :=
  if vchk N b i = 0 then
    (subB (fixB b i.toNat false (sz N.toNat)) (fixB b i.toNat true (sz N.toNat)) (sz N.toNat), subB (fixB b i.toNat true (sz N.toNat)) (fixB b i.toNat false (sz N.toNat)) (sz N.toNat), 0)
  else (false, false, vchk N b i)

/-- the text of a table: a sign a point -/
def txtL (b m : Nat) : List UInt8 := (List.range m).map fun k => if b.testBit k then 49 else 48
def textS (N : Int) (b : Nat) : List UInt8 × Int := if chk N b = 0 then (txtL b (sz N.toNat), 0) else ([], chk N b)
theorem txtL_succ (b m : Nat) : txtL b (m + 1) = txtL b m ++ [if b.testBit m then 49 else 48] := by
  simp [txtL, List.range_succ]
theorem txtL_length (b m : Nat) : (txtL b m).length = m := by simp [txtL]

/-- the number of variables of a table of m points -/
def expo (m : Nat) : Option Nat := if m = 1 then some 0 else if m = 2 then some 1 else if m = 4 then some 2 else if m = 8 then some 3 else if m = 16 then some 4 else if m = 32 then some 5 else if m = 64 then some 6 else none
theorem expo_some {m n : Nat} (h : expo m = some n) : n ≤ 6 ∧ m = sz n := by
  unfold expo at h
  repeat (first | (split at h; · (rename_i e; obtain rfl := Option.some.inj h; subst e; exact ⟨by omega, rfl⟩)) | cases h)
theorem expo_sz {n : Nat} (h : n ≤ 6) : expo (sz n) = some n := by
  have : ∀ k : Fin 7, expo (sz k.val) = some k.val := by decide
  exact this ⟨n, by omega⟩
theorem expo_none {m n : Nat} (h : expo m = none) (hn : n ≤ 6) : sz n ≠ m := by
  rintro rfl
  rw [expo_sz hn] at h; cases h
def isSign (c : UInt8) : Bool := c == 48 || c == 49
def ones (l : List UInt8) (k : Nat) : Bool := l[k]? == some 49
/-- what a text says: a table and the number of the error -/
def parseS (l : List UInt8) : Int × Nat × Int :=
  if 64 < l.length then (0, 0, 17) else if l.all isSign then (match expo l.length with | some n => ((n : Int), mkB (ones l) l.length, 0) | none => (0, 0, 8)) else (0, 0, 4)

end T
end Go.Proofs.YtmncplgccielbaaDoor
