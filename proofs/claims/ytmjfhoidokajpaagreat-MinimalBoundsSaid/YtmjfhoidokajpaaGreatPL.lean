/- A function of at most four variables has at most 16 prime implicants. -/
import Derived.Test.YtmjfhoidokajpaaGreatPJ
import Derived.Test.YtmjfhoidokajpaaGreatPK
set_option maxHeartbeats 1000000
set_option maxRecDepth 4000
set_option linter.unusedSimpArgs false
set_option linter.unusedVariables false
set_option linter.unusedSectionVars false
namespace Go.Sx.Pn
open Go Go.Proofs

def sub (a b : Nat) : Bool := Nat.beq (Nat.land a b) a
end Go.Sx.Pn

namespace Go.Sx.Pn
open Go Go.Proofs

theorem nodup_len {α : Type} [DecidableEq α] : ∀ (a b : List α), a.Nodup → (∀ x, x ∈ a → x ∈ b) → a.length ≤ b.length
  | [], _, _, _ => Nat.zero_le _
  | x :: a, b, h, hs => by
    obtain ⟨h1, h2⟩ := List.nodup_cons.1 h
    have hx := hs x (List.mem_cons_self ..)
    have := nodup_len a (b.erase x) h2 fun y hy => (List.mem_erase_of_ne (fun e => h1 (by rw [← e]; exact hy))).2 (hs y (List.mem_cons_of_mem _ hy))
    rw [List.length_erase_of_mem hx] at this
    have hb : 0 < b.length := List.length_pos_of_mem hx
    rw [List.length_cons]; omega

def pts (n : Nat) (c : Cu) : Nat := (ptsC c (2 ^ n)).toNat
end Go.Sx.Pn

namespace Go.Sx.Pn
open Go Go.Proofs

theorem full_bit {k i : Nat} (h : i < k) : (2 ^ k - 1).testBit i = true := by rw [Nat.testBit_two_pow_sub_one]; simpa using h
theorem ch_full (l : List Cu) : chL l (2 ^ l.length - 1) = l := by
  unfold chL chTo
  have e : (List.range l.length).filter (fun i => (2 ^ l.length - 1).testBit i) = List.range l.length := by
    rw [List.filter_eq_self]
    intro i hi
    exact full_bit (List.mem_range.1 hi)
  rw [e]
  apply List.ext_getElem
  · simp
  · intro i h1 h2
    simp [List.getD_eq_getElem?_getD, h2]
end Go.Sx.Pn
