/- Contracts of chapter 8: few cubes, a point in a cube, a list checked. -/
import Derived.Test.YtmjfhoidokajpaaGreatPG
set_option maxHeartbeats 1000000
set_option maxRecDepth 4000
set_option linter.unusedSimpArgs false
set_option linter.unusedVariables false
set_option linter.unusedSectionVars false
namespace Go.Sx.Pn
open Go Go.Proofs

/-- the first fault of some cubes -/
def firstE (n : Int) (l : List Cu) : Nat → Int
  | 0 => 0
  | m + 1 => if firstE n l m = 0 then chkC n (l.getD m ⟨0, 0⟩) else firstE n l m
theorem firstE_stay {n : Int} {l : List Cu} {k : Nat} (h : firstE n l k ≠ 0) : ∀ m, k ≤ m → firstE n l m = firstE n l k
  | 0, hm => by obtain rfl : k = 0 := by omega
                rfl
  | m + 1, hm => by
    by_cases e : k = m + 1
    · rw [e]
    · have := firstE_stay h m (by omega)
      rw [firstE, if_neg (by rw [this]; exact h), this]
def chkL (n : Int) (l : List Cu) : Int := if 256 < l.length then 5 else firstE n l l.length
def cubeLS : Spec := fnS (fun x : Int × List Cu => [iA x.1, csA x.2]) (fun x => x.2.length ≤ 1000000) (fun x => iP (chkL x.1 x.2))
theorem rcubeL_ok : FnOk Tryz.prog 36 cubeLS := by
  refine fnOk (Tb := tab) mixed tab_ok Tryz.func36 rfl rfl ?_
  rintro ⟨n, l⟩ hpre
  refine ai (ai rfl (ai rfl rfl)) ?_
  have hl : l.length ≤ 1000000 := hpre
  refine bcase_p (p := 256 < l.length) (by first | (with_reducible refine bif_lt ?_; omega) | (with_reducible refine bif_le ?_; omega) | (with_reducible refine bif_eq ?_; omega) | (with_reducible refine bif_ne ?_; omega) | exact b8_eq rfl | exact b8_ne rfl | exact bif_lt (by omega) | exact bif_le (by omega) | exact bif_eq (by omega) | exact bif_ne (by omega) | exact Iff.rfl | (simp only [zz, reduceCtorEq] <;> first | done | omega | exact Iff.rfl) | (simp; done) | (simp; omega)) (fun h1 => ?_) (fun h1 => ?_)
  · refine ai (ai (fun _ => trivial) ?_) trivial
    show (5 : Int) = chkL n l
    rw [chkL, if_pos h1]
  refine ei (LAnn.inv { X := Nat, up := fun k => [(5, .s (iA k))], uo := fun k => [], inv := fun k => k ≤ l.length ∧ (firstE n l k = 0), meas := fun k => l.length - k, x0 := 0 }) ?_
  refine ai (ai (ai (by (repeat' (first | exact rfl | exact trivial | exact (fun _ => rfl) | exact (fun _ _ => rfl) | exact nof | refine ai ?_ ?_))) (ai (by (repeat' (first | with_reducible rfl | exact trivial | refine ai ?_ ?_ | (show (_ : Int) = _; first | with_reducible rfl | exact wr1 (by omega) | (simp only [zz, reduceCtorEq] <;> first | done | rfl | omega) | omega | rfl) | exact rfl | exact (fun _ => rfl) | exact (fun _ _ => rfl) | exact nof))) (by (repeat' (first | with_reducible rfl | exact trivial | refine ai ?_ ?_ | (show (_ : Int) = _; first | with_reducible rfl | exact wr1 (by omega) | (simp only [zz, reduceCtorEq] <;> first | done | rfl | omega) | omega | rfl) | exact rfl | exact (fun _ => rfl) | exact (fun _ _ => rfl) | exact nof))))) rfl) (ai (ai (Nat.zero_le _) ?_) ?_)
  · rfl
  intro (k : Nat) ⟨hk, hz⟩
  refine bcase_p (p := k < l.length) (by first | (with_reducible refine bif_lt ?_; omega) | (with_reducible refine bif_le ?_; omega) | (with_reducible refine bif_eq ?_; omega) | (with_reducible refine bif_ne ?_; omega) | exact b8_eq rfl | exact b8_ne rfl | exact bif_lt (by omega) | exact bif_le (by omega) | exact bif_eq (by omega) | exact bif_ne (by omega) | exact Iff.rfl | (simp only [zz, reduceCtorEq] <;> first | done | omega | exact Iff.rfl) | (simp; done) | (simp; omega)) (fun h2 => ?_) (fun h2 => ?_)
  · refine ai (ai (Int.natCast_nonneg _) (by show (k : Int) < (l.length : Int); omega)) ?_
    refine ai rfl ?_
    refine ei _ (ai rcheck_ok (ei ((n, l.getD k ⟨0, 0⟩)) (ei [] (ai (ai rfl (ai rfl (ai rfl (ai rfl (ai (fun _ => Or.inl rfl) (ai (by first | exact nof | exact (fun _ => ai rfl rfl)) (by first | exact Or.inl rfl | exact Or.inr rfl))))))) (ai (by (repeat' (first | with_reducible rfl | exact trivial | refine ai ?_ ?_ | (show (_ : Int) = _; first | with_reducible rfl | exact wr1 (by omega) | (simp only [zz, reduceCtorEq] <;> first | done | rfl | omega) | omega | rfl) | exact rfl | exact (fun _ => rfl) | exact (fun _ _ => rfl) | exact nof))) (ai trivial (ai (trivial) ?_)))))))
    have e : firstE n l (k + 1) = chkC n (l.getD k ⟨0, 0⟩) := by rw [firstE, if_pos hz]
    refine bcase_n (p := chkC n (l.getD k ⟨0, 0⟩) = 0) (by first | (with_reducible refine bif_lt ?_; omega) | (with_reducible refine bif_le ?_; omega) | (with_reducible refine bif_eq ?_; omega) | (with_reducible refine bif_ne ?_; omega) | exact b8_eq rfl | exact b8_ne rfl | exact bif_lt (by omega) | exact bif_le (by omega) | exact bif_eq (by omega) | exact bif_ne (by omega) | exact Iff.rfl | (simp only [zz, reduceCtorEq] <;> first | done | omega | exact Iff.rfl) | (simp; done) | (simp; omega)) (fun h3 => ?_) (fun h3 => ?_)
    · refine ai (ai (fun _ => trivial) ?_) trivial
      show chkC n (l.getD k ⟨0, 0⟩) = chkL n l
      rw [chkL, if_neg h1, firstE_stay (k := k + 1) (by rw [e]; exact h3) l.length (by omega), e]
    · skip
      refine ei (k + 1) (ai (ai rfl rfl) (ai (ai ?_ rfl) (ai (ai (by show k + 1 ≤ l.length; omega) ?_) (by show l.length - (k + 1) < l.length - k; omega))))
      any_goals (repeat' (first | with_reducible rfl | exact trivial | refine ai ?_ ?_ | (show (_ : Int) = _; first | with_reducible rfl | exact wr1 (by omega) | (simp only [zz, reduceCtorEq] <;> first | done | rfl | omega) | omega | rfl) | exact rfl | exact (fun _ => rfl) | exact (fun _ _ => rfl) | exact nof))
  · obtain rfl : k = l.length := by omega
    refine ai (ai (fun _ => trivial) ?_) trivial
    show (0 : Int) = chkL n l
    rw [chkL, if_neg h1, hz]

def chkN (n : Int) (l : List Cu) : Int := if n < 0 then 2 else if 6 < n then 2 else chkL n l
end Go.Sx.Pn

namespace Go.Sx.Pn
open Go Go.Proofs

end Go.Sx.Pn

namespace Go.Sx.Pn
open Go Go.Proofs

/-- the bit set -/
def up (a i : Nat) : Nat := a ||| 2 ^ i
/-- a pair of neighbours, both of which are points of a table -/
def pairAt (b : U) (a i : Nat) : Option (Nat × Nat) := if up a i ≠ a ∧ b.getLsbD a = true ∧ b.getLsbD (up a i) = true then some (a, up a i) else none
def rowTo (b : U) (a m : Nat) : List (Nat × Nat) := (List.range m).filterMap (pairAt b a)
def pairsTo (n : Nat) (b : U) (m : Nat) : List (Nat × Nat) := (List.range m).flatMap fun a => rowTo b a n
def pairsL (n : Nat) (b : U) : List (Nat × Nat) := pairsTo n b (2 ^ n)
/-- the points in some cube, as bits -/
def tabU (l : List Cu) : Nat → U
  | 0 => 0#64
  | m + 1 => if l.any (fun c => hasC c (m : Int)) then tabU l m ||| 1#64 <<< m else tabU l m
/-- are two points in one cube -/
def togC (l : List Cu) (p : Nat × Nat) : Bool := l.any fun c => hasC c (p.1 : Int) && hasC c (p.2 : Int)
/-- the static hazards -/
def badL (n : Nat) (l : List Cu) : List (Nat × Nat) := (pairsL n (tabU l (2 ^ n))).filter fun p => !togC l p

end Go.Sx.Pn

namespace Go.Sx.Pn
open Go Go.Proofs

end Go.Sx.Pn
