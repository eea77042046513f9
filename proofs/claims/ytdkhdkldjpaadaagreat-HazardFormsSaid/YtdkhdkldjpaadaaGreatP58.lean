/- Contracts of chapter 8: comparing numbers, counting and reversing bits, chosen cubes, literals. -/
import Derived.Test.YtdkhdkldjpaadaaGreatP54
set_option maxHeartbeats 1000000
set_option maxRecDepth 4000
set_option linter.unusedSimpArgs false
set_option linter.unusedVariables false
namespace Go.Sx.Pn
open Go Go.Proofs

def isNaNiS : Spec := fnS (fun x : Int => [iA x]) (fun _ => True) (fun _ => bP false)
theorem isNaNi_ok : FnOk Tryz.prog 110 isNaNiS := by
  refine fnOk (Tb := tab) mixed tab_ok Tryz.func110 rfl rfl ?_
  rintro (x : Int) hpre
  refine ai (ai rfl (ai rfl rfl)) ?_
  refine ai (ai (fun _ => (by (repeat' (first | exact rfl | exact trivial | exact (fun _ => rfl) | exact (fun _ _ => rfl) | exact nof | refine ai ?_ ?_)))) ?_) trivial
  show (x != x) = false
  simp
def cmpI (a b : Int) : Int := if a < b then -1 else if b < a then 1 else 0
def cmpIS : Spec := fnS (fun x : Int × Int => [iA x.1, iA x.2]) (fun _ => True) (fun x => iP (cmpI x.1 x.2))
theorem cmpI_ok : FnOk Tryz.prog 52 cmpIS := by
  refine fnOk (Tb := tab) mixed tab_ok Tryz.func52 rfl rfl ?_
  rintro ⟨a, b⟩ hpre
  refine ai (ai rfl (ai rfl rfl)) ?_
  refine ei _ (ai isNaNi_ok (ei (a) (ei [] (ai (ai rfl (ai rfl (ai rfl (ai rfl (ai (fun _ => Or.inl rfl) (ai (by first | exact nof | exact (fun _ => ai rfl rfl)) (by first | exact Or.inl rfl | exact Or.inr rfl))))))) (ai (by (repeat' (first | with_reducible rfl | exact trivial | refine ai ?_ ?_ | (show (_ : Int) = _; first | with_reducible rfl | exact wr1 (by omega) | (simp only [zz, reduceCtorEq] <;> first | done | rfl | omega) | omega | rfl) | exact rfl | exact (fun _ => rfl) | exact (fun _ _ => rfl) | exact nof))) (ai trivial (ai (trivial) ?_)))))))
  refine ei _ (ai isNaNi_ok (ei (b) (ei [] (ai (ai rfl (ai rfl (ai rfl (ai rfl (ai (fun _ => Or.inl rfl) (ai (by first | exact nof | exact (fun _ => ai rfl rfl)) (by first | exact Or.inl rfl | exact Or.inr rfl))))))) (ai (by (repeat' (first | with_reducible rfl | exact trivial | refine ai ?_ ?_ | (show (_ : Int) = _; first | with_reducible rfl | exact wr1 (by omega) | (simp only [zz, reduceCtorEq] <;> first | done | rfl | omega) | omega | rfl) | exact rfl | exact (fun _ => rfl) | exact (fun _ _ => rfl) | exact nof))) (ai trivial (ai (trivial) ?_)))))))
  refine bcase_p (p := a < b) (by first | (with_reducible refine bif_lt ?_; omega) | (with_reducible refine bif_le ?_; omega) | (with_reducible refine bif_eq ?_; omega) | (with_reducible refine bif_ne ?_; omega) | exact b8_eq rfl | exact b8_ne rfl | exact bif_lt (by omega) | exact bif_le (by omega) | exact bif_eq (by omega) | exact bif_ne (by omega) | exact Iff.rfl | (simp only [zz, reduceCtorEq] <;> first | done | omega | exact Iff.rfl) | (simp; done) | (simp; omega)) (fun h1 => ?_) (fun h1 => ?_)
  · skip
    refine ai (ai (fun _ => (by (repeat' (first | exact rfl | exact trivial | exact (fun _ => rfl) | exact (fun _ _ => rfl) | exact nof | refine ai ?_ ?_)))) ?_) trivial
    show ple _ (iP (cmpI a b))
    rw [cmpI, if_pos h1]
    any_goals (repeat' (first | with_reducible rfl | exact trivial | refine ai ?_ ?_ | (show (_ : Int) = _; first | with_reducible rfl | exact wr1 (by omega) | (simp only [zz, reduceCtorEq] <;> first | done | rfl | omega) | omega | rfl) | exact rfl | exact (fun _ => rfl) | exact (fun _ _ => rfl) | exact nof))
  refine bcase_p (p := b < a) (by first | (with_reducible refine bif_lt ?_; omega) | (with_reducible refine bif_le ?_; omega) | (with_reducible refine bif_eq ?_; omega) | (with_reducible refine bif_ne ?_; omega) | exact b8_eq rfl | exact b8_ne rfl | exact bif_lt (by omega) | exact bif_le (by omega) | exact bif_eq (by omega) | exact bif_ne (by omega) | exact Iff.rfl | (simp only [zz, reduceCtorEq] <;> first | done | omega | exact Iff.rfl) | (simp; done) | (simp; omega)) (fun h2 => ?_) (fun h2 => ?_)
  · skip
    refine ai (ai (fun _ => (by (repeat' (first | exact rfl | exact trivial | exact (fun _ => rfl) | exact (fun _ _ => rfl) | exact nof | refine ai ?_ ?_)))) ?_) trivial
    show ple _ (iP (cmpI a b))
    rw [cmpI, if_neg h1, if_pos h2]
    any_goals (repeat' (first | with_reducible rfl | exact trivial | refine ai ?_ ?_ | (show (_ : Int) = _; first | with_reducible rfl | exact wr1 (by omega) | (simp only [zz, reduceCtorEq] <;> first | done | rfl | omega) | omega | rfl) | exact rfl | exact (fun _ => rfl) | exact (fun _ _ => rfl) | exact nof))
  refine ai (ai (fun _ => (by (repeat' (first | exact rfl | exact trivial | exact (fun _ => rfl) | exact (fun _ _ => rfl) | exact nof | refine ai ?_ ?_)))) ?_) trivial
  show ple _ (iP (cmpI a b))
  rw [cmpI, if_neg h1, if_neg h2]
  any_goals (repeat' (first | with_reducible rfl | exact trivial | refine ai ?_ ?_ | (show (_ : Int) = _; first | with_reducible rfl | exact wr1 (by omega) | (simp only [zz, reduceCtorEq] <;> first | done | rfl | omega) | omega | rfl) | exact rfl | exact (fun _ => rfl) | exact (fun _ _ => rfl) | exact nof))

/- the number of 1 bits of small words -/
def pc1 (x : Nat) : Nat := (x >>> 1 &&& 6148914691236517205) + (x &&& 6148914691236517205)
def pc2 (x : Nat) : Nat := (x >>> 2 &&& 3689348814741910323) + (x &&& 3689348814741910323)
def pc3 (x : Nat) : Nat := (x >>> 4 + x) &&& 1085102592571150095
def pc4 (x : Nat) : Nat := x + x >>> 8
def pc5 (x : Nat) : Nat := x + x >>> 16
def pc6 (x : Nat) : Nat := x + x >>> 32
def pcN (x : Nat) : Nat := pc6 (pc5 (pc4 (pc3 (pc2 (pc1 x))))) &&& 127
def pcOk (x : Nat) : Bool := Nat.beq (pcN x) (pcN (x / 2) + x % 2)
def pcRow (b : Nat) : Nat → Bool
  | 0 => true
  | n + 1 => pcOk (b + n) && pcRow b n
def pcAll : Nat → Bool
  | 0 => true
  | n + 1 => pcRow (256 * n) 256 && pcAll n
set_option maxRecDepth 100000 in
theorem pc_all : pcAll 256 = true := by decide +kernel
theorem pcRow_at {b : Nat} : ∀ {n i : Nat}, pcRow b n = true → i < n → pcOk (b + i) = true
  | n + 1, i, h, hi => by
    rw [pcRow, Bool.and_eq_true] at h
    by_cases e : i = n
    · rw [e]; exact h.1
    · exact pcRow_at h.2 (by omega)
theorem pcAll_at : ∀ {n i : Nat}, pcAll n = true → i < n → pcRow (256 * i) 256 = true
  | n + 1, i, h, hi => by
    rw [pcAll, Bool.and_eq_true] at h
    by_cases e : i = n
    · rw [e]; exact h.1
    · exact pcAll_at h.2 (by omega)
theorem pc_half {x : Nat} (h : x < 65536) : pcN x = pcN (x / 2) + x % 2 := by
  have h1 := pcRow_at (pcAll_at pc_all (show x / 256 < 256 by omega)) (show x % 256 < 256 by omega)
  rw [show 256 * (x / 256) + x % 256 = x by omega] at h1
  exact Nat.eq_of_beq_eq_true h1

end Go.Sx.Pn
