/- Contracts of chapter 8: comparing numbers, counting and reversing bits, chosen cubes, literals. -/
import Derived.Test.YtmjfhoidokajpaaGreatPJ
set_option maxHeartbeats 1000000
set_option maxRecDepth 4000
set_option linter.unusedSimpArgs false
set_option linter.unusedVariables false
set_option linter.unusedSectionVars false
namespace Go.Sx.Pn
open Go Go.Proofs

def isNaNiS : Spec := fnS (fun x : Int => [iA x]) (fun _ => True) (fun _ => bP false)
theorem isNaNi_ok : FnOk Tryz.prog 112 isNaNiS := by
  refine fnOk (Tb := tab) mixed tab_ok Tryz.func112 rfl rfl ?_
  rintro (x : Int) hpre
  refine ai (ai rfl (ai rfl rfl)) ?_
  refine ai (ai (fun _ => (by (repeat' (first | exact rfl | exact trivial | exact (fun _ => rfl) | exact (fun _ _ => rfl) | exact nof | refine ai ?_ ?_)))) ?_) trivial
  show (x != x) = false
  simp
def cmpI (a b : Int) : Int := if a < b then -1 else if b < a then 1 else 0
def cmpIS : Spec := fnS (fun x : Int × Int => [iA x.1, iA x.2]) (fun _ => True) (fun x => iP (cmpI x.1 x.2))
theorem cmpI_ok : FnOk Tryz.prog 102 cmpIS := by
  refine fnOk (Tb := tab) mixed tab_ok Tryz.func102 rfl rfl ?_
  rintro ⟨a, b⟩ hpre
  refine ai (ai rfl (ai rfl rfl)) ?_
  refine ei _ (ai isNaNi_ok (ei (a) (ei [] (ai (ai rfl (ai rfl (ai rfl (ai rfl (ai (fun _ => Or.inl rfl) (ai (by first | exact nof | exact (fun _ => ai rfl rfl)) (by first | exact Or.inl rfl | exact Or.inr rfl))))))) (ai (by (repeat' (first | with_reducible rfl | exact trivial | refine ai ?_ ?_ | (show (_ : Int) = _; first | with_reducible rfl | exact wr1 (by omega) | (simp only [zz, reduceCtorEq] <;> first | done | rfl | omega) | omega | rfl) | exact rfl | exact (fun _ => rfl) | exact (fun _ _ => rfl) | exact nof))) (ai trivial (ai (trivial) ?_)))))))
  refine ei _ (ai isNaNi_ok (ei (b) (ei [] (ai (ai rfl (ai rfl (ai rfl (ai rfl (ai (fun _ => Or.inl rfl) (ai (by first | exact nof | exact (fun _ => ai rfl rfl)) (by first | exact Or.inl rfl | exact Or.inr rfl))))))) (ai (by (repeat' (first | with_reducible rfl | exact trivial | refine ai ?_ ?_ | (show (_ : Int) = _; first | with_reducible rfl | exact wr1 (by omega) | (simp only [zz, reduceCtorEq] <;> first | done | rfl | omega) | omega | rfl) | exact rfl | exact (fun _ => rfl) | exact (fun _ _ => rfl) | exact nof))) (ai trivial (ai (trivial) ?_)))))))
  refine bcase_p (p := a < b) (by first | (with_reducible refine bif_lt ?_; omega) | (with_reducible refine bif_le ?_; omega) | (with_reducible refine bif_eq ?_; omega) | (with_reducible refine bif_ne ?_; omega) | exact b8_eq rfl | exact b8_ne rfl | exact bif_lt (by omega) | exact bif_le (by omega) | exact bif_eq (by omega) | exact bif_ne (by omega) | exact Iff.rfl | (simp only [zz, reduceCtorEq] <;> first | done | omega | exact Iff.rfl) | (simp; done) | (simp; omega)) (fun h1 => ?_) (fun h1 => ?_)
  · skip
    refine ai (ai (fun _ => (by (repeat' (first | exact rfl | exact trivial | exact (fun _ => rfl) | exact (fun _ _ => rfl) | exact nof | refine ai ?_ ?_)))) ?_) trivial
    show ple _ (iP (cmpI a b))
    rw [cmpI, if_pos h1]
    any_goals (repeat' (first | with_reducible rfl | exact trivial | refine ai ?_ ?_ | (show (_ : Int) = _; first | with_reducible rfl | exact wr1 (by omega) | (simp only [zz, reduceCtorEq] <;> first | done | rfl | omega) | omega | rfl) | exact rfl | exact (fun _ => rfl) | exact (fun _ _ => rfl) | exact nof))
  refine bcase_p (p := b < a) (by first | (with_reducible refine bif_lt ?_; omega) | (with_reducible refine bif_le ?_; omega) | (with_reducible refine bif_eq ?_; omega) | (with_reducible refine bif_ne ?_; omega) | exact b8_eq rfl | exact b8_ne rfl | exact bif_lt (by omega) | exact bif_le (by omega) | exact bif_eq (by omega) | exact bif_ne (by omega) | exact Iff.rfl | (simp only [zz, reduceCtorEq] <;> first | done | omega | exact Iff.rfl) | (simp; done) | (simp; omega)) (fun h2 => ?_) (fun h2 => ?_)
  · skip
    refine ai (ai (fun _ => (by (repeat' (first | exact rfl | exact trivial | exact (fun _ => rfl) | exact (fun _ _ => rfl) | exact nof | refine ai ?_ ?_)))) ?_) trivial
    show ple _ (iP (cmpI a b))
    rw [cmpI, if_neg h1, if_pos h2]
    any_goals (repeat' (first | with_reducible rfl | exact trivial | refine ai ?_ ?_ | (show (_ : Int) = _; first | with_reducible rfl | exact wr1 (by omega) | (simp only [zz, reduceCtorEq] <;> first | done | rfl | omega) | omega | rfl) | exact rfl | exact (fun _ => rfl) | exact (fun _ _ => rfl) | exact nof))
  refine ai (ai (fun _ => (by (repeat' (first | exact rfl | exact trivial | exact (fun _ => rfl) | exact (fun _ _ => rfl) | exact nof | refine ai ?_ ?_)))) ?_) trivial
  show ple _ (iP (cmpI a b))
  rw [cmpI, if_neg h1, if_neg h2]
  any_goals (repeat' (first | with_reducible rfl | exact trivial | refine ai ?_ ?_ | (show (_ : Int) = _; first | with_reducible rfl | exact wr1 (by omega) | (simp only [zz, reduceCtorEq] <;> first | done | rfl | omega) | omega | rfl) | exact rfl | exact (fun _ => rfl) | exact (fun _ _ => rfl) | exact nof))

/- the number of 1 bits of small words -/
end Go.Sx.Pn

namespace Go.Sx.Pn
open Go Go.Proofs

/- reversing -/
def rvU (s : Nat) (m x : U) : U := (x >>> s &&& m) ||| ((x &&& m) <<< s)
def rvL (s : Nat) (x : U) : U := x >>> s ||| x <<< s
def revU (x : U) : U := rvL 32 (rvU 16 281470681808895#64 (rvU 8 71777214294589695#64 (rvU 4 1085102592571150095#64 (rvU 2 3689348814741910323#64 (rvU 1 6148914691236517205#64 x)))))
end Go.Sx.Pn

namespace Go.Sx.Pn
open Go Go.Proofs

theorem hchkL_ok : FnOk Tryz.prog 34 cubeLS := by
  refine fnOk (Tb := tab) mixed tab_ok Tryz.func34 rfl rfl ?_
  rintro ⟨n, l⟩ hpre
  refine ai (ai rfl (ai rfl rfl)) ?_
  have hl : l.length ≤ 1000000 := hpre
  refine bcase_p (p := 256 < l.length) (by first | (with_reducible refine bif_lt ?_; omega) | (with_reducible refine bif_le ?_; omega) | (with_reducible refine bif_eq ?_; omega) | (with_reducible refine bif_ne ?_; omega) | exact b8_eq rfl | exact b8_ne rfl | exact bif_lt (by omega) | exact bif_le (by omega) | exact bif_eq (by omega) | exact bif_ne (by omega) | exact Iff.rfl | (simp only [zz, reduceCtorEq] <;> first | done | omega | exact Iff.rfl) | (simp; done) | (simp; omega)) (fun h1 => ?_) (fun h1 => ?_)
  · skip
    refine ai (ai (fun _ => (by (repeat' (first | exact rfl | exact trivial | exact (fun _ => rfl) | exact (fun _ _ => rfl) | exact nof | refine ai ?_ ?_)))) ?_) trivial
    show ple _ (iP (chkL n l))
    rw [chkL, if_pos h1]
    any_goals (repeat' (first | with_reducible rfl | exact trivial | refine ai ?_ ?_ | (show (_ : Int) = _; first | with_reducible rfl | exact wr1 (by omega) | (simp only [zz, reduceCtorEq] <;> first | done | rfl | omega) | omega | rfl) | exact rfl | exact (fun _ => rfl) | exact (fun _ _ => rfl) | exact nof))
  refine ei (LAnn.inv { X := Nat, up := fun k => [(13, .s (iA k))], uo := fun k => [], inv := fun k => k ≤ l.length ∧ (firstE n l k = 0), meas := fun k => l.length - k, x0 := 0 }) ?_
  refine ai (ai (ai (by (repeat' (first | exact rfl | exact trivial | exact (fun _ => rfl) | exact (fun _ _ => rfl) | exact nof | refine ai ?_ ?_))) (ai (by (repeat' (first | with_reducible rfl | exact trivial | refine ai ?_ ?_ | (show (_ : Int) = _; first | with_reducible rfl | exact wr1 (by omega) | (simp only [zz, reduceCtorEq] <;> first | done | rfl | omega) | omega | rfl) | exact rfl | exact (fun _ => rfl) | exact (fun _ _ => rfl) | exact nof))) (by (repeat' (first | with_reducible rfl | exact trivial | refine ai ?_ ?_ | (show (_ : Int) = _; first | with_reducible rfl | exact wr1 (by omega) | (simp only [zz, reduceCtorEq] <;> first | done | rfl | omega) | omega | rfl) | exact rfl | exact (fun _ => rfl) | exact (fun _ _ => rfl) | exact nof))))) rfl) (ai (ai (Nat.zero_le _) ?_) ?_)
  · rfl
  intro (k : Nat) ⟨hk, hz⟩
  refine bcase_p (p := k < l.length) (by first | (with_reducible refine bif_lt ?_; omega) | (with_reducible refine bif_le ?_; omega) | (with_reducible refine bif_eq ?_; omega) | (with_reducible refine bif_ne ?_; omega) | exact b8_eq rfl | exact b8_ne rfl | exact bif_lt (by omega) | exact bif_le (by omega) | exact bif_eq (by omega) | exact bif_ne (by omega) | exact Iff.rfl | (simp only [zz, reduceCtorEq] <;> first | done | omega | exact Iff.rfl) | (simp; done) | (simp; omega)) (fun h2 => ?_) (fun h2 => ?_)
  · refine ai (ai (Int.natCast_nonneg _) (by show (k : Int) < (l.length : Int); omega)) ?_
    refine ai rfl ?_
    refine ei _ (ai check_ok (ei ((n, l.getD k ⟨0, 0⟩)) (ei [] (ai (ai rfl (ai rfl (ai rfl (ai rfl (ai (fun _ => Or.inl rfl) (ai (by first | exact nof | exact (fun _ => ai rfl rfl)) (by first | exact Or.inl rfl | exact Or.inr rfl))))))) (ai (by (repeat' (first | with_reducible rfl | exact trivial | refine ai ?_ ?_ | (show (_ : Int) = _; first | with_reducible rfl | exact wr1 (by omega) | (simp only [zz, reduceCtorEq] <;> first | done | rfl | omega) | omega | rfl) | exact rfl | exact (fun _ => rfl) | exact (fun _ _ => rfl) | exact nof))) (ai trivial (ai (trivial) ?_)))))))
    have e : firstE n l (k + 1) = chkC n (l.getD k ⟨0, 0⟩) := by rw [firstE, if_pos hz]
    refine bcase_n (p := chkC n (l.getD k ⟨0, 0⟩) = 0) (by first | (with_reducible refine bif_lt ?_; omega) | (with_reducible refine bif_le ?_; omega) | (with_reducible refine bif_eq ?_; omega) | (with_reducible refine bif_ne ?_; omega) | exact b8_eq rfl | exact b8_ne rfl | exact bif_lt (by omega) | exact bif_le (by omega) | exact bif_eq (by omega) | exact bif_ne (by omega) | exact Iff.rfl | (simp only [zz, reduceCtorEq] <;> first | done | omega | exact Iff.rfl) | (simp; done) | (simp; omega)) (fun h4 => ?_) (fun h4 => ?_)
    · skip
      refine ai (ai (fun _ => (by (repeat' (first | exact rfl | exact trivial | exact (fun _ => rfl) | exact (fun _ _ => rfl) | exact nof | refine ai ?_ ?_)))) ?_) trivial
      show ple _ (iP (chkL n l))
      rw [chkL, if_neg h1, firstE_stay (k := k + 1) (by rw [e]; exact h4) l.length (by omega), e]
      any_goals (repeat' (first | with_reducible rfl | exact trivial | refine ai ?_ ?_ | (show (_ : Int) = _; first | with_reducible rfl | exact wr1 (by omega) | (simp only [zz, reduceCtorEq] <;> first | done | rfl | omega) | omega | rfl) | exact rfl | exact (fun _ => rfl) | exact (fun _ _ => rfl) | exact nof))
    · skip
      refine ei (k + 1) (ai (ai rfl rfl) (ai (ai ?_ rfl) (ai (ai (by show k + 1 ≤ l.length; omega) ?_) (by show l.length - (k + 1) < l.length - k; omega))))
      any_goals (repeat' (first | with_reducible rfl | exact trivial | refine ai ?_ ?_ | (show (_ : Int) = _; first | with_reducible rfl | exact wr1 (by omega) | (simp only [zz, reduceCtorEq] <;> first | done | rfl | omega) | omega | rfl) | exact rfl | exact (fun _ => rfl) | exact (fun _ _ => rfl) | exact nof))
  · obtain rfl : k = l.length := by omega
    refine ai (ai (fun _ => (by (repeat' (first | exact rfl | exact trivial | exact (fun _ => rfl) | exact (fun _ _ => rfl) | exact nof | refine ai ?_ ?_)))) ?_) trivial
    show ple _ (iP (chkL n l))
    rw [chkL, if_neg h1, hz]
    any_goals (repeat' (first | with_reducible rfl | exact trivial | refine ai ?_ ?_ | (show (_ : Int) = _; first | with_reducible rfl | exact wr1 (by omega) | (simp only [zz, reduceCtorEq] <;> first | done | rfl | omega) | omega | rfl) | exact rfl | exact (fun _ => rfl) | exact (fun _ _ => rfl) | exact nof))

theorem wrap_in {x : Int} (h0 : 0 ≤ x) (h1 : x < 9223372036854775808) : IntKind.i64.wrap x = x := by
  simp [IntKind.wrap, IntKind.signed, IntKind.bits, IntKind.min]; omega
/-- the literals of the first cubes -/
def litTo (l : List Cu) : Nat → Nat
  | 0 => 0
  | m + 1 => litTo l m + popU (l.getD m ⟨0, 0⟩).care
def litL (l : List Cu) : Nat := litTo l l.length
theorem ok_care {k : Nat} (hk : k ≤ 6) {c : Cu} (h : c.Ok k) : c.care.toNat < 64 := by
  have h1 : c.care &&& ~~~ allU 6 = 0#64 := by
    apply BitVec.eq_of_getLsbD_eq
    intro i hi
    have h2 := congrArg (fun x : U => x.getLsbD i) h.1
    simp only [BitVec.getLsbD_and, BitVec.getLsbD_not, hi, decide_true, Bool.true_and, allU_bit hk hi, BitVec.getLsbD_zero, allU_bit (Nat.le_refl 6) hi] at h2 ⊢
    by_cases h3 : i < 6
    · simp [h3]
    · have : ¬ i < k := by omega
      simp [this] at h2; simp [h2]
  rw [mask_iff (Nat.le_refl 6)] at h1
  rw [BitVec.le_def] at h1
  have e : (1#64 <<< 6).toNat = 64 := by decide
  omega
theorem pop64 : ∀ m, m < 64 → Lib.onesCount m ≤ 6 := by decide +kernel
theorem pop_le6 {x : U} (h : x.toNat < 64) : popU x ≤ 6 := by unfold popU; exact pop64 _ h
theorem lit_le {k : Nat} (hk : k ≤ 6) {l : List Cu} (h : ∀ c ∈ l, c.Ok k) : ∀ m, m ≤ l.length → litTo l m ≤ 6 * m
  | 0, _ => Nat.le_refl _
  | m + 1, hm => by
    have h1 := lit_le hk h m (by omega)
    have h2 := pop_le6 (ok_care hk (h _ (getC_mem (show m < l.length by omega))))
    rw [litTo]; omega
def litS : Spec := fnS (fun x : Nat × List Cu => [csA x.2]) (fun x => x.1 ≤ 6 ∧ x.2.length ≤ 1000000 ∧ ∀ c ∈ x.2, c.Ok x.1) (fun x => iP (litL x.2))
theorem hlit_ok : FnOk Tryz.prog 35 litS := by
  refine fnOk (Tb := tab) mixed tab_ok Tryz.func35 rfl rfl ?_
  rintro ⟨k, l⟩ hpre
  refine ai (ai rfl (ai rfl rfl)) ?_
  obtain ⟨hk, hl, hall⟩ : k ≤ 6 ∧ l.length ≤ 1000000 ∧ ∀ c ∈ l, c.Ok k := hpre
  refine ei (LAnn.inv { X := Nat, up := fun j => [(8, .s (iA j)), (3, .s (iA (litTo l j)))], uo := fun j => [], inv := fun j => j ≤ l.length ∧ (True), meas := fun j => l.length - j, x0 := 0 }) ?_
  refine ai (ai (ai (by (repeat' (first | exact rfl | exact trivial | exact (fun _ => rfl) | exact (fun _ _ => rfl) | exact nof | refine ai ?_ ?_))) (ai (by (repeat' (first | with_reducible rfl | exact trivial | refine ai ?_ ?_ | (show (_ : Int) = _; first | with_reducible rfl | exact wr1 (by omega) | (simp only [zz, reduceCtorEq] <;> first | done | rfl | omega) | omega | rfl) | exact rfl | exact (fun _ => rfl) | exact (fun _ _ => rfl) | exact nof))) (by (repeat' (first | with_reducible rfl | exact trivial | refine ai ?_ ?_ | (show (_ : Int) = _; first | with_reducible rfl | exact wr1 (by omega) | (simp only [zz, reduceCtorEq] <;> first | done | rfl | omega) | omega | rfl) | exact rfl | exact (fun _ => rfl) | exact (fun _ _ => rfl) | exact nof))))) rfl) (ai (ai (Nat.zero_le _) ?_) ?_)
  · trivial
  intro (j : Nat) ⟨hj, _⟩
  refine bcase_p (p := j < l.length) (by first | (with_reducible refine bif_lt ?_; omega) | (with_reducible refine bif_le ?_; omega) | (with_reducible refine bif_eq ?_; omega) | (with_reducible refine bif_ne ?_; omega) | exact b8_eq rfl | exact b8_ne rfl | exact bif_lt (by omega) | exact bif_le (by omega) | exact bif_eq (by omega) | exact bif_ne (by omega) | exact Iff.rfl | (simp only [zz, reduceCtorEq] <;> first | done | omega | exact Iff.rfl) | (simp; done) | (simp; omega)) (fun h2 => ?_) (fun h2 => ?_)
  · refine ai (ai (Int.natCast_nonneg _) (by show (j : Int) < (l.length : Int); omega)) ?_
    refine ai rfl ?_
    have h3 := ok_care hk (hall _ (getC_mem h2))
    have h4 := pop_le6 h3
    have h5 := lit_le hk hall j hj
    refine ei _ (ai ones_ok (ei ((l.getD j ⟨0, 0⟩).care) (ei [] (ai (ai rfl (ai rfl (ai rfl (ai rfl (ai (fun _ => Or.inl rfl) (ai (by first | exact nof | exact (fun _ => ai rfl rfl)) (by first | exact Or.inl rfl | exact Or.inr rfl))))))) (ai (by (repeat' (first | with_reducible rfl | exact trivial | refine ai ?_ ?_ | (show (_ : Int) = _; first | with_reducible rfl | exact wr1 (by omega) | (simp only [zz, reduceCtorEq] <;> first | done | rfl | omega) | omega | rfl) | exact rfl | exact (fun _ => rfl) | exact (fun _ _ => rfl) | exact nof))) (ai trivial (ai (h3) ?_)))))))
    refine ei (j + 1) (ai (ai rfl rfl) (ai (ai ?_ rfl) (ai (ai (by show j + 1 ≤ l.length; omega) ?_) (by show l.length - (j + 1) < l.length - j; omega))))
    any_goals (repeat' (first | with_reducible rfl | exact trivial | refine ai ?_ ?_ | (show (_ : Int) = _; first | with_reducible rfl | exact wr1 (by omega) | (simp only [zz, reduceCtorEq] <;> first | done | rfl | omega) | omega | rfl) | exact rfl | exact (fun _ => rfl) | exact (fun _ _ => rfl) | exact nof))
    show IntKind.i64.wrap ((litTo l j : Int) + (popU (l.getD j ⟨0, 0⟩).care : Int)) = ((litTo l j + popU (l.getD j ⟨0, 0⟩).care : Nat) : Int)
    generalize popU (l.getD j ⟨0, 0⟩).care = p at h4
    exact wrap_in (by omega) (by omega)
  · obtain rfl : j = l.length := by omega
    refine ai (ai (fun _ => (by (repeat' (first | exact rfl | exact trivial | exact (fun _ => rfl) | exact (fun _ _ => rfl) | exact nof | refine ai ?_ ?_)))) ?_) trivial
    any_goals (repeat' (first | with_reducible rfl | exact trivial | refine ai ?_ ?_ | (show (_ : Int) = _; first | with_reducible rfl | exact wr1 (by omega) | (simp only [zz, reduceCtorEq] <;> first | done | rfl | omega) | omega | rfl) | exact rfl | exact (fun _ => rfl) | exact (fun _ _ => rfl) | exact nof))
def litN (n : Int) (l : List Cu) : Int := if chkN n l = 0 then (litL l : Int) else 0
def LitS : Spec := fnS (fun x : Int × List Cu => [iA x.1, csA x.2]) (fun x => x.2.length ≤ 1000000) (fun x => .tup [iP (litN x.1 x.2), iP (chkN x.1 x.2)])
theorem hLit_ok : FnOk Tryz.prog 11 LitS := by
  refine fnOk (Tb := tab) mixed tab_ok Tryz.func11 rfl rfl ?_
  rintro ⟨n, l⟩ hpre
  refine ai (ai rfl (ai rfl rfl)) ?_
  have hl : l.length ≤ 1000000 := hpre
  refine bcase_p (p := n < 0) (by first | (with_reducible refine bif_lt ?_; omega) | (with_reducible refine bif_le ?_; omega) | (with_reducible refine bif_eq ?_; omega) | (with_reducible refine bif_ne ?_; omega) | exact b8_eq rfl | exact b8_ne rfl | exact bif_lt (by omega) | exact bif_le (by omega) | exact bif_eq (by omega) | exact bif_ne (by omega) | exact Iff.rfl | (simp only [zz, reduceCtorEq] <;> first | done | omega | exact Iff.rfl) | (simp; done) | (simp; omega)) (fun h1 => ?_) (fun h1 => ?_)
  · have e : chkN n l = 2 := by rw [chkN, if_pos h1]
    refine ai (ai (fun _ => (by (repeat' (first | exact rfl | exact trivial | exact (fun _ => rfl) | exact (fun _ _ => rfl) | exact nof | refine ai ?_ ?_)))) ?_) trivial
    show ple _ (.tup [iP (litN n l), iP (chkN n l)])
    rw [litN, e, if_neg (show ¬ ((2 : Int) = 0) by decide)]
    any_goals (repeat' (first | with_reducible rfl | exact trivial | refine ai ?_ ?_ | (show (_ : Int) = _; first | with_reducible rfl | exact wr1 (by omega) | (simp only [zz, reduceCtorEq] <;> first | done | rfl | omega) | omega | rfl) | exact rfl | exact (fun _ => rfl) | exact (fun _ _ => rfl) | exact nof))
  refine bcase_p (p := 6 < n) (by first | (with_reducible refine bif_lt ?_; omega) | (with_reducible refine bif_le ?_; omega) | (with_reducible refine bif_eq ?_; omega) | (with_reducible refine bif_ne ?_; omega) | exact b8_eq rfl | exact b8_ne rfl | exact bif_lt (by omega) | exact bif_le (by omega) | exact bif_eq (by omega) | exact bif_ne (by omega) | exact Iff.rfl | (simp only [zz, reduceCtorEq] <;> first | done | omega | exact Iff.rfl) | (simp; done) | (simp; omega)) (fun h2 => ?_) (fun h2 => ?_)
  · have e : chkN n l = 2 := by rw [chkN, if_neg h1, if_pos h2]
    refine ai (ai (fun _ => (by (repeat' (first | exact rfl | exact trivial | exact (fun _ => rfl) | exact (fun _ _ => rfl) | exact nof | refine ai ?_ ?_)))) ?_) trivial
    show ple _ (.tup [iP (litN n l), iP (chkN n l)])
    rw [litN, e, if_neg (show ¬ ((2 : Int) = 0) by decide)]
    any_goals (repeat' (first | with_reducible rfl | exact trivial | refine ai ?_ ?_ | (show (_ : Int) = _; first | with_reducible rfl | exact wr1 (by omega) | (simp only [zz, reduceCtorEq] <;> first | done | rfl | omega) | omega | rfl) | exact rfl | exact (fun _ => rfl) | exact (fun _ _ => rfl) | exact nof))
  have e : chkN n l = chkL n l := by rw [chkN, if_neg h1, if_neg h2]
  refine ei _ (ai hchkL_ok (ei ((n, l)) (ei [] (ai (ai rfl (ai rfl (ai rfl (ai rfl (ai (fun _ => Or.inl rfl) (ai (by first | exact nof | exact (fun _ => ai rfl rfl)) (by first | exact Or.inl rfl | exact Or.inr rfl))))))) (ai (by (repeat' (first | with_reducible rfl | exact trivial | refine ai ?_ ?_ | (show (_ : Int) = _; first | with_reducible rfl | exact wr1 (by omega) | (simp only [zz, reduceCtorEq] <;> first | done | rfl | omega) | omega | rfl) | exact rfl | exact (fun _ => rfl) | exact (fun _ _ => rfl) | exact nof))) (ai trivial (ai (hpre) ?_)))))))
  refine bcase_n (p := chkL n l = 0) (by first | (with_reducible refine bif_lt ?_; omega) | (with_reducible refine bif_le ?_; omega) | (with_reducible refine bif_eq ?_; omega) | (with_reducible refine bif_ne ?_; omega) | exact b8_eq rfl | exact b8_ne rfl | exact bif_lt (by omega) | exact bif_le (by omega) | exact bif_eq (by omega) | exact bif_ne (by omega) | exact Iff.rfl | (simp only [zz, reduceCtorEq] <;> first | done | omega | exact Iff.rfl) | (simp; done) | (simp; omega)) (fun h3 => ?_) (fun h3 => ?_)
  · skip
    refine ai (ai (fun _ => (by (repeat' (first | exact rfl | exact trivial | exact (fun _ => rfl) | exact (fun _ _ => rfl) | exact nof | refine ai ?_ ?_)))) ?_) trivial
    show ple _ (.tup [iP (litN n l), iP (chkN n l)])
    rw [litN, e, if_neg h3]
    any_goals (repeat' (first | with_reducible rfl | exact trivial | refine ai ?_ ?_ | (show (_ : Int) = _; first | with_reducible rfl | exact wr1 (by omega) | (simp only [zz, reduceCtorEq] <;> first | done | rfl | omega) | omega | rfl) | exact rfl | exact (fun _ => rfl) | exact (fun _ _ => rfl) | exact nof))
  obtain ⟨k, hk, rfl, _, hall⟩ := chkN_zero (e.trans h3)
  refine ei _ (ai hlit_ok (ei ((k, l)) (ei [] (ai (ai rfl (ai rfl (ai rfl (ai rfl (ai (fun _ => Or.inl rfl) (ai (by first | exact nof | exact (fun _ => ai rfl rfl)) (by first | exact Or.inl rfl | exact Or.inr rfl))))))) (ai (by (repeat' (first | with_reducible rfl | exact trivial | refine ai ?_ ?_ | (show (_ : Int) = _; first | with_reducible rfl | exact wr1 (by omega) | (simp only [zz, reduceCtorEq] <;> first | done | rfl | omega) | omega | rfl) | exact rfl | exact (fun _ => rfl) | exact (fun _ _ => rfl) | exact nof))) (ai trivial (ai (⟨hk, hl, hall⟩) ?_)))))))
  refine ai (ai (fun _ => (by (repeat' (first | exact rfl | exact trivial | exact (fun _ => rfl) | exact (fun _ _ => rfl) | exact nof | refine ai ?_ ?_)))) ?_) trivial
  show ple _ (.tup [iP (litN k l), iP (chkN k l)])
  rw [litN, e, if_pos h3, h3]
  any_goals (repeat' (first | with_reducible rfl | exact trivial | refine ai ?_ ?_ | (show (_ : Int) = _; first | with_reducible rfl | exact wr1 (by omega) | (simp only [zz, reduceCtorEq] <;> first | done | rfl | omega) | omega | rfl) | exact rfl | exact (fun _ => rfl) | exact (fun _ _ => rfl) | exact nof))

/-- the cubes that are chosen by the bits of a number -/
def chTo (l : List Cu) (m : Nat) (k : Nat) : List Cu := ((List.range k).filter fun i => m.testBit i).map fun i => l.getD i ⟨0, 0⟩
def chL (l : List Cu) (m : Nat) : List Cu := chTo l m l.length
theorem ch_succ (l : List Cu) (m k : Nat) : chTo l m (k + 1) = chTo l m k ++ (if m.testBit k then [l.getD k ⟨0, 0⟩] else []) := by
  unfold chTo
  rw [List.range_succ, List.filter_append, List.map_append]
  cases h : m.testBit k <;> simp [h]
theorem ch_len_le (l : List Cu) (m k : Nat) : (chTo l m k).length ≤ k := by
  unfold chTo
  rw [List.length_map]
  have := List.length_filter_le (fun i => m.testBit i) (List.range k)
  simpa using this
theorem ch_mem {l : List Cu} {m : Nat} {c : Cu} (h : c ∈ chL l m) : c ∈ l := by
  unfold chL chTo at h
  obtain ⟨i, hi, rfl⟩ := List.mem_map.1 h
  exact getC_mem (List.mem_range.1 (List.mem_filter.1 hi).1)
end Go.Sx.Pn

namespace Go.Sx.Pn
open Go Go.Proofs

/-- is the first index in which two numbers differ one of the first number's -/
def earl (w b : U) : Bool := (w &&& revU (1#64 <<< (lenU (revU (w ^^^ b)) - 1))) != 0#64
def goodL (n : Nat) (t : U) (l : List Cu) : Prop := tabU l (2 ^ n) = t ∧ badL n l = []
instance (n : Nat) (t : U) (l : List Cu) : Decidable (goodL n t l) := by unfold goodL; infer_instance
def betterL (l : List Cu) (w : U) (b : U) (m : Nat) : Prop := l.length < popU b ∨ l.length = popU b ∧ (litL l < m ∨ litL l = m ∧ earl w b = true)
instance (l : List Cu) (w : U) (b : U) (m : Nat) : Decidable (betterL l w b m) := by unfold betterL; infer_instance
theorem pow16 {k : Nat} (h : k ≤ 16) : 2 ^ k ≤ 65536 := Nat.pow_le_pow_right (n := 2) (by decide) h
end Go.Sx.Pn
