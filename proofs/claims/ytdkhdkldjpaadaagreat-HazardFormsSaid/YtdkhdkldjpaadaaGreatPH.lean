/- Contracts of chapter 8: few cubes, a point in a cube, a list checked. -/
import Derived.Test.YtdkhdkldjpaadaaGreatPG
set_option maxHeartbeats 1000000
set_option maxRecDepth 4000
set_option linter.unusedSimpArgs false
set_option linter.unusedVariables false
namespace Go.Sx.Pn
open Go Go.Proofs

theorem hin_ok : FnOk Tryz.prog 102 hasS := by
  refine fnOk (Tb := tab) mixed tab_ok Tryz.func102 rfl rfl ?_
  rintro ⟨c, p⟩ hpre
  refine ai (ai rfl (ai rfl rfl)) ?_
  refine ai (ai (fun _ => (by (repeat' (first | exact rfl | exact trivial | exact (fun _ => rfl) | exact (fun _ _ => rfl) | exact nof | refine ai ?_ ?_)))) ?_) trivial
  show (bits .and .u64 (IntKind.u64.wrap p) c.care.toNat == (c.value.toNat : Int)) = hasC c p
  rw [u_wrap_int]
  try simp only [zz, reduceCtorEq]
  rfl

def fewCS : Spec := fnS (fun l : List Cu => [csA l]) (fun _ => True) (fun l => bP (decide (l.length ≤ 30) || (decide (256 < l.length) && decide (l.length ≤ 600))))
/-- the first fault of some cubes -/
def firstE (n : Int) (l : List Cu) : Nat → Int
  | 0 => 0
  | m + 1 => if firstE n l m = 0 then chkC n (l.getD m ⟨0, 0⟩) else firstE n l m
theorem firstE_stay {n : Int} {l : List Cu} {k : Nat} (h : firstE n l k ≠ 0) : ∀ m, k ≤ m → firstE n l m = firstE n l k
  | 0, hm => by obtain rfl : k = 0 := by omega
                rfl
  | m + 1, hm => by
    by_cases e : k = m + 1
    · rw [e]
    · have := firstE_stay h m (by omega)
      rw [firstE, if_neg (by rw [this]; exact h), this]
def chkL (n : Int) (l : List Cu) : Int := if 256 < l.length then 5 else firstE n l l.length
def cubeLS : Spec := fnS (fun x : Int × List Cu => [iA x.1, csA x.2]) (fun x => x.2.length ≤ 1000000) (fun x => iP (chkL x.1 x.2))
theorem rcubeL_ok : FnOk Tryz.prog 63 cubeLS := by
  refine fnOk (Tb := tab) mixed tab_ok Tryz.func63 rfl rfl ?_
  rintro ⟨n, l⟩ hpre
  refine ai (ai rfl (ai rfl rfl)) ?_
  have hl : l.length ≤ 1000000 := hpre
  refine bcase_p (p := 256 < l.length) (by first | (with_reducible refine bif_lt ?_; omega) | (with_reducible refine bif_le ?_; omega) | (with_reducible refine bif_eq ?_; omega) | (with_reducible refine bif_ne ?_; omega) | exact b8_eq rfl | exact b8_ne rfl | exact bif_lt (by omega) | exact bif_le (by omega) | exact bif_eq (by omega) | exact bif_ne (by omega) | exact Iff.rfl | (simp only [zz, reduceCtorEq] <;> first | done | omega | exact Iff.rfl) | (simp; done) | (simp; omega)) (fun h1 => ?_) (fun h1 => ?_)
  · refine ai (ai (fun _ => trivial) ?_) trivial
    show (5 : Int) = chkL n l
    rw [chkL, if_pos h1]
  refine ei (LAnn.inv { X := Nat, up := fun k => [(5, .s (iA k))], uo := fun k => [], inv := fun k => k ≤ l.length ∧ (firstE n l k = 0), meas := fun k => l.length - k, x0 := 0 }) ?_
  refine ai (ai (ai (by (repeat' (first | exact rfl | exact trivial | exact (fun _ => rfl) | exact (fun _ _ => rfl) | exact nof | refine ai ?_ ?_))) (ai (by (repeat' (first | with_reducible rfl | exact trivial | refine ai ?_ ?_ | (show (_ : Int) = _; first | with_reducible rfl | exact wr1 (by omega) | (simp only [zz, reduceCtorEq] <;> first | done | rfl | omega) | omega | rfl) | exact rfl | exact (fun _ => rfl) | exact (fun _ _ => rfl) | exact nof))) (by (repeat' (first | with_reducible rfl | exact trivial | refine ai ?_ ?_ | (show (_ : Int) = _; first | with_reducible rfl | exact wr1 (by omega) | (simp only [zz, reduceCtorEq] <;> first | done | rfl | omega) | omega | rfl) | exact rfl | exact (fun _ => rfl) | exact (fun _ _ => rfl) | exact nof))))) rfl) (ai (ai (Nat.zero_le _) ?_) ?_)
  · rfl
  intro (k : Nat) ⟨hk, hz⟩
  refine bcase_p (p := k < l.length) (by first | (with_reducible refine bif_lt ?_; omega) | (with_reducible refine bif_le ?_; omega) | (with_reducible refine bif_eq ?_; omega) | (with_reducible refine bif_ne ?_; omega) | exact b8_eq rfl | exact b8_ne rfl | exact bif_lt (by omega) | exact bif_le (by omega) | exact bif_eq (by omega) | exact bif_ne (by omega) | exact Iff.rfl | (simp only [zz, reduceCtorEq] <;> first | done | omega | exact Iff.rfl) | (simp; done) | (simp; omega)) (fun h2 => ?_) (fun h2 => ?_)
  · refine ai (ai (Int.natCast_nonneg _) (by show (k : Int) < (l.length : Int); omega)) ?_
    refine ai rfl ?_
    refine ei _ (ai rcheck_ok (ei ((n, l.getD k ⟨0, 0⟩)) (ei [] (ai (ai rfl (ai rfl (ai rfl (ai rfl (ai (fun _ => Or.inl rfl) (ai (by first | exact nof | exact (fun _ => ai rfl rfl)) (by first | exact Or.inl rfl | exact Or.inr rfl))))))) (ai (by (repeat' (first | with_reducible rfl | exact trivial | refine ai ?_ ?_ | (show (_ : Int) = _; first | with_reducible rfl | exact wr1 (by omega) | (simp only [zz, reduceCtorEq] <;> first | done | rfl | omega) | omega | rfl) | exact rfl | exact (fun _ => rfl) | exact (fun _ _ => rfl) | exact nof))) (ai trivial (ai (trivial) ?_)))))))
    have e : firstE n l (k + 1) = chkC n (l.getD k ⟨0, 0⟩) := by rw [firstE, if_pos hz]
    refine bcase_n (p := chkC n (l.getD k ⟨0, 0⟩) = 0) (by first | (with_reducible refine bif_lt ?_; omega) | (with_reducible refine bif_le ?_; omega) | (with_reducible refine bif_eq ?_; omega) | (with_reducible refine bif_ne ?_; omega) | exact b8_eq rfl | exact b8_ne rfl | exact bif_lt (by omega) | exact bif_le (by omega) | exact bif_eq (by omega) | exact bif_ne (by omega) | exact Iff.rfl | (simp only [zz, reduceCtorEq] <;> first | done | omega | exact Iff.rfl) | (simp; done) | (simp; omega)) (fun h3 => ?_) (fun h3 => ?_)
    · refine ai (ai (fun _ => trivial) ?_) trivial
      show chkC n (l.getD k ⟨0, 0⟩) = chkL n l
      rw [chkL, if_neg h1, firstE_stay (k := k + 1) (by rw [e]; exact h3) l.length (by omega), e]
    · skip
      refine ei (k + 1) (ai (ai rfl rfl) (ai (ai ?_ rfl) (ai (ai (by show k + 1 ≤ l.length; omega) ?_) (by show l.length - (k + 1) < l.length - k; omega))))
      any_goals (repeat' (first | with_reducible rfl | exact trivial | refine ai ?_ ?_ | (show (_ : Int) = _; first | with_reducible rfl | exact wr1 (by omega) | (simp only [zz, reduceCtorEq] <;> first | done | rfl | omega) | omega | rfl) | exact rfl | exact (fun _ => rfl) | exact (fun _ _ => rfl) | exact nof))
  · obtain rfl : k = l.length := by omega
    refine ai (ai (fun _ => trivial) ?_) trivial
    show (0 : Int) = chkL n l
    rw [chkL, if_neg h1, hz]

def chkN (n : Int) (l : List Cu) : Int := if n < 0 then 2 else if 6 < n then 2 else chkL n l
def chkNS : Spec := fnS (fun x : Int × List Cu => [iA x.1, csA x.2]) (fun x => x.2.length ≤ 1000000) (fun x => iP (chkN x.1 x.2))
theorem chkN_ok : FnOk Tryz.prog 87 chkNS := by
  refine fnOk (Tb := tab) mixed tab_ok Tryz.func87 rfl rfl ?_
  rintro ⟨n, l⟩ hpre
  refine ai (ai rfl (ai rfl rfl)) ?_
  have hl : l.length ≤ 1000000 := hpre
  refine bcase_p (p := n < 0) (by first | (with_reducible refine bif_lt ?_; omega) | (with_reducible refine bif_le ?_; omega) | (with_reducible refine bif_eq ?_; omega) | (with_reducible refine bif_ne ?_; omega) | exact b8_eq rfl | exact b8_ne rfl | exact bif_lt (by omega) | exact bif_le (by omega) | exact bif_eq (by omega) | exact bif_ne (by omega) | exact Iff.rfl | (simp only [zz, reduceCtorEq] <;> first | done | omega | exact Iff.rfl) | (simp; done) | (simp; omega)) (fun h1 => ?_) (fun h1 => ?_)
  · refine ai (ai (fun _ => trivial) ?_) trivial
    show (2 : Int) = chkN n l
    rw [chkN, if_pos h1]
  refine bcase_p (p := 6 < n) (by first | (with_reducible refine bif_lt ?_; omega) | (with_reducible refine bif_le ?_; omega) | (with_reducible refine bif_eq ?_; omega) | (with_reducible refine bif_ne ?_; omega) | exact b8_eq rfl | exact b8_ne rfl | exact bif_lt (by omega) | exact bif_le (by omega) | exact bif_eq (by omega) | exact bif_ne (by omega) | exact Iff.rfl | (simp only [zz, reduceCtorEq] <;> first | done | omega | exact Iff.rfl) | (simp; done) | (simp; omega)) (fun h2 => ?_) (fun h2 => ?_)
  · refine ai (ai (fun _ => trivial) ?_) trivial
    show (2 : Int) = chkN n l
    rw [chkN, if_neg h1, if_pos h2]
  have e0 : chkN n l = chkL n l := by rw [chkN, if_neg h1, if_neg h2]
  refine bcase_p (p := 256 < l.length) (by first | (with_reducible refine bif_lt ?_; omega) | (with_reducible refine bif_le ?_; omega) | (with_reducible refine bif_eq ?_; omega) | (with_reducible refine bif_ne ?_; omega) | exact b8_eq rfl | exact b8_ne rfl | exact bif_lt (by omega) | exact bif_le (by omega) | exact bif_eq (by omega) | exact bif_ne (by omega) | exact Iff.rfl | (simp only [zz, reduceCtorEq] <;> first | done | omega | exact Iff.rfl) | (simp; done) | (simp; omega)) (fun h3 => ?_) (fun h3 => ?_)
  · refine ai (ai (fun _ => trivial) ?_) trivial
    show (5 : Int) = chkN n l
    rw [e0, chkL, if_pos h3]
  refine ei (LAnn.inv { X := Nat, up := fun k => [(21, .s (iA k))], uo := fun k => [], inv := fun k => k ≤ l.length ∧ (firstE n l k = 0), meas := fun k => l.length - k, x0 := 0 }) ?_
  refine ai (ai (ai (by (repeat' (first | exact rfl | exact trivial | exact (fun _ => rfl) | exact (fun _ _ => rfl) | exact nof | refine ai ?_ ?_))) (ai (by (repeat' (first | with_reducible rfl | exact trivial | refine ai ?_ ?_ | (show (_ : Int) = _; first | with_reducible rfl | exact wr1 (by omega) | (simp only [zz, reduceCtorEq] <;> first | done | rfl | omega) | omega | rfl) | exact rfl | exact (fun _ => rfl) | exact (fun _ _ => rfl) | exact nof))) (by (repeat' (first | with_reducible rfl | exact trivial | refine ai ?_ ?_ | (show (_ : Int) = _; first | with_reducible rfl | exact wr1 (by omega) | (simp only [zz, reduceCtorEq] <;> first | done | rfl | omega) | omega | rfl) | exact rfl | exact (fun _ => rfl) | exact (fun _ _ => rfl) | exact nof))))) rfl) (ai (ai (Nat.zero_le _) ?_) ?_)
  · rfl
  intro (k : Nat) ⟨hk, hz⟩
  refine bcase_p (p := k < l.length) (by first | (with_reducible refine bif_lt ?_; omega) | (with_reducible refine bif_le ?_; omega) | (with_reducible refine bif_eq ?_; omega) | (with_reducible refine bif_ne ?_; omega) | exact b8_eq rfl | exact b8_ne rfl | exact bif_lt (by omega) | exact bif_le (by omega) | exact bif_eq (by omega) | exact bif_ne (by omega) | exact Iff.rfl | (simp only [zz, reduceCtorEq] <;> first | done | omega | exact Iff.rfl) | (simp; done) | (simp; omega)) (fun h2 => ?_) (fun h2 => ?_)
  · refine ai (ai (Int.natCast_nonneg _) (by show (k : Int) < (l.length : Int); omega)) ?_
    refine ai rfl ?_
    refine ei _ (ai check_ok (ei ((n, l.getD k ⟨0, 0⟩)) (ei [] (ai (ai rfl (ai rfl (ai rfl (ai rfl (ai (fun _ => Or.inl rfl) (ai (by first | exact nof | exact (fun _ => ai rfl rfl)) (by first | exact Or.inl rfl | exact Or.inr rfl))))))) (ai (by (repeat' (first | with_reducible rfl | exact trivial | refine ai ?_ ?_ | (show (_ : Int) = _; first | with_reducible rfl | exact wr1 (by omega) | (simp only [zz, reduceCtorEq] <;> first | done | rfl | omega) | omega | rfl) | exact rfl | exact (fun _ => rfl) | exact (fun _ _ => rfl) | exact nof))) (ai trivial (ai (trivial) ?_)))))))
    have e : firstE n l (k + 1) = chkC n (l.getD k ⟨0, 0⟩) := by rw [firstE, if_pos hz]
    refine bcase_n (p := chkC n (l.getD k ⟨0, 0⟩) = 0) (by first | (with_reducible refine bif_lt ?_; omega) | (with_reducible refine bif_le ?_; omega) | (with_reducible refine bif_eq ?_; omega) | (with_reducible refine bif_ne ?_; omega) | exact b8_eq rfl | exact b8_ne rfl | exact bif_lt (by omega) | exact bif_le (by omega) | exact bif_eq (by omega) | exact bif_ne (by omega) | exact Iff.rfl | (simp only [zz, reduceCtorEq] <;> first | done | omega | exact Iff.rfl) | (simp; done) | (simp; omega)) (fun h4 => ?_) (fun h4 => ?_)
    · refine ai (ai (fun _ => trivial) ?_) trivial
      show chkC n (l.getD k ⟨0, 0⟩) = chkN n l
      rw [e0, chkL, if_neg h3, firstE_stay (k := k + 1) (by rw [e]; exact h4) l.length (by omega), e]
    · skip
      refine ei (k + 1) (ai (ai rfl rfl) (ai (ai ?_ rfl) (ai (ai (by show k + 1 ≤ l.length; omega) ?_) (by show l.length - (k + 1) < l.length - k; omega))))
      any_goals (repeat' (first | with_reducible rfl | exact trivial | refine ai ?_ ?_ | (show (_ : Int) = _; first | with_reducible rfl | exact wr1 (by omega) | (simp only [zz, reduceCtorEq] <;> first | done | rfl | omega) | omega | rfl) | exact rfl | exact (fun _ => rfl) | exact (fun _ _ => rfl) | exact nof))
  · obtain rfl : k = l.length := by omega
    refine ai (ai (fun _ => trivial) ?_) trivial
    show (0 : Int) = chkN n l
    rw [e0, chkL, if_neg h3, hz]

end Go.Sx.Pn

namespace Go.Sx.Pn
open Go Go.Proofs

theorem hvalue_ok : FnOk Tryz.prog 93 atS := by
  refine fnOk (Tb := tab) mixed tab_ok Tryz.func93 rfl rfl ?_
  rintro ⟨t, k⟩ hpre
  refine ai (ai rfl (ai rfl rfl)) ?_
  refine ai (Int.natCast_nonneg _) ?_
  refine ai (ai (fun _ => (by (repeat' (first | exact rfl | exact trivial | exact (fun _ => rfl) | exact (fun _ _ => rfl) | exact nof | refine ai ?_ ?_)))) ?_) trivial
  show (bits .and .u64 ((t.bits.toNat : Int).fdiv (2 ^ min (k : Int).toNat IntKind.u64.bits)) 1 == 1) = atT t k
  try simp only [zz, reduceCtorEq]
  rfl

/-- the first of some cubes that a question holds of, or -1 -/
def firstQ (q : Cu → Bool) (l : List Cu) : Int := if l.any q then (l.findIdx q : Nat) else -1
theorem firstQ_at {l : List Cu} {q : Cu → Bool} {k : Nat} (hk : k < l.length) (h : q (l.getD k ⟨0, 0⟩) = true) (hall : ∀ j, j < k → q (l.getD j ⟨0, 0⟩) = false) : firstQ q l = (k : Int) := by
  have e : ∀ j (hj : j < l.length), l.getD j ⟨0, 0⟩ = l[j] := fun j hj => by simp [List.getD_eq_getElem?_getD, hj]
  have h1 : l.any q = true := List.any_eq_true.2 ⟨_, List.getElem_mem hk, by rw [← e k hk]; exact h⟩
  have h2 : l.findIdx q = k := (List.findIdx_eq hk).2 ⟨by rw [← e k hk]; exact h, fun j hj => by
    have := hall j hj
    rw [e j (by omega)] at this; simpa using this⟩
  rw [firstQ, if_pos h1, h2]
theorem firstQ_no {l : List Cu} {q : Cu → Bool} (hall : ∀ j, j < l.length → q (l.getD j ⟨0, 0⟩) = false) : firstQ q l = -1 := by
  have h1 : ¬ l.any q = true := fun h => by
    obtain ⟨d, hd, hh⟩ := List.any_eq_true.1 h
    obtain ⟨j, hj⟩ := List.getElem?_of_mem hd
    have := hall j (List.getElem?_eq_some_iff.1 hj).1
    rw [List.getD_eq_getElem?_getD, hj] at this
    rw [show (some d).getD ⟨0, 0⟩ = d from rfl, hh] at this; cases this
  rw [firstQ, if_neg h1]
theorem firstQ_any (q : Cu → Bool) (l : List Cu) : decide (0 ≤ firstQ q l) = l.any q := by
  unfold firstQ
  cases h : l.any q <;> simp

def qS1 (T : TypeId) (a : Int) (q : Cu → Bool) : Spec := { A := Cu, args := fun c => [cA c, .own 0 0], objs := fun _ => [.cells T [.p false (.val (.int .i64 a))]], pre := fun _ => True, res := fun c => bP (q c), objs' := fun _ => [], fresh := true, ro := 1 }
def qI1 (g : Nat) (T : TypeId) (a : Int) (q : Cu → Bool) : Spec := { A := List Cu, args := fun l => [csA l, .fn g [.own 0 0]], objs := fun _ => [.cells T [.p false (.val (.int .i64 a))]], pre := fun l => l.length ≤ 1000000, res := fun l => iP (firstQ q l), objs' := fun _ => [], fresh := true, ro := 1 }
def qC1 (g : Nat) (T : TypeId) (a : Int) (q : Cu → Bool) : Spec := { A := List Cu, args := fun l => [csA l, .fn g [.own 0 0]], objs := fun _ => [.cells T [.p false (.val (.int .i64 a))]], pre := fun l => l.length ≤ 1000000, res := fun l => bP (l.any q), objs' := fun _ => [], fresh := true, ro := 1 }
theorem qI1_ok {g : Nat} {T : TypeId} {a : Int} {q : Cu → Bool} (hg : FnOk Tryz.prog g (qS1 T a q)) : FnOk Tryz.prog 91 (qI1 g T a q) := by
  refine fnOk (Tb := tab) mixed tab_ok Tryz.func91 rfl rfl ?_
  rintro (l : List Cu) hpre
  refine ai (ai rfl (ai rfl rfl)) ?_
  have hl : l.length ≤ 1000000 := hpre
  refine ei (LAnn.inv { X := Nat, up := fun k => [(8, .s (iA k))], uo := fun k => [], inv := fun k => k ≤ l.length ∧ (∀ j, j < k → q (l.getD j ⟨0, 0⟩) = false), meas := fun k => l.length - k, x0 := 0 }) ?_
  refine ai (ai (ai (by (repeat' (first | exact rfl | exact trivial | exact (fun _ => rfl) | exact (fun _ _ => rfl) | exact nof | refine ai ?_ ?_))) (ai (by (repeat' (first | with_reducible rfl | exact trivial | refine ai ?_ ?_ | (show (_ : Int) = _; first | with_reducible rfl | exact wr1 (by omega) | (simp only [zz, reduceCtorEq] <;> first | done | rfl | omega) | omega | rfl) | exact rfl | exact (fun _ => rfl) | exact (fun _ _ => rfl) | exact nof))) (by (repeat' (first | with_reducible rfl | exact trivial | refine ai ?_ ?_ | (show (_ : Int) = _; first | with_reducible rfl | exact wr1 (by omega) | (simp only [zz, reduceCtorEq] <;> first | done | rfl | omega) | omega | rfl) | exact rfl | exact (fun _ => rfl) | exact (fun _ _ => rfl) | exact nof))))) rfl) (ai (ai (Nat.zero_le _) ?_) ?_)
  · exact fun j hj => absurd hj (Nat.not_lt_zero _)
  intro (k : Nat) ⟨hk, hno⟩
  refine bcase_p (p := k < l.length) (by first | (with_reducible refine bif_lt ?_; omega) | (with_reducible refine bif_le ?_; omega) | (with_reducible refine bif_eq ?_; omega) | (with_reducible refine bif_ne ?_; omega) | exact b8_eq rfl | exact b8_ne rfl | exact bif_lt (by omega) | exact bif_le (by omega) | exact bif_eq (by omega) | exact bif_ne (by omega) | exact Iff.rfl | (simp only [zz, reduceCtorEq] <;> first | done | omega | exact Iff.rfl) | (simp; done) | (simp; omega)) (fun h1 => ?_) (fun h1 => ?_)
  · refine ai (ai (Int.natCast_nonneg _) (by show (k : Int) < (l.length : Int); omega)) ?_
    refine ai rfl ?_
    refine ei _ (ai hg (ei (l.getD k ⟨0, 0⟩) (ei [0] (ai (ai rfl (ai rfl (ai rfl (ai rfl (ai (by first | exact (fun _ => Or.inl rfl) | exact nof | exact (fun _ => Or.inr (by (repeat' (first | exact rfl | exact trivial | exact (fun _ => rfl) | exact (fun _ _ => rfl) | exact nof | refine ai ?_ ?_))))) (ai (by first | exact nof | exact (fun _ => ai rfl rfl)) (by first | exact Or.inl rfl | exact Or.inr rfl))))))) (ai (by (repeat' (first | with_reducible rfl | exact trivial | refine ai ?_ ?_ | (show (_ : Int) = _; first | with_reducible rfl | exact wr1 (by omega) | (simp only [zz, reduceCtorEq] <;> first | done | rfl | omega) | omega | rfl) | exact rfl | exact (fun _ => rfl) | exact (fun _ _ => rfl) | exact nof))) (ai (by (repeat' (first | with_reducible rfl | exact trivial | refine ai ?_ ?_ | (show (_ : Int) = _; first | with_reducible rfl | exact wr1 (by omega) | (simp only [zz, reduceCtorEq] <;> first | done | rfl | omega) | omega | rfl) | exact rfl | exact (fun _ => rfl) | exact (fun _ _ => rfl) | exact nof))) (ai (trivial) ?_)))))))
    refine bcase_b (b := q (l.getD k ⟨0, 0⟩)) (by first | exact rfl | (simp only [zz, reduceCtorEq] <;> first | done | exact rfl)) (fun h2 => ?_) (fun h2 => ?_)
    · refine ai (ai (fun _ => trivial) ?_) trivial
      show (k : Int) = firstQ q l
      exact (firstQ_at h1 h2 hno).symm
    · skip
      refine ei (k + 1) (ai (ai rfl rfl) (ai (ai ?_ rfl) (ai (ai (by show k + 1 ≤ l.length; omega) ?_) (by show l.length - (k + 1) < l.length - k; omega))))
      any_goals (repeat' (first | with_reducible rfl | exact trivial | refine ai ?_ ?_ | (show (_ : Int) = _; first | with_reducible rfl | exact wr1 (by omega) | (simp only [zz, reduceCtorEq] <;> first | done | rfl | omega) | omega | rfl) | exact rfl | exact (fun _ => rfl) | exact (fun _ _ => rfl) | exact nof))
      exact upto_succ hno h2
  · obtain rfl : k = l.length := by omega
    refine ai (ai (fun _ => trivial) ?_) trivial
    show (-1 : Int) = firstQ q l
    exact (firstQ_no hno).symm
theorem qC1_ok {g : Nat} {T : TypeId} {a : Int} {q : Cu → Bool} (hg : FnOk Tryz.prog g (qS1 T a q)) : FnOk Tryz.prog 100 (qC1 g T a q) := by
  refine fnOk (Tb := tab) mixed tab_ok Tryz.func100 rfl rfl ?_
  rintro (l : List Cu) hpre
  refine ai (ai rfl (ai rfl rfl)) ?_
  refine ei _ (ai (qI1_ok hg) (ei (l) (ei [0] (ai (ai rfl (ai rfl (ai rfl (ai rfl (ai (by first | exact (fun _ => Or.inl rfl) | exact nof | exact (fun _ => Or.inr (by (repeat' (first | exact rfl | exact trivial | exact (fun _ => rfl) | exact (fun _ _ => rfl) | exact nof | refine ai ?_ ?_))))) (ai (by first | exact nof | exact (fun _ => ai rfl rfl)) (by first | exact Or.inl rfl | exact Or.inr rfl))))))) (ai (by (repeat' (first | with_reducible rfl | exact trivial | refine ai ?_ ?_ | (show (_ : Int) = _; first | with_reducible rfl | exact wr1 (by omega) | (simp only [zz, reduceCtorEq] <;> first | done | rfl | omega) | omega | rfl) | exact rfl | exact (fun _ => rfl) | exact (fun _ _ => rfl) | exact nof))) (ai (by (repeat' (first | with_reducible rfl | exact trivial | refine ai ?_ ?_ | (show (_ : Int) = _; first | with_reducible rfl | exact wr1 (by omega) | (simp only [zz, reduceCtorEq] <;> first | done | rfl | omega) | omega | rfl) | exact rfl | exact (fun _ => rfl) | exact (fun _ _ => rfl) | exact nof))) (ai (hpre) ?_)))))))
  refine ai (ai (fun _ => trivial) ?_) trivial
  show decide (0 ≤ firstQ q l) = l.any q
  exact firstQ_any q l

def qS2 (T : TypeId) (a b : Int) (q : Cu → Bool) : Spec := { A := Cu, args := fun c => [cA c, .own 0 0], objs := fun _ => [.cells T [.p false (.val (.int .i64 a)), .p false (.val (.int .i64 b))]], pre := fun _ => True, res := fun c => bP (q c), objs' := fun _ => [], fresh := true, ro := 1 }
def qI2 (g : Nat) (T : TypeId) (a b : Int) (q : Cu → Bool) : Spec := { A := List Cu, args := fun l => [csA l, .fn g [.own 0 0]], objs := fun _ => [.cells T [.p false (.val (.int .i64 a)), .p false (.val (.int .i64 b))]], pre := fun l => l.length ≤ 1000000, res := fun l => iP (firstQ q l), objs' := fun _ => [], fresh := true, ro := 1 }
def qC2 (g : Nat) (T : TypeId) (a b : Int) (q : Cu → Bool) : Spec := { A := List Cu, args := fun l => [csA l, .fn g [.own 0 0]], objs := fun _ => [.cells T [.p false (.val (.int .i64 a)), .p false (.val (.int .i64 b))]], pre := fun l => l.length ≤ 1000000, res := fun l => bP (l.any q), objs' := fun _ => [], fresh := true, ro := 1 }
theorem qI2_ok {g : Nat} {T : TypeId} {a b : Int} {q : Cu → Bool} (hg : FnOk Tryz.prog g (qS2 T a b q)) : FnOk Tryz.prog 91 (qI2 g T a b q) := by
  refine fnOk (Tb := tab) mixed tab_ok Tryz.func91 rfl rfl ?_
  rintro (l : List Cu) hpre
  refine ai (ai rfl (ai rfl rfl)) ?_
  have hl : l.length ≤ 1000000 := hpre
  refine ei (LAnn.inv { X := Nat, up := fun k => [(8, .s (iA k))], uo := fun k => [], inv := fun k => k ≤ l.length ∧ (∀ j, j < k → q (l.getD j ⟨0, 0⟩) = false), meas := fun k => l.length - k, x0 := 0 }) ?_
  refine ai (ai (ai (by (repeat' (first | exact rfl | exact trivial | exact (fun _ => rfl) | exact (fun _ _ => rfl) | exact nof | refine ai ?_ ?_))) (ai (by (repeat' (first | with_reducible rfl | exact trivial | refine ai ?_ ?_ | (show (_ : Int) = _; first | with_reducible rfl | exact wr1 (by omega) | (simp only [zz, reduceCtorEq] <;> first | done | rfl | omega) | omega | rfl) | exact rfl | exact (fun _ => rfl) | exact (fun _ _ => rfl) | exact nof))) (by (repeat' (first | with_reducible rfl | exact trivial | refine ai ?_ ?_ | (show (_ : Int) = _; first | with_reducible rfl | exact wr1 (by omega) | (simp only [zz, reduceCtorEq] <;> first | done | rfl | omega) | omega | rfl) | exact rfl | exact (fun _ => rfl) | exact (fun _ _ => rfl) | exact nof))))) rfl) (ai (ai (Nat.zero_le _) ?_) ?_)
  · exact fun j hj => absurd hj (Nat.not_lt_zero _)
  intro (k : Nat) ⟨hk, hno⟩
  refine bcase_p (p := k < l.length) (by first | (with_reducible refine bif_lt ?_; omega) | (with_reducible refine bif_le ?_; omega) | (with_reducible refine bif_eq ?_; omega) | (with_reducible refine bif_ne ?_; omega) | exact b8_eq rfl | exact b8_ne rfl | exact bif_lt (by omega) | exact bif_le (by omega) | exact bif_eq (by omega) | exact bif_ne (by omega) | exact Iff.rfl | (simp only [zz, reduceCtorEq] <;> first | done | omega | exact Iff.rfl) | (simp; done) | (simp; omega)) (fun h1 => ?_) (fun h1 => ?_)
  · refine ai (ai (Int.natCast_nonneg _) (by show (k : Int) < (l.length : Int); omega)) ?_
    refine ai rfl ?_
    refine ei _ (ai hg (ei (l.getD k ⟨0, 0⟩) (ei [0] (ai (ai rfl (ai rfl (ai rfl (ai rfl (ai (by first | exact (fun _ => Or.inl rfl) | exact nof | exact (fun _ => Or.inr (by (repeat' (first | exact rfl | exact trivial | exact (fun _ => rfl) | exact (fun _ _ => rfl) | exact nof | refine ai ?_ ?_))))) (ai (by first | exact nof | exact (fun _ => ai rfl rfl)) (by first | exact Or.inl rfl | exact Or.inr rfl))))))) (ai (by (repeat' (first | with_reducible rfl | exact trivial | refine ai ?_ ?_ | (show (_ : Int) = _; first | with_reducible rfl | exact wr1 (by omega) | (simp only [zz, reduceCtorEq] <;> first | done | rfl | omega) | omega | rfl) | exact rfl | exact (fun _ => rfl) | exact (fun _ _ => rfl) | exact nof))) (ai (by (repeat' (first | with_reducible rfl | exact trivial | refine ai ?_ ?_ | (show (_ : Int) = _; first | with_reducible rfl | exact wr1 (by omega) | (simp only [zz, reduceCtorEq] <;> first | done | rfl | omega) | omega | rfl) | exact rfl | exact (fun _ => rfl) | exact (fun _ _ => rfl) | exact nof))) (ai (trivial) ?_)))))))
    refine bcase_b (b := q (l.getD k ⟨0, 0⟩)) (by first | exact rfl | (simp only [zz, reduceCtorEq] <;> first | done | exact rfl)) (fun h2 => ?_) (fun h2 => ?_)
    · refine ai (ai (fun _ => trivial) ?_) trivial
      show (k : Int) = firstQ q l
      exact (firstQ_at h1 h2 hno).symm
    · skip
      refine ei (k + 1) (ai (ai rfl rfl) (ai (ai ?_ rfl) (ai (ai (by show k + 1 ≤ l.length; omega) ?_) (by show l.length - (k + 1) < l.length - k; omega))))
      any_goals (repeat' (first | with_reducible rfl | exact trivial | refine ai ?_ ?_ | (show (_ : Int) = _; first | with_reducible rfl | exact wr1 (by omega) | (simp only [zz, reduceCtorEq] <;> first | done | rfl | omega) | omega | rfl) | exact rfl | exact (fun _ => rfl) | exact (fun _ _ => rfl) | exact nof))
      exact upto_succ hno h2
  · obtain rfl : k = l.length := by omega
    refine ai (ai (fun _ => trivial) ?_) trivial
    show (-1 : Int) = firstQ q l
    exact (firstQ_no hno).symm
theorem qC2_ok {g : Nat} {T : TypeId} {a b : Int} {q : Cu → Bool} (hg : FnOk Tryz.prog g (qS2 T a b q)) : FnOk Tryz.prog 100 (qC2 g T a b q) := by
  refine fnOk (Tb := tab) mixed tab_ok Tryz.func100 rfl rfl ?_
  rintro (l : List Cu) hpre
  refine ai (ai rfl (ai rfl rfl)) ?_
  refine ei _ (ai (qI2_ok hg) (ei (l) (ei [0] (ai (ai rfl (ai rfl (ai rfl (ai rfl (ai (by first | exact (fun _ => Or.inl rfl) | exact nof | exact (fun _ => Or.inr (by (repeat' (first | exact rfl | exact trivial | exact (fun _ => rfl) | exact (fun _ _ => rfl) | exact nof | refine ai ?_ ?_))))) (ai (by first | exact nof | exact (fun _ => ai rfl rfl)) (by first | exact Or.inl rfl | exact Or.inr rfl))))))) (ai (by (repeat' (first | with_reducible rfl | exact trivial | refine ai ?_ ?_ | (show (_ : Int) = _; first | with_reducible rfl | exact wr1 (by omega) | (simp only [zz, reduceCtorEq] <;> first | done | rfl | omega) | omega | rfl) | exact rfl | exact (fun _ => rfl) | exact (fun _ _ => rfl) | exact nof))) (ai (by (repeat' (first | with_reducible rfl | exact trivial | refine ai ?_ ?_ | (show (_ : Int) = _; first | with_reducible rfl | exact wr1 (by omega) | (simp only [zz, reduceCtorEq] <;> first | done | rfl | omega) | omega | rfl) | exact rfl | exact (fun _ => rfl) | exact (fun _ _ => rfl) | exact nof))) (ai (hpre) ?_)))))))
  refine ai (ai (fun _ => trivial) ?_) trivial
  show decide (0 ≤ firstQ q l) = l.any q
  exact firstQ_any q l

theorem htable1_ok (k : Int) : FnOk Tryz.prog 101 (qS1 3 k (fun c => hasC c k)) := by
  refine fnOk (Tb := tab) mixed tab_ok Tryz.func101 rfl rfl ?_
  rintro (c : Cu) hpre
  refine ai (ai rfl (ai rfl rfl)) ?_
  refine ei _ (ai hin_ok (ei ((c, k)) (ei [] (ai (ai rfl (ai rfl (ai rfl (ai rfl (ai (fun _ => Or.inl rfl) (ai (by first | exact nof | exact (fun _ => ai rfl rfl)) (by first | exact Or.inl rfl | exact Or.inr rfl))))))) (ai (by (repeat' (first | with_reducible rfl | exact trivial | refine ai ?_ ?_ | (show (_ : Int) = _; first | with_reducible rfl | exact wr1 (by omega) | (simp only [zz, reduceCtorEq] <;> first | done | rfl | omega) | omega | rfl) | exact rfl | exact (fun _ => rfl) | exact (fun _ _ => rfl) | exact nof))) (ai trivial (ai (trivial) ?_)))))))
  refine ai (ai (fun _ => (by (repeat' (first | exact rfl | exact trivial | exact (fun _ => rfl) | exact (fun _ _ => rfl) | exact nof | refine ai ?_ ?_)))) ?_) trivial
  any_goals (repeat' (first | with_reducible rfl | exact trivial | refine ai ?_ ?_ | (show (_ : Int) = _; first | with_reducible rfl | exact wr1 (by omega) | (simp only [zz, reduceCtorEq] <;> first | done | rfl | omega) | omega | rfl) | exact rfl | exact (fun _ => rfl) | exact (fun _ _ => rfl) | exact nof))

end Go.Sx.Pn

namespace Go.Sx.Pn
open Go Go.Proofs

theorem sorted_ext : ∀ (a b : List Nat), a.Pairwise (· < ·) → b.Pairwise (· < ·) → (∀ x, x ∈ a ↔ x ∈ b) → a = b
  | [], [], _, _, _ => rfl
  | [], y :: b, _, _, h => absurd ((h y).2 (List.mem_cons_self ..)) List.not_mem_nil
  | x :: a, [], _, _, h => absurd ((h x).1 (List.mem_cons_self ..)) List.not_mem_nil
  | x :: a, y :: b, ha, hb, h => by
    obtain ⟨ha1, ha2⟩ := List.pairwise_cons.1 ha
    obtain ⟨hb1, hb2⟩ := List.pairwise_cons.1 hb
    have e : x = y := by
      have h1 := (h x).1 (List.mem_cons_self ..)
      have h2 := (h y).2 (List.mem_cons_self ..)
      rcases List.mem_cons.1 h1 with h1 | h1
      · exact h1
      · rcases List.mem_cons.1 h2 with h2 | h2
        · exact h2.symm
        · have := hb1 x h1; have := ha1 y h2; omega
    subst e
    rw [sorted_ext a b ha2 hb2 fun z => ?_]
    constructor
    · intro hz
      have := ha1 z hz
      rcases List.mem_cons.1 ((h z).1 (List.mem_cons_of_mem _ hz)) with h1 | h1
      · omega
      · exact h1
    · intro hz
      have := hb1 z hz
      rcases List.mem_cons.1 ((h z).2 (List.mem_cons_of_mem _ hz)) with h1 | h1
      · omega
      · exact h1

/-- is a point on the way from one to the other -/
def onAt (n a b k : Nat) : Bool := (List.range n).all fun i => !(a.testBit i == b.testBit i && k.testBit i != a.testBit i)
def onL (n a b : Nat) : List Nat := (List.range (2 ^ n)).filter (onAt n a b)
theorem onAt_iff {n a b k : Nat} : onAt n a b k = true ↔ ∀ i, i < n → a.testBit i = b.testBit i → k.testBit i = a.testBit i := by
  unfold onAt
  rw [List.all_eq_true]
  constructor
  · intro h i hi e
    have := h i (List.mem_range.2 hi)
    rw [e] at this ⊢
    revert this
    cases b.testBit i <;> cases k.testBit i <;> simp
  · intro h i hi
    have := h i (List.mem_range.1 hi)
    revert this
    cases a.testBit i <;> cases b.testBit i <;> cases k.testBit i <;> simp
theorem mem_on {n a b k : Nat} : k ∈ onL n a b ↔ k < 2 ^ n ∧ ∀ i, i < n → a.testBit i = b.testBit i → k.testBit i = a.testBit i := by
  unfold onL
  rw [List.mem_filter, List.mem_range, onAt_iff]
theorem range_sorted (m : Nat) : (List.range m).Pairwise (· < ·) := List.pairwise_lt_range
theorem bit_high {n k i : Nat} (hk : k < 2 ^ n) (hi : n ≤ i) : k.testBit i = false := Nat.testBit_lt_two_pow (Nat.lt_of_lt_of_le hk (Nat.pow_le_pow_right (by decide) hi))
theorem ext_low {n a b : Nat} (ha : a < 2 ^ n) (hb : b < 2 ^ n) (h : ∀ i, i < n → a.testBit i = b.testBit i) : a = b := by
  apply Nat.eq_of_testBit_eq
  intro i
  by_cases hi : i < n
  · exact h i hi
  · rw [bit_high ha (Nat.le_of_not_lt hi), bit_high hb (Nat.le_of_not_lt hi)]
theorem lt_of_bits {n k : Nat} (h : ∀ i, n ≤ i → k.testBit i = false) : k < 2 ^ n := Nat.lt_pow_two_of_testBit _ fun i hi => h i hi
/-- a point with one bit changed -/
def flip (a i : Nat) : Nat := a ^^^ 2 ^ i
theorem flip_bit (a i j : Nat) : (flip a i).testBit j = (a.testBit j ^^ decide (i = j)) := by
  unfold flip
  rw [Nat.testBit_xor, Nat.testBit_two_pow]
theorem flip_lt {n a i : Nat} (ha : a < 2 ^ n) (hi : i < n) : flip a i < 2 ^ n := lt_of_bits fun j hj => by
  rw [flip_bit, bit_high ha hj]; simp; omega
theorem flip_flip (a i : Nat) : flip (flip a i) i = a := by
  apply Nat.eq_of_testBit_eq; intro j
  rw [flip_bit, flip_bit]; simp
/-- the bit set -/
def up (a i : Nat) : Nat := a ||| 2 ^ i
theorem up_bit (a i j : Nat) : (up a i).testBit j = (a.testBit j || decide (i = j)) := by
  unfold up
  rw [Nat.testBit_or, Nat.testBit_two_pow]
theorem up_flip {a i : Nat} (h : a.testBit i = false) : up a i = flip a i := by
  apply Nat.eq_of_testBit_eq; intro j
  rw [up_bit, flip_bit]
  by_cases e : i = j
  · subst e; rw [h]; simp
  · simp [e]
theorem up_ne {a i : Nat} : up a i ≠ a ↔ a.testBit i = false := by
  constructor
  · intro h
    cases hb : a.testBit i with
    | false => rfl
    | true =>
      refine absurd (Nat.eq_of_testBit_eq fun j => ?_) h
      rw [up_bit]
      by_cases e : i = j
      · subst e; rw [hb]; rfl
      · simp [e]
  · intro h e
    have := congrArg (fun x => Nat.testBit x i) e
    simp only [up_bit, h] at this
    simp at this
theorem up_add {a i : Nat} (h : a.testBit i = false) : up a i = a + 2 ^ i := by
  have hr : a % 2 ^ (i + 1) < 2 ^ i := Nat.lt_pow_two_of_testBit _ fun j hj => by
    rw [Nat.testBit_mod_two_pow]
    by_cases e : j = i
    · subst e; rw [h]; simp
    · have : ¬ j < i + 1 := by omega
      simp [this]
  have h2 : 2 ^ (i + 1) = 2 ^ i + 2 ^ i := by rw [Nat.pow_succ]; omega
  have h3 := Nat.div_add_mod a (2 ^ (i + 1))
  generalize a / 2 ^ (i + 1) = q at h3
  generalize a % 2 ^ (i + 1) = r at h3 hr
  have e1 := Nat.two_pow_add_eq_or_of_lt (i := i + 1) (b := r) (by omega) q
  have e2 := Nat.two_pow_add_eq_or_of_lt (i := i + 1) (b := 2 ^ i + r) (by omega) q
  have e3 := Nat.two_pow_add_eq_or_of_lt (i := i) (b := r) hr 1
  rw [Nat.mul_one] at e3
  unfold up
  rw [← h3, e1, ← e1, Nat.add_assoc, Nat.add_comm r, e2, e3, e1, Nat.or_assoc, Nat.or_comm r]
theorem lt_up {a i : Nat} (h : a.testBit i = false) : a < up a i := by
  rw [up_add h]; have := Nat.two_pow_pos i; omega
theorem up_mono {a i j : Nat} (hi : a.testBit i = false) (hj : a.testBit j = false) (h : i < j) : up a i < up a j := by
  rw [up_add hi, up_add hj]
  have := Nat.pow_lt_pow_right (a := 2) (by decide) h
  omega
theorem flip_down {a i : Nat} (h : a.testBit i = true) : flip a i < a := by
  have h1 : (flip a i).testBit i = false := by rw [flip_bit, h]; simp
  have h2 := lt_up h1
  rwa [up_flip h1, flip_flip] at h2
theorem up_lt {n a i : Nat} (ha : a < 2 ^ n) (hi : i < n) : up a i < 2 ^ n := lt_of_bits fun j hj => by
  rw [up_bit, bit_high ha hj]; simp; omega

/-- just two points are on the way of a change of one variable -/
theorem on_flip {n a i : Nat} (ha : a < 2 ^ n) (hi : i < n) (k : Nat) : k ∈ onL n a (flip a i) ↔ k = a ∨ k = flip a i := by
  rw [mem_on]
  constructor
  · rintro ⟨hk, h⟩
    have hoff : ∀ j, j < n → j ≠ i → k.testBit j = a.testBit j := fun j hj hne => h j hj (by rw [flip_bit]; simp [Ne.symm hne])
    by_cases hki : k.testBit i = a.testBit i
    · exact .inl (ext_low hk ha fun j hj => by
        by_cases e : j = i
        · subst e; exact hki
        · exact hoff j hj e)
    · refine .inr (ext_low hk (flip_lt ha hi) fun j hj => ?_)
      rw [flip_bit]
      by_cases e : i = j
      · subst e
        revert hki
        cases k.testBit i <;> cases a.testBit i <;> simp
      · rw [hoff j hj (Ne.symm e)]; simp [e]
  · rintro (rfl | rfl)
    · exact ⟨ha, fun _ _ _ => rfl⟩
    · exact ⟨flip_lt ha hi, fun j _ e => e.symm⟩
theorem on_two {n a i : Nat} (ha : a < 2 ^ n) (hi : i < n) (h : a.testBit i = false) : onL n a (up a i) = [a, up a i] := by
  have hs : (onL n a (up a i)).Pairwise (· < ·) := (range_sorted _).filter _
  refine sorted_ext _ _ hs (by simp [lt_up h]) fun x => ?_
  rw [up_flip h, on_flip ha hi]; simp
theorem on_len {n a b : Nat} (ha : a < 2 ^ n) (hb : b < 2 ^ n) (hab : a < b) : (onL n a b).length = 2 ↔ ∃ i, i < n ∧ a.testBit i = false ∧ b = up a i := by
  constructor
  · intro hl
    have hne : ¬ ∀ i, i < n → a.testBit i = b.testBit i := fun h => by have := ext_low ha hb h; omega
    obtain ⟨i, hi⟩ := Classical.not_forall.1 hne
    have hin : i < n := Classical.byContradiction fun h => hi fun h2 => absurd h2 h
    have hbit : ¬ a.testBit i = b.testBit i := fun h => hi fun _ => h
    have m1 : a ∈ onL n a b := mem_on.2 ⟨ha, fun _ _ _ => rfl⟩
    have m2 : b ∈ onL n a b := mem_on.2 ⟨hb, fun _ _ e => e.symm⟩
    have m3 : flip a i ∈ onL n a b := mem_on.2 ⟨flip_lt ha hin, fun j _ e => by
      rw [flip_bit]
      have : i ≠ j := fun h => by subst h; exact hbit e
      simp [this]⟩
    have n1 : flip a i ≠ a := fun e => by
      have := congrArg (fun x => Nat.testBit x i) e
      simp only [flip_bit] at this
      simp at this
    have e : b = flip a i := by
      match hL : onL n a b, hl with
      | [x, y], _ =>
        rw [hL] at m1 m2 m3
        simp only [List.mem_cons, List.mem_nil_iff, or_false] at m1 m2 m3
        omega
    refine ⟨i, hin, ?_, ?_⟩
    · cases h : a.testBit i with
      | false => rfl
      | true =>
        exfalso
        have hb2 : b.testBit i = false := by rw [e, flip_bit, h]; simp
        have : b < a := by rw [e]; exact flip_down h
        omega
    · cases h : a.testBit i with
      | false => rw [up_flip h]; exact e
      | true =>
        exfalso
        have hb2 : b.testBit i = false := by rw [e, flip_bit, h]; simp
        have : b < a := by rw [e]; exact flip_down h
        omega
  · rintro ⟨i, hi, h, rfl⟩
    rw [on_two ha hi h]; rfl

/-- a pair of neighbours, both of which are points of a table -/
def pairAt (b : U) (a i : Nat) : Option (Nat × Nat) := if up a i ≠ a ∧ b.getLsbD a = true ∧ b.getLsbD (up a i) = true then some (a, up a i) else none
def rowTo (b : U) (a m : Nat) : List (Nat × Nat) := (List.range m).filterMap (pairAt b a)
def pairsTo (n : Nat) (b : U) (m : Nat) : List (Nat × Nat) := (List.range m).flatMap fun a => rowTo b a n
def pairsL (n : Nat) (b : U) : List (Nat × Nat) := pairsTo n b (2 ^ n)
def rpairAt (n : Nat) (b : U) (a k : Nat) : Option (Nat × Nat) := if b.getLsbD a = true ∧ b.getLsbD k = true ∧ (onL n a k).length = 2 then some (a, k) else none
def rrowTo (n : Nat) (b : U) (a m : Nat) : List (Nat × Nat) := (List.range m).filterMap fun d => rpairAt n b a (a + 1 + d)
theorem rowTo_succ (b : U) (a m : Nat) : rowTo b a (m + 1) = rowTo b a m ++ (pairAt b a m).toList := by
  unfold rowTo
  rw [List.range_succ, List.filterMap_append]
  cases h : pairAt b a m <;> simp [h]
theorem rrowTo_succ (n : Nat) (b : U) (a m : Nat) : rrowTo n b a (m + 1) = rrowTo n b a m ++ (rpairAt n b a (a + 1 + m)).toList := by
  unfold rrowTo
  rw [List.range_succ, List.filterMap_append]
  cases h : rpairAt n b a (a + 1 + m) <;> simp [h]
theorem pairsTo_succ (n : Nat) (b : U) (m : Nat) : pairsTo n b (m + 1) = pairsTo n b m ++ rowTo b m n := by
  unfold pairsTo
  rw [List.range_succ, List.flatMap_append]; simp
theorem snd_ext {a : Nat} : ∀ (l m : List (Nat × Nat)), (∀ p ∈ l, p.1 = a) → (∀ p ∈ m, p.1 = a) → l.map Prod.snd = m.map Prod.snd → l = m
  | [], [], _, _, _ => rfl
  | [], _ :: _, _, _, h => by simp at h
  | _ :: _, [], _, _, h => by simp at h
  | p :: l, q :: m, h1, h2, h => by
    simp only [List.map_cons, List.cons.injEq] at h
    have e1 := h1 p (List.mem_cons_self ..)
    have e2 := h2 q (List.mem_cons_self ..)
    rw [snd_ext l m (fun x hx => h1 x (List.mem_cons_of_mem _ hx)) (fun x hx => h2 x (List.mem_cons_of_mem _ hx)) h.2]
    rw [Prod.ext_iff.2 ⟨e1.trans e2.symm, h.1⟩]
theorem pairAt_some {b : U} {a i : Nat} {p : Nat × Nat} : pairAt b a i = some p ↔ a.testBit i = false ∧ b.getLsbD a = true ∧ b.getLsbD (up a i) = true ∧ p = (a, up a i) := by
  unfold pairAt
  rw [← up_ne]
  by_cases h : up a i ≠ a ∧ b.getLsbD a = true ∧ b.getLsbD (up a i) = true
  · rw [if_pos h]; simp only [Option.some.injEq]
    exact ⟨fun e => ⟨h.1, h.2.1, h.2.2, e.symm⟩, fun e => e.2.2.2.symm⟩
  · rw [if_neg h]
    exact ⟨fun e => (by cases e), fun e => absurd ⟨e.1, e.2.1, e.2.2.1⟩ h⟩
theorem mem_row {b : U} {a m : Nat} {p : Nat × Nat} : p ∈ rowTo b a m ↔ ∃ i, i < m ∧ a.testBit i = false ∧ b.getLsbD a = true ∧ b.getLsbD (up a i) = true ∧ p = (a, up a i) := by
  unfold rowTo
  rw [List.mem_filterMap]
  constructor
  · rintro ⟨i, hi, h⟩; exact ⟨i, List.mem_range.1 hi, pairAt_some.1 h⟩
  · rintro ⟨i, hi, h⟩; exact ⟨i, List.mem_range.2 hi, pairAt_some.2 h⟩
theorem mem_pairs {n : Nat} {b : U} {p : Nat × Nat} : p ∈ pairsL n b ↔ ∃ a i, a < 2 ^ n ∧ i < n ∧ a.testBit i = false ∧ b.getLsbD a = true ∧ b.getLsbD (up a i) = true ∧ p = (a, up a i) := by
  unfold pairsL pairsTo
  rw [List.mem_flatMap]
  constructor
  · rintro ⟨a, ha, h⟩
    obtain ⟨i, hi, h⟩ := mem_row.1 h
    exact ⟨a, i, List.mem_range.1 ha, hi, h⟩
  · rintro ⟨a, i, ha, hi, h⟩
    exact ⟨a, List.mem_range.2 ha, mem_row.2 ⟨i, hi, h⟩⟩
theorem row_eq {n : Nat} (b : U) {a : Nat} (ha : a < 2 ^ n) : rrowTo n b a (2 ^ n - (a + 1)) = rowTo b a n := by
  have r1 : ∀ p, p ∈ rrowTo n b a (2 ^ n - (a + 1)) ↔ ∃ d, d < 2 ^ n - (a + 1) ∧ b.getLsbD a = true ∧ b.getLsbD (a + 1 + d) = true ∧ (onL n a (a + 1 + d)).length = 2 ∧ p = (a, a + 1 + d) := fun p => by
    unfold rrowTo
    rw [List.mem_filterMap]
    constructor
    · rintro ⟨d, hd, h⟩
      unfold rpairAt at h
      split at h
      · rename_i h2; cases h; exact ⟨d, List.mem_range.1 hd, h2.1, h2.2.1, h2.2.2, rfl⟩
      · cases h
    · rintro ⟨d, hd, h1, h2, h3, rfl⟩
      exact ⟨d, List.mem_range.2 hd, by unfold rpairAt; rw [if_pos ⟨h1, h2, h3⟩]⟩
  refine snd_ext (a := a) _ _ (fun p hp => by obtain ⟨d, _, _, _, _, rfl⟩ := (r1 p).1 hp; rfl) (fun p hp => by obtain ⟨i, _, _, _, _, rfl⟩ := mem_row.1 hp; rfl) ?_
  refine sorted_ext _ _ ?_ ?_ fun x => ?_
  · rw [List.pairwise_map]
    unfold rrowTo
    rw [List.pairwise_filterMap]
    refine List.Pairwise.imp_of_mem (fun {i j} _ _ hij => ?_) List.pairwise_lt_range
    intro p hp q hq
    have f : ∀ d p, rpairAt n b a (a + 1 + d) = some p → p.2 = a + 1 + d := fun d p h => by
      unfold rpairAt at h
      split at h
      · cases h; rfl
      · cases h
    rw [f i p hp, f j q hq]; omega
  · rw [List.pairwise_map]
    unfold rowTo
    rw [List.pairwise_filterMap]
    refine List.Pairwise.imp_of_mem (fun {i j} _ _ hij => ?_) List.pairwise_lt_range
    intro p hp q hq
    obtain ⟨h0, _, _, rfl⟩ := pairAt_some.1 hp
    obtain ⟨h1, _, _, rfl⟩ := pairAt_some.1 hq
    exact up_mono h0 h1 hij
  · rw [List.mem_map, List.mem_map]
    constructor
    · rintro ⟨p, hp, rfl⟩
      obtain ⟨d, hd, h1, h2, h3, rfl⟩ := (r1 p).1 hp
      obtain ⟨i, hi, h4, h5⟩ := (on_len ha (by omega) (by omega)).1 h3
      exact ⟨(a, up a i), mem_row.2 ⟨i, hi, h4, h1, by rw [← h5]; exact h2, rfl⟩, h5.symm⟩
    · rintro ⟨p, hp, rfl⟩
      obtain ⟨i, hi, h4, h1, h2, rfl⟩ := mem_row.1 hp
      have h6 := lt_up h4
      have h7 := up_lt ha hi
      refine ⟨(a, up a i), (r1 _).2 ⟨up a i - (a + 1), by omega, h1, ?_, ?_, ?_⟩, rfl⟩
      · rw [show a + 1 + (up a i - (a + 1)) = up a i by omega]; exact h2
      · rw [show a + 1 + (up a i - (a + 1)) = up a i by omega, on_two ha hi h4]; rfl
      · rw [show a + 1 + (up a i - (a + 1)) = up a i by omega]
theorem rowTo_len (b : U) (a m : Nat) : (rowTo b a m).length ≤ m := by
  have := List.length_filterMap_le (pairAt b a) (List.range m)
  simpa [rowTo] using this
theorem pairsTo_len (n : Nat) (b : U) : ∀ m, (pairsTo n b m).length ≤ m * n
  | 0 => by simp [pairsTo]
  | m + 1 => by
    rw [pairsTo_succ, List.length_append, Nat.succ_mul]
    have := pairsTo_len n b m
    have := rowTo_len b m n
    omega

/-- the points in some cube, as bits -/
def tabU (l : List Cu) : Nat → U
  | 0 => 0#64
  | m + 1 => if l.any (fun c => hasC c (m : Int)) then tabU l m ||| 1#64 <<< m else tabU l m
theorem tab_bit (l : List Cu) : ∀ (m : Nat), m ≤ 64 → ∀ i, (tabU l m).getLsbD i = (decide (i < m) && l.any (fun c => hasC c (i : Int)))
  | 0, _, i => by simp [tabU]
  | m + 1, h, i => by
    rw [tabU]
    have ih := tab_bit l m (by omega) i
    by_cases hm : l.any (fun c => hasC c (m : Int)) = true
    · rw [if_pos hm, BitVec.getLsbD_or, ih, shl1_bit (by omega)]
      by_cases e : i = m
      · subst e; simp [hm]
      · simp only [e, decide_false, Bool.or_false]
        by_cases h2 : i < m
        · simp [h2, show i < m + 1 by omega]
        · simp [h2, show ¬ i < m + 1 by omega]
    · rw [if_neg hm, ih]
      by_cases e : i = m
      · subst e
        have : l.any (fun c => hasC c (i : Int)) = false := by simpa using hm
        simp [this]
      · by_cases h2 : i < m
        · simp [h2, show i < m + 1 by omega]
        · simp [h2, show ¬ i < m + 1 by omega]
theorem own_any (l : List Cu) (p : Int) : decide (0 < (ownL l p).length) = l.any (fun c => hasC c p) := by
  rw [Bool.eq_iff_iff, decide_eq_true_iff, List.any_eq_true]
  unfold ownL ownTo
  rw [List.length_pos_iff_exists_mem]
  constructor
  · rintro ⟨i, hi⟩
    rw [List.mem_filter, List.mem_range] at hi
    refine ⟨_, List.getElem_mem hi.1, ?_⟩
    have := hi.2
    rwa [List.getD_eq_getElem?_getD, List.getElem?_eq_getElem hi.1] at this
  · rintro ⟨c, hc, h⟩
    obtain ⟨i, hi, rfl⟩ := List.getElem_of_mem hc
    refine ⟨i, ?_⟩
    rw [List.mem_filter, List.mem_range]
    exact ⟨hi, by rw [List.getD_eq_getElem?_getD, List.getElem?_eq_getElem hi]; exact h⟩
/-- the points in some cube -/
def tabL (l : List Cu) (m : Nat) : List Nat := (List.range m).filter fun k => l.any fun c => hasC c (k : Int)
theorem made_tab (l : List Cu) (N : Nat) : madeU (tabL l N) N = tabU l N := by
  have step : ∀ m, m ≤ N → madeU (tabL l N) m = tabU l m := fun m => by
    induction m with
    | zero => intro _; rfl
    | succ m ih =>
      intro hm
      rw [madeU, tabU, ih (by omega)]
      have hmem : m ∈ tabL l N ↔ l.any (fun c => hasC c (m : Int)) = true := by
        unfold tabL
        rw [List.mem_filter]
        exact ⟨fun h => h.2, fun h => ⟨List.mem_range.2 (by omega), h⟩⟩
      by_cases hh : l.any (fun c => hasC c (m : Int)) = true
      · rw [if_pos (hmem.2 hh), if_pos hh]
      · rw [if_neg (fun q => hh (hmem.1 q)), if_neg hh]
  exact step _ (Nat.le_refl _)

/-- are two points in one cube -/
def togC (l : List Cu) (p : Nat × Nat) : Bool := l.any fun c => hasC c (p.1 : Int) && hasC c (p.2 : Int)
/-- the static hazards -/
def badL (n : Nat) (l : List Cu) : List (Nat × Nat) := (pairsL n (tabU l (2 ^ n))).filter fun p => !togC l p

end Go.Sx.Pn

namespace Go.Sx.Pn
open Go Go.Proofs

/-- what a cube has during a change -/
def stateC (c : Cu) (a b : Nat) : Int :=
  if (uN a ^^^ c.value) &&& c.care &&& ~~~ uN (a ^^^ b) ≠ 0#64 then 0 else if c.care &&& uN (a ^^^ b) = 0#64 then 1 else 2
theorem uN_bit (k : Nat) {i : Nat} (hi : i < 64) : (uN k).getLsbD i = k.testBit i := by rw [uN, BitVec.getLsbD_ofNat]; simp [hi]
def allOn (n a b : Nat) (c : Cu) : Bool := (onL n a b).all fun k => hasC c (k : Int)
def someOn (n a b : Nat) (c : Cu) : Bool := (onL n a b).any fun k => hasC c (k : Int)
theorem on_self {n a b : Nat} (ha : a < 2 ^ n) : a ∈ onL n a b := mem_on.2 ⟨ha, fun _ _ _ => rfl⟩
theorem all_some {n a b : Nat} (ha : a < 2 ^ n) {c : Cu} (h : allOn n a b c = true) : someOn n a b c = true :=
  List.any_eq_true.2 ⟨a, on_self ha, List.all_eq_true.1 h a (on_self ha)⟩
theorem state_eq {n : Nat} (hn : n ≤ 6) {c : Cu} (hc : c.Ok n) {a b : Nat} (ha : a < 2 ^ n) (hb : b < 2 ^ n) : stateC c a b = if allOn n a b c then 1 else if someOn n a b c then 2 else 0 := by
  have h64 : ∀ i, i < n → i < 64 := fun i h => by omega
  have cn : ∀ i, i < 64 → c.care.getLsbD i = true → i < n := fun i hi h => hc.care_bit hn hi h
  have has : ∀ k : Nat, hasC c (k : Int) = true ↔ ∀ i, i < 64 → c.care.getLsbD i = true → k.testBit i = c.value.getLsbD i := has_iff hc
  by_cases hD : ∃ i, i < 64 ∧ c.care.getLsbD i = true ∧ a.testBit i = b.testBit i ∧ a.testBit i ≠ c.value.getLsbD i
  · obtain ⟨i, hi, h1, h2, h3⟩ := hD
    have hz : (uN a ^^^ c.value) &&& c.care &&& ~~~ uN (a ^^^ b) ≠ 0#64 := (ne0_iff _).2 ⟨i, hi, by
      rw [BitVec.getLsbD_and, BitVec.getLsbD_and, BitVec.getLsbD_xor, BitVec.getLsbD_not, uN_bit _ hi, uN_bit _ hi, Nat.testBit_xor, h1, h2]
      rw [h2] at h3
      revert h3
      cases b.testBit i <;> cases c.value.getLsbD i <;> simp [hi]⟩
    have hno : ∀ k ∈ onL n a b, hasC c (k : Int) = false := fun k hk => by
      cases h : hasC c (k : Int) with
      | false => rfl
      | true =>
        have e1 := (mem_on.1 hk).2 i (cn i hi h1) h2
        have e2 := (has k).1 h i hi h1
        exact absurd (e1.symm.trans e2) h3
    have h4 : allOn n a b c = false := by
      cases h : allOn n a b c with
      | false => rfl
      | true => have := List.all_eq_true.1 h a (on_self ha); rw [hno a (on_self ha)] at this; cases this
    have h5 : someOn n a b c = false := by
      cases h : someOn n a b c with
      | false => rfl
      | true => obtain ⟨k, hk, h6⟩ := List.any_eq_true.1 h; rw [hno k hk] at h6; cases h6
    rw [stateC, if_pos hz, h4, h5]; rfl
  · have hD' : ∀ i, i < 64 → c.care.getLsbD i = true → a.testBit i = b.testBit i → a.testBit i = c.value.getLsbD i := fun i hi h1 h2 => Classical.byContradiction fun h3 => hD ⟨i, hi, h1, h2, h3⟩
    have hz : ¬ (uN a ^^^ c.value) &&& c.care &&& ~~~ uN (a ^^^ b) ≠ 0#64 := fun h => by
      obtain ⟨i, hi, h⟩ := (ne0_iff _).1 h
      rw [BitVec.getLsbD_and, BitVec.getLsbD_and, BitVec.getLsbD_xor, BitVec.getLsbD_not, uN_bit _ hi, uN_bit _ hi, Nat.testBit_xor] at h
      cases h1 : c.care.getLsbD i with
      | false => rw [h1] at h; simp at h
      | true =>
        by_cases h2 : a.testBit i = b.testBit i
        · rw [hD' i hi h1 h2] at h; simp at h
        · revert h h2
          cases a.testBit i <;> cases b.testBit i <;> simp
    rw [stateC, if_neg hz]
    by_cases hch : c.care &&& uN (a ^^^ b) = 0#64
    · have hsame : ∀ i, i < 64 → c.care.getLsbD i = true → a.testBit i = b.testBit i := fun i hi h1 => by
        have := (eq0_iff _).1 hch i hi
        rw [BitVec.getLsbD_and, uN_bit _ hi, Nat.testBit_xor, h1] at this
        revert this
        cases a.testBit i <;> cases b.testBit i <;> simp
      have h4 : allOn n a b c = true := List.all_eq_true.2 fun k hk => (has k).2 fun i hi h1 => by
        rw [(mem_on.1 hk).2 i (cn i hi h1) (hsame i hi h1)]; exact hD' i hi h1 (hsame i hi h1)
      rw [if_pos hch, h4]; rfl
    · rw [if_neg hch]
      obtain ⟨j, hj, h⟩ := (ne0_iff _).1 hch
      rw [BitVec.getLsbD_and, Bool.and_eq_true, uN_bit _ hj, Nat.testBit_xor] at h
      obtain ⟨hcj, hab⟩ := h
      have hjn := cn j hj hcj
      have hne : a.testBit j ≠ b.testBit j := by revert hab; cases a.testBit j <;> cases b.testBit j <;> simp
      obtain ⟨k, hk⟩ : ∃ k, k = ((uN a &&& ~~~ uN (a ^^^ b)) ||| (c.value &&& uN (a ^^^ b))).toNat := ⟨_, rfl⟩
      have kb : ∀ i, i < 64 → k.testBit i = if a.testBit i = b.testBit i then a.testBit i else c.value.getLsbD i := fun i hi => by
        rw [hk, toNat_bit, BitVec.getLsbD_or, BitVec.getLsbD_and, BitVec.getLsbD_and, BitVec.getLsbD_not, uN_bit _ hi, uN_bit _ hi, Nat.testBit_xor]
        cases a.testBit i <;> cases b.testBit i <;> simp [hi]
      have khigh : k < 2 ^ n := lt_of_bits fun i hi => by
        by_cases h6 : i < 64
        · rw [kb i h6]
          split
          · exact bit_high ha hi
          · rename_i h7
            rw [bit_high ha hi, bit_high hb hi] at h7; exact absurd rfl h7
        · have : k < 2 ^ 64 := by rw [hk]; exact BitVec.isLt _
          exact bit_high this (by omega)
      have kon : k ∈ onL n a b := mem_on.2 ⟨khigh, fun i hi e => by rw [kb i (h64 i hi), if_pos e]⟩
      have kc : hasC c (k : Int) = true := (has k).2 fun i hi h1 => by
        rw [kb i hi]
        split
        · rename_i e; exact hD' i hi h1 e
        · rfl
      have fon : flip k j ∈ onL n a b := mem_on.2 ⟨flip_lt khigh hjn, fun i hi e => by
        have : j ≠ i := fun h => by subst h; exact hne e
        rw [flip_bit, kb i (h64 i hi), if_pos e]; simp [this]⟩
      have fno : hasC c (flip k j : Nat) = false := by
        cases h : hasC c (flip k j : Nat) with
        | false => rfl
        | true =>
          have e1 := (has _).1 h j hj hcj
          have e2 := (has _).1 kc j hj hcj
          rw [flip_bit, e2] at e1; simp at e1
      have h4 : allOn n a b c = false := by
        cases h : allOn n a b c with
        | false => rfl
        | true => have := List.all_eq_true.1 h _ fon; rw [fno] at this; cases this
      have h5 : someOn n a b c = true := List.any_eq_true.2 ⟨k, kon, kc⟩
      rw [h4, h5]; rfl

/-- what a form has during a change -/
def betL (n : Nat) (l : List Cu) (a b : Nat) : Int := if l.any (allOn n a b) then 1 else if l.any (someOn n a b) then 2 else 0
def joinO (o s : Int) : Int := if o = 1 ∨ s = 1 then 1 else if o = 0 ∧ s = 0 then 0 else 2
theorem bet_snoc {n : Nat} (hn : n ≤ 6) (l : List Cu) {c : Cu} (hc : c.Ok n) {a b : Nat} (ha : a < 2 ^ n) (hb : b < 2 ^ n) : betL n (l ++ [c]) a b = joinO (betL n l a b) (stateC c a b) := by
  rw [state_eq hn hc ha hb]
  unfold betL joinO
  simp only [List.any_append, List.any_cons, List.any_nil, Bool.or_false]
  cases l.any (allOn n a b) <;> cases l.any (someOn n a b) <;> cases allOn n a b c <;> cases someOn n a b c <;> simp
theorem bet_cases (n : Nat) (l : List Cu) (a b : Nat) : betL n l a b = 0 ∨ betL n l a b = 1 ∨ betL n l a b = 2 := by
  unfold betL
  cases l.any (allOn n a b) <;> cases l.any (someOn n a b) <;> simp
theorem state_cases (c : Cu) (a b : Nat) : stateC c a b = 0 ∨ stateC c a b = 1 ∨ stateC c a b = 2 := by
  unfold stateC
  split
  · exact .inl rfl
  · split
    · exact .inr (.inl rfl)
    · exact .inr (.inr rfl)

/-- has a table one value on the way -/
def steadyB (n : Nat) (t : U) (a b : Nat) : Bool := (onL n a b).all fun k => t.getLsbD k == t.getLsbD a
theorem steady_range (n : Nat) (t : U) (a b : Nat) : steadyB n t a b = (List.range (2 ^ n)).all fun k => !(onAt n a b k && t.getLsbD k != t.getLsbD a) := by
  unfold steadyB onL
  rw [List.all_filter]
  congr 1
  funext k
  cases onAt n a b k <;> cases t.getLsbD k <;> cases t.getLsbD a <;> rfl
theorem on_bits {n a b k : Nat} (ha : a < 2 ^ n) (hb : b < 2 ^ n) (hk : k < 2 ^ n) : (onAt n a b k = true) ↔ ∀ i, ((k ^^^ a).testBit i && !(a ^^^ b).testBit i) = false := by
  rw [onAt_iff]
  constructor
  · intro h i
    rw [Nat.testBit_xor, Nat.testBit_xor]
    by_cases hi : i < n
    · have := h i hi
      revert this
      cases a.testBit i <;> cases b.testBit i <;> cases k.testBit i <;> simp
    · rw [bit_high ha (Nat.le_of_not_lt hi), bit_high hb (Nat.le_of_not_lt hi), bit_high hk (Nat.le_of_not_lt hi)]; rfl
  · intro h i hi
    have := h i
    rw [Nat.testBit_xor, Nat.testBit_xor] at this
    revert this
    cases a.testBit i <;> cases b.testBit i <;> cases k.testBit i <;> simp

/-- the cubes that mend -/
def mendS (P out : List Cu) (p : Nat × Nat) : List Cu := if togC out p then out else if P.any (fun c => togC [c] p) then out ++ [P.getD (P.findIdx fun c => togC [c] p) ⟨0, 0⟩] else out
def mendTo (P : List Cu) (l : List (Nat × Nat)) (k : Nat) : List Cu := (l.take k).foldl (mendS P) []
theorem mendTo_succ (P : List Cu) {l : List (Nat × Nat)} {k : Nat} (h : k < l.length) : mendTo P l (k + 1) = mendS P (mendTo P l k) (l.getD k (0, 0)) := by
  unfold mendTo
  rw [List.take_add_one, List.foldl_append, List.getElem?_eq_getElem h, List.getD_eq_getElem?_getD, List.getElem?_eq_getElem h]; rfl
theorem mendS_len (P out : List Cu) (p : Nat × Nat) : out.length ≤ (mendS P out p).length ∧ (mendS P out p).length ≤ out.length + 1 := by
  unfold mendS
  split
  · omega
  · split
    · simp
    · omega
theorem mendTo_len (P : List Cu) (l : List (Nat × Nat)) : ∀ k, k ≤ l.length → (mendTo P l k).length ≤ k
  | 0, _ => by simp [mendTo]
  | k + 1, h => by
    rw [mendTo_succ P (by omega)]
    have := mendTo_len P l k (by omega)
    have := (mendS_len P (mendTo P l k) (l.getD k (0, 0))).2
    omega
theorem tog_one (c : Cu) (p : Nat × Nat) : togC [c] p = (hasC c (p.1 : Int) && hasC c (p.2 : Int)) := by simp [togC]
theorem tog_append (l m : List Cu) (p : Nat × Nat) : togC (l ++ m) p = (togC l p || togC m p) := by simp [togC]
theorem tog_step {P out : List Cu} {p : Nat × Nat} (h : P.any (fun c => togC [c] p) = true) : togC (mendS P out p) p = true := by
  unfold mendS
  split
  · assumption
  · try rw [if_pos h]
    rw [tog_append, Bool.or_eq_true]
    refine .inr ?_
    have hlt : P.findIdx (fun c => togC [c] p) < P.length := List.findIdx_lt_length.2 (by
      obtain ⟨c, hc, h⟩ := List.any_eq_true.1 h; exact ⟨c, hc, h⟩)
    have := List.findIdx_getElem (w := hlt)
    rw [List.getD_eq_getElem?_getD, List.getElem?_eq_getElem hlt]; exact this
theorem tog_keep {P out : List Cu} {p q : Nat × Nat} (h : togC out q = true) : togC (mendS P out p) q = true := by
  unfold mendS
  split
  · exact h
  · split
    · rw [tog_append, h]; rfl
    · exact h
/-- all that have a cube get one -/
theorem mend_all {P : List Cu} {l : List (Nat × Nat)} (h : ∀ p ∈ l, P.any (fun c => togC [c] p) = true) : ∀ k, k ≤ l.length → ∀ j, j < k → togC (mendTo P l k) (l.getD j (0, 0)) = true
  | 0, _, j, hj => absurd hj (Nat.not_lt_zero _)
  | k + 1, hk, j, hj => by
    rw [mendTo_succ P (by omega)]
    by_cases e : j = k
    · subst e
      refine tog_step (h _ ?_)
      rw [List.getD_eq_getElem?_getD, List.getElem?_eq_getElem (by omega)]; exact List.getElem_mem _
    · exact tog_keep (mend_all h k (by omega) j (by omega))
theorem mend_mem {P : List Cu} {l : List (Nat × Nat)} : ∀ k, k ≤ l.length → ∀ c ∈ mendTo P l k, c ∈ P
  | 0, _, c, hc => by simp [mendTo] at hc
  | k + 1, hk, c, hc => by
    rw [mendTo_succ P (by omega)] at hc
    unfold mendS at hc
    split at hc
    · exact mend_mem k (by omega) c hc
    · split at hc
      · rename_i h
        rcases List.mem_append.1 hc with h1 | h1
        · exact mend_mem k (by omega) c h1
        · rw [List.mem_singleton] at h1
          subst h1
          have hlt : P.findIdx (fun c => togC [c] (l.getD k (0, 0))) < P.length := List.findIdx_lt_length.2 (by
            obtain ⟨c, hc, h⟩ := List.any_eq_true.1 h; exact ⟨c, hc, h⟩)
          rw [List.getD_eq_getElem?_getD, List.getElem?_eq_getElem hlt]; exact List.getElem_mem _
      · exact mend_mem k (by omega) c hc

/-- two neighbours that are points of a function are in a prime implicant -/
theorem pair_prime {n : Nat} (hn : n ≤ 6) {x : Tk} {a i : Nat} (ha : a < 2 ^ n) (hi : i < n) (h1 : x.on.bits.getLsbD a = true) (h2 : x.on.bits.getLsbD (flip a i) = true) : ∃ p ∈ primesL n x, hasC p (a : Int) = true ∧ hasC p (flip a i : Nat) = true := by
  obtain ⟨m1, m2, m3⟩ := minterm_ok hn ha
  have hw := wide_ok m1 i
  have bit : ∀ k : Nat, k < 2 ^ n → (hasC (wideC ⟨allU n, uN a⟩ i) (k : Int) = true ↔ k = a ∨ k = flip a i) := fun k hk => by
    rw [has_iff hw]
    constructor
    · intro h
      have hoff : ∀ j, j < n → j ≠ i → k.testBit j = a.testBit j := fun j hj hne => by
        obtain ⟨b1, b2⟩ := wide_bits (c := ⟨allU n, uN a⟩) (show i < 64 by omega) j
        have := h j (by omega) (by rw [b1, allU_bit hn (by omega)]; simp [hj, hne]; omega)
        rw [this, b2, uN_bit _ (by omega)]; simp [hne]; omega
      by_cases e : k.testBit i = a.testBit i
      · exact .inl (ext_low hk ha fun j hj => by
          by_cases e2 : j = i
          · subst e2; exact e
          · exact hoff j hj e2)
      · refine .inr (ext_low hk (flip_lt ha hi) fun j hj => ?_)
        rw [flip_bit]
        by_cases e2 : i = j
        · subst e2; revert e; cases k.testBit i <;> cases a.testBit i <;> simp
        · rw [hoff j hj (Ne.symm e2)]; simp [e2]
    · intro h j hj hc
      obtain ⟨b1, b2⟩ := wide_bits (c := ⟨allU n, uN a⟩) (show i < 64 by omega) j
      rw [b1, Bool.and_eq_true, Bool.and_eq_true] at hc
      have hne : j ≠ i := by have := hc.1.2; simpa using this
      rw [b2, uN_bit _ hj]
      rcases h with rfl | rfl
      · simp [hne, hj]
      · rw [flip_bit]; simp [hne, Ne.symm hne, hj]
  have himp : impliesU n x (wideC ⟨allU n, uN a⟩ i) = true := (implies_iff hn x _).2 fun k hk hh => by
    rcases (bit k hk).1 hh with rfl | rfl
    · rw [BitVec.getLsbD_or, h1]; rfl
    · rw [BitVec.getLsbD_or, h2]; rfl
  obtain ⟨p, hp, _, hsub⟩ := prime_over hn x ha h1 _ _ (Nat.lt_succ_self _) hw ((bit a ha).2 (.inl rfl)) himp
  exact ⟨p, hp, hsub a ((bit a ha).2 (.inl rfl)), hsub _ ((bit _ (flip_lt ha hi)).2 (.inr rfl))⟩

end Go.Sx.Pn
