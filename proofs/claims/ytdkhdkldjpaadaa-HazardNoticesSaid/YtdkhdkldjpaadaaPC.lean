/- Contracts of the reference: a table made of points. -/
import Derived.Test.YtdkhdkldjpaadaaPB
import Derived.Lib.BitFns
set_option maxHeartbeats 1000000
set_option maxRecDepth 4000
set_option linter.unusedSimpArgs false
set_option linter.unusedVariables false
namespace Go.Sx.Pn
open Go Go.Proofs

def madeU (l : List Nat) : Nat → U
  | 0 => 0
  | k + 1 => if k ∈ l then madeU l k ||| (1#64 <<< k) else madeU l k

def madeS : Spec := fnS (fun x : Nat × List Nat => [iA x.1, nsA x.2]) (fun x => x.1 ≤ 6 ∧ x.2.length ≤ 1000) (fun x => tP ⟨x.1, madeU x.2 (2 ^ x.1)⟩)
theorem made_ok : FnOk Try.prog 49 madeS := by
  refine fnOk (Tb := tab) mixed tab_ok Try.func49 rfl rfl ?_
  rintro ⟨n, l⟩ hpre
  refine ai (ai rfl (ai rfl rfl)) ?_
  obtain ⟨hn, hl⟩ : n ≤ 6 ∧ l.length ≤ 1000 := hpre
  have h64 := pow_le64 hn
  refine ei (LAnn.inv { X := Nat, up := fun k => [(6, .s (iA k))], uo := fun k => [⟨1, 38, [.s (iA n), .s (uA (madeU l k))]⟩], inv := fun k => k ≤ 2 ^ n, meas := fun k => 2 ^ n - k, x0 := 0 }) ?_
  refine ai (ai (ai (by (repeat' (first | exact rfl | exact trivial | exact (fun _ => rfl) | exact (fun _ _ => rfl) | exact nof | refine ai ?_ ?_))) (ai ?_ ?_)) ?_) (ai ?_ ?_)
  · skip
    (repeat' (first | exact rfl | exact trivial | exact (fun _ => rfl) | exact (fun _ _ => rfl) | exact nof | refine ai ?_ ?_))
  · skip
    (repeat' (first | exact rfl | exact trivial | exact (fun _ => rfl) | exact (fun _ _ => rfl) | exact nof | refine ai ?_ ?_))
  · rfl
  · exact Nat.zero_le _
  intro (k : Nat) (hk : k ≤ 2 ^ n)
  refine ei _ (ai size_ok (ei (n) (ei [] (ai (ai rfl (ai rfl (ai rfl (ai rfl (ai (fun _ => Or.inl rfl) (by first | exact nof | exact (fun _ => ai rfl rfl))))))) (ai ?_ (ai trivial (ai ?_ ?_)))))))
  · skip
    (repeat' (first | exact rfl | exact trivial | exact (fun _ => rfl) | exact (fun _ _ => rfl) | exact nof | refine ai ?_ ?_))
  · exact hn
  refine bcase_intro (fun h1 => ?_) (fun h1 => ?_)
  · have h1 : (k : Int) < ((2 ^ n : Nat) : Int) := of_decide_eq_true h1
    have hwr : IntKind.i64.wrap ((k : Int) + 1) = ((k + 1 : Nat) : Int) := by rw [wrap_i _ (by omega) (by omega)]; rfl
    refine ei (LAnn.inv { X := Nat, up := fun j => [(7, .s (iA j))], uo := fun _ => [], inv := fun j => j ≤ l.length ∧ ∀ i, i < j → l.getD i 0 ≠ k, meas := fun j => l.length - j, x0 := 0 }) ?_
    refine ai (ai (ai (by (repeat' (first | exact rfl | exact trivial | exact (fun _ => rfl) | exact (fun _ _ => rfl) | exact nof | refine ai ?_ ?_))) (by (repeat' (first | exact rfl | exact trivial | exact (fun _ => rfl) | exact (fun _ _ => rfl) | exact nof | refine ai ?_ ?_)))) rfl) (ai ?_ ?_)
    · exact ⟨Nat.zero_le _, fun i hi => absurd hi (Nat.not_lt_zero _)⟩
    intro (j : Nat) ⟨(hj : j ≤ l.length), hall⟩
    refine bcase_intro (fun h2 => ?_) (fun h2 => ?_)
    · have h2 : (j : Int) < (l.length : Int) := of_decide_eq_true h2
      have hjl : j < l.length := by omega
      have hwj : IntKind.i64.wrap ((j : Int) + 1) = ((j + 1 : Nat) : Int) := by rw [wrap_i _ (by omega) (by omega)]; rfl
      refine ai (ai (Int.natCast_nonneg _) h2) ?_
      refine ai rfl ?_
      refine bcase_intro (fun h3 => ?_) (fun h3 => ?_)
      · have h3 : (((l.getD j 0 : Nat) : Int) == (k : Int)) = true := h3
        have h3 : l.getD j 0 = k := by have := eq_of_beq h3; omega
        have hm : k ∈ l := by
          rw [← h3, List.getD_eq_getElem?_getD, List.getElem?_eq_getElem hjl]
          exact List.getElem_mem hjl
        refine ei [0, 1, 2, 3, 4, 5, 6] (ai (by kernel_rfl) ?_)
        refine ai (Int.natCast_nonneg _) ?_
        refine ei (k + 1) (ai (ai rfl rfl) (ai (ai ?_ rfl) (ai ?_ ?_)))
        · skip
          (repeat' (first | exact rfl | exact trivial | exact (fun _ => rfl) | exact (fun _ _ => rfl) | exact nof | refine ai ?_ ?_))
          · exact hwr
          · show bits .or .u64 (madeU l k).toNat (IntKind.u64.wrap (1 * 2 ^ min (k : Int).toNat IntKind.u64.bits)) = ((madeU l (k + 1)).toNat : Int)
            rw [u_shl1, u_or, Int.toNat_natCast, madeU, if_pos hm]
        · show k + 1 ≤ 2 ^ n; omega
        · show 2 ^ n - (k + 1) < 2 ^ n - k; omega
      · have h3 : (((l.getD j 0 : Nat) : Int) == (k : Int)) = false := h3
        have h3 : l.getD j 0 ≠ k := by
          intro e
          rw [e] at h3
          simp at h3
        refine ei (j + 1) (ai (ai rfl rfl) (ai (ai ?_ rfl) (ai ?_ ?_)))
        · skip
          (repeat' (first | exact rfl | exact trivial | exact (fun _ => rfl) | exact (fun _ _ => rfl) | exact nof | refine ai ?_ ?_))
          exact hwj
        · refine ⟨by show j + 1 ≤ l.length; omega, fun i hi => ?_⟩
          by_cases e : i = j
          · subst e; exact h3
          · exact hall i (by have hi' : i < j + 1 := hi; omega)
        · show l.length - (j + 1) < l.length - j; omega
    · have h2 : ¬ (j : Int) < (l.length : Int) := of_decide_eq_false h2
      have hm : k ∉ l := fun hm => by
        obtain ⟨i, hi⟩ := List.getElem?_of_mem hm
        have hil : i < l.length := (List.getElem?_eq_some_iff.1 hi).1
        refine hall i (by omega) ?_
        rw [List.getD_eq_getElem?_getD, hi]; rfl
      refine ei (k + 1) (ai (ai rfl rfl) (ai (ai ?_ rfl) (ai ?_ ?_)))
      · skip
        (repeat' (first | exact rfl | exact trivial | exact (fun _ => rfl) | exact (fun _ _ => rfl) | exact nof | refine ai ?_ ?_))
        · exact hwr
        · show ((madeU l k).toNat : Int) = ((madeU l (k + 1)).toNat : Int)
          rw [madeU, if_neg hm]
      · show k + 1 ≤ 2 ^ n; omega
      · show 2 ^ n - (k + 1) < 2 ^ n - k; omega
  · have h1 : ¬ (k : Int) < ((2 ^ n : Nat) : Int) := of_decide_eq_false h1
    have : k = 2 ^ n := by omega
    subst this
    refine ai (ai (fun _ => (by (repeat' (first | exact rfl | exact trivial | exact (fun _ => rfl) | exact (fun _ _ => rfl) | exact nof | refine ai ?_ ?_)))) ?_) trivial
    (repeat' (first | exact rfl | exact trivial | exact (fun _ => rfl) | exact (fun _ _ => rfl) | exact nof | refine ai ?_ ?_))

end Go.Sx.Pn

namespace Go.Sx.Pn
open Go Go.Proofs

/-- how many bits are 1 -/
@[irreducible] def popU (x : U) : Nat := Lib.onesCount x.toNat
def ones64S : Spec := fnS (fun x : U => [uA x]) (fun x => x.toNat < 64) (fun x => iP (popU x))
set_option maxRecDepth 100000 in
theorem ones64_ok : FnOk Try.prog 136 ones64S := by
  refine fnOk (Tb := tab) mixed tab_ok Try.func136 rfl rfl ?_
  rintro (x : U) hpre
  refine ai (ai rfl (ai rfl rfl)) ?_
  have hx : x.toNat < 64 := hpre
  repeat (refine ai (by first | exact Int.natCast_nonneg _ | omega | exact ai (Int.natCast_nonneg _) (by omega)) ?_)
  refine ai (ai (fun _ => (by (repeat' (first | exact rfl | exact trivial | exact (fun _ => rfl) | exact (fun _ _ => rfl) | exact nof | refine ai ?_ ?_)))) ?_) trivial
  show (_ : Int) = (popU x : Int)
  unfold popU
  generalize x.toNat = m at hx
  revert m
  decide +kernel

theorem ones_ok : FnOk Try.prog 90 ones64S := by
  refine fnOk (Tb := tab) mixed tab_ok Try.func90 rfl rfl ?_
  rintro (x : U) hpre
  refine ai (ai rfl (ai rfl rfl)) ?_
  have hx : x.toNat < 64 := hpre
  refine ei _ (ai ones64_ok (ei (x) (ei [] (ai (ai rfl (ai rfl (ai rfl (ai rfl (ai (fun _ => Or.inl rfl) (by first | exact nof | exact (fun _ => ai rfl rfl))))))) (ai (by (repeat' (first | with_reducible rfl | exact trivial | refine ai ?_ ?_ | (show (_ : Int) = _; first | with_reducible rfl | exact wr1 (by omega) | (simp only [zz, reduceCtorEq] <;> first | done | rfl | omega) | omega | rfl) | exact rfl | exact (fun _ => rfl) | exact (fun _ _ => rfl) | exact nof))) (ai trivial (ai (hx) ?_)))))))
  refine ai (ai (fun _ => (by (repeat' (first | exact rfl | exact trivial | exact (fun _ => rfl) | exact (fun _ _ => rfl) | exact nof | refine ai ?_ ?_)))) ?_) trivial
  any_goals (repeat' (first | with_reducible rfl | exact trivial | refine ai ?_ ?_ | (show (_ : Int) = _; first | with_reducible rfl | exact wr1 (by omega) | (simp only [zz, reduceCtorEq] <;> first | done | rfl | omega) | omega | rfl) | exact rfl | exact (fun _ => rfl) | exact (fun _ _ => rfl) | exact nof))

/-- the consensus -/
def consC (n : Int) (a b : Cu) : Cu × Bool × Int :=
  if chk2 n a b = 0 then (if popU (againstC a b) = 1 then (⟨(a.care ||| b.care) &&& ~~~ againstC a b, (a.value ||| b.value) &&& ~~~ againstC a b⟩, true, 0) else (⟨0, 0⟩, false, 0)) else (⟨0, 0⟩, false, chk2 n a b)
def res3 (x : Cu × Bool × Int) : PV := .tup [cP x.1, bP x.2.1, iP x.2.2]
def ConsS : Spec := fnS (fun x : Int × Cu × Cu => [iA x.1, cA x.2.1, cA x.2.2]) (fun _ => True) (fun x => res3 (consC x.1 x.2.1 x.2.2))

theorem against_lt {k : Nat} {a b : Cu} (hk : k ≤ 6) (h : a.care &&& ~~~ allU k = 0#64) : (againstC a b).toNat < 64 := by
  have h1 : againstC a b &&& ~~~ allU 6 = 0#64 := by
    apply BitVec.eq_of_getLsbD_eq
    intro i hi
    have h2 := congrArg (fun x : U => x.getLsbD i) h
    simp only [BitVec.getLsbD_and, BitVec.getLsbD_not, hi, decide_true, Bool.true_and, allU_bit hk hi, BitVec.getLsbD_zero, againstC, allU_bit (Nat.le_refl 6) hi] at h2 ⊢
    by_cases h3 : i < 6
    · simp [h3]
    · have : ¬ i < k := by omega
      simp [this] at h2; simp [h2]
  rw [mask_iff (Nat.le_refl 6)] at h1
  rw [BitVec.le_def] at h1
  have e : (1#64 <<< 6).toNat = 64 := by decide
  omega
theorem Cons_ok : FnOk Try.prog 33 ConsS := by
  refine fnOk (Tb := tab) mixed tab_ok Try.func33 rfl rfl ?_
  rintro ⟨n, a, b⟩ hpre
  refine ai (ai rfl (ai rfl rfl)) ?_
  have e2 := chks2 n a b
  refine ei _ (ai checks_ok (ei ((n, [a, b])) (ei [] (ai (ai rfl (ai rfl (ai rfl (ai rfl (ai (fun _ => Or.inl rfl) (by first | exact nof | exact (fun _ => ai rfl rfl))))))) (ai ?_ (ai trivial (ai ?_ ?_)))))))
  · skip
    (repeat' (first | exact rfl | exact trivial | exact (fun _ => rfl) | exact (fun _ _ => rfl) | exact nof | refine ai ?_ ?_))
    exact two_seq a b
  · show 2 ≤ 1000; omega
  refine bcase_n (p := chk2 n a b = 0) (by first | (with_reducible refine bif_lt ?_; omega) | (with_reducible refine bif_le ?_; omega) | (with_reducible refine bif_eq ?_; omega) | (with_reducible refine bif_ne ?_; omega) | exact b8_eq rfl | exact b8_ne rfl | exact bif_lt (by omega) | exact bif_le (by omega) | exact bif_eq (by omega) | exact bif_ne (by omega) | exact Iff.rfl | (simp only [zz, reduceCtorEq] <;> first | done | omega | exact Iff.rfl) | (simp; done) | (simp; omega)) (fun h1 => ?_) (fun h1 => ?_)
  · skip
    refine ai (ai (fun _ => (by (repeat' (first | exact rfl | exact trivial | exact (fun _ => rfl) | exact (fun _ _ => rfl) | exact nof | refine ai ?_ ?_)))) ?_) trivial
    show ple _ (res3 (consC n a b))
    rw [show consC n a b = (⟨0, 0⟩, false, chk2 n a b) by simp [consC, h1]]
    any_goals (repeat' (first | with_reducible rfl | exact trivial | refine ai ?_ ?_ | (show (_ : Int) = _; first | with_reducible rfl | exact wr1 (by omega) | (simp only [zz, reduceCtorEq] <;> first | done | rfl | omega) | omega | rfl) | exact rfl | exact (fun _ => rfl) | exact (fun _ _ => rfl) | exact nof))
  have h1 : chk2 n a b = 0 := h1
  obtain ⟨k, hk, rfl, hc, _⟩ := chkC_zero (chk2_zero h1).1
  refine ei _ (ai against_ok (ei ((a, b)) (ei [] (ai (ai rfl (ai rfl (ai rfl (ai rfl (ai (fun _ => Or.inl rfl) (by first | exact nof | exact (fun _ => ai rfl rfl))))))) (ai (by (repeat' (first | with_reducible rfl | exact trivial | refine ai ?_ ?_ | (show (_ : Int) = _; first | with_reducible rfl | exact wr1 (by omega) | (simp only [zz, reduceCtorEq] <;> first | done | rfl | omega) | omega | rfl) | exact rfl | exact (fun _ => rfl) | exact (fun _ _ => rfl) | exact nof))) (ai trivial (ai (trivial) ?_)))))))
  refine ei _ (ai ones_ok (ei (againstC a b) (ei [] (ai (ai rfl (ai rfl (ai rfl (ai rfl (ai (fun _ => Or.inl rfl) (by first | exact nof | exact (fun _ => ai rfl rfl))))))) (ai (by (repeat' (first | with_reducible rfl | exact trivial | refine ai ?_ ?_ | (show (_ : Int) = _; first | with_reducible rfl | exact wr1 (by omega) | (simp only [zz, reduceCtorEq] <;> first | done | rfl | omega) | omega | rfl) | exact rfl | exact (fun _ => rfl) | exact (fun _ _ => rfl) | exact nof))) (ai trivial (ai (against_lt hk hc) ?_)))))))
  refine bcase_n (p := popU (againstC a b) = 1) (by first | (with_reducible refine bif_lt ?_; omega) | (with_reducible refine bif_le ?_; omega) | (with_reducible refine bif_eq ?_; omega) | (with_reducible refine bif_ne ?_; omega) | exact b8_eq rfl | exact b8_ne rfl | exact bif_lt (by omega) | exact bif_le (by omega) | exact bif_eq (by omega) | exact bif_ne (by omega) | exact Iff.rfl | (simp only [zz, reduceCtorEq] <;> first | done | omega | exact Iff.rfl) | (simp; done) | (simp; omega)) (fun h2 => ?_) (fun h2 => ?_)
  · skip
    refine ai (ai (fun _ => (by (repeat' (first | exact rfl | exact trivial | exact (fun _ => rfl) | exact (fun _ _ => rfl) | exact nof | refine ai ?_ ?_)))) ?_) trivial
    show ple _ (res3 (consC k a b))
    rw [show consC k a b = (⟨0, 0⟩, false, 0) by simp [consC, h1, h2]]
    any_goals (repeat' (first | with_reducible rfl | exact trivial | refine ai ?_ ?_ | (show (_ : Int) = _; first | with_reducible rfl | exact wr1 (by omega) | (simp only [zz, reduceCtorEq] <;> first | done | rfl | omega) | omega | rfl) | exact rfl | exact (fun _ => rfl) | exact (fun _ _ => rfl) | exact nof))
  have h2 : popU (againstC a b) = 1 := h2
  refine ai (ai (fun _ => (by (repeat' (first | exact rfl | exact trivial | exact (fun _ => rfl) | exact (fun _ _ => rfl) | exact nof | refine ai ?_ ?_)))) ?_) trivial
  show ple _ (res3 (consC k a b))
  rw [show consC k a b = (⟨(a.care ||| b.care) &&& ~~~ againstC a b, (a.value ||| b.value) &&& ~~~ againstC a b⟩, true, 0) by simp only [consC, h1, h2, if_true]]
  any_goals (repeat' (first | with_reducible rfl | exact trivial | refine ai ?_ ?_ | (show (_ : Int) = _; first | with_reducible rfl | exact wr1 (by omega) | (simp only [zz, reduceCtorEq] <;> first | done | rfl | omega) | omega | rfl) | exact rfl | exact (fun _ => rfl) | exact (fun _ _ => rfl) | exact nof))

/-- the reference's -/
def rConsC (n : Int) (a b : Cu) : Cu × Bool × Int :=
  if chk2 n a b = 0 then (if (oppL a b n.toNat).length = 1 then (joinedC a b (oppL a b n.toNat), true, 0) else (⟨0, 0⟩, false, 0)) else (⟨0, 0⟩, false, chk2 n a b)
def rConsS : Spec := fnS (fun x : Int × Cu × Cu => [iA x.1, cA x.2.1, cA x.2.2]) (fun _ => True) (fun x => res3 (rConsC x.1 x.2.1 x.2.2))
theorem rCons_ok : FnOk Try.prog 34 rConsS := by
  refine fnOk (Tb := tab) mixed tab_ok Try.func34 rfl rfl ?_
  rintro ⟨n, a, b⟩ hpre
  refine ai (ai rfl (ai rfl rfl)) ?_
  refine ei _ (ai both_ok (ei ((n, a, b)) (ei [] (ai (ai rfl (ai rfl (ai rfl (ai rfl (ai (fun _ => Or.inl rfl) (by first | exact nof | exact (fun _ => ai rfl rfl))))))) (ai (by (repeat' (first | with_reducible rfl | exact trivial | refine ai ?_ ?_ | (show (_ : Int) = _; first | with_reducible rfl | exact wr1 (by omega) | (simp only [zz, reduceCtorEq] <;> first | done | rfl | omega) | omega | rfl) | exact rfl | exact (fun _ => rfl) | exact (fun _ _ => rfl) | exact nof))) (ai trivial (ai (trivial) ?_)))))))
  refine bcase_n (p := chk2 n a b = 0) (by first | (with_reducible refine bif_lt ?_; omega) | (with_reducible refine bif_le ?_; omega) | (with_reducible refine bif_eq ?_; omega) | (with_reducible refine bif_ne ?_; omega) | exact b8_eq rfl | exact b8_ne rfl | exact bif_lt (by omega) | exact bif_le (by omega) | exact bif_eq (by omega) | exact bif_ne (by omega) | exact Iff.rfl | (simp only [zz, reduceCtorEq] <;> first | done | omega | exact Iff.rfl) | (simp; done) | (simp; omega)) (fun h1 => ?_) (fun h1 => ?_)
  · skip
    refine ai (ai (fun _ => (by (repeat' (first | exact rfl | exact trivial | exact (fun _ => rfl) | exact (fun _ _ => rfl) | exact nof | refine ai ?_ ?_)))) ?_) trivial
    show ple _ (res3 (rConsC n a b))
    rw [show rConsC n a b = (⟨0, 0⟩, false, chk2 n a b) by simp [rConsC, h1]]
    any_goals (repeat' (first | with_reducible rfl | exact trivial | refine ai ?_ ?_ | (show (_ : Int) = _; first | with_reducible rfl | exact wr1 (by omega) | (simp only [zz, reduceCtorEq] <;> first | done | rfl | omega) | omega | rfl) | exact rfl | exact (fun _ => rfl) | exact (fun _ _ => rfl) | exact nof))
  have h1 : chk2 n a b = 0 := h1
  obtain ⟨k, hk, rfl, hc, _⟩ := chkC_zero (chk2_zero h1).1
  refine ei _ (ai opposed_ok (ei ((k, a, b)) (ei [] (ai (ai rfl (ai rfl (ai rfl (ai rfl (ai (fun _ => Or.inl rfl) (by first | exact nof | exact (fun _ => ai rfl rfl))))))) (ai (by (repeat' (first | with_reducible rfl | exact trivial | refine ai ?_ ?_ | (show (_ : Int) = _; first | with_reducible rfl | exact wr1 (by omega) | (simp only [zz, reduceCtorEq] <;> first | done | rfl | omega) | omega | rfl) | exact rfl | exact (fun _ => rfl) | exact (fun _ _ => rfl) | exact nof))) (ai trivial (ai (hk) ?_)))))))
  refine bcase_n (p := (oppL a b k).length = 1) (by first | (with_reducible refine bif_lt ?_; omega) | (with_reducible refine bif_le ?_; omega) | (with_reducible refine bif_eq ?_; omega) | (with_reducible refine bif_ne ?_; omega) | exact b8_eq rfl | exact b8_ne rfl | exact bif_lt (by omega) | exact bif_le (by omega) | exact bif_eq (by omega) | exact bif_ne (by omega) | exact Iff.rfl | (simp only [zz, reduceCtorEq] <;> first | done | omega | exact Iff.rfl) | (simp; done) | (simp; omega)) (fun h2 => ?_) (fun h2 => ?_)
  · skip
    refine ai (ai (fun _ => (by (repeat' (first | exact rfl | exact trivial | exact (fun _ => rfl) | exact (fun _ _ => rfl) | exact nof | refine ai ?_ ?_)))) ?_) trivial
    show ple _ (res3 (rConsC k a b))
    rw [show rConsC k a b = (⟨0, 0⟩, false, 0) by simp [rConsC, h1, h2]]
    any_goals (repeat' (first | with_reducible rfl | exact trivial | refine ai ?_ ?_ | (show (_ : Int) = _; first | with_reducible rfl | exact wr1 (by omega) | (simp only [zz, reduceCtorEq] <;> first | done | rfl | omega) | omega | rfl) | exact rfl | exact (fun _ => rfl) | exact (fun _ _ => rfl) | exact nof))
  have h2 : (oppL a b k).length = 1 := h2
  refine ei _ (ai joined_ok (ei ((a, b, oppL a b k)) (ei [] (ai (ai rfl (ai rfl (ai rfl (ai rfl (ai (fun _ => Or.inl rfl) (by first | exact nof | exact (fun _ => ai rfl rfl))))))) (ai (by (repeat' (first | with_reducible rfl | exact trivial | refine ai ?_ ?_ | (show (_ : Int) = _; first | with_reducible rfl | exact wr1 (by omega) | (simp only [zz, reduceCtorEq] <;> first | done | rfl | omega) | omega | rfl) | exact rfl | exact (fun _ => rfl) | exact (fun _ _ => rfl) | exact nof))) (ai trivial (ai ((by show (oppL a b k).length ≤ 1000; omega)) ?_)))))))
  refine ai (ai (fun _ => (by (repeat' (first | exact rfl | exact trivial | exact (fun _ => rfl) | exact (fun _ _ => rfl) | exact nof | refine ai ?_ ?_)))) ?_) trivial
  show ple _ (res3 (rConsC k a b))
  rw [show rConsC k a b = (joinedC a b (oppL a b k), true, 0) by simp [rConsC, h1, h2]]
  any_goals (repeat' (first | with_reducible rfl | exact trivial | refine ai ?_ ?_ | (show (_ : Int) = _; first | with_reducible rfl | exact wr1 (by omega) | (simp only [zz, reduceCtorEq] <;> first | done | rfl | omega) | omega | rfl) | exact rfl | exact (fun _ => rfl) | exact (fun _ _ => rfl) | exact nof))

end Go.Sx.Pn

namespace Go.Sx.Pn
open Go Go.Proofs

def strA (l : List UInt8) : SV := .p false (.val (.string (strOf l)))
def strP (l : List UInt8) : PV := .val (.string (strOf l))

/-- the sign of a variable -/
def chAt (c : Cu) (i : Nat) : UInt8 := if c.care.getLsbD i then (if c.value.getLsbD i then 49 else 48) else 45
def txtL (c : Cu) (n : Nat) : List UInt8 := (List.range n).map (chAt c)
theorem txtL_len (c : Cu) (n : Nat) : (txtL c n).length = n := by simp [txtL]
theorem txtL_succ (c : Cu) (n : Nat) : txtL c (n + 1) = txtL c n ++ [chAt c n] := by simp [txtL, List.range_succ]
theorem txt_add (c : Cu) (n : Nat) (x : UInt8) (h : chAt c n = x) (y : ByteArray) (hy : y = strOf [x]) : strOf (txtL c n) ++ y = strOf (txtL c (n + 1)) := by
  rw [hy, strOf_append, txtL_succ, h]

def writtenS : Spec := fnS (fun x : Nat × Cu => [iA x.1, cA x.2]) (fun x => x.1 ≤ 6) (fun x => strP (txtL x.2 x.1))
theorem written_ok : FnOk Try.prog 76 writtenS := by
  refine fnOk (Tb := tab) mixed tab_ok Try.func76 rfl rfl ?_
  rintro ⟨n, c⟩ hpre
  refine ai (ai rfl (ai rfl rfl)) ?_
  have hn : n ≤ 6 := hpre
  refine ei (LAnn.inv { X := Nat, up := fun k => [(6, .s (iA k)), (5, .s (strA (txtL c k)))], uo := fun k => [], inv := fun k => k ≤ n ∧ (True), meas := fun k => n - k, x0 := 0 }) ?_
  refine ai (ai (ai (by (repeat' (first | exact rfl | exact trivial | exact (fun _ => rfl) | exact (fun _ _ => rfl) | exact nof | refine ai ?_ ?_))) (ai (by (repeat' (first | with_reducible rfl | exact trivial | refine ai ?_ ?_ | (show (_ : Int) = _; first | with_reducible rfl | exact wr1 (by omega) | (simp only [zz, reduceCtorEq] <;> first | done | rfl | omega) | omega | rfl) | exact rfl | exact (fun _ => rfl) | exact (fun _ _ => rfl) | exact nof))) (by (repeat' (first | with_reducible rfl | exact trivial | refine ai ?_ ?_ | (show (_ : Int) = _; first | with_reducible rfl | exact wr1 (by omega) | (simp only [zz, reduceCtorEq] <;> first | done | rfl | omega) | omega | rfl) | exact rfl | exact (fun _ => rfl) | exact (fun _ _ => rfl) | exact nof))))) rfl) (ai (ai (Nat.zero_le _) ?_) ?_)
  · trivial
  intro (k : Nat) ⟨hk, _⟩
  have hsz : (strOf (txtL c k)).size = k := by rw [strOf_size, txtL_len]
  refine bcase_p (p := k < n) (by first | (with_reducible refine bif_lt ?_; omega) | (with_reducible refine bif_le ?_; omega) | (with_reducible refine bif_eq ?_; omega) | (with_reducible refine bif_ne ?_; omega) | exact b8_eq rfl | exact b8_ne rfl | exact bif_lt (by omega) | exact bif_le (by omega) | exact bif_eq (by omega) | exact bif_ne (by omega) | exact Iff.rfl | (simp only [zz, reduceCtorEq] <;> first | done | omega | exact Iff.rfl) | (simp; done) | (simp; omega)) (fun h1 => ?_) (fun h1 => ?_)
  · have step : ∀ (y : ByteArray) (x : UInt8), y = strOf [x] → (((strOf (txtL c k)).size + y.size : Nat) : Int) ≤ 9223372036854775807 := fun y x hy => by
      have : y.size = 1 := by rw [hy, strOf_size]; rfl
      omega
    repeat (refine ai (by first | exact Int.natCast_nonneg _ | omega | exact ai (Int.natCast_nonneg _) (by omega)) ?_)
    refine bcase_b (b := !c.care.getLsbD k) (by first | exact rfl | (simp only [zz, reduceCtorEq] <;> first | done | exact rfl)) (fun h2 => ?_) (fun h2 => ?_)
    · have h2 : c.care.getLsbD k = false := by simpa using h2
      refine ai (step _ 45 rfl) ?_
      refine ei (k + 1) (ai (ai rfl rfl) (ai (ai ?_ rfl) (ai (ai (by show k + 1 ≤ n; omega) ?_) (by show n - (k + 1) < n - k; omega))))
      any_goals (repeat' (first | with_reducible rfl | exact trivial | refine ai ?_ ?_ | (show (_ : Int) = _; first | with_reducible rfl | exact wr1 (by omega) | (simp only [zz, reduceCtorEq] <;> first | done | rfl | omega) | omega | rfl) | exact rfl | exact (fun _ => rfl) | exact (fun _ _ => rfl) | exact nof))
      exact txt_add c k 45 (by simp only [chAt, h2]; rfl) _ rfl
    have h2 : c.care.getLsbD k = true := by simpa using h2
    repeat (refine ai (by first | exact Int.natCast_nonneg _ | omega | exact ai (Int.natCast_nonneg _) (by omega)) ?_)
    refine bcase_b (b := c.value.getLsbD k) (by first | exact rfl | (simp only [zz, reduceCtorEq] <;> first | done | exact rfl)) (fun h3 => ?_) (fun h3 => ?_)
    · refine ai (step _ 49 rfl) ?_
      refine ei (k + 1) (ai (ai rfl rfl) (ai (ai ?_ rfl) (ai (ai (by show k + 1 ≤ n; omega) ?_) (by show n - (k + 1) < n - k; omega))))
      any_goals (repeat' (first | with_reducible rfl | exact trivial | refine ai ?_ ?_ | (show (_ : Int) = _; first | with_reducible rfl | exact wr1 (by omega) | (simp only [zz, reduceCtorEq] <;> first | done | rfl | omega) | omega | rfl) | exact rfl | exact (fun _ => rfl) | exact (fun _ _ => rfl) | exact nof))
      exact txt_add c k 49 (by simp only [chAt, h2, h3]; rfl) _ rfl
    · refine ai (step _ 48 rfl) ?_
      refine ei (k + 1) (ai (ai rfl rfl) (ai (ai ?_ rfl) (ai (ai (by show k + 1 ≤ n; omega) ?_) (by show n - (k + 1) < n - k; omega))))
      any_goals (repeat' (first | with_reducible rfl | exact trivial | refine ai ?_ ?_ | (show (_ : Int) = _; first | with_reducible rfl | exact wr1 (by omega) | (simp only [zz, reduceCtorEq] <;> first | done | rfl | omega) | omega | rfl) | exact rfl | exact (fun _ => rfl) | exact (fun _ _ => rfl) | exact nof))
      exact txt_add c k 48 (by simp only [chAt, h2, h3]; rfl) _ rfl
  · obtain rfl : k = n := by omega
    refine ai (ai (fun _ => (by (repeat' (first | exact rfl | exact trivial | exact (fun _ => rfl) | exact (fun _ _ => rfl) | exact nof | refine ai ?_ ?_)))) ?_) trivial
    any_goals (repeat' (first | with_reducible rfl | exact trivial | refine ai ?_ ?_ | (show (_ : Int) = _; first | with_reducible rfl | exact wr1 (by omega) | (simp only [zz, reduceCtorEq] <;> first | done | rfl | omega) | omega | rfl) | exact rfl | exact (fun _ => rfl) | exact (fun _ _ => rfl) | exact nof))

def txtC (n : Int) (c : Cu) : List UInt8 × Int := if chkC n c = 0 then (txtL c n.toNat, 0) else ([], chkC n c)
def TextS : Spec := fnS (fun x : Int × Cu => [iA x.1, cA x.2]) (fun _ => True) (fun x => .tup [strP (txtC x.1 x.2).1, iP (txtC x.1 x.2).2])
theorem rText_ok : FnOk Try.prog 19 TextS := by
  refine fnOk (Tb := tab) mixed tab_ok Try.func19 rfl rfl ?_
  rintro ⟨n, c⟩ hpre
  refine ai (ai rfl (ai rfl rfl)) ?_
  refine ei _ (ai rcheck_ok (ei ((n, c)) (ei [] (ai (ai rfl (ai rfl (ai rfl (ai rfl (ai (fun _ => Or.inl rfl) (by first | exact nof | exact (fun _ => ai rfl rfl))))))) (ai (by (repeat' (first | with_reducible rfl | exact trivial | refine ai ?_ ?_ | (show (_ : Int) = _; first | with_reducible rfl | exact wr1 (by omega) | (simp only [zz, reduceCtorEq] <;> first | done | rfl | omega) | omega | rfl) | exact rfl | exact (fun _ => rfl) | exact (fun _ _ => rfl) | exact nof))) (ai trivial (ai (trivial) ?_)))))))
  refine bcase_n (p := chkC n c = 0) (by first | (with_reducible refine bif_lt ?_; omega) | (with_reducible refine bif_le ?_; omega) | (with_reducible refine bif_eq ?_; omega) | (with_reducible refine bif_ne ?_; omega) | exact b8_eq rfl | exact b8_ne rfl | exact bif_lt (by omega) | exact bif_le (by omega) | exact bif_eq (by omega) | exact bif_ne (by omega) | exact Iff.rfl | (simp only [zz, reduceCtorEq] <;> first | done | omega | exact Iff.rfl) | (simp; done) | (simp; omega)) (fun h1 => ?_) (fun h1 => ?_)
  · skip
    refine ai (ai (fun _ => (by (repeat' (first | exact rfl | exact trivial | exact (fun _ => rfl) | exact (fun _ _ => rfl) | exact nof | refine ai ?_ ?_)))) ?_) trivial
    show ple _ (.tup [strP (txtC n c).1, iP (txtC n c).2])
    rw [show txtC n c = ([], chkC n c) by simp [txtC, h1]]
    any_goals (repeat' (first | with_reducible rfl | exact trivial | refine ai ?_ ?_ | (show (_ : Int) = _; first | with_reducible rfl | exact wr1 (by omega) | (simp only [zz, reduceCtorEq] <;> first | done | rfl | omega) | omega | rfl) | exact rfl | exact (fun _ => rfl) | exact (fun _ _ => rfl) | exact nof))
  have h1 : chkC n c = 0 := h1
  obtain ⟨k, hk, rfl, _⟩ := chkC_zero h1
  refine ei _ (ai written_ok (ei ((k, c)) (ei [] (ai (ai rfl (ai rfl (ai rfl (ai rfl (ai (fun _ => Or.inl rfl) (by first | exact nof | exact (fun _ => ai rfl rfl))))))) (ai (by (repeat' (first | with_reducible rfl | exact trivial | refine ai ?_ ?_ | (show (_ : Int) = _; first | with_reducible rfl | exact wr1 (by omega) | (simp only [zz, reduceCtorEq] <;> first | done | rfl | omega) | omega | rfl) | exact rfl | exact (fun _ => rfl) | exact (fun _ _ => rfl) | exact nof))) (ai trivial (ai (hk) ?_)))))))
  refine ai (ai (fun _ => (by (repeat' (first | exact rfl | exact trivial | exact (fun _ => rfl) | exact (fun _ _ => rfl) | exact nof | refine ai ?_ ?_)))) ?_) trivial
  show ple _ (.tup [strP (txtC k c).1, iP (txtC k c).2])
  rw [show txtC k c = (txtL c k, 0) by simp [txtC, h1]]
  any_goals (repeat' (first | with_reducible rfl | exact trivial | refine ai ?_ ?_ | (show (_ : Int) = _; first | with_reducible rfl | exact wr1 (by omega) | (simp only [zz, reduceCtorEq] <;> first | done | rfl | omega) | omega | rfl) | exact rfl | exact (fun _ => rfl) | exact (fun _ _ => rfl) | exact nof))

theorem Text_ok : FnOk Try.prog 18 TextS := by
  refine fnOk (Tb := tab) mixed tab_ok Try.func18 rfl rfl ?_
  rintro ⟨n, c⟩ hpre
  refine ai (ai rfl (ai rfl rfl)) ?_
  refine ei _ (ai check_ok (ei ((n, c)) (ei [] (ai (ai rfl (ai rfl (ai rfl (ai rfl (ai (fun _ => Or.inl rfl) (by first | exact nof | exact (fun _ => ai rfl rfl))))))) (ai (by (repeat' (first | with_reducible rfl | exact trivial | refine ai ?_ ?_ | (show (_ : Int) = _; first | with_reducible rfl | exact wr1 (by omega) | (simp only [zz, reduceCtorEq] <;> first | done | rfl | omega) | omega | rfl) | exact rfl | exact (fun _ => rfl) | exact (fun _ _ => rfl) | exact nof))) (ai trivial (ai (trivial) ?_)))))))
  refine bcase_n (p := chkC n c = 0) (by first | (with_reducible refine bif_lt ?_; omega) | (with_reducible refine bif_le ?_; omega) | (with_reducible refine bif_eq ?_; omega) | (with_reducible refine bif_ne ?_; omega) | exact b8_eq rfl | exact b8_ne rfl | exact bif_lt (by omega) | exact bif_le (by omega) | exact bif_eq (by omega) | exact bif_ne (by omega) | exact Iff.rfl | (simp only [zz, reduceCtorEq] <;> first | done | omega | exact Iff.rfl) | (simp; done) | (simp; omega)) (fun h1 => ?_) (fun h1 => ?_)
  · skip
    refine ai (ai (fun _ => (by (repeat' (first | exact rfl | exact trivial | exact (fun _ => rfl) | exact (fun _ _ => rfl) | exact nof | refine ai ?_ ?_)))) ?_) trivial
    show ple _ (.tup [strP (txtC n c).1, iP (txtC n c).2])
    rw [show txtC n c = ([], chkC n c) by simp [txtC, h1]]
    any_goals (repeat' (first | with_reducible rfl | exact trivial | refine ai ?_ ?_ | (show (_ : Int) = _; first | with_reducible rfl | exact wr1 (by omega) | (simp only [zz, reduceCtorEq] <;> first | done | rfl | omega) | omega | rfl) | exact rfl | exact (fun _ => rfl) | exact (fun _ _ => rfl) | exact nof))
  have hz : chkC n c = 0 := h1
  clear h1
  obtain ⟨m, hm, rfl, _⟩ := chkC_zero hz
  refine ai (ai (Int.natCast_nonneg _) (ai (Int.le_refl _) (ai (by omega) (by show 1 * m ≤ 281474976710656; omega)))) ?_
  refine ei (LAnn.inv { X := Nat, up := fun k => [(19, .s (iA k)), (7, .rw 5 1 m (fun i => [.val (.int .u8 (if i < k then chAt c i else 0).toNat)]))], uo := fun k => [], inv := fun k => k ≤ m ∧ (True), meas := fun k => m - k, x0 := 0 }) ?_
  refine ai (ai (ai (by (repeat' (first | exact rfl | exact trivial | exact (fun _ => rfl) | exact (fun _ _ => rfl) | exact nof | refine ai ?_ ?_))) (ai ?_ ?_)) rfl) (ai (ai (Nat.zero_le _) ?_) ?_)
  · skip
    (repeat' (first | exact rfl | exact trivial | exact (fun _ => rfl) | exact (fun _ _ => rfl) | exact nof | refine ai ?_ ?_))
  · skip
    (repeat' (first | exact rfl | exact trivial | exact (fun _ => rfl) | exact (fun _ _ => rfl) | exact nof | refine ai ?_ ?_))
  · trivial
  intro (k : Nat) ⟨hk, _⟩
  refine bcase_p (p := k < m) (by first | (with_reducible refine bif_lt ?_; omega) | (with_reducible refine bif_le ?_; omega) | (with_reducible refine bif_eq ?_; omega) | (with_reducible refine bif_ne ?_; omega) | exact b8_eq rfl | exact b8_ne rfl | exact bif_lt (by omega) | exact bif_le (by omega) | exact bif_eq (by omega) | exact bif_ne (by omega) | exact Iff.rfl | (simp only [zz, reduceCtorEq] <;> first | done | omega | exact Iff.rfl) | (simp; done) | (simp; omega)) (fun h1 => ?_) (fun h1 => ?_)
  · have put : ∀ x : UInt8, chAt c k = x → ∀ i, i < m → putEl (fun i => [.val (.int .u8 (if i < k then chAt c i else 0).toNat)]) k 0 [.val (.int .u8 x.toNat)] i = [.val (.int .u8 (if i < k + 1 then chAt c i else 0).toNat)] := by
      intro x hx i hi
      unfold putEl
      by_cases e : i = k
      · subst e; rw [if_pos rfl, if_pos (Nat.lt_succ_self i), hx]; rfl
      · rw [if_neg e]
        dsimp only
        by_cases h : i < k
        · rw [if_pos h, if_pos (by omega)]
        · rw [if_neg h, if_neg (by omega)]
    repeat (refine ai (by first | exact Int.natCast_nonneg _ | omega | exact ai (Int.natCast_nonneg _) (by omega)) ?_)
    refine bcase_b (b := !c.care.getLsbD k) (by first | exact rfl | (simp only [zz, reduceCtorEq] <;> first | done | exact rfl)) (fun h2 => ?_) (fun h2 => ?_)
    · have h2 : c.care.getLsbD k = false := by simpa using h2
      refine ai (ai (Int.natCast_nonneg _) (by show (k : Int) < (m : Int); omega)) ?_
      refine ai (ai (by show k < m; omega) (Nat.le_refl _)) ?_
      refine ei (k + 1) (ai (ai rfl rfl) (ai (ai ?_ rfl) (ai (ai (by show k + 1 ≤ m; omega) ?_) (by show m - (k + 1) < m - k; omega))))
      any_goals (repeat' (first | with_reducible rfl | exact trivial | refine ai ?_ ?_ | (show (_ : Int) = _; first | with_reducible rfl | exact wr1 (by omega) | (simp only [zz, reduceCtorEq] <;> first | done | rfl | omega) | omega | rfl) | exact rfl | exact (fun _ => rfl) | exact (fun _ _ => rfl) | exact nof))
      exact put 45 (by simp only [chAt, h2]; rfl)
    have h2 : c.care.getLsbD k = true := by simpa using h2
    repeat (refine ai (by first | exact Int.natCast_nonneg _ | omega | exact ai (Int.natCast_nonneg _) (by omega)) ?_)
    refine bcase_b (b := c.value.getLsbD k) (by first | exact rfl | (simp only [zz, reduceCtorEq] <;> first | done | exact rfl)) (fun h3 => ?_) (fun h3 => ?_)
    · refine ai (ai (Int.natCast_nonneg _) (by show (k : Int) < (m : Int); omega)) ?_
      refine ai (ai (by show k < m; omega) (Nat.le_refl _)) ?_
      refine ei (k + 1) (ai (ai rfl rfl) (ai (ai ?_ rfl) (ai (ai (by show k + 1 ≤ m; omega) ?_) (by show m - (k + 1) < m - k; omega))))
      any_goals (repeat' (first | with_reducible rfl | exact trivial | refine ai ?_ ?_ | (show (_ : Int) = _; first | with_reducible rfl | exact wr1 (by omega) | (simp only [zz, reduceCtorEq] <;> first | done | rfl | omega) | omega | rfl) | exact rfl | exact (fun _ => rfl) | exact (fun _ _ => rfl) | exact nof))
      exact put 49 (by simp only [chAt, h2, h3]; rfl)
    · refine ai (ai (Int.natCast_nonneg _) (by show (k : Int) < (m : Int); omega)) ?_
      refine ai (ai (by show k < m; omega) (Nat.le_refl _)) ?_
      refine ei (k + 1) (ai (ai rfl rfl) (ai (ai ?_ rfl) (ai (ai (by show k + 1 ≤ m; omega) ?_) (by show m - (k + 1) < m - k; omega))))
      any_goals (repeat' (first | with_reducible rfl | exact trivial | refine ai ?_ ?_ | (show (_ : Int) = _; first | with_reducible rfl | exact wr1 (by omega) | (simp only [zz, reduceCtorEq] <;> first | done | rfl | omega) | omega | rfl) | exact rfl | exact (fun _ => rfl) | exact (fun _ _ => rfl) | exact nof))
      exact put 48 (by simp only [chAt, h2, h3]; rfl)
  · obtain rfl : k = m := by omega
    refine ei (strOf (txtL c k)) (ai (ai (by rw [strOf_size, txtL_len]) (fun j hj => ?_)) ?_)
    · have hj : j < k := hj
      show [PV.val (.int .u8 (if j < k then chAt c j else 0).toNat)] = [.val (.int .u8 (bAt (txtL c k) j).toNat)]
      rw [if_pos hj, bAt_eq]
      simp [txtL, List.getD, hj]
    refine ai (ai (fun _ => (by (repeat' (first | exact rfl | exact trivial | exact (fun _ => rfl) | exact (fun _ _ => rfl) | exact nof | refine ai ?_ ?_)))) ?_) trivial
    show ple _ (.tup [strP (txtC k c).1, iP (txtC k c).2])
    rw [show txtC k c = (txtL c k, 0) by simp [txtC, hz]]
    any_goals (repeat' (first | with_reducible rfl | exact trivial | refine ai ?_ ?_ | (show (_ : Int) = _; first | with_reducible rfl | exact wr1 (by omega) | (simp only [zz, reduceCtorEq] <;> first | done | rfl | omega) | omega | rfl) | exact rfl | exact (fun _ => rfl) | exact (fun _ _ => rfl) | exact nof))

end Go.Sx.Pn

namespace Go.Sx.Pn
open Go Go.Proofs

def bitC (c : Cu) (k : Nat) (x : UInt8) : Cu :=
  ⟨if x = 45 then c.care else c.care ||| 1#64 <<< k, if x = 49 then c.value ||| 1#64 <<< k else c.value⟩
def cubeTo (l : List UInt8) : Nat → Cu
  | 0 => ⟨0, 0⟩
  | k + 1 => bitC (cubeTo l k) k (bAt l k)
def okB (x : UInt8) : Bool := x == 49 || x == 48 || x == 45
def parseC (l : List UInt8) : Int × Cu × Int :=
  if 6 < l.length then (0, ⟨0, 0⟩, 17) else if (List.range l.length).all (fun k => okB (bAt l k)) then (((l.length : Nat) : Int), cubeTo l l.length, 0) else (0, ⟨0, 0⟩, 4)
theorem parse_bad {l : List UInt8} {k : Nat} (h6 : ¬ 6 < l.length) (hk : k < l.length) (h : okB (bAt l k) = false) : parseC l = (0, ⟨0, 0⟩, 4) := by
  have : (List.range l.length).all (fun k => okB (bAt l k)) = false := List.all_eq_false.2 ⟨k, List.mem_range.2 hk, by rw [h]; decide⟩
  rw [parseC, if_neg h6, this]; rfl
theorem parse_ok {l : List UInt8} (h6 : ¬ 6 < l.length) (h : ∀ k, k < l.length → okB (bAt l k) = true) : parseC l = (((l.length : Nat) : Int), cubeTo l l.length, 0) := by
  have : (List.range l.length).all (fun k => okB (bAt l k)) = true := List.all_eq_true.2 fun k hk => h k (List.mem_range.1 hk)
  rw [parseC, if_neg h6, this]; rfl
theorem all_succ {l : List UInt8} {k : Nat} (h : ∀ j, j < k → okB (bAt l j) = true) (hk : okB (bAt l k) = true) : ∀ j, j < k + 1 → okB (bAt l j) = true := fun j hj => by
  by_cases e : j = k
  · subst e; exact hk
  · exact h j (by omega)

def resP (x : Int × Cu × Int) : PV := .tup [iP x.1, cP x.2.1, iP x.2.2]
def ParseS : Spec := fnS (fun l : List UInt8 => [strA l]) (fun l => l.length ≤ 1000000) (fun l => resP (parseC l))
theorem rParse_ok : FnOk Try.prog 21 ParseS := by
  refine fnOk (Tb := tab) mixed tab_ok Try.func21 rfl rfl ?_
  rintro l hpre
  refine ai (ai rfl (ai rfl rfl)) ?_
  have hl : l.length ≤ 1000000 := hpre
  have hsz := strOf_size l
  refine bcase_p (p := 6 < l.length) (by first | (with_reducible refine bif_lt ?_; omega) | (with_reducible refine bif_le ?_; omega) | (with_reducible refine bif_eq ?_; omega) | (with_reducible refine bif_ne ?_; omega) | exact b8_eq rfl | exact b8_ne rfl | exact bif_lt (by omega) | exact bif_le (by omega) | exact bif_eq (by omega) | exact bif_ne (by omega) | exact Iff.rfl | (simp only [zz, reduceCtorEq] <;> first | done | omega | exact Iff.rfl) | (simp; done) | (simp; omega)) (fun h6 => ?_) (fun h6 => ?_)
  · skip
    refine ai (ai (fun _ => (by (repeat' (first | exact rfl | exact trivial | exact (fun _ => rfl) | exact (fun _ _ => rfl) | exact nof | refine ai ?_ ?_)))) ?_) trivial
    show ple _ (resP (parseC l))
    rw [show parseC l = (0, ⟨0, 0⟩, 17) by simp [parseC, h6]]
    any_goals (repeat' (first | with_reducible rfl | exact trivial | refine ai ?_ ?_ | (show (_ : Int) = _; first | with_reducible rfl | exact wr1 (by omega) | (simp only [zz, reduceCtorEq] <;> first | done | rfl | omega) | omega | rfl) | exact rfl | exact (fun _ => rfl) | exact (fun _ _ => rfl) | exact nof))
  refine ei (LAnn.inv { X := Nat, up := fun k => [(6, .s (iA k))], uo := fun k => [⟨1, 24, [.s (uA (cubeTo l k).care), .s (uA (cubeTo l k).value)]⟩], inv := fun k => k ≤ l.length ∧ (∀ j, j < k → okB (bAt l j) = true), meas := fun k => l.length - k, x0 := 0 }) ?_
  refine ai (ai (ai (by (repeat' (first | exact rfl | exact trivial | exact (fun _ => rfl) | exact (fun _ _ => rfl) | exact nof | refine ai ?_ ?_))) (ai (by (repeat' (first | with_reducible rfl | exact trivial | refine ai ?_ ?_ | (show (_ : Int) = _; first | with_reducible rfl | exact wr1 (by omega) | (simp only [zz, reduceCtorEq] <;> first | done | rfl | omega) | omega | rfl) | exact rfl | exact (fun _ => rfl) | exact (fun _ _ => rfl) | exact nof))) (by (repeat' (first | with_reducible rfl | exact trivial | refine ai ?_ ?_ | (show (_ : Int) = _; first | with_reducible rfl | exact wr1 (by omega) | (simp only [zz, reduceCtorEq] <;> first | done | rfl | omega) | omega | rfl) | exact rfl | exact (fun _ => rfl) | exact (fun _ _ => rfl) | exact nof))))) rfl) (ai (ai (Nat.zero_le _) ?_) ?_)
  · exact fun j hj => absurd hj (Nat.not_lt_zero _)
  intro (k : Nat) ⟨hk, hall⟩
  refine bcase_p (p := k < l.length) (by first | (with_reducible refine bif_lt ?_; omega) | (with_reducible refine bif_le ?_; omega) | (with_reducible refine bif_eq ?_; omega) | (with_reducible refine bif_ne ?_; omega) | exact b8_eq rfl | exact b8_ne rfl | exact bif_lt (by omega) | exact bif_le (by omega) | exact bif_eq (by omega) | exact bif_ne (by omega) | exact Iff.rfl | (simp only [zz, reduceCtorEq] <;> first | done | omega | exact Iff.rfl) | (simp; done) | (simp; omega)) (fun h1 => ?_) (fun h1 => ?_)
  · have hget := strOf_get h1
    have e49 : bAt l k = 49 → cubeTo l (k + 1) = ⟨(cubeTo l k).care ||| 1#64 <<< k, (cubeTo l k).value ||| 1#64 <<< k⟩ := fun h => by simp only [cubeTo, bitC, h]; rfl
    have e48 : ¬ bAt l k = 49 → ¬ bAt l k = 45 → cubeTo l (k + 1) = ⟨(cubeTo l k).care ||| 1#64 <<< k, (cubeTo l k).value⟩ := fun h h' => by simp only [cubeTo, bitC, h, h', if_false]
    have e45 : bAt l k = 45 → cubeTo l (k + 1) = cubeTo l k := fun h => by simp only [cubeTo, bitC, h]; rfl
    refine ei (bAt l k) (ai (ai (Int.natCast_nonneg _) hget) ?_)
    refine bcase_n (p := bAt l k = 48) (by first | (with_reducible refine bif_lt ?_; omega) | (with_reducible refine bif_le ?_; omega) | (with_reducible refine bif_eq ?_; omega) | (with_reducible refine bif_ne ?_; omega) | exact b8_eq rfl | exact b8_ne rfl | exact bif_lt (by omega) | exact bif_le (by omega) | exact bif_eq (by omega) | exact bif_ne (by omega) | exact Iff.rfl | (simp only [zz, reduceCtorEq] <;> first | done | omega | exact Iff.rfl) | (simp; done) | (simp; omega)) (fun h2 => ?_) (fun h2 => ?_)
    · skip
      refine ei (bAt l k) (ai (ai (Int.natCast_nonneg _) hget) ?_)
      refine bcase_n (p := bAt l k = 49) (by first | (with_reducible refine bif_lt ?_; omega) | (with_reducible refine bif_le ?_; omega) | (with_reducible refine bif_eq ?_; omega) | (with_reducible refine bif_ne ?_; omega) | exact b8_eq rfl | exact b8_ne rfl | exact bif_lt (by omega) | exact bif_le (by omega) | exact bif_eq (by omega) | exact bif_ne (by omega) | exact Iff.rfl | (simp only [zz, reduceCtorEq] <;> first | done | omega | exact Iff.rfl) | (simp; done) | (simp; omega)) (fun h3 => ?_) (fun h3 => ?_)
      · skip
        refine ei (bAt l k) (ai (ai (Int.natCast_nonneg _) hget) ?_)
        refine bcase_n (p := bAt l k = 45) (by first | (with_reducible refine bif_lt ?_; omega) | (with_reducible refine bif_le ?_; omega) | (with_reducible refine bif_eq ?_; omega) | (with_reducible refine bif_ne ?_; omega) | exact b8_eq rfl | exact b8_ne rfl | exact bif_lt (by omega) | exact bif_le (by omega) | exact bif_eq (by omega) | exact bif_ne (by omega) | exact Iff.rfl | (simp only [zz, reduceCtorEq] <;> first | done | omega | exact Iff.rfl) | (simp; done) | (simp; omega)) (fun h4 => ?_) (fun h4 => ?_)
        · skip
          refine ai (ai (fun _ => (by (repeat' (first | exact rfl | exact trivial | exact (fun _ => rfl) | exact (fun _ _ => rfl) | exact nof | refine ai ?_ ?_)))) ?_) trivial
          show ple _ (resP (parseC l))
          rw [parse_bad h6 h1 (by simp [okB, h2, h3, h4])]
          any_goals (repeat' (first | with_reducible rfl | exact trivial | refine ai ?_ ?_ | (show (_ : Int) = _; first | with_reducible rfl | exact wr1 (by omega) | (simp only [zz, reduceCtorEq] <;> first | done | rfl | omega) | omega | rfl) | exact rfl | exact (fun _ => rfl) | exact (fun _ _ => rfl) | exact nof))
        · have hx : okB (bAt l k) = true := by rw [h4]; rfl
          refine ei (bAt l k) (ai (ai (Int.natCast_nonneg _) hget) ?_)
          refine bcase_n (p := bAt l k = 45) (by first | (with_reducible refine bif_lt ?_; omega) | (with_reducible refine bif_le ?_; omega) | (with_reducible refine bif_eq ?_; omega) | (with_reducible refine bif_ne ?_; omega) | exact b8_eq rfl | exact b8_ne rfl | exact bif_lt (by omega) | exact bif_le (by omega) | exact bif_eq (by omega) | exact bif_ne (by omega) | exact Iff.rfl | (simp only [zz, reduceCtorEq] <;> first | done | omega | exact Iff.rfl) | (simp; done) | (simp; omega)) (fun h5 => ?_) (fun h5 => ?_)
          · skip
            refine ei [0, 1, 2, 3, 4, 5, 6] (ai (by kernel_rfl) ?_)
            repeat (refine ai (by first | exact Int.natCast_nonneg _ | omega | exact ai (Int.natCast_nonneg _) (by omega)) ?_)
            refine ei (bAt l k) (ai (ai (Int.natCast_nonneg _) hget) ?_)
            refine bcase_p (p := bAt l k = 49) (by first | (with_reducible refine bif_lt ?_; omega) | (with_reducible refine bif_le ?_; omega) | (with_reducible refine bif_eq ?_; omega) | (with_reducible refine bif_ne ?_; omega) | exact b8_eq rfl | exact b8_ne rfl | exact bif_lt (by omega) | exact bif_le (by omega) | exact bif_eq (by omega) | exact bif_ne (by omega) | exact Iff.rfl | (simp only [zz, reduceCtorEq] <;> first | done | omega | exact Iff.rfl) | (simp; done) | (simp; omega)) (fun h6 => ?_) (fun h6 => ?_)
            · skip
              refine ei [0, 1, 2, 3, 4, 5, 6] (ai (by kernel_rfl) ?_)
              repeat (refine ai (by first | exact Int.natCast_nonneg _ | omega | exact ai (Int.natCast_nonneg _) (by omega)) ?_)
              refine ei (k + 1) (ai (ai rfl rfl) (ai (ai ?_ rfl) (ai (ai (by show k + 1 ≤ l.length; omega) ?_) (by show l.length - (k + 1) < l.length - k; omega))))
              any_goals (repeat' (first | with_reducible rfl | exact trivial | refine ai ?_ ?_ | (show (_ : Int) = _; first | with_reducible rfl | exact wr1 (by omega) | (simp only [zz, reduceCtorEq] <;> first | done | rfl | omega) | omega | rfl) | exact rfl | exact (fun _ => rfl) | exact (fun _ _ => rfl) | exact nof))
              · (rw [e49 h6]; show (_ : Int) = _; first | rfl | simp only [zz, reduceCtorEq])
              · (rw [e49 h6]; show (_ : Int) = _; first | rfl | simp only [zz, reduceCtorEq])
              · exact all_succ hall hx
            · skip
              refine ei (k + 1) (ai (ai rfl rfl) (ai (ai ?_ rfl) (ai (ai (by show k + 1 ≤ l.length; omega) ?_) (by show l.length - (k + 1) < l.length - k; omega))))
              any_goals (repeat' (first | with_reducible rfl | exact trivial | refine ai ?_ ?_ | (show (_ : Int) = _; first | with_reducible rfl | exact wr1 (by omega) | (simp only [zz, reduceCtorEq] <;> first | done | rfl | omega) | omega | rfl) | exact rfl | exact (fun _ => rfl) | exact (fun _ _ => rfl) | exact nof))
              · (rw [e48 h6 h5]; show (_ : Int) = _; first | rfl | simp only [zz, reduceCtorEq])
              · (rw [e48 h6 h5]; show (_ : Int) = _; first | rfl | simp only [zz, reduceCtorEq])
              · exact all_succ hall hx
          · have h5 : bAt l k = 45 := h5
            refine ei (bAt l k) (ai (ai (Int.natCast_nonneg _) hget) ?_)
            refine bcase_p (p := bAt l k = 49) (by first | (with_reducible refine bif_lt ?_; omega) | (with_reducible refine bif_le ?_; omega) | (with_reducible refine bif_eq ?_; omega) | (with_reducible refine bif_ne ?_; omega) | exact b8_eq rfl | exact b8_ne rfl | exact bif_lt (by omega) | exact bif_le (by omega) | exact bif_eq (by omega) | exact bif_ne (by omega) | exact Iff.rfl | (simp only [zz, reduceCtorEq] <;> first | done | omega | exact Iff.rfl) | (simp; done) | (simp; omega)) (fun h6 => ?_) (fun h6 => ?_)
            · rw [h5] at h6; cases h6
            · skip
              refine ei (k + 1) (ai (ai rfl rfl) (ai (ai ?_ rfl) (ai (ai (by show k + 1 ≤ l.length; omega) ?_) (by show l.length - (k + 1) < l.length - k; omega))))
              any_goals (repeat' (first | with_reducible rfl | exact trivial | refine ai ?_ ?_ | (show (_ : Int) = _; first | with_reducible rfl | exact wr1 (by omega) | (simp only [zz, reduceCtorEq] <;> first | done | rfl | omega) | omega | rfl) | exact rfl | exact (fun _ => rfl) | exact (fun _ _ => rfl) | exact nof))
              · (rw [e45 h5]; show (_ : Int) = _; first | rfl | simp only [zz, reduceCtorEq])
              · (rw [e45 h5]; show (_ : Int) = _; first | rfl | simp only [zz, reduceCtorEq])
              · exact all_succ hall hx
      · have hx : okB (bAt l k) = true := by rw [h3]; rfl
        refine ei (bAt l k) (ai (ai (Int.natCast_nonneg _) hget) ?_)
        refine bcase_n (p := bAt l k = 45) (by first | (with_reducible refine bif_lt ?_; omega) | (with_reducible refine bif_le ?_; omega) | (with_reducible refine bif_eq ?_; omega) | (with_reducible refine bif_ne ?_; omega) | exact b8_eq rfl | exact b8_ne rfl | exact bif_lt (by omega) | exact bif_le (by omega) | exact bif_eq (by omega) | exact bif_ne (by omega) | exact Iff.rfl | (simp only [zz, reduceCtorEq] <;> first | done | omega | exact Iff.rfl) | (simp; done) | (simp; omega)) (fun h5 => ?_) (fun h5 => ?_)
        · skip
          refine ei [0, 1, 2, 3, 4, 5, 6] (ai (by kernel_rfl) ?_)
          repeat (refine ai (by first | exact Int.natCast_nonneg _ | omega | exact ai (Int.natCast_nonneg _) (by omega)) ?_)
          refine ei (bAt l k) (ai (ai (Int.natCast_nonneg _) hget) ?_)
          refine bcase_p (p := bAt l k = 49) (by first | (with_reducible refine bif_lt ?_; omega) | (with_reducible refine bif_le ?_; omega) | (with_reducible refine bif_eq ?_; omega) | (with_reducible refine bif_ne ?_; omega) | exact b8_eq rfl | exact b8_ne rfl | exact bif_lt (by omega) | exact bif_le (by omega) | exact bif_eq (by omega) | exact bif_ne (by omega) | exact Iff.rfl | (simp only [zz, reduceCtorEq] <;> first | done | omega | exact Iff.rfl) | (simp; done) | (simp; omega)) (fun h6 => ?_) (fun h6 => ?_)
          · skip
            refine ei [0, 1, 2, 3, 4, 5, 6] (ai (by kernel_rfl) ?_)
            repeat (refine ai (by first | exact Int.natCast_nonneg _ | omega | exact ai (Int.natCast_nonneg _) (by omega)) ?_)
            refine ei (k + 1) (ai (ai rfl rfl) (ai (ai ?_ rfl) (ai (ai (by show k + 1 ≤ l.length; omega) ?_) (by show l.length - (k + 1) < l.length - k; omega))))
            any_goals (repeat' (first | with_reducible rfl | exact trivial | refine ai ?_ ?_ | (show (_ : Int) = _; first | with_reducible rfl | exact wr1 (by omega) | (simp only [zz, reduceCtorEq] <;> first | done | rfl | omega) | omega | rfl) | exact rfl | exact (fun _ => rfl) | exact (fun _ _ => rfl) | exact nof))
            · (rw [e49 h6]; show (_ : Int) = _; first | rfl | simp only [zz, reduceCtorEq])
            · (rw [e49 h6]; show (_ : Int) = _; first | rfl | simp only [zz, reduceCtorEq])
            · exact all_succ hall hx
          · skip
            refine ei (k + 1) (ai (ai rfl rfl) (ai (ai ?_ rfl) (ai (ai (by show k + 1 ≤ l.length; omega) ?_) (by show l.length - (k + 1) < l.length - k; omega))))
            any_goals (repeat' (first | with_reducible rfl | exact trivial | refine ai ?_ ?_ | (show (_ : Int) = _; first | with_reducible rfl | exact wr1 (by omega) | (simp only [zz, reduceCtorEq] <;> first | done | rfl | omega) | omega | rfl) | exact rfl | exact (fun _ => rfl) | exact (fun _ _ => rfl) | exact nof))
            · (rw [e48 h6 h5]; show (_ : Int) = _; first | rfl | simp only [zz, reduceCtorEq])
            · (rw [e48 h6 h5]; show (_ : Int) = _; first | rfl | simp only [zz, reduceCtorEq])
            · exact all_succ hall hx
        · have h5 : bAt l k = 45 := h5
          refine ei (bAt l k) (ai (ai (Int.natCast_nonneg _) hget) ?_)
          refine bcase_p (p := bAt l k = 49) (by first | (with_reducible refine bif_lt ?_; omega) | (with_reducible refine bif_le ?_; omega) | (with_reducible refine bif_eq ?_; omega) | (with_reducible refine bif_ne ?_; omega) | exact b8_eq rfl | exact b8_ne rfl | exact bif_lt (by omega) | exact bif_le (by omega) | exact bif_eq (by omega) | exact bif_ne (by omega) | exact Iff.rfl | (simp only [zz, reduceCtorEq] <;> first | done | omega | exact Iff.rfl) | (simp; done) | (simp; omega)) (fun h6 => ?_) (fun h6 => ?_)
          · rw [h5] at h6; cases h6
          · skip
            refine ei (k + 1) (ai (ai rfl rfl) (ai (ai ?_ rfl) (ai (ai (by show k + 1 ≤ l.length; omega) ?_) (by show l.length - (k + 1) < l.length - k; omega))))
            any_goals (repeat' (first | with_reducible rfl | exact trivial | refine ai ?_ ?_ | (show (_ : Int) = _; first | with_reducible rfl | exact wr1 (by omega) | (simp only [zz, reduceCtorEq] <;> first | done | rfl | omega) | omega | rfl) | exact rfl | exact (fun _ => rfl) | exact (fun _ _ => rfl) | exact nof))
            · (rw [e45 h5]; show (_ : Int) = _; first | rfl | simp only [zz, reduceCtorEq])
            · (rw [e45 h5]; show (_ : Int) = _; first | rfl | simp only [zz, reduceCtorEq])
            · exact all_succ hall hx
    · have hx : okB (bAt l k) = true := by rw [h2]; rfl
      refine ei (bAt l k) (ai (ai (Int.natCast_nonneg _) hget) ?_)
      refine bcase_n (p := bAt l k = 45) (by first | (with_reducible refine bif_lt ?_; omega) | (with_reducible refine bif_le ?_; omega) | (with_reducible refine bif_eq ?_; omega) | (with_reducible refine bif_ne ?_; omega) | exact b8_eq rfl | exact b8_ne rfl | exact bif_lt (by omega) | exact bif_le (by omega) | exact bif_eq (by omega) | exact bif_ne (by omega) | exact Iff.rfl | (simp only [zz, reduceCtorEq] <;> first | done | omega | exact Iff.rfl) | (simp; done) | (simp; omega)) (fun h5 => ?_) (fun h5 => ?_)
      · skip
        refine ei [0, 1, 2, 3, 4, 5, 6] (ai (by kernel_rfl) ?_)
        repeat (refine ai (by first | exact Int.natCast_nonneg _ | omega | exact ai (Int.natCast_nonneg _) (by omega)) ?_)
        refine ei (bAt l k) (ai (ai (Int.natCast_nonneg _) hget) ?_)
        refine bcase_p (p := bAt l k = 49) (by first | (with_reducible refine bif_lt ?_; omega) | (with_reducible refine bif_le ?_; omega) | (with_reducible refine bif_eq ?_; omega) | (with_reducible refine bif_ne ?_; omega) | exact b8_eq rfl | exact b8_ne rfl | exact bif_lt (by omega) | exact bif_le (by omega) | exact bif_eq (by omega) | exact bif_ne (by omega) | exact Iff.rfl | (simp only [zz, reduceCtorEq] <;> first | done | omega | exact Iff.rfl) | (simp; done) | (simp; omega)) (fun h6 => ?_) (fun h6 => ?_)
        · skip
          refine ei [0, 1, 2, 3, 4, 5, 6] (ai (by kernel_rfl) ?_)
          repeat (refine ai (by first | exact Int.natCast_nonneg _ | omega | exact ai (Int.natCast_nonneg _) (by omega)) ?_)
          refine ei (k + 1) (ai (ai rfl rfl) (ai (ai ?_ rfl) (ai (ai (by show k + 1 ≤ l.length; omega) ?_) (by show l.length - (k + 1) < l.length - k; omega))))
          any_goals (repeat' (first | with_reducible rfl | exact trivial | refine ai ?_ ?_ | (show (_ : Int) = _; first | with_reducible rfl | exact wr1 (by omega) | (simp only [zz, reduceCtorEq] <;> first | done | rfl | omega) | omega | rfl) | exact rfl | exact (fun _ => rfl) | exact (fun _ _ => rfl) | exact nof))
          · (rw [e49 h6]; show (_ : Int) = _; first | rfl | simp only [zz, reduceCtorEq])
          · (rw [e49 h6]; show (_ : Int) = _; first | rfl | simp only [zz, reduceCtorEq])
          · exact all_succ hall hx
        · skip
          refine ei (k + 1) (ai (ai rfl rfl) (ai (ai ?_ rfl) (ai (ai (by show k + 1 ≤ l.length; omega) ?_) (by show l.length - (k + 1) < l.length - k; omega))))
          any_goals (repeat' (first | with_reducible rfl | exact trivial | refine ai ?_ ?_ | (show (_ : Int) = _; first | with_reducible rfl | exact wr1 (by omega) | (simp only [zz, reduceCtorEq] <;> first | done | rfl | omega) | omega | rfl) | exact rfl | exact (fun _ => rfl) | exact (fun _ _ => rfl) | exact nof))
          · (rw [e48 h6 h5]; show (_ : Int) = _; first | rfl | simp only [zz, reduceCtorEq])
          · (rw [e48 h6 h5]; show (_ : Int) = _; first | rfl | simp only [zz, reduceCtorEq])
          · exact all_succ hall hx
      · have h5 : bAt l k = 45 := h5
        refine ei (bAt l k) (ai (ai (Int.natCast_nonneg _) hget) ?_)
        refine bcase_p (p := bAt l k = 49) (by first | (with_reducible refine bif_lt ?_; omega) | (with_reducible refine bif_le ?_; omega) | (with_reducible refine bif_eq ?_; omega) | (with_reducible refine bif_ne ?_; omega) | exact b8_eq rfl | exact b8_ne rfl | exact bif_lt (by omega) | exact bif_le (by omega) | exact bif_eq (by omega) | exact bif_ne (by omega) | exact Iff.rfl | (simp only [zz, reduceCtorEq] <;> first | done | omega | exact Iff.rfl) | (simp; done) | (simp; omega)) (fun h6 => ?_) (fun h6 => ?_)
        · rw [h5] at h6; cases h6
        · skip
          refine ei (k + 1) (ai (ai rfl rfl) (ai (ai ?_ rfl) (ai (ai (by show k + 1 ≤ l.length; omega) ?_) (by show l.length - (k + 1) < l.length - k; omega))))
          any_goals (repeat' (first | with_reducible rfl | exact trivial | refine ai ?_ ?_ | (show (_ : Int) = _; first | with_reducible rfl | exact wr1 (by omega) | (simp only [zz, reduceCtorEq] <;> first | done | rfl | omega) | omega | rfl) | exact rfl | exact (fun _ => rfl) | exact (fun _ _ => rfl) | exact nof))
          · (rw [e45 h5]; show (_ : Int) = _; first | rfl | simp only [zz, reduceCtorEq])
          · (rw [e45 h5]; show (_ : Int) = _; first | rfl | simp only [zz, reduceCtorEq])
          · exact all_succ hall hx
  · obtain rfl : k = l.length := by omega
    refine ei [0, 1, 2, 3, 4, 5] (ai (by kernel_rfl) ?_)
    refine ai (ai (fun _ => (by (repeat' (first | exact rfl | exact trivial | exact (fun _ => rfl) | exact (fun _ _ => rfl) | exact nof | refine ai ?_ ?_)))) ?_) trivial
    show ple _ (resP (parseC l))
    rw [parse_ok h6 hall]
    any_goals (repeat' (first | with_reducible rfl | exact trivial | refine ai ?_ ?_ | (show (_ : Int) = _; first | with_reducible rfl | exact wr1 (by omega) | (simp only [zz, reduceCtorEq] <;> first | done | rfl | omega) | omega | rfl) | exact rfl | exact (fun _ => rfl) | exact (fun _ _ => rfl) | exact nof))


theorem Parse_ok : FnOk Try.prog 20 ParseS := by
  refine fnOk (Tb := tab) mixed tab_ok Try.func20 rfl rfl ?_
  rintro l hpre
  refine ai (ai rfl (ai rfl rfl)) ?_
  have hl : l.length ≤ 1000000 := hpre
  have hsz := strOf_size l
  refine bcase_p (p := 6 < l.length) (by first | (with_reducible refine bif_lt ?_; omega) | (with_reducible refine bif_le ?_; omega) | (with_reducible refine bif_eq ?_; omega) | (with_reducible refine bif_ne ?_; omega) | exact b8_eq rfl | exact b8_ne rfl | exact bif_lt (by omega) | exact bif_le (by omega) | exact bif_eq (by omega) | exact bif_ne (by omega) | exact Iff.rfl | (simp only [zz, reduceCtorEq] <;> first | done | omega | exact Iff.rfl) | (simp; done) | (simp; omega)) (fun h6 => ?_) (fun h6 => ?_)
  · skip
    refine ai (ai (fun _ => (by (repeat' (first | exact rfl | exact trivial | exact (fun _ => rfl) | exact (fun _ _ => rfl) | exact nof | refine ai ?_ ?_)))) ?_) trivial
    show ple _ (resP (parseC l))
    rw [show parseC l = (0, ⟨0, 0⟩, 17) by simp [parseC, h6]]
    any_goals (repeat' (first | with_reducible rfl | exact trivial | refine ai ?_ ?_ | (show (_ : Int) = _; first | with_reducible rfl | exact wr1 (by omega) | (simp only [zz, reduceCtorEq] <;> first | done | rfl | omega) | omega | rfl) | exact rfl | exact (fun _ => rfl) | exact (fun _ _ => rfl) | exact nof))
  refine ai (by rw [hsz]; unfold maxLen; omega) ?_
  refine ei (LAnn.inv { X := Nat, up := fun k => [(15, .s (iA k))], uo := fun k => [⟨1, 24, [.s (uA (cubeTo l k).care), .s (uA (cubeTo l k).value)]⟩], inv := fun k => k ≤ l.length ∧ (∀ j, j < k → okB (bAt l j) = true), meas := fun k => l.length - k, x0 := 0 }) ?_
  refine ai (ai (ai (by (repeat' (first | exact rfl | exact trivial | exact (fun _ => rfl) | exact (fun _ _ => rfl) | exact nof | refine ai ?_ ?_))) (ai (by (repeat' (first | with_reducible rfl | exact trivial | refine ai ?_ ?_ | (show (_ : Int) = _; first | with_reducible rfl | exact wr1 (by omega) | (simp only [zz, reduceCtorEq] <;> first | done | rfl | omega) | omega | rfl) | exact rfl | exact (fun _ => rfl) | exact (fun _ _ => rfl) | exact nof))) (by (repeat' (first | with_reducible rfl | exact trivial | refine ai ?_ ?_ | (show (_ : Int) = _; first | with_reducible rfl | exact wr1 (by omega) | (simp only [zz, reduceCtorEq] <;> first | done | rfl | omega) | omega | rfl) | exact rfl | exact (fun _ => rfl) | exact (fun _ _ => rfl) | exact nof))))) rfl) (ai (ai (Nat.zero_le _) ?_) ?_)
  · exact fun j hj => absurd hj (Nat.not_lt_zero _)
  intro (k : Nat) ⟨hk, hall⟩
  refine bcase_p (p := k < l.length) (by first | (with_reducible refine bif_lt ?_; omega) | (with_reducible refine bif_le ?_; omega) | (with_reducible refine bif_eq ?_; omega) | (with_reducible refine bif_ne ?_; omega) | exact b8_eq rfl | exact b8_ne rfl | exact bif_lt (by omega) | exact bif_le (by omega) | exact bif_eq (by omega) | exact bif_ne (by omega) | exact Iff.rfl | (simp only [zz, reduceCtorEq] <;> first | done | omega | exact Iff.rfl) | (simp; done) | (simp; omega)) (fun h1 => ?_) (fun h1 => ?_)
  · have e49 : bAt l k = 49 → cubeTo l (k + 1) = ⟨(cubeTo l k).care ||| 1#64 <<< k, (cubeTo l k).value ||| 1#64 <<< k⟩ := fun h => by simp only [cubeTo, bitC, h]; rfl
    have e48 : ¬ bAt l k = 49 → ¬ bAt l k = 45 → cubeTo l (k + 1) = ⟨(cubeTo l k).care ||| 1#64 <<< k, (cubeTo l k).value⟩ := fun h h' => by simp only [cubeTo, bitC, h, h', if_false]
    have e45 : bAt l k = 45 → cubeTo l (k + 1) = cubeTo l k := fun h => by simp only [cubeTo, bitC, h]; rfl
    refine ai (ai (Int.natCast_nonneg _) (by show (k : Int) < ((strOf l).size : Int); omega)) ?_
    refine ai rfl ?_
    refine bcase_p (p := bAt l k = 49) (by first | (with_reducible refine bif_lt ?_; omega) | (with_reducible refine bif_le ?_; omega) | (with_reducible refine bif_eq ?_; omega) | (with_reducible refine bif_ne ?_; omega) | exact b8_eq rfl | exact b8_ne rfl | exact bif_lt (by omega) | exact bif_le (by omega) | exact bif_eq (by omega) | exact bif_ne (by omega) | exact Iff.rfl | (simp only [zz, reduceCtorEq] <;> first | done | omega | exact Iff.rfl) | (simp; done) | (simp; omega)) (fun h2 => ?_) (fun h2 => ?_)
    · skip
      refine ei [0, 1, 2, 3, 4, 5, 6] (ai (by kernel_rfl) ?_)
      repeat (refine ai (by first | exact Int.natCast_nonneg _ | omega | exact ai (Int.natCast_nonneg _) (by omega)) ?_)
      refine ei [0, 1, 2, 3, 4, 5, 6] (ai (by kernel_rfl) ?_)
      repeat (refine ai (by first | exact Int.natCast_nonneg _ | omega | exact ai (Int.natCast_nonneg _) (by omega)) ?_)
      refine ei (k + 1) (ai (ai rfl rfl) (ai (ai ?_ rfl) (ai (ai (by show k + 1 ≤ l.length; omega) ?_) (by show l.length - (k + 1) < l.length - k; omega))))
      any_goals (repeat' (first | with_reducible rfl | exact trivial | refine ai ?_ ?_ | (show (_ : Int) = _; first | with_reducible rfl | exact wr1 (by omega) | (simp only [zz, reduceCtorEq] <;> first | done | rfl | omega) | omega | rfl) | exact rfl | exact (fun _ => rfl) | exact (fun _ _ => rfl) | exact nof))
      · (rw [e49 h2]; show (_ : Int) = _; first | rfl | simp only [zz, reduceCtorEq])
      · (rw [e49 h2]; show (_ : Int) = _; first | rfl | simp only [zz, reduceCtorEq])
      · exact all_succ hall (by rw [h2]; rfl)
    refine bcase_p (p := bAt l k = 48) (by first | (with_reducible refine bif_lt ?_; omega) | (with_reducible refine bif_le ?_; omega) | (with_reducible refine bif_eq ?_; omega) | (with_reducible refine bif_ne ?_; omega) | exact b8_eq rfl | exact b8_ne rfl | exact bif_lt (by omega) | exact bif_le (by omega) | exact bif_eq (by omega) | exact bif_ne (by omega) | exact Iff.rfl | (simp only [zz, reduceCtorEq] <;> first | done | omega | exact Iff.rfl) | (simp; done) | (simp; omega)) (fun h3 => ?_) (fun h3 => ?_)
    · skip
      refine ei [0, 1, 2, 3, 4, 5, 6] (ai (by kernel_rfl) ?_)
      repeat (refine ai (by first | exact Int.natCast_nonneg _ | omega | exact ai (Int.natCast_nonneg _) (by omega)) ?_)
      refine ei (k + 1) (ai (ai rfl rfl) (ai (ai ?_ rfl) (ai (ai (by show k + 1 ≤ l.length; omega) ?_) (by show l.length - (k + 1) < l.length - k; omega))))
      any_goals (repeat' (first | with_reducible rfl | exact trivial | refine ai ?_ ?_ | (show (_ : Int) = _; first | with_reducible rfl | exact wr1 (by omega) | (simp only [zz, reduceCtorEq] <;> first | done | rfl | omega) | omega | rfl) | exact rfl | exact (fun _ => rfl) | exact (fun _ _ => rfl) | exact nof))
      · (rw [e48 h2 (by rw [h3]; decide)]; show (_ : Int) = _; first | rfl | simp only [zz, reduceCtorEq])
      · (rw [e48 h2 (by rw [h3]; decide)]; show (_ : Int) = _; first | rfl | simp only [zz, reduceCtorEq])
      · exact all_succ hall (by rw [h3]; rfl)
    refine bcase_p (p := bAt l k = 45) (by first | (with_reducible refine bif_lt ?_; omega) | (with_reducible refine bif_le ?_; omega) | (with_reducible refine bif_eq ?_; omega) | (with_reducible refine bif_ne ?_; omega) | exact b8_eq rfl | exact b8_ne rfl | exact bif_lt (by omega) | exact bif_le (by omega) | exact bif_eq (by omega) | exact bif_ne (by omega) | exact Iff.rfl | (simp only [zz, reduceCtorEq] <;> first | done | omega | exact Iff.rfl) | (simp; done) | (simp; omega)) (fun h4 => ?_) (fun h4 => ?_)
    · skip
      refine ei (k + 1) (ai (ai rfl rfl) (ai (ai ?_ rfl) (ai (ai (by show k + 1 ≤ l.length; omega) ?_) (by show l.length - (k + 1) < l.length - k; omega))))
      any_goals (repeat' (first | with_reducible rfl | exact trivial | refine ai ?_ ?_ | (show (_ : Int) = _; first | with_reducible rfl | exact wr1 (by omega) | (simp only [zz, reduceCtorEq] <;> first | done | rfl | omega) | omega | rfl) | exact rfl | exact (fun _ => rfl) | exact (fun _ _ => rfl) | exact nof))
      · (rw [e45 h4]; show (_ : Int) = _; first | rfl | simp only [zz, reduceCtorEq])
      · (rw [e45 h4]; show (_ : Int) = _; first | rfl | simp only [zz, reduceCtorEq])
      · exact all_succ hall (by rw [h4]; rfl)
    · skip
      refine ai (ai (fun _ => (by (repeat' (first | exact rfl | exact trivial | exact (fun _ => rfl) | exact (fun _ _ => rfl) | exact nof | refine ai ?_ ?_)))) ?_) trivial
      show ple _ (resP (parseC l))
      rw [parse_bad h6 h1 (by simp [okB, h2, h3, h4])]
      any_goals (repeat' (first | with_reducible rfl | exact trivial | refine ai ?_ ?_ | (show (_ : Int) = _; first | with_reducible rfl | exact wr1 (by omega) | (simp only [zz, reduceCtorEq] <;> first | done | rfl | omega) | omega | rfl) | exact rfl | exact (fun _ => rfl) | exact (fun _ _ => rfl) | exact nof))
  · obtain rfl : k = l.length := by omega
    refine ei [0, 1, 2, 3, 4, 5] (ai (by kernel_rfl) ?_)
    refine ai (ai (fun _ => (by (repeat' (first | exact rfl | exact trivial | exact (fun _ => rfl) | exact (fun _ _ => rfl) | exact nof | refine ai ?_ ?_)))) ?_) trivial
    show ple _ (resP (parseC l))
    rw [parse_ok h6 hall]
    any_goals (repeat' (first | with_reducible rfl | exact trivial | refine ai ?_ ?_ | (show (_ : Int) = _; first | with_reducible rfl | exact wr1 (by omega) | (simp only [zz, reduceCtorEq] <;> first | done | rfl | omega) | omega | rfl) | exact rfl | exact (fun _ => rfl) | exact (fun _ _ => rfl) | exact nof))

end Go.Sx.Pn

namespace Go.Sx.Pn
open Go Go.Proofs

theorem rCheckTask_ok : FnOk Try.prog 38 checkTaskS := by
  refine fnOk (Tb := tab) mixed tab_ok Try.func38 rfl rfl ?_
  rintro x hpre
  refine ai (ai rfl (ai rfl rfl)) ?_
  refine ei _ (ai rtcheck_ok (ei (x.on) (ei [] (ai (ai rfl (ai rfl (ai rfl (ai rfl (ai (fun _ => Or.inl rfl) (by first | exact nof | exact (fun _ => ai rfl rfl))))))) (ai (by (repeat' (first | with_reducible rfl | exact trivial | refine ai ?_ ?_ | (show (_ : Int) = _; first | with_reducible rfl | exact wr1 (by omega) | (simp only [zz, reduceCtorEq] <;> first | done | rfl | omega) | omega | rfl) | exact rfl | exact (fun _ => rfl) | exact (fun _ _ => rfl) | exact nof))) (ai trivial (ai (trivial) ?_)))))))
  refine bcase_n (p := chkT x.on = 0) (by first | (with_reducible refine bif_lt ?_; omega) | (with_reducible refine bif_le ?_; omega) | (with_reducible refine bif_eq ?_; omega) | (with_reducible refine bif_ne ?_; omega) | exact b8_eq rfl | exact b8_ne rfl | exact bif_lt (by omega) | exact bif_le (by omega) | exact bif_eq (by omega) | exact bif_ne (by omega) | exact Iff.rfl | (simp only [zz, reduceCtorEq] <;> first | done | omega | exact Iff.rfl) | (simp; done) | (simp; omega)) (fun h1 => ?_) (fun h1 => ?_)
  · skip
    refine ai (ai (fun _ => (by (repeat' (first | exact rfl | exact trivial | exact (fun _ => rfl) | exact (fun _ _ => rfl) | exact nof | refine ai ?_ ?_)))) ?_) trivial
    show ple _ (iP (chkK x))
    rw [show chkK x = chkT x.on by simp [chkK, h1]]
    any_goals (repeat' (first | with_reducible rfl | exact trivial | refine ai ?_ ?_ | (show (_ : Int) = _; first | with_reducible rfl | exact wr1 (by omega) | (simp only [zz, reduceCtorEq] <;> first | done | rfl | omega) | omega | rfl) | exact rfl | exact (fun _ => rfl) | exact (fun _ _ => rfl) | exact nof))
  refine ei _ (ai rtcheck_ok (ei (x.free) (ei [] (ai (ai rfl (ai rfl (ai rfl (ai rfl (ai (fun _ => Or.inl rfl) (by first | exact nof | exact (fun _ => ai rfl rfl))))))) (ai (by (repeat' (first | with_reducible rfl | exact trivial | refine ai ?_ ?_ | (show (_ : Int) = _; first | with_reducible rfl | exact wr1 (by omega) | (simp only [zz, reduceCtorEq] <;> first | done | rfl | omega) | omega | rfl) | exact rfl | exact (fun _ => rfl) | exact (fun _ _ => rfl) | exact nof))) (ai trivial (ai (trivial) ?_)))))))
  refine bcase_n (p := chkT x.free = 0) (by first | (with_reducible refine bif_lt ?_; omega) | (with_reducible refine bif_le ?_; omega) | (with_reducible refine bif_eq ?_; omega) | (with_reducible refine bif_ne ?_; omega) | exact b8_eq rfl | exact b8_ne rfl | exact bif_lt (by omega) | exact bif_le (by omega) | exact bif_eq (by omega) | exact bif_ne (by omega) | exact Iff.rfl | (simp only [zz, reduceCtorEq] <;> first | done | omega | exact Iff.rfl) | (simp; done) | (simp; omega)) (fun h2 => ?_) (fun h2 => ?_)
  · skip
    refine ai (ai (fun _ => (by (repeat' (first | exact rfl | exact trivial | exact (fun _ => rfl) | exact (fun _ _ => rfl) | exact nof | refine ai ?_ ?_)))) ?_) trivial
    show ple _ (iP (chkK x))
    rw [show chkK x = chkT x.free by simp [chkK, h1, h2]]
    any_goals (repeat' (first | with_reducible rfl | exact trivial | refine ai ?_ ?_ | (show (_ : Int) = _; first | with_reducible rfl | exact wr1 (by omega) | (simp only [zz, reduceCtorEq] <;> first | done | rfl | omega) | omega | rfl) | exact rfl | exact (fun _ => rfl) | exact (fun _ _ => rfl) | exact nof))
  refine bcase_n (p := x.on.n = x.free.n) (by first | (with_reducible refine bif_lt ?_; omega) | (with_reducible refine bif_le ?_; omega) | (with_reducible refine bif_eq ?_; omega) | (with_reducible refine bif_ne ?_; omega) | exact b8_eq rfl | exact b8_ne rfl | exact bif_lt (by omega) | exact bif_le (by omega) | exact bif_eq (by omega) | exact bif_ne (by omega) | exact Iff.rfl | (simp only [zz, reduceCtorEq] <;> first | done | omega | exact Iff.rfl) | (simp; done) | (simp; omega)) (fun h3 => ?_) (fun h3 => ?_)
  · skip
    refine ai (ai (fun _ => (by (repeat' (first | exact rfl | exact trivial | exact (fun _ => rfl) | exact (fun _ _ => rfl) | exact nof | refine ai ?_ ?_)))) ?_) trivial
    show ple _ (iP (chkK x))
    rw [show chkK x = 8 by simp [chkK, h1, h2, h3]]
    any_goals (repeat' (first | with_reducible rfl | exact trivial | refine ai ?_ ?_ | (show (_ : Int) = _; first | with_reducible rfl | exact wr1 (by omega) | (simp only [zz, reduceCtorEq] <;> first | done | rfl | omega) | omega | rfl) | exact rfl | exact (fun _ => rfl) | exact (fun _ _ => rfl) | exact nof))
  refine bcase_n (p := x.on.bits &&& x.free.bits = 0#64) (by first | (with_reducible refine bif_lt ?_; omega) | (with_reducible refine bif_le ?_; omega) | (with_reducible refine bif_eq ?_; omega) | (with_reducible refine bif_ne ?_; omega) | exact b8_eq rfl | exact b8_ne rfl | exact bif_lt (by omega) | exact bif_le (by omega) | exact bif_eq (by omega) | exact bif_ne (by omega) | exact Iff.rfl | (simp only [zz, reduceCtorEq] <;> first | done | omega | exact Iff.rfl) | (simp; done) | (simp; omega)) (fun h4 => ?_) (fun h4 => ?_)
  · skip
    refine ai (ai (fun _ => (by (repeat' (first | exact rfl | exact trivial | exact (fun _ => rfl) | exact (fun _ _ => rfl) | exact nof | refine ai ?_ ?_)))) ?_) trivial
    show ple _ (iP (chkK x))
    rw [show chkK x = 16 by simp [chkK, h1, h2, h3, h4]]
    any_goals (repeat' (first | with_reducible rfl | exact trivial | refine ai ?_ ?_ | (show (_ : Int) = _; first | with_reducible rfl | exact wr1 (by omega) | (simp only [zz, reduceCtorEq] <;> first | done | rfl | omega) | omega | rfl) | exact rfl | exact (fun _ => rfl) | exact (fun _ _ => rfl) | exact nof))
  · skip
    refine ai (ai (fun _ => (by (repeat' (first | exact rfl | exact trivial | exact (fun _ => rfl) | exact (fun _ _ => rfl) | exact nof | refine ai ?_ ?_)))) ?_) trivial
    show ple _ (iP (chkK x))
    rw [show chkK x = 0 by simp [chkK, h1, h2, h3, h4]]
    any_goals (repeat' (first | with_reducible rfl | exact trivial | refine ai ?_ ?_ | (show (_ : Int) = _; first | with_reducible rfl | exact wr1 (by omega) | (simp only [zz, reduceCtorEq] <;> first | done | rfl | omega) | omega | rfl) | exact rfl | exact (fun _ => rfl) | exact (fun _ _ => rfl) | exact nof))

/-- by points: a cube is an implicant -/
def gAt (x : Tk) (c : Cu) (k : Nat) : Bool := !hasC c k || atT x.on k || atT x.free k
def goodC (n : Nat) (x : Tk) (c : Cu) : Bool := (List.range (2 ^ n)).all (gAt x c)
theorem good_end {n : Nat} {x : Tk} {c : Cu} {k : Nat} (h : ∀ j, j < k → gAt x c j = true) (hk : 2 ^ n ≤ k) : goodC n x c = true :=
  List.all_eq_true.2 fun j hj => h j (by have := List.mem_range.1 hj; omega)
theorem good_bad {n : Nat} {x : Tk} {c : Cu} {k : Nat} (hk : k < 2 ^ n) (h : gAt x c k = false) : goodC n x c = false :=
  List.all_eq_false.2 ⟨k, List.mem_range.2 hk, by rw [h]; decide⟩
theorem upto_succ {p : Nat → Prop} {k : Nat} (h : ∀ j, j < k → p j) (hk : p k) : ∀ j, j < k + 1 → p j := fun j hj => by
  by_cases e : j = k
  · subst e; exact hk
  · exact h j (by omega)

def goodS : Spec := fnS (fun x : Nat × Tk × Cu => [kA x.2.1, cA x.2.2]) (fun x => x.1 ≤ 6 ∧ x.2.1.on.n = x.1) (fun x => bP (goodC x.1 x.2.1 x.2.2))
theorem good_ok : FnOk Try.prog 92 goodS := by
  refine fnOk (Tb := tab) mixed tab_ok Try.func92 rfl rfl ?_
  rintro ⟨n, x, c⟩ hpre
  refine ai (ai rfl (ai rfl rfl)) ?_
  obtain ⟨hn, hx⟩ : n ≤ 6 ∧ x.on.n = n := hpre
  have h64 := pow_le64 hn
  refine ei (LAnn.inv { X := Nat, up := fun k => [(5, .s (iA k))], uo := fun k => [], inv := fun k => k ≤ 2 ^ n ∧ (∀ j, j < k → gAt x c j = true), meas := fun k => 2 ^ n - k, x0 := 0 }) ?_
  refine ai (ai (ai (by (repeat' (first | exact rfl | exact trivial | exact (fun _ => rfl) | exact (fun _ _ => rfl) | exact nof | refine ai ?_ ?_))) (ai (by (repeat' (first | with_reducible rfl | exact trivial | refine ai ?_ ?_ | (show (_ : Int) = _; first | with_reducible rfl | exact wr1 (by omega) | (simp only [zz, reduceCtorEq] <;> first | done | rfl | omega) | omega | rfl) | exact rfl | exact (fun _ => rfl) | exact (fun _ _ => rfl) | exact nof))) (by (repeat' (first | with_reducible rfl | exact trivial | refine ai ?_ ?_ | (show (_ : Int) = _; first | with_reducible rfl | exact wr1 (by omega) | (simp only [zz, reduceCtorEq] <;> first | done | rfl | omega) | omega | rfl) | exact rfl | exact (fun _ => rfl) | exact (fun _ _ => rfl) | exact nof))))) rfl) (ai (ai (Nat.zero_le _) ?_) ?_)
  · exact fun j hj => absurd hj (Nat.not_lt_zero _)
  intro (k : Nat) ⟨hk, hall⟩
  refine ei _ (ai size_ok (ei (n) (ei [] (ai (ai rfl (ai rfl (ai rfl (ai rfl (ai (fun _ => Or.inl rfl) (by first | exact nof | exact (fun _ => ai rfl rfl))))))) (ai (by (repeat' (first | with_reducible rfl | exact trivial | refine ai ?_ ?_ | (show (_ : Int) = _; first | with_reducible rfl | exact wr1 (by omega) | (simp only [zz, reduceCtorEq] <;> first | done | rfl | omega) | omega | rfl) | exact rfl | exact (fun _ => rfl) | exact (fun _ _ => rfl) | exact nof))) (ai trivial (ai (hn) ?_)))))))
  refine bcase_p (p := k < 2 ^ n) (by first | (with_reducible refine bif_lt ?_; omega) | (with_reducible refine bif_le ?_; omega) | (with_reducible refine bif_eq ?_; omega) | (with_reducible refine bif_ne ?_; omega) | exact b8_eq rfl | exact b8_ne rfl | exact bif_lt (by omega) | exact bif_le (by omega) | exact bif_eq (by omega) | exact bif_ne (by omega) | exact Iff.rfl | (simp only [zz, reduceCtorEq] <;> first | done | omega | exact Iff.rfl) | (simp; done) | (simp; omega)) (fun h1 => ?_) (fun h1 => ?_)
  · skip
    refine ei _ (ai in_ok (ei ((c, (k : Int))) (ei [] (ai (ai rfl (ai rfl (ai rfl (ai rfl (ai (fun _ => Or.inl rfl) (by first | exact nof | exact (fun _ => ai rfl rfl))))))) (ai (by (repeat' (first | with_reducible rfl | exact trivial | refine ai ?_ ?_ | (show (_ : Int) = _; first | with_reducible rfl | exact wr1 (by omega) | (simp only [zz, reduceCtorEq] <;> first | done | rfl | omega) | omega | rfl) | exact rfl | exact (fun _ => rfl) | exact (fun _ _ => rfl) | exact nof))) (ai trivial (ai (trivial) ?_)))))))
    refine bcase_b (b := hasC c k) (by first | exact rfl | (simp only [zz, reduceCtorEq] <;> first | done | exact rfl)) (fun h2 => ?_) (fun h2 => ?_)
    · skip
      refine ei _ (ai at_ok (ei ((x.on, k)) (ei [] (ai (ai rfl (ai rfl (ai rfl (ai rfl (ai (fun _ => Or.inl rfl) (by first | exact nof | exact (fun _ => ai rfl rfl))))))) (ai (by (repeat' (first | with_reducible rfl | exact trivial | refine ai ?_ ?_ | (show (_ : Int) = _; first | with_reducible rfl | exact wr1 (by omega) | (simp only [zz, reduceCtorEq] <;> first | done | rfl | omega) | omega | rfl) | exact rfl | exact (fun _ => rfl) | exact (fun _ _ => rfl) | exact nof))) (ai trivial (ai (trivial) ?_)))))))
      refine bcase_b (b := !atT x.on k) (by first | exact rfl | (simp only [zz, reduceCtorEq] <;> first | done | exact rfl)) (fun h3 => ?_) (fun h3 => ?_)
      · skip
        refine ei _ (ai at_ok (ei ((x.free, k)) (ei [] (ai (ai rfl (ai rfl (ai rfl (ai rfl (ai (fun _ => Or.inl rfl) (by first | exact nof | exact (fun _ => ai rfl rfl))))))) (ai (by (repeat' (first | with_reducible rfl | exact trivial | refine ai ?_ ?_ | (show (_ : Int) = _; first | with_reducible rfl | exact wr1 (by omega) | (simp only [zz, reduceCtorEq] <;> first | done | rfl | omega) | omega | rfl) | exact rfl | exact (fun _ => rfl) | exact (fun _ _ => rfl) | exact nof))) (ai trivial (ai (trivial) ?_)))))))
        refine bcase_b (b := !atT x.free k) (by first | exact rfl | (simp only [zz, reduceCtorEq] <;> first | done | exact rfl)) (fun h4 => ?_) (fun h4 => ?_)
        · skip
          refine ai (ai (fun _ => (by (repeat' (first | exact rfl | exact trivial | exact (fun _ => rfl) | exact (fun _ _ => rfl) | exact nof | refine ai ?_ ?_)))) ?_) trivial
          show ple _ (bP (goodC n x c))
          rw [good_bad h1 (by simp at h3 h4; simp [gAt, h2, h3, h4])]
          any_goals (repeat' (first | with_reducible rfl | exact trivial | refine ai ?_ ?_ | (show (_ : Int) = _; first | with_reducible rfl | exact wr1 (by omega) | (simp only [zz, reduceCtorEq] <;> first | done | rfl | omega) | omega | rfl) | exact rfl | exact (fun _ => rfl) | exact (fun _ _ => rfl) | exact nof))
        · skip
          refine ei (k + 1) (ai (ai rfl rfl) (ai (ai ?_ rfl) (ai (ai (by show k + 1 ≤ 2 ^ n; omega) ?_) (by show 2 ^ n - (k + 1) < 2 ^ n - k; omega))))
          any_goals (repeat' (first | with_reducible rfl | exact trivial | refine ai ?_ ?_ | (show (_ : Int) = _; first | with_reducible rfl | exact wr1 (by omega) | (simp only [zz, reduceCtorEq] <;> first | done | rfl | omega) | omega | rfl) | exact rfl | exact (fun _ => rfl) | exact (fun _ _ => rfl) | exact nof))
          exact upto_succ hall (by simp at h4; simp [gAt, h4])
      · skip
        refine ei (k + 1) (ai (ai rfl rfl) (ai (ai ?_ rfl) (ai (ai (by show k + 1 ≤ 2 ^ n; omega) ?_) (by show 2 ^ n - (k + 1) < 2 ^ n - k; omega))))
        any_goals (repeat' (first | with_reducible rfl | exact trivial | refine ai ?_ ?_ | (show (_ : Int) = _; first | with_reducible rfl | exact wr1 (by omega) | (simp only [zz, reduceCtorEq] <;> first | done | rfl | omega) | omega | rfl) | exact rfl | exact (fun _ => rfl) | exact (fun _ _ => rfl) | exact nof))
        exact upto_succ hall (by simp at h3; simp [gAt, h3])
    · skip
      refine ei (k + 1) (ai (ai rfl rfl) (ai (ai ?_ rfl) (ai (ai (by show k + 1 ≤ 2 ^ n; omega) ?_) (by show 2 ^ n - (k + 1) < 2 ^ n - k; omega))))
      any_goals (repeat' (first | with_reducible rfl | exact trivial | refine ai ?_ ?_ | (show (_ : Int) = _; first | with_reducible rfl | exact wr1 (by omega) | (simp only [zz, reduceCtorEq] <;> first | done | rfl | omega) | omega | rfl) | exact rfl | exact (fun _ => rfl) | exact (fun _ _ => rfl) | exact nof))
      exact upto_succ hall (by simp [gAt, h2])
  · skip
    refine ai (ai (fun _ => (by (repeat' (first | exact rfl | exact trivial | exact (fun _ => rfl) | exact (fun _ _ => rfl) | exact nof | refine ai ?_ ?_)))) ?_) trivial
    show ple _ (bP (goodC n x c))
    rw [good_end hall (Nat.le_of_not_lt h1)]
    any_goals (repeat' (first | with_reducible rfl | exact trivial | refine ai ?_ ?_ | (show (_ : Int) = _; first | with_reducible rfl | exact wr1 (by omega) | (simp only [zz, reduceCtorEq] <;> first | done | rfl | omega) | omega | rfl) | exact rfl | exact (fun _ => rfl) | exact (fun _ _ => rfl) | exact nof))

def tAt (x : Tk) (c : Cu) (k : Nat) : Bool := hasC c k && atT x.on k
def touchC (n : Nat) (x : Tk) (c : Cu) : Bool := (List.range (2 ^ n)).any (tAt x c)
theorem any_end {p : Nat → Bool} {m k : Nat} (h : ∀ j, j < k → p j = false) (hk : m ≤ k) : (List.range m).any p = false :=
  List.any_eq_false.2 fun j hj => by rw [h j (by have := List.mem_range.1 hj; omega)]; decide
theorem any_hit {p : Nat → Bool} {m k : Nat} (hk : k < m) (h : p k = true) : (List.range m).any p = true :=
  List.any_eq_true.2 ⟨k, List.mem_range.2 hk, h⟩
def touchS : Spec := fnS (fun x : Nat × Tk × Cu => [kA x.2.1, cA x.2.2]) (fun x => x.1 ≤ 6 ∧ x.2.1.on.n = x.1) (fun x => bP (touchC x.1 x.2.1 x.2.2))
theorem touches_ok : FnOk Try.prog 133 touchS := by
  refine fnOk (Tb := tab) mixed tab_ok Try.func133 rfl rfl ?_
  rintro ⟨n, x, c⟩ hpre
  refine ai (ai rfl (ai rfl rfl)) ?_
  obtain ⟨hn, hx⟩ : n ≤ 6 ∧ x.on.n = n := hpre
  have h64 := pow_le64 hn
  refine ei (LAnn.inv { X := Nat, up := fun k => [(5, .s (iA k))], uo := fun k => [], inv := fun k => k ≤ 2 ^ n ∧ (∀ j, j < k → tAt x c j = false), meas := fun k => 2 ^ n - k, x0 := 0 }) ?_
  refine ai (ai (ai (by (repeat' (first | exact rfl | exact trivial | exact (fun _ => rfl) | exact (fun _ _ => rfl) | exact nof | refine ai ?_ ?_))) (ai (by (repeat' (first | with_reducible rfl | exact trivial | refine ai ?_ ?_ | (show (_ : Int) = _; first | with_reducible rfl | exact wr1 (by omega) | (simp only [zz, reduceCtorEq] <;> first | done | rfl | omega) | omega | rfl) | exact rfl | exact (fun _ => rfl) | exact (fun _ _ => rfl) | exact nof))) (by (repeat' (first | with_reducible rfl | exact trivial | refine ai ?_ ?_ | (show (_ : Int) = _; first | with_reducible rfl | exact wr1 (by omega) | (simp only [zz, reduceCtorEq] <;> first | done | rfl | omega) | omega | rfl) | exact rfl | exact (fun _ => rfl) | exact (fun _ _ => rfl) | exact nof))))) rfl) (ai (ai (Nat.zero_le _) ?_) ?_)
  · exact fun j hj => absurd hj (Nat.not_lt_zero _)
  intro (k : Nat) ⟨hk, hall⟩
  refine ei _ (ai size_ok (ei (n) (ei [] (ai (ai rfl (ai rfl (ai rfl (ai rfl (ai (fun _ => Or.inl rfl) (by first | exact nof | exact (fun _ => ai rfl rfl))))))) (ai (by (repeat' (first | with_reducible rfl | exact trivial | refine ai ?_ ?_ | (show (_ : Int) = _; first | with_reducible rfl | exact wr1 (by omega) | (simp only [zz, reduceCtorEq] <;> first | done | rfl | omega) | omega | rfl) | exact rfl | exact (fun _ => rfl) | exact (fun _ _ => rfl) | exact nof))) (ai trivial (ai (hn) ?_)))))))
  refine bcase_p (p := k < 2 ^ n) (by first | (with_reducible refine bif_lt ?_; omega) | (with_reducible refine bif_le ?_; omega) | (with_reducible refine bif_eq ?_; omega) | (with_reducible refine bif_ne ?_; omega) | exact b8_eq rfl | exact b8_ne rfl | exact bif_lt (by omega) | exact bif_le (by omega) | exact bif_eq (by omega) | exact bif_ne (by omega) | exact Iff.rfl | (simp only [zz, reduceCtorEq] <;> first | done | omega | exact Iff.rfl) | (simp; done) | (simp; omega)) (fun h1 => ?_) (fun h1 => ?_)
  · skip
    refine ei _ (ai in_ok (ei ((c, (k : Int))) (ei [] (ai (ai rfl (ai rfl (ai rfl (ai rfl (ai (fun _ => Or.inl rfl) (by first | exact nof | exact (fun _ => ai rfl rfl))))))) (ai (by (repeat' (first | with_reducible rfl | exact trivial | refine ai ?_ ?_ | (show (_ : Int) = _; first | with_reducible rfl | exact wr1 (by omega) | (simp only [zz, reduceCtorEq] <;> first | done | rfl | omega) | omega | rfl) | exact rfl | exact (fun _ => rfl) | exact (fun _ _ => rfl) | exact nof))) (ai trivial (ai (trivial) ?_)))))))
    refine bcase_b (b := hasC c k) (by first | exact rfl | (simp only [zz, reduceCtorEq] <;> first | done | exact rfl)) (fun h2 => ?_) (fun h2 => ?_)
    · skip
      refine ei _ (ai at_ok (ei ((x.on, k)) (ei [] (ai (ai rfl (ai rfl (ai rfl (ai rfl (ai (fun _ => Or.inl rfl) (by first | exact nof | exact (fun _ => ai rfl rfl))))))) (ai (by (repeat' (first | with_reducible rfl | exact trivial | refine ai ?_ ?_ | (show (_ : Int) = _; first | with_reducible rfl | exact wr1 (by omega) | (simp only [zz, reduceCtorEq] <;> first | done | rfl | omega) | omega | rfl) | exact rfl | exact (fun _ => rfl) | exact (fun _ _ => rfl) | exact nof))) (ai trivial (ai (trivial) ?_)))))))
      refine bcase_b (b := atT x.on k) (by first | exact rfl | (simp only [zz, reduceCtorEq] <;> first | done | exact rfl)) (fun h3 => ?_) (fun h3 => ?_)
      · skip
        refine ai (ai (fun _ => (by (repeat' (first | exact rfl | exact trivial | exact (fun _ => rfl) | exact (fun _ _ => rfl) | exact nof | refine ai ?_ ?_)))) ?_) trivial
        show ple _ (bP (touchC n x c))
        rw [show touchC n x c = true from any_hit h1 (by rw [tAt, h2, h3]; rfl)]
        any_goals (repeat' (first | with_reducible rfl | exact trivial | refine ai ?_ ?_ | (show (_ : Int) = _; first | with_reducible rfl | exact wr1 (by omega) | (simp only [zz, reduceCtorEq] <;> first | done | rfl | omega) | omega | rfl) | exact rfl | exact (fun _ => rfl) | exact (fun _ _ => rfl) | exact nof))
      · skip
        refine ei (k + 1) (ai (ai rfl rfl) (ai (ai ?_ rfl) (ai (ai (by show k + 1 ≤ 2 ^ n; omega) ?_) (by show 2 ^ n - (k + 1) < 2 ^ n - k; omega))))
        any_goals (repeat' (first | with_reducible rfl | exact trivial | refine ai ?_ ?_ | (show (_ : Int) = _; first | with_reducible rfl | exact wr1 (by omega) | (simp only [zz, reduceCtorEq] <;> first | done | rfl | omega) | omega | rfl) | exact rfl | exact (fun _ => rfl) | exact (fun _ _ => rfl) | exact nof))
        exact upto_succ hall (by rw [tAt, h3, Bool.and_false])
    · skip
      refine ei (k + 1) (ai (ai rfl rfl) (ai (ai ?_ rfl) (ai (ai (by show k + 1 ≤ 2 ^ n; omega) ?_) (by show 2 ^ n - (k + 1) < 2 ^ n - k; omega))))
      any_goals (repeat' (first | with_reducible rfl | exact trivial | refine ai ?_ ?_ | (show (_ : Int) = _; first | with_reducible rfl | exact wr1 (by omega) | (simp only [zz, reduceCtorEq] <;> first | done | rfl | omega) | omega | rfl) | exact rfl | exact (fun _ => rfl) | exact (fun _ _ => rfl) | exact nof))
      exact upto_succ hall (by rw [tAt, h2, Bool.false_and])
  · skip
    refine ai (ai (fun _ => (by (repeat' (first | exact rfl | exact trivial | exact (fun _ => rfl) | exact (fun _ _ => rfl) | exact nof | refine ai ?_ ?_)))) ?_) trivial
    show ple _ (bP (touchC n x c))
    rw [show touchC n x c = false from any_end hall (Nat.le_of_not_lt h1)]
    any_goals (repeat' (first | with_reducible rfl | exact trivial | refine ai ?_ ?_ | (show (_ : Int) = _; first | with_reducible rfl | exact wr1 (by omega) | (simp only [zz, reduceCtorEq] <;> first | done | rfl | omega) | omega | rfl) | exact rfl | exact (fun _ => rfl) | exact (fun _ _ => rfl) | exact nof))

def growAt (n : Nat) (x : Tk) (c : Cu) (i : Nat) : Bool := c.care.getLsbD i && goodC n x (joinedC c c [i])
def growC (n : Nat) (x : Tk) (c : Cu) : Bool := (List.range n).any (growAt n x c)
def growS : Spec := fnS (fun x : Nat × Tk × Cu => [kA x.2.1, cA x.2.2]) (fun x => x.1 ≤ 6 ∧ x.2.1.on.n = x.1) (fun x => bP (growC x.1 x.2.1 x.2.2))
theorem rgrows_ok : FnOk Try.prog 134 growS := by
  refine fnOk (Tb := tab) mixed tab_ok Try.func134 rfl rfl ?_
  rintro ⟨n, x, c⟩ hpre
  refine ai (ai rfl (ai rfl rfl)) ?_
  obtain ⟨hn, hx⟩ : n ≤ 6 ∧ x.on.n = n := hpre
  refine ei (LAnn.inv { X := Nat, up := fun k => [(5, .s (iA k))], uo := fun k => [], inv := fun k => k ≤ n ∧ (∀ j, j < k → growAt n x c j = false), meas := fun k => n - k, x0 := 0 }) ?_
  refine ai (ai (ai (by (repeat' (first | exact rfl | exact trivial | exact (fun _ => rfl) | exact (fun _ _ => rfl) | exact nof | refine ai ?_ ?_))) (ai (by (repeat' (first | with_reducible rfl | exact trivial | refine ai ?_ ?_ | (show (_ : Int) = _; first | with_reducible rfl | exact wr1 (by omega) | (simp only [zz, reduceCtorEq] <;> first | done | rfl | omega) | omega | rfl) | exact rfl | exact (fun _ => rfl) | exact (fun _ _ => rfl) | exact nof))) (by (repeat' (first | with_reducible rfl | exact trivial | refine ai ?_ ?_ | (show (_ : Int) = _; first | with_reducible rfl | exact wr1 (by omega) | (simp only [zz, reduceCtorEq] <;> first | done | rfl | omega) | omega | rfl) | exact rfl | exact (fun _ => rfl) | exact (fun _ _ => rfl) | exact nof))))) rfl) (ai (ai (Nat.zero_le _) ?_) ?_)
  · exact fun j hj => absurd hj (Nat.not_lt_zero _)
  intro (k : Nat) ⟨hk, hall⟩
  refine bcase_p (p := k < n) (by first | (with_reducible refine bif_lt ?_; omega) | (with_reducible refine bif_le ?_; omega) | (with_reducible refine bif_eq ?_; omega) | (with_reducible refine bif_ne ?_; omega) | exact b8_eq rfl | exact b8_ne rfl | exact bif_lt (by omega) | exact bif_le (by omega) | exact bif_eq (by omega) | exact bif_ne (by omega) | exact Iff.rfl | (simp only [zz, reduceCtorEq] <;> first | done | omega | exact Iff.rfl) | (simp; done) | (simp; omega)) (fun h1 => ?_) (fun h1 => ?_)
  · skip
    refine ei [0, 1, 2, 3, 4, 5, 6, 7, 8, 9, 10, 11, 12, 13, 14] (ai (by kernel_rfl) ?_)
    repeat (refine ai (by first | exact Int.natCast_nonneg _ | omega | exact ai (Int.natCast_nonneg _) (by omega)) ?_)
    refine bcase_b (b := c.care.getLsbD k) (by first | exact rfl | (simp only [zz, reduceCtorEq] <;> first | done | exact rfl)) (fun h2 => ?_) (fun h2 => ?_)
    · skip
      refine ei _ (ai joined_ok (ei ((c, c, [k])) (ei [] (ai (ai rfl (ai rfl (ai rfl (ai rfl (ai (fun _ => Or.inl rfl) (by first | exact nof | exact (fun _ => ai rfl rfl))))))) (ai ?_ (ai trivial (ai ?_ ?_)))))))
      · skip
        (repeat' (first | exact rfl | exact trivial | exact (fun _ => rfl) | exact (fun _ _ => rfl) | exact nof | refine ai ?_ ?_))
        intro j hj
        have hj : j < 1 := hj
        obtain rfl : j = 0 := by omega
        rfl
      · show 1 ≤ 1000; omega
      refine ei _ (ai good_ok (ei ((n, x, joinedC c c [k])) (ei [] (ai (ai rfl (ai rfl (ai rfl (ai rfl (ai (fun _ => Or.inl rfl) (by first | exact nof | exact (fun _ => ai rfl rfl))))))) (ai (by (repeat' (first | with_reducible rfl | exact trivial | refine ai ?_ ?_ | (show (_ : Int) = _; first | with_reducible rfl | exact wr1 (by omega) | (simp only [zz, reduceCtorEq] <;> first | done | rfl | omega) | omega | rfl) | exact rfl | exact (fun _ => rfl) | exact (fun _ _ => rfl) | exact nof))) (ai trivial (ai (⟨hn, hx⟩) ?_)))))))
      refine bcase_b (b := goodC n x (joinedC c c [k])) (by first | exact rfl | (simp only [zz, reduceCtorEq] <;> first | done | exact rfl)) (fun h3 => ?_) (fun h3 => ?_)
      · skip
        refine ai (ai (fun _ => (by (repeat' (first | exact rfl | exact trivial | exact (fun _ => rfl) | exact (fun _ _ => rfl) | exact nof | refine ai ?_ ?_)))) ?_) trivial
        show ple _ (bP (growC n x c))
        rw [show growC n x c = true from any_hit h1 (by rw [growAt, h2, h3]; rfl)]
        any_goals (repeat' (first | with_reducible rfl | exact trivial | refine ai ?_ ?_ | (show (_ : Int) = _; first | with_reducible rfl | exact wr1 (by omega) | (simp only [zz, reduceCtorEq] <;> first | done | rfl | omega) | omega | rfl) | exact rfl | exact (fun _ => rfl) | exact (fun _ _ => rfl) | exact nof))
      · skip
        refine ei (k + 1) (ai (ai rfl rfl) (ai (ai ?_ rfl) (ai (ai (by show k + 1 ≤ n; omega) ?_) (by show n - (k + 1) < n - k; omega))))
        any_goals (repeat' (first | with_reducible rfl | exact trivial | refine ai ?_ ?_ | (show (_ : Int) = _; first | with_reducible rfl | exact wr1 (by omega) | (simp only [zz, reduceCtorEq] <;> first | done | rfl | omega) | omega | rfl) | exact rfl | exact (fun _ => rfl) | exact (fun _ _ => rfl) | exact nof))
        exact upto_succ hall (by rw [growAt, h3, Bool.and_false])
    · skip
      refine ei (k + 1) (ai (ai rfl rfl) (ai (ai ?_ rfl) (ai (ai (by show k + 1 ≤ n; omega) ?_) (by show n - (k + 1) < n - k; omega))))
      any_goals (repeat' (first | with_reducible rfl | exact trivial | refine ai ?_ ?_ | (show (_ : Int) = _; first | with_reducible rfl | exact wr1 (by omega) | (simp only [zz, reduceCtorEq] <;> first | done | rfl | omega) | omega | rfl) | exact rfl | exact (fun _ => rfl) | exact (fun _ _ => rfl) | exact nof))
      exact upto_succ hall (by rw [growAt, h2, Bool.false_and])
  · skip
    refine ai (ai (fun _ => (by (repeat' (first | exact rfl | exact trivial | exact (fun _ => rfl) | exact (fun _ _ => rfl) | exact nof | refine ai ?_ ?_)))) ?_) trivial
    show ple _ (bP (growC n x c))
    rw [show growC n x c = false from any_end hall (Nat.le_of_not_lt h1)]
    any_goals (repeat' (first | with_reducible rfl | exact trivial | refine ai ?_ ?_ | (show (_ : Int) = _; first | with_reducible rfl | exact wr1 (by omega) | (simp only [zz, reduceCtorEq] <;> first | done | rfl | omega) | omega | rfl) | exact rfl | exact (fun _ => rfl) | exact (fun _ _ => rfl) | exact nof))

end Go.Sx.Pn
