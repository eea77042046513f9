/- Contracts of chapter 8: chosen cubes, literals. -/
import Derived.Test.YtdkhdkldjpaadaaGreatP59
set_option maxHeartbeats 1000000
set_option maxRecDepth 4000
set_option linter.unusedSimpArgs false
set_option linter.unusedVariables false
namespace Go.Sx.Pn
open Go Go.Proofs

theorem hchkL_ok : FnOk Tryz.prog 61 cubeLS := by
  refine fnOk (Tb := tab) mixed tab_ok Tryz.func61 rfl rfl ?_
  rintro ⟨n, l⟩ hpre
  refine ai (ai rfl (ai rfl rfl)) ?_
  have hl : l.length ≤ 1000000 := hpre
  refine bcase_p (p := 256 < l.length) (by first | (with_reducible refine bif_lt ?_; omega) | (with_reducible refine bif_le ?_; omega) | (with_reducible refine bif_eq ?_; omega) | (with_reducible refine bif_ne ?_; omega) | exact b8_eq rfl | exact b8_ne rfl | exact bif_lt (by omega) | exact bif_le (by omega) | exact bif_eq (by omega) | exact bif_ne (by omega) | exact Iff.rfl | (simp only [zz, reduceCtorEq] <;> first | done | omega | exact Iff.rfl) | (simp; done) | (simp; omega)) (fun h1 => ?_) (fun h1 => ?_)
  · skip
    refine ai (ai (fun _ => (by (repeat' (first | exact rfl | exact trivial | exact (fun _ => rfl) | exact (fun _ _ => rfl) | exact nof | refine ai ?_ ?_)))) ?_) trivial
    show ple _ (iP (chkL n l))
    rw [chkL, if_pos h1]
    any_goals (repeat' (first | with_reducible rfl | exact trivial | refine ai ?_ ?_ | (show (_ : Int) = _; first | with_reducible rfl | exact wr1 (by omega) | (simp only [zz, reduceCtorEq] <;> first | done | rfl | omega) | omega | rfl) | exact rfl | exact (fun _ => rfl) | exact (fun _ _ => rfl) | exact nof))
  refine ei (LAnn.inv { X := Nat, up := fun k => [(13, .s (iA k))], uo := fun k => [], inv := fun k => k ≤ l.length ∧ (firstE n l k = 0), meas := fun k => l.length - k, x0 := 0 }) ?_
  refine ai (ai (ai (by (repeat' (first | exact rfl | exact trivial | exact (fun _ => rfl) | exact (fun _ _ => rfl) | exact nof | refine ai ?_ ?_))) (ai (by (repeat' (first | with_reducible rfl | exact trivial | refine ai ?_ ?_ | (show (_ : Int) = _; first | with_reducible rfl | exact wr1 (by omega) | (simp only [zz, reduceCtorEq] <;> first | done | rfl | omega) | omega | rfl) | exact rfl | exact (fun _ => rfl) | exact (fun _ _ => rfl) | exact nof))) (by (repeat' (first | with_reducible rfl | exact trivial | refine ai ?_ ?_ | (show (_ : Int) = _; first | with_reducible rfl | exact wr1 (by omega) | (simp only [zz, reduceCtorEq] <;> first | done | rfl | omega) | omega | rfl) | exact rfl | exact (fun _ => rfl) | exact (fun _ _ => rfl) | exact nof))))) rfl) (ai (ai (Nat.zero_le _) ?_) ?_)
  · rfl
  intro (k : Nat) ⟨hk, hz⟩
  refine bcase_p (p := k < l.length) (by first | (with_reducible refine bif_lt ?_; omega) | (with_reducible refine bif_le ?_; omega) | (with_reducible refine bif_eq ?_; omega) | (with_reducible refine bif_ne ?_; omega) | exact b8_eq rfl | exact b8_ne rfl | exact bif_lt (by omega) | exact bif_le (by omega) | exact bif_eq (by omega) | exact bif_ne (by omega) | exact Iff.rfl | (simp only [zz, reduceCtorEq] <;> first | done | omega | exact Iff.rfl) | (simp; done) | (simp; omega)) (fun h2 => ?_) (fun h2 => ?_)
  · refine ai (ai (Int.natCast_nonneg _) (by show (k : Int) < (l.length : Int); omega)) ?_
    refine ai rfl ?_
    refine ei _ (ai check_ok (ei ((n, l.getD k ⟨0, 0⟩)) (ei [] (ai (ai rfl (ai rfl (ai rfl (ai rfl (ai (fun _ => Or.inl rfl) (ai (by first | exact nof | exact (fun _ => ai rfl rfl)) (by first | exact Or.inl rfl | exact Or.inr rfl))))))) (ai (by (repeat' (first | with_reducible rfl | exact trivial | refine ai ?_ ?_ | (show (_ : Int) = _; first | with_reducible rfl | exact wr1 (by omega) | (simp only [zz, reduceCtorEq] <;> first | done | rfl | omega) | omega | rfl) | exact rfl | exact (fun _ => rfl) | exact (fun _ _ => rfl) | exact nof))) (ai trivial (ai (trivial) ?_)))))))
    have e : firstE n l (k + 1) = chkC n (l.getD k ⟨0, 0⟩) := by rw [firstE, if_pos hz]
    refine bcase_n (p := chkC n (l.getD k ⟨0, 0⟩) = 0) (by first | (with_reducible refine bif_lt ?_; omega) | (with_reducible refine bif_le ?_; omega) | (with_reducible refine bif_eq ?_; omega) | (with_reducible refine bif_ne ?_; omega) | exact b8_eq rfl | exact b8_ne rfl | exact bif_lt (by omega) | exact bif_le (by omega) | exact bif_eq (by omega) | exact bif_ne (by omega) | exact Iff.rfl | (simp only [zz, reduceCtorEq] <;> first | done | omega | exact Iff.rfl) | (simp; done) | (simp; omega)) (fun h4 => ?_) (fun h4 => ?_)
    · skip
      refine ai (ai (fun _ => (by (repeat' (first | exact rfl | exact trivial | exact (fun _ => rfl) | exact (fun _ _ => rfl) | exact nof | refine ai ?_ ?_)))) ?_) trivial
      show ple _ (iP (chkL n l))
      rw [chkL, if_neg h1, firstE_stay (k := k + 1) (by rw [e]; exact h4) l.length (by omega), e]
      any_goals (repeat' (first | with_reducible rfl | exact trivial | refine ai ?_ ?_ | (show (_ : Int) = _; first | with_reducible rfl | exact wr1 (by omega) | (simp only [zz, reduceCtorEq] <;> first | done | rfl | omega) | omega | rfl) | exact rfl | exact (fun _ => rfl) | exact (fun _ _ => rfl) | exact nof))
    · skip
      refine ei (k + 1) (ai (ai rfl rfl) (ai (ai ?_ rfl) (ai (ai (by show k + 1 ≤ l.length; omega) ?_) (by show l.length - (k + 1) < l.length - k; omega))))
      any_goals (repeat' (first | with_reducible rfl | exact trivial | refine ai ?_ ?_ | (show (_ : Int) = _; first | with_reducible rfl | exact wr1 (by omega) | (simp only [zz, reduceCtorEq] <;> first | done | rfl | omega) | omega | rfl) | exact rfl | exact (fun _ => rfl) | exact (fun _ _ => rfl) | exact nof))
  · obtain rfl : k = l.length := by omega
    refine ai (ai (fun _ => (by (repeat' (first | exact rfl | exact trivial | exact (fun _ => rfl) | exact (fun _ _ => rfl) | exact nof | refine ai ?_ ?_)))) ?_) trivial
    show ple _ (iP (chkL n l))
    rw [chkL, if_neg h1, hz]
    any_goals (repeat' (first | with_reducible rfl | exact trivial | refine ai ?_ ?_ | (show (_ : Int) = _; first | with_reducible rfl | exact wr1 (by omega) | (simp only [zz, reduceCtorEq] <;> first | done | rfl | omega) | omega | rfl) | exact rfl | exact (fun _ => rfl) | exact (fun _ _ => rfl) | exact nof))

theorem wrap_in {x : Int} (h0 : 0 ≤ x) (h1 : x < 9223372036854775808) : IntKind.i64.wrap x = x := by
  simp [IntKind.wrap, IntKind.signed, IntKind.bits, IntKind.min]; omega
/-- the literals of the first cubes -/
def litTo (l : List Cu) : Nat → Nat
  | 0 => 0
  | m + 1 => litTo l m + popU (l.getD m ⟨0, 0⟩).care
def litL (l : List Cu) : Nat := litTo l l.length
theorem ok_care {k : Nat} (hk : k ≤ 6) {c : Cu} (h : c.Ok k) : c.care.toNat < 64 := by
  have h1 : c.care &&& ~~~ allU 6 = 0#64 := by
    apply BitVec.eq_of_getLsbD_eq
    intro i hi
    have h2 := congrArg (fun x : U => x.getLsbD i) h.1
    simp only [BitVec.getLsbD_and, BitVec.getLsbD_not, hi, decide_true, Bool.true_and, allU_bit hk hi, BitVec.getLsbD_zero, allU_bit (Nat.le_refl 6) hi] at h2 ⊢
    by_cases h3 : i < 6
    · simp [h3]
    · have : ¬ i < k := by omega
      simp [this] at h2; simp [h2]
  rw [mask_iff (Nat.le_refl 6)] at h1
  rw [BitVec.le_def] at h1
  have e : (1#64 <<< 6).toNat = 64 := by decide
  omega
theorem pop64 : ∀ m, m < 64 → Lib.onesCount m ≤ 6 := by decide +kernel
theorem pop_le6 {x : U} (h : x.toNat < 64) : popU x ≤ 6 := by unfold popU; exact pop64 _ h
theorem lit_le {k : Nat} (hk : k ≤ 6) {l : List Cu} (h : ∀ c ∈ l, c.Ok k) : ∀ m, m ≤ l.length → litTo l m ≤ 6 * m
  | 0, _ => Nat.le_refl _
  | m + 1, hm => by
    have h1 := lit_le hk h m (by omega)
    have h2 := pop_le6 (ok_care hk (h _ (getC_mem (show m < l.length by omega))))
    rw [litTo]; omega
def litS : Spec := fnS (fun x : Nat × List Cu => [csA x.2]) (fun x => x.1 ≤ 6 ∧ x.2.length ≤ 1000000 ∧ ∀ c ∈ x.2, c.Ok x.1) (fun x => iP (litL x.2))
theorem hlit_ok : FnOk Tryz.prog 62 litS := by
  refine fnOk (Tb := tab) mixed tab_ok Tryz.func62 rfl rfl ?_
  rintro ⟨k, l⟩ hpre
  refine ai (ai rfl (ai rfl rfl)) ?_
  obtain ⟨hk, hl, hall⟩ : k ≤ 6 ∧ l.length ≤ 1000000 ∧ ∀ c ∈ l, c.Ok k := hpre
  refine ei (LAnn.inv { X := Nat, up := fun j => [(8, .s (iA j)), (3, .s (iA (litTo l j)))], uo := fun j => [], inv := fun j => j ≤ l.length ∧ (True), meas := fun j => l.length - j, x0 := 0 }) ?_
  refine ai (ai (ai (by (repeat' (first | exact rfl | exact trivial | exact (fun _ => rfl) | exact (fun _ _ => rfl) | exact nof | refine ai ?_ ?_))) (ai (by (repeat' (first | with_reducible rfl | exact trivial | refine ai ?_ ?_ | (show (_ : Int) = _; first | with_reducible rfl | exact wr1 (by omega) | (simp only [zz, reduceCtorEq] <;> first | done | rfl | omega) | omega | rfl) | exact rfl | exact (fun _ => rfl) | exact (fun _ _ => rfl) | exact nof))) (by (repeat' (first | with_reducible rfl | exact trivial | refine ai ?_ ?_ | (show (_ : Int) = _; first | with_reducible rfl | exact wr1 (by omega) | (simp only [zz, reduceCtorEq] <;> first | done | rfl | omega) | omega | rfl) | exact rfl | exact (fun _ => rfl) | exact (fun _ _ => rfl) | exact nof))))) rfl) (ai (ai (Nat.zero_le _) ?_) ?_)
  · trivial
  intro (j : Nat) ⟨hj, _⟩
  refine bcase_p (p := j < l.length) (by first | (with_reducible refine bif_lt ?_; omega) | (with_reducible refine bif_le ?_; omega) | (with_reducible refine bif_eq ?_; omega) | (with_reducible refine bif_ne ?_; omega) | exact b8_eq rfl | exact b8_ne rfl | exact bif_lt (by omega) | exact bif_le (by omega) | exact bif_eq (by omega) | exact bif_ne (by omega) | exact Iff.rfl | (simp only [zz, reduceCtorEq] <;> first | done | omega | exact Iff.rfl) | (simp; done) | (simp; omega)) (fun h2 => ?_) (fun h2 => ?_)
  · refine ai (ai (Int.natCast_nonneg _) (by show (j : Int) < (l.length : Int); omega)) ?_
    refine ai rfl ?_
    have h3 := ok_care hk (hall _ (getC_mem h2))
    have h4 := pop_le6 h3
    have h5 := lit_le hk hall j hj
    refine ei _ (ai ones_ok (ei ((l.getD j ⟨0, 0⟩).care) (ei [] (ai (ai rfl (ai rfl (ai rfl (ai rfl (ai (fun _ => Or.inl rfl) (ai (by first | exact nof | exact (fun _ => ai rfl rfl)) (by first | exact Or.inl rfl | exact Or.inr rfl))))))) (ai (by (repeat' (first | with_reducible rfl | exact trivial | refine ai ?_ ?_ | (show (_ : Int) = _; first | with_reducible rfl | exact wr1 (by omega) | (simp only [zz, reduceCtorEq] <;> first | done | rfl | omega) | omega | rfl) | exact rfl | exact (fun _ => rfl) | exact (fun _ _ => rfl) | exact nof))) (ai trivial (ai (h3) ?_)))))))
    refine ei (j + 1) (ai (ai rfl rfl) (ai (ai ?_ rfl) (ai (ai (by show j + 1 ≤ l.length; omega) ?_) (by show l.length - (j + 1) < l.length - j; omega))))
    any_goals (repeat' (first | with_reducible rfl | exact trivial | refine ai ?_ ?_ | (show (_ : Int) = _; first | with_reducible rfl | exact wr1 (by omega) | (simp only [zz, reduceCtorEq] <;> first | done | rfl | omega) | omega | rfl) | exact rfl | exact (fun _ => rfl) | exact (fun _ _ => rfl) | exact nof))
    show IntKind.i64.wrap ((litTo l j : Int) + (popU (l.getD j ⟨0, 0⟩).care : Int)) = ((litTo l j + popU (l.getD j ⟨0, 0⟩).care : Nat) : Int)
    generalize popU (l.getD j ⟨0, 0⟩).care = p at h4
    exact wrap_in (by omega) (by omega)
  · obtain rfl : j = l.length := by omega
    refine ai (ai (fun _ => (by (repeat' (first | exact rfl | exact trivial | exact (fun _ => rfl) | exact (fun _ _ => rfl) | exact nof | refine ai ?_ ?_)))) ?_) trivial
    any_goals (repeat' (first | with_reducible rfl | exact trivial | refine ai ?_ ?_ | (show (_ : Int) = _; first | with_reducible rfl | exact wr1 (by omega) | (simp only [zz, reduceCtorEq] <;> first | done | rfl | omega) | omega | rfl) | exact rfl | exact (fun _ => rfl) | exact (fun _ _ => rfl) | exact nof))
def litN (n : Int) (l : List Cu) : Int := if chkN n l = 0 then (litL l : Int) else 0
def LitS : Spec := fnS (fun x : Int × List Cu => [iA x.1, csA x.2]) (fun x => x.2.length ≤ 1000000) (fun x => .tup [iP (litN x.1 x.2), iP (chkN x.1 x.2)])
theorem hLit_ok : FnOk Tryz.prog 17 LitS := by
  refine fnOk (Tb := tab) mixed tab_ok Tryz.func17 rfl rfl ?_
  rintro ⟨n, l⟩ hpre
  refine ai (ai rfl (ai rfl rfl)) ?_
  have hl : l.length ≤ 1000000 := hpre
  refine bcase_p (p := n < 0) (by first | (with_reducible refine bif_lt ?_; omega) | (with_reducible refine bif_le ?_; omega) | (with_reducible refine bif_eq ?_; omega) | (with_reducible refine bif_ne ?_; omega) | exact b8_eq rfl | exact b8_ne rfl | exact bif_lt (by omega) | exact bif_le (by omega) | exact bif_eq (by omega) | exact bif_ne (by omega) | exact Iff.rfl | (simp only [zz, reduceCtorEq] <;> first | done | omega | exact Iff.rfl) | (simp; done) | (simp; omega)) (fun h1 => ?_) (fun h1 => ?_)
  · have e : chkN n l = 2 := by rw [chkN, if_pos h1]
    refine ai (ai (fun _ => (by (repeat' (first | exact rfl | exact trivial | exact (fun _ => rfl) | exact (fun _ _ => rfl) | exact nof | refine ai ?_ ?_)))) ?_) trivial
    show ple _ (.tup [iP (litN n l), iP (chkN n l)])
    rw [litN, e, if_neg (show ¬ ((2 : Int) = 0) by decide)]
    any_goals (repeat' (first | with_reducible rfl | exact trivial | refine ai ?_ ?_ | (show (_ : Int) = _; first | with_reducible rfl | exact wr1 (by omega) | (simp only [zz, reduceCtorEq] <;> first | done | rfl | omega) | omega | rfl) | exact rfl | exact (fun _ => rfl) | exact (fun _ _ => rfl) | exact nof))
  refine bcase_p (p := 6 < n) (by first | (with_reducible refine bif_lt ?_; omega) | (with_reducible refine bif_le ?_; omega) | (with_reducible refine bif_eq ?_; omega) | (with_reducible refine bif_ne ?_; omega) | exact b8_eq rfl | exact b8_ne rfl | exact bif_lt (by omega) | exact bif_le (by omega) | exact bif_eq (by omega) | exact bif_ne (by omega) | exact Iff.rfl | (simp only [zz, reduceCtorEq] <;> first | done | omega | exact Iff.rfl) | (simp; done) | (simp; omega)) (fun h2 => ?_) (fun h2 => ?_)
  · have e : chkN n l = 2 := by rw [chkN, if_neg h1, if_pos h2]
    refine ai (ai (fun _ => (by (repeat' (first | exact rfl | exact trivial | exact (fun _ => rfl) | exact (fun _ _ => rfl) | exact nof | refine ai ?_ ?_)))) ?_) trivial
    show ple _ (.tup [iP (litN n l), iP (chkN n l)])
    rw [litN, e, if_neg (show ¬ ((2 : Int) = 0) by decide)]
    any_goals (repeat' (first | with_reducible rfl | exact trivial | refine ai ?_ ?_ | (show (_ : Int) = _; first | with_reducible rfl | exact wr1 (by omega) | (simp only [zz, reduceCtorEq] <;> first | done | rfl | omega) | omega | rfl) | exact rfl | exact (fun _ => rfl) | exact (fun _ _ => rfl) | exact nof))
  have e : chkN n l = chkL n l := by rw [chkN, if_neg h1, if_neg h2]
  refine ei _ (ai hchkL_ok (ei ((n, l)) (ei [] (ai (ai rfl (ai rfl (ai rfl (ai rfl (ai (fun _ => Or.inl rfl) (ai (by first | exact nof | exact (fun _ => ai rfl rfl)) (by first | exact Or.inl rfl | exact Or.inr rfl))))))) (ai (by (repeat' (first | with_reducible rfl | exact trivial | refine ai ?_ ?_ | (show (_ : Int) = _; first | with_reducible rfl | exact wr1 (by omega) | (simp only [zz, reduceCtorEq] <;> first | done | rfl | omega) | omega | rfl) | exact rfl | exact (fun _ => rfl) | exact (fun _ _ => rfl) | exact nof))) (ai trivial (ai (hpre) ?_)))))))
  refine bcase_n (p := chkL n l = 0) (by first | (with_reducible refine bif_lt ?_; omega) | (with_reducible refine bif_le ?_; omega) | (with_reducible refine bif_eq ?_; omega) | (with_reducible refine bif_ne ?_; omega) | exact b8_eq rfl | exact b8_ne rfl | exact bif_lt (by omega) | exact bif_le (by omega) | exact bif_eq (by omega) | exact bif_ne (by omega) | exact Iff.rfl | (simp only [zz, reduceCtorEq] <;> first | done | omega | exact Iff.rfl) | (simp; done) | (simp; omega)) (fun h3 => ?_) (fun h3 => ?_)
  · skip
    refine ai (ai (fun _ => (by (repeat' (first | exact rfl | exact trivial | exact (fun _ => rfl) | exact (fun _ _ => rfl) | exact nof | refine ai ?_ ?_)))) ?_) trivial
    show ple _ (.tup [iP (litN n l), iP (chkN n l)])
    rw [litN, e, if_neg h3]
    any_goals (repeat' (first | with_reducible rfl | exact trivial | refine ai ?_ ?_ | (show (_ : Int) = _; first | with_reducible rfl | exact wr1 (by omega) | (simp only [zz, reduceCtorEq] <;> first | done | rfl | omega) | omega | rfl) | exact rfl | exact (fun _ => rfl) | exact (fun _ _ => rfl) | exact nof))
  obtain ⟨k, hk, rfl, _, hall⟩ := chkN_zero (e.trans h3)
  refine ei _ (ai hlit_ok (ei ((k, l)) (ei [] (ai (ai rfl (ai rfl (ai rfl (ai rfl (ai (fun _ => Or.inl rfl) (ai (by first | exact nof | exact (fun _ => ai rfl rfl)) (by first | exact Or.inl rfl | exact Or.inr rfl))))))) (ai (by (repeat' (first | with_reducible rfl | exact trivial | refine ai ?_ ?_ | (show (_ : Int) = _; first | with_reducible rfl | exact wr1 (by omega) | (simp only [zz, reduceCtorEq] <;> first | done | rfl | omega) | omega | rfl) | exact rfl | exact (fun _ => rfl) | exact (fun _ _ => rfl) | exact nof))) (ai trivial (ai (⟨hk, hl, hall⟩) ?_)))))))
  refine ai (ai (fun _ => (by (repeat' (first | exact rfl | exact trivial | exact (fun _ => rfl) | exact (fun _ _ => rfl) | exact nof | refine ai ?_ ?_)))) ?_) trivial
  show ple _ (.tup [iP (litN k l), iP (chkN k l)])
  rw [litN, e, if_pos h3, h3]
  any_goals (repeat' (first | with_reducible rfl | exact trivial | refine ai ?_ ?_ | (show (_ : Int) = _; first | with_reducible rfl | exact wr1 (by omega) | (simp only [zz, reduceCtorEq] <;> first | done | rfl | omega) | omega | rfl) | exact rfl | exact (fun _ => rfl) | exact (fun _ _ => rfl) | exact nof))

/-- the cubes that are chosen by the bits of a number -/
def chTo (l : List Cu) (m : Nat) (k : Nat) : List Cu := ((List.range k).filter fun i => m.testBit i).map fun i => l.getD i ⟨0, 0⟩
def chL (l : List Cu) (m : Nat) : List Cu := chTo l m l.length
theorem ch_succ (l : List Cu) (m k : Nat) : chTo l m (k + 1) = chTo l m k ++ (if m.testBit k then [l.getD k ⟨0, 0⟩] else []) := by
  unfold chTo
  rw [List.range_succ, List.filter_append, List.map_append]
  cases h : m.testBit k <;> simp [h]
theorem ch_len_le (l : List Cu) (m k : Nat) : (chTo l m k).length ≤ k := by
  unfold chTo
  rw [List.length_map]
  have := List.length_filter_le (fun i => m.testBit i) (List.range k)
  simpa using this
theorem ch_mem {l : List Cu} {m : Nat} {c : Cu} (h : c ∈ chL l m) : c ∈ l := by
  unfold chL chTo at h
  obtain ⟨i, hi, rfl⟩ := List.mem_map.1 h
  exact getC_mem (List.mem_range.1 (List.mem_filter.1 hi).1)
def chS : Spec := fnS (fun x : List Cu × U => [csA x.1, uA x.2]) (fun x => x.1.length ≤ 1000) (fun x => csP (chL x.1 x.2.toNat))
theorem hch_ok : FnOk Tryz.prog 45 chS := by
  refine fnOk (Tb := tab) mixed tab_ok Tryz.func45 rfl rfl ?_
  rintro ⟨l, x⟩ hpre
  refine ai (ai rfl (ai rfl rfl)) ?_
  have hl : l.length ≤ 1000 := hpre
  refine ei (LAnn.inv { X := Nat, up := fun k => [(10, .s (iA k)), (5, rowC (chTo l x.toNat k))], uo := fun k => [], inv := fun k => k ≤ l.length ∧ (True), meas := fun k => l.length - k, x0 := 0 }) ?_
  refine ai (ai (ai (by (repeat' (first | exact rfl | exact trivial | exact (fun _ => rfl) | exact (fun _ _ => rfl) | exact nof | refine ai ?_ ?_))) (ai (by (repeat' (first | with_reducible rfl | exact trivial | refine ai ?_ ?_ | (show (_ : Int) = _; first | with_reducible rfl | exact wr1 (by omega) | (simp only [zz, reduceCtorEq] <;> first | done | rfl | omega) | omega | rfl) | exact rfl | exact (fun _ => rfl) | exact (fun _ _ => rfl) | exact nof))) (by (repeat' (first | with_reducible rfl | exact trivial | refine ai ?_ ?_ | (show (_ : Int) = _; first | with_reducible rfl | exact wr1 (by omega) | (simp only [zz, reduceCtorEq] <;> first | done | rfl | omega) | omega | rfl) | exact rfl | exact (fun _ => rfl) | exact (fun _ _ => rfl) | exact nof))))) rfl) (ai (ai (Nat.zero_le _) ?_) ?_)
  · trivial
  intro (k : Nat) ⟨hk, _⟩
  refine bcase_p (p := k < l.length) (by first | (with_reducible refine bif_lt ?_; omega) | (with_reducible refine bif_le ?_; omega) | (with_reducible refine bif_eq ?_; omega) | (with_reducible refine bif_ne ?_; omega) | exact b8_eq rfl | exact b8_ne rfl | exact bif_lt (by omega) | exact bif_le (by omega) | exact bif_eq (by omega) | exact bif_ne (by omega) | exact Iff.rfl | (simp only [zz, reduceCtorEq] <;> first | done | omega | exact Iff.rfl) | (simp; done) | (simp; omega)) (fun h2 => ?_) (fun h2 => ?_)
  · refine ai (ai (Int.natCast_nonneg _) (by show (k : Int) < (l.length : Int); omega)) ?_
    refine ai rfl ?_
    refine ai (Int.natCast_nonneg _) ?_
    have hs := ch_succ l x.toNat k
    have hlen := ch_len_le l x.toNat k
    refine bcase_p (p := x.toNat.testBit k = true) (by show (bits .and .u64 ((x.toNat : Int).fdiv (2 ^ min (k : Int).toNat IntKind.u64.bits)) 1 == 1) = true ↔ _; rw [Int.toNat_natCast, zL, zE, zO, zX]; exact Iff.rfl) (fun h3 => ?_) (fun h3 => ?_)
    · rw [h3] at hs
      refine ai (ai (by show (chTo l x.toNat k).length + 1 ≤ maxLen; unfold maxLen; omega) (by show ((chTo l x.toNat k).length + 1) * 16 ≤ 140737488355328; omega)) ?_
      refine ai (fun k hk => by
        have hk : k < 1 := hk
        obtain rfl : k = 0 := by omega
        rfl) ?_
      refine ei (k + 1) (ai (ai rfl rfl) (ai (ai ?_ rfl) (ai (ai (by show k + 1 ≤ l.length; omega) ?_) (by show l.length - (k + 1) < l.length - k; omega))))
      any_goals (repeat' (first | with_reducible rfl | exact trivial | refine ai ?_ ?_ | (show (_ : Int) = _; first | with_reducible rfl | exact wr1 (by omega) | (simp only [zz, reduceCtorEq] <;> first | done | rfl | omega) | omega | rfl) | exact rfl | exact (fun _ => rfl) | exact (fun _ _ => rfl) | exact nof))
      · exact app_len hs
      · exact join_app Cu.cells ⟨0, 0⟩ hs _ rfl
    · have h3 : x.toNat.testBit k = false := by simpa using h3
      rw [h3] at hs
      have hs : chTo l x.toNat k = chTo l x.toNat (k + 1) := by rw [hs]; simp
      refine ei (k + 1) (ai (ai rfl rfl) (ai (ai ?_ rfl) (ai (ai (by show k + 1 ≤ l.length; omega) ?_) (by show l.length - (k + 1) < l.length - k; omega))))
      any_goals (repeat' (first | with_reducible rfl | exact trivial | refine ai ?_ ?_ | (show (_ : Int) = _; first | with_reducible rfl | exact wr1 (by omega) | (simp only [zz, reduceCtorEq] <;> first | done | rfl | omega) | omega | rfl) | exact rfl | exact (fun _ => rfl) | exact (fun _ _ => rfl) | exact nof))
      · exact congrArg List.length hs
      · exact row_same Cu.cells ⟨0, 0⟩ hs
  · obtain rfl : k = l.length := by omega
    refine ai (ai (fun _ => (by (repeat' (first | exact rfl | exact trivial | exact (fun _ => rfl) | exact (fun _ _ => rfl) | exact nof | refine ai ?_ ?_)))) ?_) trivial
    any_goals (repeat' (first | with_reducible rfl | exact trivial | refine ai ?_ ?_ | (show (_ : Int) = _; first | with_reducible rfl | exact wr1 (by omega) | (simp only [zz, reduceCtorEq] <;> first | done | rfl | omega) | omega | rfl) | exact rfl | exact (fun _ => rfl) | exact (fun _ _ => rfl) | exact nof))

/-- how many are chosen -/
theorem ch_len : ∀ (l : List Cu) (m : Nat), m < 2 ^ l.length → l.length ≤ 16 → (chL l m).length = pcN m := by
  have key : ∀ (k m : Nat), m < 2 ^ k → k ≤ 16 → ((List.range k).filter fun i => m.testBit i).length = pcN m := by
    intro k
    induction k with
    | zero =>
      intro m hm _
      obtain rfl : m = 0 := by simpa using hm
      rfl
    | succ k ih =>
      intro m hm hk
      have h16 : 2 ^ (k + 1) ≤ 2 ^ 16 := Nat.pow_le_pow_right (by decide) hk
      have h1 := ih (m / 2) (by rw [Nat.pow_succ] at hm; omega) (by omega)
      rw [pc_half (x := m) (by omega), ← h1, List.range_succ_eq_map, List.filter_cons, List.filter_map, ]
      have e : ((fun i => m.testBit i) ∘ Nat.succ) = fun i => (m / 2).testBit i := by
        funext i
        show m.testBit (i + 1) = _
        rw [Nat.testBit_add_one]
      rw [e]
      have e2 : m.testBit 0 = decide (m % 2 = 1) := Nat.testBit_zero m
      by_cases h2 : m % 2 = 1
      · simp [e2, h2]
      · have : m % 2 = 0 := by omega
        simp [e2, this]
  intro l m hm hl
  unfold chL chTo
  rw [List.length_map]
  exact key _ _ hm hl

end Go.Sx.Pn
