/- Contracts of chapter 8 for HazardForms: what the reference's Form uses. -/
import Derived.Test.YtmjfhoidokajpaaGreatPK
set_option maxHeartbeats 1000000
set_option maxRecDepth 4000
set_option linter.unusedSimpArgs false
set_option linter.unusedVariables false
set_option linter.unusedSectionVars false
namespace Go.Sx.Pn
open Go Go.Proofs

theorem andbit {k i : Nat} (hk : k < 9223372036854775808) (hi : i ≤ 63) : bits .and .i64 ((k : Int).fdiv (2 ^ min (i : Int).toNat IntKind.i64.bits)) 1 = if k.testBit i then 1 else 0 := by
  have e1 : (k : Int).fdiv (2 ^ min (i : Int).toNat IntKind.i64.bits) = ((k / 2 ^ i : Nat) : Int) := by
    have : min (i : Int).toNat IntKind.i64.bits = i := by show min i 64 = i; omega
    rw [this, show ((2 : Int) ^ i) = ((2 ^ i : Nat) : Int) by rw [Int.natCast_pow]; rfl]
    exact (Int.ofNat_fdiv k (2 ^ i)).symm
  have e2 := i_and (a := k / 2 ^ i) (b := 1) (Nat.lt_of_le_of_lt (Nat.div_le_self _ _) hk)
  rw [e1]
  show bits .and .i64 ((k / 2 ^ i : Nat) : Int) ((1 : Nat) : Int) = _
  rw [e2, BitVec.toNat_and, BitVec.toNat_ofNat, BitVec.toNat_ofNat, Nat.testBit_eq_decide_div_mod_eq]
  rw [Nat.mod_eq_of_lt (show k / 2 ^ i < 2 ^ 64 from Nat.lt_of_le_of_lt (Nat.div_le_self _ _) (by omega)), show 1 % 2 ^ 64 = 1 from rfl, Nat.and_one_is_mod]
  by_cases h : k / 2 ^ i % 2 = 1
  · rw [h]; simp
  · have : k / 2 ^ i % 2 = 0 := by omega
    rw [this]; simp

def rchS : Spec := fnS (fun x : List Cu × Nat => [csA x.1, iA x.2]) (fun x => x.1.length ≤ 60 ∧ x.2 < 1048576) (fun x => csP (chL x.1 x.2))
theorem rch_ok : FnOk Tryz.prog 77 rchS := by
  refine fnOk (Tb := tab) mixed tab_ok Tryz.func77 rfl rfl ?_
  rintro ⟨l, x⟩ hpre
  refine ai (ai rfl (ai rfl rfl)) ?_
  obtain ⟨hl, hx⟩ : l.length ≤ 60 ∧ x < 1048576 := hpre
  refine ei (LAnn.inv { X := Nat, up := fun k => [(6, .s (iA k)), (5, rowC (chTo l x k))], uo := fun k => [], inv := fun k => k ≤ l.length ∧ (True), meas := fun k => l.length - k, x0 := 0 }) ?_
  refine ai (ai (ai (by (repeat' (first | exact rfl | exact trivial | exact (fun _ => rfl) | exact (fun _ _ => rfl) | exact nof | refine ai ?_ ?_))) (ai (by (repeat' (first | with_reducible rfl | exact trivial | refine ai ?_ ?_ | (show (_ : Int) = _; first | with_reducible rfl | exact wr1 (by omega) | (simp only [zz, reduceCtorEq] <;> first | done | rfl | omega) | omega | rfl) | exact rfl | exact (fun _ => rfl) | exact (fun _ _ => rfl) | exact nof))) (by (repeat' (first | with_reducible rfl | exact trivial | refine ai ?_ ?_ | (show (_ : Int) = _; first | with_reducible rfl | exact wr1 (by omega) | (simp only [zz, reduceCtorEq] <;> first | done | rfl | omega) | omega | rfl) | exact rfl | exact (fun _ => rfl) | exact (fun _ _ => rfl) | exact nof))))) rfl) (ai (ai (Nat.zero_le _) ?_) ?_)
  · trivial
  intro (k : Nat) ⟨hk, _⟩
  refine bcase_p (p := k < l.length) (by first | (with_reducible refine bif_lt ?_; omega) | (with_reducible refine bif_le ?_; omega) | (with_reducible refine bif_eq ?_; omega) | (with_reducible refine bif_ne ?_; omega) | exact b8_eq rfl | exact b8_ne rfl | exact bif_lt (by omega) | exact bif_le (by omega) | exact bif_eq (by omega) | exact bif_ne (by omega) | exact Iff.rfl | (simp only [zz, reduceCtorEq] <;> first | done | omega | exact Iff.rfl) | (simp; done) | (simp; omega)) (fun h2 => ?_) (fun h2 => ?_)
  · refine ai (Int.natCast_nonneg _) ?_
    have hs := ch_succ l x k
    have hlen := ch_len_le l x k
    refine bcase_p (p := x.testBit k = true) (by show (bits .and .i64 ((x : Int).fdiv (2 ^ min (k : Int).toNat IntKind.i64.bits)) 1 == 1) = true ↔ _; rw [hasb (by omega) (by omega)]) (fun h3 => ?_) (fun h3 => ?_)
    · refine ai (ai (Int.natCast_nonneg _) (by show (k : Int) < (l.length : Int); omega)) ?_
      refine ai rfl ?_
      rw [h3] at hs
      refine ai (ai (by show (chTo l x k).length + 1 ≤ maxLen; unfold maxLen; omega) (by show ((chTo l x k).length + 1) * 16 ≤ 140737488355328; omega)) ?_
      refine ai (fun k hk => by
        have hk : k < 1 := hk
        obtain rfl : k = 0 := by omega
        rfl) ?_
      refine ei (k + 1) (ai (ai rfl rfl) (ai (ai ?_ rfl) (ai (ai (by show k + 1 ≤ l.length; omega) ?_) (by show l.length - (k + 1) < l.length - k; omega))))
      any_goals (repeat' (first | with_reducible rfl | exact trivial | refine ai ?_ ?_ | (show (_ : Int) = _; first | with_reducible rfl | exact wr1 (by omega) | (simp only [zz, reduceCtorEq] <;> first | done | rfl | omega) | omega | rfl) | exact rfl | exact (fun _ => rfl) | exact (fun _ _ => rfl) | exact nof))
      · exact app_len hs
      · exact join_app Cu.cells ⟨0, 0⟩ hs _ rfl
    · have h3 : x.testBit k = false := by simpa using h3
      rw [h3] at hs
      have hs : chTo l x k = chTo l x (k + 1) := by rw [hs]; simp
      refine ei (k + 1) (ai (ai rfl rfl) (ai (ai ?_ rfl) (ai (ai (by show k + 1 ≤ l.length; omega) ?_) (by show l.length - (k + 1) < l.length - k; omega))))
      any_goals (repeat' (first | with_reducible rfl | exact trivial | refine ai ?_ ?_ | (show (_ : Int) = _; first | with_reducible rfl | exact wr1 (by omega) | (simp only [zz, reduceCtorEq] <;> first | done | rfl | omega) | omega | rfl) | exact rfl | exact (fun _ => rfl) | exact (fun _ _ => rfl) | exact nof))
      · exact congrArg List.length hs
      · exact row_same Cu.cells ⟨0, 0⟩ hs
  · obtain rfl : k = l.length := by omega
    refine ai (ai (fun _ => (by (repeat' (first | exact rfl | exact trivial | exact (fun _ => rfl) | exact (fun _ _ => rfl) | exact nof | refine ai ?_ ?_)))) ?_) trivial
    any_goals (repeat' (first | with_reducible rfl | exact trivial | refine ai ?_ ?_ | (show (_ : Int) = _; first | with_reducible rfl | exact wr1 (by omega) | (simp only [zz, reduceCtorEq] <;> first | done | rfl | omega) | omega | rfl) | exact rfl | exact (fun _ => rfl) | exact (fun _ _ => rfl) | exact nof))

/-- bits of a word, counted -/
def cntU (x : U) (i : Nat) : Nat := ((List.range i).filter fun j => x.getLsbD j).length
theorem cnt_succ (x : U) (i : Nat) : cntU x (i + 1) = cntU x i + if x.getLsbD i then 1 else 0 := by
  unfold cntU
  rw [List.range_succ, List.filter_append, List.length_append]
  cases h : x.getLsbD i <;> simp [h]
theorem cnt6 : ∀ m, m < 64 → ((List.range 6).filter fun j => m.testBit j).length = Lib.onesCount m := by decide +kernel
theorem cnt_pop {x : U} (h : x.toNat < 64) : cntU x 6 = popU x := by
  unfold popU cntU
  exact cnt6 _ h
theorem cnt_le (x : U) (i : Nat) : cntU x i ≤ i := by
  unfold cntU
  have := List.length_filter_le (fun j => x.getLsbD j) (List.range i)
  simpa using this
theorem rsum_ok : FnOk Tryz.prog 37 litS := by
  refine fnOk (Tb := tab) mixed tab_ok Tryz.func37 rfl rfl ?_
  rintro ⟨n, l⟩ hpre
  refine ai (ai rfl (ai rfl rfl)) ?_
  obtain ⟨hn, hl, hall⟩ : n ≤ 6 ∧ l.length ≤ 1000000 ∧ ∀ c ∈ l, c.Ok n := hpre
  refine ei (LAnn.inv { X := Nat, up := fun k => [(4, .s (iA k)), (3, .s (iA (litTo l k)))], uo := fun k => [], inv := fun k => k ≤ l.length ∧ (True), meas := fun k => l.length - k, x0 := 0 }) ?_
  refine ai (ai (ai (by (repeat' (first | exact rfl | exact trivial | exact (fun _ => rfl) | exact (fun _ _ => rfl) | exact nof | refine ai ?_ ?_))) (ai (by (repeat' (first | with_reducible rfl | exact trivial | refine ai ?_ ?_ | (show (_ : Int) = _; first | with_reducible rfl | exact wr1 (by omega) | (simp only [zz, reduceCtorEq] <;> first | done | rfl | omega) | omega | rfl) | exact rfl | exact (fun _ => rfl) | exact (fun _ _ => rfl) | exact nof))) (by (repeat' (first | with_reducible rfl | exact trivial | refine ai ?_ ?_ | (show (_ : Int) = _; first | with_reducible rfl | exact wr1 (by omega) | (simp only [zz, reduceCtorEq] <;> first | done | rfl | omega) | omega | rfl) | exact rfl | exact (fun _ => rfl) | exact (fun _ _ => rfl) | exact nof))))) rfl) (ai (ai (Nat.zero_le _) ?_) ?_)
  · trivial
  intro (k : Nat) ⟨hk, _⟩
  refine bcase_p (p := k < l.length) (by first | (with_reducible refine bif_lt ?_; omega) | (with_reducible refine bif_le ?_; omega) | (with_reducible refine bif_eq ?_; omega) | (with_reducible refine bif_ne ?_; omega) | exact b8_eq rfl | exact b8_ne rfl | exact bif_lt (by omega) | exact bif_le (by omega) | exact bif_eq (by omega) | exact bif_ne (by omega) | exact Iff.rfl | (simp only [zz, reduceCtorEq] <;> first | done | omega | exact Iff.rfl) | (simp; done) | (simp; omega)) (fun h1 => ?_) (fun h1 => ?_)
  · have h3 := ok_care hn (hall _ (getC_mem h1))
    have h5 := lit_le hn hall k hk
    refine ei (LAnn.inv { X := Nat, up := fun i => [(5, .s (iA i)), (3, .s (iA (litTo l k + cntU (l.getD k ⟨0, 0⟩).care i : Nat)))], uo := fun i => [], inv := fun i => i ≤ 6 ∧ (True), meas := fun i => 6 - i, x0 := 0 }) ?_
    refine ai (ai (ai (by (repeat' (first | exact rfl | exact trivial | exact (fun _ => rfl) | exact (fun _ _ => rfl) | exact nof | refine ai ?_ ?_))) (ai ?_ ?_)) rfl) (ai (ai (Nat.zero_le _) ?_) ?_)
    · skip
      (repeat' (first | exact rfl | exact trivial | exact (fun _ => rfl) | exact (fun _ _ => rfl) | exact nof | refine ai ?_ ?_))
    · skip
      (repeat' (first | exact rfl | exact trivial | exact (fun _ => rfl) | exact (fun _ _ => rfl) | exact nof | refine ai ?_ ?_))
    · trivial
    intro (i : Nat) ⟨hi, _⟩
    have h6 := cnt_le (l.getD k ⟨0, 0⟩).care i
    have h7 := cnt_succ (l.getD k ⟨0, 0⟩).care i
    refine bcase_p (p := i < 6) (by first | (with_reducible refine bif_lt ?_; omega) | (with_reducible refine bif_le ?_; omega) | (with_reducible refine bif_eq ?_; omega) | (with_reducible refine bif_ne ?_; omega) | exact b8_eq rfl | exact b8_ne rfl | exact bif_lt (by omega) | exact bif_le (by omega) | exact bif_eq (by omega) | exact bif_ne (by omega) | exact Iff.rfl | (simp only [zz, reduceCtorEq] <;> first | done | omega | exact Iff.rfl) | (simp; done) | (simp; omega)) (fun h2 => ?_) (fun h2 => ?_)
    · refine ai (ai (Int.natCast_nonneg _) (by show (k : Int) < (l.length : Int); omega)) ?_
      refine ai rfl ?_
      repeat (refine ai (by first | exact Int.natCast_nonneg _ | omega | exact ai (Int.natCast_nonneg _) (by omega)) ?_)
      refine bcase_p (p := (l.getD k ⟨0, 0⟩).care.getLsbD i = true) (by show (bits .and .u64 (((l.getD k ⟨0, 0⟩).care.toNat : Int).fdiv (2 ^ min (i : Int).toNat IntKind.u64.bits)) 1 == 1) = true ↔ _; rw [Int.toNat_natCast, zL, zE, zO, zX]) (fun h4 => ?_) (fun h4 => ?_)
      · rw [h4, if_pos rfl] at h7
        refine ei (i + 1) (ai (ai rfl rfl) (ai (ai ?_ rfl) (ai (ai (by show i + 1 ≤ 6; omega) ?_) (by show 6 - (i + 1) < 6 - i; omega))))
        any_goals (repeat' (first | with_reducible rfl | exact trivial | refine ai ?_ ?_ | (show (_ : Int) = _; first | with_reducible rfl | exact wr1 (by omega) | (simp only [zz, reduceCtorEq] <;> first | done | rfl | omega) | omega | rfl) | exact rfl | exact (fun _ => rfl) | exact (fun _ _ => rfl) | exact nof))
        show IntKind.i64.wrap (((litTo l k + cntU (l.getD k ⟨0, 0⟩).care i : Nat) : Int) + 1) = ((litTo l k + cntU (l.getD k ⟨0, 0⟩).care (i + 1) : Nat) : Int)
        rw [h7, wrap_in (by omega) (by omega)]; omega
      · have h4 : (l.getD k ⟨0, 0⟩).care.getLsbD i = false := by simpa using h4
        rw [h4] at h7
        refine ei (i + 1) (ai (ai rfl rfl) (ai (ai ?_ rfl) (ai (ai (by show i + 1 ≤ 6; omega) ?_) (by show 6 - (i + 1) < 6 - i; omega))))
        any_goals (repeat' (first | with_reducible rfl | exact trivial | refine ai ?_ ?_ | (show (_ : Int) = _; first | with_reducible rfl | exact wr1 (by omega) | (simp only [zz, reduceCtorEq] <;> first | done | rfl | omega) | omega | rfl) | exact rfl | exact (fun _ => rfl) | exact (fun _ _ => rfl) | exact nof))
        show ((litTo l k + cntU (l.getD k ⟨0, 0⟩).care i : Nat) : Int) = ((litTo l k + cntU (l.getD k ⟨0, 0⟩).care (i + 1) : Nat) : Int)
        rw [h7]; rfl
    · obtain rfl : i = 6 := by omega
      refine ei (k + 1) (ai (ai rfl rfl) (ai (ai ?_ rfl) (ai (ai (by show k + 1 ≤ l.length; omega) ?_) (by show l.length - (k + 1) < l.length - k; omega))))
      any_goals (repeat' (first | with_reducible rfl | exact trivial | refine ai ?_ ?_ | (show (_ : Int) = _; first | with_reducible rfl | exact wr1 (by omega) | (simp only [zz, reduceCtorEq] <;> first | done | rfl | omega) | omega | rfl) | exact rfl | exact (fun _ => rfl) | exact (fun _ _ => rfl) | exact nof))
      show ((litTo l k + cntU (l.getD k ⟨0, 0⟩).care 6 : Nat) : Int) = ((litTo l (k + 1) : Nat) : Int)
      rw [cnt_pop h3]; rfl
  · obtain rfl : k = l.length := by omega
    refine ai (ai (fun _ => (by (repeat' (first | exact rfl | exact trivial | exact (fun _ => rfl) | exact (fun _ _ => rfl) | exact nof | refine ai ?_ ?_)))) ?_) trivial
    any_goals (repeat' (first | with_reducible rfl | exact trivial | refine ai ?_ ?_ | (show (_ : Int) = _; first | with_reducible rfl | exact wr1 (by omega) | (simp only [zz, reduceCtorEq] <;> first | done | rfl | omega) | omega | rfl) | exact rfl | exact (fun _ => rfl) | exact (fun _ _ => rfl) | exact nof))

/-- is the lowest bit in which two numbers differ one of the first number -/
def firstB (a b : Nat) : Bool := match (List.range 30).find? fun i => a.testBit i != b.testBit i with
  | some i => a.testBit i
  | none => false
theorem find_at {p : Nat → Bool} {m i : Nat} (hi : i < m) (h : p i = true) (hno : ∀ j, j < i → p j = false) : (List.range m).find? p = some i := by
  rw [List.find?_range_eq_some]
  exact ⟨h, List.mem_range.2 hi, fun j hj => by rw [hno j hj]; rfl⟩
def firstS : Spec := fnS (fun x : Nat × Nat => [iA x.1, iA x.2]) (fun x => x.1 < 1048576 ∧ x.2 < 1048576) (fun x => bP (firstB x.1 x.2))
end Go.Sx.Pn
