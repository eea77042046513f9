/- Words and points: what the program says of words is what the reference says of points. -/
import Derived.Test.YtmjfhoidokajpaaGreatPC
set_option maxHeartbeats 1000000
set_option maxRecDepth 4000
set_option linter.unusedSimpArgs false
set_option linter.unusedVariables false
set_option linter.unusedSectionVars false
namespace Go.Sx.Pn
open Go Go.Proofs

theorem ptsC_bit (c : Cu) : ∀ (m : Nat), m ≤ 64 → ∀ i, (ptsC c m).getLsbD i = (decide (i < m) && hasC c (i : Int))
  | 0, _, i => by simp [ptsC]
  | k + 1, hm, i => by
    have ih := ptsC_bit c k (by omega) i
    rw [ptsC]
    by_cases h : hasC c (k : Int) = true
    · rw [if_pos h, BitVec.getLsbD_or, ih, shl1_bit (by omega)]
      by_cases e : i = k
      · subst e; simp [h]
      · by_cases h2 : i < k
        · simp [e, h2, show i < k + 1 by omega]
        · simp [e, h2, show ¬ i < k + 1 by omega]
    · rw [if_neg h, ih]
      by_cases e : i = k
      · subst e; simp [h]
      · by_cases h2 : i < k
        · simp [h2, show i < k + 1 by omega]
        · simp [h2, show ¬ i < k + 1 by omega]

theorem implies_good {n : Nat} (hn : n ≤ 6) (x : Tk) (c : Cu) : impliesU n x c = goodC n x c := by
  have h64 := pow_le64 hn
  rw [Bool.eq_iff_iff, impliesU, beq_iff_eq, eq0_iff, goodC, List.all_eq_true]
  constructor
  · intro h k hk
    have hk := List.mem_range.1 hk
    have h1 := h k (by omega)
    rw [BitVec.getLsbD_and, ptsC_bit c _ h64, BitVec.getLsbD_not, BitVec.getLsbD_or] at h1
    simp only [hk, decide_true, Bool.true_and, show k < 64 by omega] at h1
    unfold gAt atT
    revert h1
    cases hasC c (k : Int) <;> cases x.on.bits.getLsbD k <;> cases x.free.bits.getLsbD k <;> simp
  · intro h i hi
    rw [BitVec.getLsbD_and, ptsC_bit c _ h64, BitVec.getLsbD_not, BitVec.getLsbD_or]
    by_cases hk : i < 2 ^ n
    · have h1 := h i (List.mem_range.2 hk)
      unfold gAt atT at h1
      revert h1
      simp only [hk, hi, decide_true, Bool.true_and]
      cases hasC c (i : Int) <;> cases x.on.bits.getLsbD i <;> cases x.free.bits.getLsbD i <;> simp
    · simp [hk]

theorem touch_eq {n : Nat} (hn : n ≤ 6) (x : Tk) (c : Cu) : (ptsC c (2 ^ n) &&& x.on.bits != 0#64) = touchC n x c := by
  have h64 := pow_le64 hn
  rw [Bool.eq_iff_iff, bne_iff_ne, ne0_iff, touchC, List.any_eq_true]
  constructor
  · rintro ⟨i, hi, h⟩
    rw [BitVec.getLsbD_and, ptsC_bit c _ h64] at h
    simp only [Bool.and_eq_true, decide_eq_true_eq] at h
    exact ⟨i, List.mem_range.2 h.1.1, by rw [tAt, atT, h.1.2, h.2]; rfl⟩
  · rintro ⟨k, hk, h⟩
    have hk := List.mem_range.1 hk
    refine ⟨k, by omega, ?_⟩
    rw [BitVec.getLsbD_and, ptsC_bit c _ h64]
    unfold tAt atT at h
    rw [Bool.and_eq_true] at h
    simp [hk, h.1, h.2]

theorem joined_wide (c : Cu) (i : Nat) : joinedC c c [i] = wideC c i := by
  simp [joinedC, butC, wideC]
theorem wide_ne {c : Cu} (hc : c.value &&& ~~~ c.care = 0#64) {i : Nat} (hi : i < 64) : wideC c i ≠ c ↔ c.care.getLsbD i = true := by
  have hv : ∀ k, k < 64 → c.care.getLsbD k = false → c.value.getLsbD k = false := fun k hk h => by
    have := (eq0_iff _).1 hc k hk
    rw [BitVec.getLsbD_and, BitVec.getLsbD_not, h] at this
    simpa [hk] using this
  constructor
  · intro h
    cases hb : c.care.getLsbD i with
    | true => rfl
    | false =>
      refine absurd ?_ h
      have e : ∀ w : U, w.getLsbD i = false → w &&& ~~~ (1#64 <<< i) = w := fun w hw => by
        apply BitVec.eq_of_getLsbD_eq
        intro k hk
        rw [BitVec.getLsbD_and, BitVec.getLsbD_not, shl1_bit hi]
        by_cases e : k = i
        · subst e; simp [hw]
        · simp [e, hk]
      show (⟨c.care &&& ~~~ (1#64 <<< i), c.value &&& ~~~ (1#64 <<< i)⟩ : Cu) = c
      rw [e _ hb, e _ (hv i hi hb)]
  · intro h e
    have := congrArg (fun d : Cu => d.care.getLsbD i) e
    simp only [wideC, BitVec.getLsbD_and, BitVec.getLsbD_not, shl1_bit hi, h] at this
    simp at this
theorem grow_eq {n : Nat} (hn : n ≤ 6) (x : Tk) {c : Cu} (hc : c.value &&& ~~~ c.care = 0#64) : growsU n x c = growC n x c := by
  unfold growsU growC
  rw [Bool.eq_iff_iff, List.any_eq_true, List.any_eq_true]
  have one : ∀ i, i < n → growsAt n x c i = growAt n x c i := fun i hi => by
    rw [growsAt, growAt, implies_good hn, joined_wide]
    congr 1
    rw [Bool.eq_iff_iff, decide_eq_true_iff]
    exact wide_ne hc (by omega)
  constructor
  · rintro ⟨i, hi, h⟩; exact ⟨i, hi, by rw [← one i (List.mem_range.1 hi)]; exact h⟩
  · rintro ⟨i, hi, h⟩; exact ⟨i, hi, by rw [one i (List.mem_range.1 hi)]; exact h⟩

/-- a right cube -/
theorem cubeAt_ok {i j : Nat} {c : Cu} (h : cubeAt i j = some c) : c.value &&& ~~~ c.care = 0#64 := by
  unfold cubeAt at h
  split at h
  · cases h; assumption
  · cases h
theorem cubesL_ok {n : Nat} {c : Cu} (h : c ∈ cubesL n) : c.value &&& ~~~ c.care = 0#64 := by
  obtain ⟨i, _, h⟩ := List.mem_flatMap.1 h
  obtain ⟨j, _, h⟩ := List.mem_filterMap.1 h
  exact cubeAt_ok h
def primeR (n : Nat) (x : Tk) (c : Cu) : Bool := touchC n x c && goodC n x c && !growC n x c
theorem prime_eq {n : Nat} (hn : n ≤ 6) (x : Tk) {c : Cu} (hc : c ∈ cubesL n) : primeP n x c = primeR n x c := by
  rw [primeP, primeR, touch_eq hn, implies_good hn, grow_eq hn x (cubesL_ok hc)]

theorem uN_toNat {i : Nat} (h : i ≤ 64) : (uN i).toNat = i := by have := uN_small h; omega
theorem cubeAt_none {i j : Nat} (h : i < j) (hj : j ≤ 64) : cubeAt i j = none := by
  unfold cubeAt
  rw [if_neg]
  intro e
  have h1 : uN j &&& uN i = uN j := by
    apply BitVec.eq_of_getLsbD_eq
    intro k hk
    have := (eq0_iff _).1 e k hk
    rw [BitVec.getLsbD_and, BitVec.getLsbD_not] at this
    rw [BitVec.getLsbD_and]
    revert this
    cases (uN j).getLsbD k <;> cases (uN i).getLsbD k <;> simp [hk]
  have h2 := congrArg BitVec.toNat h1
  rw [BitVec.toNat_and, uN_toNat hj, uN_toNat (by omega)] at h2
  have := Nat.and_le_right (n := j) (m := i)
  omega
theorem cubeRow_all {i : Nat} : ∀ {m : Nat}, i + 1 ≤ m → m ≤ 64 → cubeRow m i = cubeRow (i + 1) i := by
  intro m h
  induction h with
  | refl => intro _; rfl
  | @step k hk ih =>
    intro hm
    have hk' : i + 1 ≤ k := hk
    rw [cubeRow_succ, ih (by omega), cubeAt_none (by omega) (by omega)]; simp

end Go.Sx.Pn

namespace Go.Sx.Pn
open Go Go.Proofs

/-- lists at loops' heads -/
def rowC (L : List Cu) : LV := .rw 67 2 L.length (fun i => (L.getD i ⟨0, 0⟩).cells)
def rowN (L : List Nat) : LV := .rw 3 1 L.length (fun i => [iP (L.getD i 0 : Nat)])
theorem join_app {α : Type} (enc : α → List PV) (d : α) {L L' : List α} {x : α} (h : L' = L ++ [x]) (g : Nat → List PV) (hg : g 0 = enc x) : ∀ j, j < L.length + 1 → joinF L.length (fun i => enc (L.getD i d)) g j = enc (L'.getD j d) := by
  intro j hj
  subst h
  unfold joinF
  by_cases e : j < L.length
  · rw [if_pos e]; simp only [List.getD_eq_getElem?_getD, List.getElem?_append_left e]
  · obtain rfl : j = L.length := by omega
    rw [if_neg e, Nat.sub_self, hg]
    simp
theorem app_len {α : Type} {L L' : List α} {x : α} (h : L' = L ++ [x]) : L.length + 1 = L'.length := by subst h; simp
theorem row_same {α : Type} (enc : α → List PV) (d : α) {L L' : List α} (h : L = L') : ∀ j, j < L.length → enc (L.getD j d) = enc (L'.getD j d) := fun j _ => by rw [h]

def cubesS' : Spec := fnS (fun n : Nat => [iA n]) (fun n => n ≤ 6) (fun n => csP (cubesL n))
theorem cubesTo_len {n : Nat} (h : n ≤ 6) {i : Nat} (hi : i ≤ 2 ^ n) : (cubesTo n i).length ≤ 729 := by
  obtain ⟨r, hr⟩ := cubesTo_pre n hi
  have := cubesL_len h
  unfold cubesL at this
  rw [hr, List.length_append] at this
  omega
theorem rcubes_ok : FnOk Tryz.prog 63 cubesS' := by
  refine fnOk (Tb := tab) mixed tab_ok Tryz.func63 rfl rfl ?_
  rintro (n : Nat) hpre
  refine ai (ai rfl (ai rfl rfl)) ?_
  have hn : n ≤ 6 := hpre
  have h64 := pow_le64 hn
  refine ei (LAnn.inv { X := Nat, up := fun i => [(4, .s (iA i)), (3, rowC (cubesTo n i))], uo := fun i => [], inv := fun i => i ≤ 2 ^ n ∧ (True), meas := fun i => 2 ^ n - i, x0 := 0 }) ?_
  refine ai (ai (ai (by (repeat' (first | exact rfl | exact trivial | exact (fun _ => rfl) | exact (fun _ _ => rfl) | exact nof | refine ai ?_ ?_))) (ai (by (repeat' (first | with_reducible rfl | exact trivial | refine ai ?_ ?_ | (show (_ : Int) = _; first | with_reducible rfl | exact wr1 (by omega) | (simp only [zz, reduceCtorEq] <;> first | done | rfl | omega) | omega | rfl) | exact rfl | exact (fun _ => rfl) | exact (fun _ _ => rfl) | exact nof))) (by (repeat' (first | with_reducible rfl | exact trivial | refine ai ?_ ?_ | (show (_ : Int) = _; first | with_reducible rfl | exact wr1 (by omega) | (simp only [zz, reduceCtorEq] <;> first | done | rfl | omega) | omega | rfl) | exact rfl | exact (fun _ => rfl) | exact (fun _ _ => rfl) | exact nof))))) rfl) (ai (ai (Nat.zero_le _) ?_) ?_)
  · trivial
  intro (i : Nat) ⟨hi, _⟩
  refine ei _ (ai size_ok (ei (n) (ei [] (ai (ai rfl (ai rfl (ai rfl (ai rfl (ai (fun _ => Or.inl rfl) (ai (by first | exact nof | exact (fun _ => ai rfl rfl)) (by first | exact Or.inl rfl | exact Or.inr rfl))))))) (ai (by (repeat' (first | with_reducible rfl | exact trivial | refine ai ?_ ?_ | (show (_ : Int) = _; first | with_reducible rfl | exact wr1 (by omega) | (simp only [zz, reduceCtorEq] <;> first | done | rfl | omega) | omega | rfl) | exact rfl | exact (fun _ => rfl) | exact (fun _ _ => rfl) | exact nof))) (ai trivial (ai (hn) ?_)))))))
  refine bcase_p (p := i < 2 ^ n) (by first | (with_reducible refine bif_lt ?_; omega) | (with_reducible refine bif_le ?_; omega) | (with_reducible refine bif_eq ?_; omega) | (with_reducible refine bif_ne ?_; omega) | exact b8_eq rfl | exact b8_ne rfl | exact bif_lt (by omega) | exact bif_le (by omega) | exact bif_eq (by omega) | exact bif_ne (by omega) | exact Iff.rfl | (simp only [zz, reduceCtorEq] <;> first | done | omega | exact Iff.rfl) | (simp; done) | (simp; omega)) (fun h1 => ?_) (fun h1 => ?_)
  · have hbase := cubesTo_len hn hi
    refine ei (LAnn.inv { X := Nat, up := fun j => [(5, .s (iA j)), (3, rowC (cubesTo n i ++ cubeRow j i))], uo := fun j => [], inv := fun j => j ≤ i + 1 ∧ (True), meas := fun j => i + 1 - j, x0 := 0 }) ?_
    refine ai (ai (ai (by (repeat' (first | exact rfl | exact trivial | exact (fun _ => rfl) | exact (fun _ _ => rfl) | exact nof | refine ai ?_ ?_))) (ai ?_ ?_)) rfl) (ai (ai (Nat.zero_le _) ?_) ?_)
    · skip
      (repeat' (first | exact rfl | exact trivial | exact (fun _ => rfl) | exact (fun _ _ => rfl) | exact nof | refine ai ?_ ?_))
      · show (cubesTo n i).length = (cubesTo n i ++ cubeRow 0 i).length
        simp [cubeRow]
      · intro q _
        show ((cubesTo n i).getD q ⟨0, 0⟩).cells = ((cubesTo n i ++ cubeRow 0 i).getD q ⟨0, 0⟩).cells
        simp [cubeRow]
    · skip
      (repeat' (first | exact rfl | exact trivial | exact (fun _ => rfl) | exact (fun _ _ => rfl) | exact nof | refine ai ?_ ?_))
    · trivial
    intro (j : Nat) ⟨hj, _⟩
    refine bcase_p (p := j ≤ i) (by first | (with_reducible refine bif_lt ?_; omega) | (with_reducible refine bif_le ?_; omega) | (with_reducible refine bif_eq ?_; omega) | (with_reducible refine bif_ne ?_; omega) | exact b8_eq rfl | exact b8_ne rfl | exact bif_lt (by omega) | exact bif_le (by omega) | exact bif_eq (by omega) | exact bif_ne (by omega) | exact Iff.rfl | (simp only [zz, reduceCtorEq] <;> first | done | omega | exact Iff.rfl) | (simp; done) | (simp; omega)) (fun h2 => ?_) (fun h2 => ?_)
    · have hlen : (cubesTo n i ++ cubeRow j i).length ≤ 1000 := by
        have : (cubeRow j i).length ≤ j := by have := List.length_filterMap_le (cubeAt i) (List.range j); simpa [cubeRow] using this
        rw [List.length_append]; omega
      have ea : bits .andNot .i64 (j : Int) (i : Int) = ((uN j &&& ~~~ uN i).toNat : Int) := i_andNot (by omega)
      refine bcase_p (p := uN j &&& ~~~ uN i = 0#64) (by show (bits .andNot .i64 (j : Int) (i : Int) == 0) = true ↔ _; rw [ea, u_beq0, beq_iff_eq]) (fun h3 => ?_) (fun h3 => ?_)
      · have hc : cubeAt i j = some ⟨uN i, uN j⟩ := by rw [cubeAt, if_pos h3]
        have e : cubesTo n i ++ cubeRow (j + 1) i = (cubesTo n i ++ cubeRow j i) ++ [⟨uN i, uN j⟩] := by rw [cubeRow_succ, hc]; simp
        refine ai (ai (by show (cubesTo n i ++ cubeRow j i).length + 1 ≤ maxLen; unfold maxLen; omega) (by show ((cubesTo n i ++ cubeRow j i).length + 1) * 16 ≤ 140737488355328; omega)) ?_
        refine ai (fun k hk => by
          have hk : k < 1 := hk
          obtain rfl : k = 0 := by omega
          rfl) ?_
        refine ei (j + 1) (ai (ai rfl rfl) (ai (ai ?_ rfl) (ai (ai (by show j + 1 ≤ i + 1; omega) ?_) (by show i + 1 - (j + 1) < i + 1 - j; omega))))
        any_goals (repeat' (first | with_reducible rfl | exact trivial | refine ai ?_ ?_ | (show (_ : Int) = _; first | with_reducible rfl | exact wr1 (by omega) | (simp only [zz, reduceCtorEq] <;> first | done | rfl | omega) | omega | rfl) | exact rfl | exact (fun _ => rfl) | exact (fun _ _ => rfl) | exact nof))
        · exact app_len e
        · refine join_app Cu.cells ⟨0, 0⟩ e _ ?_
          show [PV.val (.int .u64 (IntKind.u64.wrap (i : Int))), .val (.int .u64 (IntKind.u64.wrap (j : Int)))] = _
          rw [u_wrap_nat, u_wrap_nat]; rfl
      · have hc : cubeAt i j = none := by rw [cubeAt, if_neg h3]
        have e : cubesTo n i ++ cubeRow j i = cubesTo n i ++ cubeRow (j + 1) i := by rw [cubeRow_succ, hc]; simp
        refine ei (j + 1) (ai (ai rfl rfl) (ai (ai ?_ rfl) (ai (ai (by show j + 1 ≤ i + 1; omega) ?_) (by show i + 1 - (j + 1) < i + 1 - j; omega))))
        any_goals (repeat' (first | with_reducible rfl | exact trivial | refine ai ?_ ?_ | (show (_ : Int) = _; first | with_reducible rfl | exact wr1 (by omega) | (simp only [zz, reduceCtorEq] <;> first | done | rfl | omega) | omega | rfl) | exact rfl | exact (fun _ => rfl) | exact (fun _ _ => rfl) | exact nof))
        · exact congrArg List.length e
        · exact row_same Cu.cells ⟨0, 0⟩ e
    · obtain rfl : j = i + 1 := by omega
      have e : cubesTo n i ++ cubeRow (i + 1) i = cubesTo n (i + 1) := by rw [cubesTo_succ, cubeRow_all (show i + 1 ≤ 2 ^ n by omega) h64]
      refine ei (i + 1) (ai (ai rfl rfl) (ai (ai ?_ rfl) (ai (ai (by show i + 1 ≤ 2 ^ n; omega) ?_) (by show 2 ^ n - (i + 1) < 2 ^ n - i; omega))))
      any_goals (repeat' (first | with_reducible rfl | exact trivial | refine ai ?_ ?_ | (show (_ : Int) = _; first | with_reducible rfl | exact wr1 (by omega) | (simp only [zz, reduceCtorEq] <;> first | done | rfl | omega) | omega | rfl) | exact rfl | exact (fun _ => rfl) | exact (fun _ _ => rfl) | exact nof))
      · exact congrArg List.length e
      · exact row_same Cu.cells ⟨0, 0⟩ e
  · obtain rfl : i = 2 ^ n := by omega
    refine ai (ai (fun _ => (by (repeat' (first | exact rfl | exact trivial | exact (fun _ => rfl) | exact (fun _ _ => rfl) | exact nof | refine ai ?_ ?_)))) ?_) trivial
    any_goals (repeat' (first | with_reducible rfl | exact trivial | refine ai ?_ ?_ | (show (_ : Int) = _; first | with_reducible rfl | exact wr1 (by omega) | (simp only [zz, reduceCtorEq] <;> first | done | rfl | omega) | omega | rfl) | exact rfl | exact (fun _ => rfl) | exact (fun _ _ => rfl) | exact nof))

end Go.Sx.Pn

namespace Go.Sx.Pn
open Go Go.Proofs

theorem getD_ext {α : Type} (d : α) {a b : List α} (hl : a.length = b.length) (h : ∀ k, k < a.length → a.getD k d = b.getD k d) : a = b := by
  apply List.ext_getElem hl
  intro k h1 h2
  have := h k h1
  simpa [List.getD_eq_getElem?_getD, h1, h2] using this
def sameS : Spec := fnS (fun x : List Cu × List Cu => [csA x.1, csA x.2]) (fun x => x.1.length ≤ 1000000) (fun x => bP (decide (x.1 = x.2)))
theorem same_ok : FnOk Tryz.prog 18 sameS := by
  refine fnOk (Tb := tab) mixed tab_ok Tryz.func18 rfl rfl ?_
  rintro ⟨a, b⟩ hpre
  refine ai (ai rfl (ai rfl rfl)) ?_
  have hl : a.length ≤ 1000000 := hpre
  refine bcase_n (p := a.length = b.length) (by first | (with_reducible refine bif_lt ?_; omega) | (with_reducible refine bif_le ?_; omega) | (with_reducible refine bif_eq ?_; omega) | (with_reducible refine bif_ne ?_; omega) | exact b8_eq rfl | exact b8_ne rfl | exact bif_lt (by omega) | exact bif_le (by omega) | exact bif_eq (by omega) | exact bif_ne (by omega) | exact Iff.rfl | (simp only [zz, reduceCtorEq] <;> first | done | omega | exact Iff.rfl) | (simp; done) | (simp; omega)) (fun h1 => ?_) (fun h1 => ?_)
  · skip
    refine ai (ai (fun _ => (by (repeat' (first | exact rfl | exact trivial | exact (fun _ => rfl) | exact (fun _ _ => rfl) | exact nof | refine ai ?_ ?_)))) ?_) trivial
    show ple _ (bP (decide (a = b)))
    rw [show decide (a = b) = false by simp; rintro rfl; exact h1 rfl]
    any_goals (repeat' (first | with_reducible rfl | exact trivial | refine ai ?_ ?_ | (show (_ : Int) = _; first | with_reducible rfl | exact wr1 (by omega) | (simp only [zz, reduceCtorEq] <;> first | done | rfl | omega) | omega | rfl) | exact rfl | exact (fun _ => rfl) | exact (fun _ _ => rfl) | exact nof))
  refine ei (LAnn.inv { X := Nat, up := fun k => [(5, .s (iA k))], uo := fun k => [], inv := fun k => k ≤ a.length ∧ (∀ j, j < k → a.getD j ⟨0, 0⟩ = b.getD j ⟨0, 0⟩), meas := fun k => a.length - k, x0 := 0 }) ?_
  refine ai (ai (ai (by (repeat' (first | exact rfl | exact trivial | exact (fun _ => rfl) | exact (fun _ _ => rfl) | exact nof | refine ai ?_ ?_))) (ai (by (repeat' (first | with_reducible rfl | exact trivial | refine ai ?_ ?_ | (show (_ : Int) = _; first | with_reducible rfl | exact wr1 (by omega) | (simp only [zz, reduceCtorEq] <;> first | done | rfl | omega) | omega | rfl) | exact rfl | exact (fun _ => rfl) | exact (fun _ _ => rfl) | exact nof))) (by (repeat' (first | with_reducible rfl | exact trivial | refine ai ?_ ?_ | (show (_ : Int) = _; first | with_reducible rfl | exact wr1 (by omega) | (simp only [zz, reduceCtorEq] <;> first | done | rfl | omega) | omega | rfl) | exact rfl | exact (fun _ => rfl) | exact (fun _ _ => rfl) | exact nof))))) rfl) (ai (ai (Nat.zero_le _) ?_) ?_)
  · exact fun j hj => absurd hj (Nat.not_lt_zero _)
  intro (k : Nat) ⟨hk, hall⟩
  refine bcase_p (p := k < a.length) (by first | (with_reducible refine bif_lt ?_; omega) | (with_reducible refine bif_le ?_; omega) | (with_reducible refine bif_eq ?_; omega) | (with_reducible refine bif_ne ?_; omega) | exact b8_eq rfl | exact b8_ne rfl | exact bif_lt (by omega) | exact bif_le (by omega) | exact bif_eq (by omega) | exact bif_ne (by omega) | exact Iff.rfl | (simp only [zz, reduceCtorEq] <;> first | done | omega | exact Iff.rfl) | (simp; done) | (simp; omega)) (fun h2 => ?_) (fun h2 => ?_)
  · skip
    refine ei (.seq [0, 1, 2, 3, 4, 5, 6, 7, 8]) (ai (by kernel_rfl) ?_)
    refine ai (ai (Int.natCast_nonneg _) (by show (k : Int) < (a.length : Int); omega)) ?_
    refine ai rfl ?_
    refine ai (ai (Int.natCast_nonneg _) (by show (k : Int) < (b.length : Int); omega)) ?_
    refine ai rfl ?_
    refine bcase_n (p := a.getD k ⟨0, 0⟩ = b.getD k ⟨0, 0⟩) (by exact (Bool.eq_iff_iff.1 (neqC (a.getD k ⟨0, 0⟩) (b.getD k ⟨0, 0⟩))).trans decide_eq_true_iff) (fun h3 => ?_) (fun h3 => ?_)
    · skip
      refine ai (ai (fun _ => (by (repeat' (first | exact rfl | exact trivial | exact (fun _ => rfl) | exact (fun _ _ => rfl) | exact nof | refine ai ?_ ?_)))) ?_) trivial
      show ple _ (bP (decide (a = b)))
      rw [show decide (a = b) = false by simp; rintro rfl; exact h3 rfl]
      any_goals (repeat' (first | with_reducible rfl | exact trivial | refine ai ?_ ?_ | (show (_ : Int) = _; first | with_reducible rfl | exact wr1 (by omega) | (simp only [zz, reduceCtorEq] <;> first | done | rfl | omega) | omega | rfl) | exact rfl | exact (fun _ => rfl) | exact (fun _ _ => rfl) | exact nof))
    · skip
      refine ei (k + 1) (ai (ai rfl rfl) (ai (ai ?_ rfl) (ai (ai (by show k + 1 ≤ a.length; omega) ?_) (by show a.length - (k + 1) < a.length - k; omega))))
      any_goals (repeat' (first | with_reducible rfl | exact trivial | refine ai ?_ ?_ | (show (_ : Int) = _; first | with_reducible rfl | exact wr1 (by omega) | (simp only [zz, reduceCtorEq] <;> first | done | rfl | omega) | omega | rfl) | exact rfl | exact (fun _ => rfl) | exact (fun _ _ => rfl) | exact nof))
      exact upto_succ hall h3
  · skip
    refine ai (ai (fun _ => (by (repeat' (first | exact rfl | exact trivial | exact (fun _ => rfl) | exact (fun _ _ => rfl) | exact nof | refine ai ?_ ?_)))) ?_) trivial
    show ple _ (bP (decide (a = b)))
    rw [show decide (a = b) = true by simp; exact getD_ext ⟨0, 0⟩ h1 fun k hk => hall k (by omega)]
    any_goals (repeat' (first | with_reducible rfl | exact trivial | refine ai ?_ ?_ | (show (_ : Int) = _; first | with_reducible rfl | exact wr1 (by omega) | (simp only [zz, reduceCtorEq] <;> first | done | rfl | omega) | omega | rfl) | exact rfl | exact (fun _ => rfl) | exact (fun _ _ => rfl) | exact nof))

def eqNS : Spec := fnS (fun x : List Nat × List Nat => [nsA x.1, nsA x.2]) (fun x => x.1.length ≤ 1000000) (fun x => bP (decide (x.1 = x.2)))
theorem eqN_ok : FnOk Tryz.prog 15 eqNS := by
  refine fnOk (Tb := tab) mixed tab_ok Tryz.func15 rfl rfl ?_
  rintro ⟨a, b⟩ hpre
  refine ai (ai rfl (ai rfl rfl)) ?_
  have hl : a.length ≤ 1000000 := hpre
  refine bcase_n (p := a.length = b.length) (by first | (with_reducible refine bif_lt ?_; omega) | (with_reducible refine bif_le ?_; omega) | (with_reducible refine bif_eq ?_; omega) | (with_reducible refine bif_ne ?_; omega) | exact b8_eq rfl | exact b8_ne rfl | exact bif_lt (by omega) | exact bif_le (by omega) | exact bif_eq (by omega) | exact bif_ne (by omega) | exact Iff.rfl | (simp only [zz, reduceCtorEq] <;> first | done | omega | exact Iff.rfl) | (simp; done) | (simp; omega)) (fun h1 => ?_) (fun h1 => ?_)
  · skip
    refine ai (ai (fun _ => (by (repeat' (first | exact rfl | exact trivial | exact (fun _ => rfl) | exact (fun _ _ => rfl) | exact nof | refine ai ?_ ?_)))) ?_) trivial
    show ple _ (bP (decide (a = b)))
    rw [show decide (a = b) = false by simp; rintro rfl; exact h1 rfl]
    any_goals (repeat' (first | with_reducible rfl | exact trivial | refine ai ?_ ?_ | (show (_ : Int) = _; first | with_reducible rfl | exact wr1 (by omega) | (simp only [zz, reduceCtorEq] <;> first | done | rfl | omega) | omega | rfl) | exact rfl | exact (fun _ => rfl) | exact (fun _ _ => rfl) | exact nof))
  refine ei (LAnn.inv { X := Nat, up := fun k => [(13, .s (iA k))], uo := fun k => [], inv := fun k => k ≤ a.length ∧ (∀ j, j < k → a.getD j 0 = b.getD j 0), meas := fun k => a.length - k, x0 := 0 }) ?_
  refine ai (ai (ai (by (repeat' (first | exact rfl | exact trivial | exact (fun _ => rfl) | exact (fun _ _ => rfl) | exact nof | refine ai ?_ ?_))) (ai (by (repeat' (first | with_reducible rfl | exact trivial | refine ai ?_ ?_ | (show (_ : Int) = _; first | with_reducible rfl | exact wr1 (by omega) | (simp only [zz, reduceCtorEq] <;> first | done | rfl | omega) | omega | rfl) | exact rfl | exact (fun _ => rfl) | exact (fun _ _ => rfl) | exact nof))) (by (repeat' (first | with_reducible rfl | exact trivial | refine ai ?_ ?_ | (show (_ : Int) = _; first | with_reducible rfl | exact wr1 (by omega) | (simp only [zz, reduceCtorEq] <;> first | done | rfl | omega) | omega | rfl) | exact rfl | exact (fun _ => rfl) | exact (fun _ _ => rfl) | exact nof))))) rfl) (ai (ai (Nat.zero_le _) ?_) ?_)
  · exact fun j hj => absurd hj (Nat.not_lt_zero _)
  intro (k : Nat) ⟨hk, hall⟩
  refine bcase_p (p := k < a.length) (by first | (with_reducible refine bif_lt ?_; omega) | (with_reducible refine bif_le ?_; omega) | (with_reducible refine bif_eq ?_; omega) | (with_reducible refine bif_ne ?_; omega) | exact b8_eq rfl | exact b8_ne rfl | exact bif_lt (by omega) | exact bif_le (by omega) | exact bif_eq (by omega) | exact bif_ne (by omega) | exact Iff.rfl | (simp only [zz, reduceCtorEq] <;> first | done | omega | exact Iff.rfl) | (simp; done) | (simp; omega)) (fun h2 => ?_) (fun h2 => ?_)
  · skip
    refine ei (.seq [0, 1, 2, 3, 4, 5, 6, 7, 8]) (ai (by kernel_rfl) ?_)
    refine ai (ai (Int.natCast_nonneg _) (by show (k : Int) < (a.length : Int); omega)) ?_
    refine ai rfl ?_
    refine ai (ai (Int.natCast_nonneg _) (by show (k : Int) < (b.length : Int); omega)) ?_
    refine ai rfl ?_
    refine bcase_n (p := a.getD k 0 = b.getD k 0) (by first | (with_reducible refine bif_lt ?_; omega) | (with_reducible refine bif_le ?_; omega) | (with_reducible refine bif_eq ?_; omega) | (with_reducible refine bif_ne ?_; omega) | exact b8_eq rfl | exact b8_ne rfl | exact bif_lt (by omega) | exact bif_le (by omega) | exact bif_eq (by omega) | exact bif_ne (by omega) | exact Iff.rfl | (simp only [zz, reduceCtorEq] <;> first | done | omega | exact Iff.rfl) | (simp; done) | (simp; omega)) (fun h3 => ?_) (fun h3 => ?_)
    · skip
      refine ai (ai (fun _ => (by (repeat' (first | exact rfl | exact trivial | exact (fun _ => rfl) | exact (fun _ _ => rfl) | exact nof | refine ai ?_ ?_)))) ?_) trivial
      show ple _ (bP (decide (a = b)))
      rw [show decide (a = b) = false by simp; rintro rfl; exact h3 rfl]
      any_goals (repeat' (first | with_reducible rfl | exact trivial | refine ai ?_ ?_ | (show (_ : Int) = _; first | with_reducible rfl | exact wr1 (by omega) | (simp only [zz, reduceCtorEq] <;> first | done | rfl | omega) | omega | rfl) | exact rfl | exact (fun _ => rfl) | exact (fun _ _ => rfl) | exact nof))
    · skip
      refine ei (k + 1) (ai (ai rfl rfl) (ai (ai ?_ rfl) (ai (ai (by show k + 1 ≤ a.length; omega) ?_) (by show a.length - (k + 1) < a.length - k; omega))))
      any_goals (repeat' (first | with_reducible rfl | exact trivial | refine ai ?_ ?_ | (show (_ : Int) = _; first | with_reducible rfl | exact wr1 (by omega) | (simp only [zz, reduceCtorEq] <;> first | done | rfl | omega) | omega | rfl) | exact rfl | exact (fun _ => rfl) | exact (fun _ _ => rfl) | exact nof))
      exact upto_succ hall h3
  · skip
    refine ai (ai (fun _ => (by (repeat' (first | exact rfl | exact trivial | exact (fun _ => rfl) | exact (fun _ _ => rfl) | exact nof | refine ai ?_ ?_)))) ?_) trivial
    show ple _ (bP (decide (a = b)))
    rw [show decide (a = b) = true by simp; exact getD_ext 0 h1 fun k hk => hall k (by omega)]
    any_goals (repeat' (first | with_reducible rfl | exact trivial | refine ai ?_ ?_ | (show (_ : Int) = _; first | with_reducible rfl | exact wr1 (by omega) | (simp only [zz, reduceCtorEq] <;> first | done | rfl | omega) | omega | rfl) | exact rfl | exact (fun _ => rfl) | exact (fun _ _ => rfl) | exact nof))

/-- the places of the cubes with a point -/
def ownTo (l : List Cu) (p : Int) (m : Nat) : List Nat := (List.range m).filter fun i => hasC (l.getD i ⟨0, 0⟩) p
def ownL (l : List Cu) (p : Int) : List Nat := ownTo l p l.length
theorem filt_yes {f : Nat → Bool} {k : Nat} (h : f k = true) : (List.range (k + 1)).filter f = (List.range k).filter f ++ [k] := by
  rw [List.range_succ, List.filter_append]; simp [h]
theorem filt_no {f : Nat → Bool} {k : Nat} (h : f k = false) : (List.range k).filter f = (List.range (k + 1)).filter f := by
  rw [List.range_succ, List.filter_append]; simp [h]
theorem filt_len (f : Nat → Bool) (k : Nat) : ((List.range k).filter f).length ≤ k := by
  have := List.length_filter_le f (List.range k); simpa using this
def ownS : Spec := fnS (fun x : List Cu × Int => [csA x.1, iA x.2]) (fun x => x.1.length ≤ 1000000) (fun x => nsP (ownL x.1 x.2))
theorem owners_ok : FnOk Tryz.prog 85 ownS := by
  refine fnOk (Tb := tab) mixed tab_ok Tryz.func85 rfl rfl ?_
  rintro ⟨l, p⟩ hpre
  refine ai (ai rfl (ai rfl rfl)) ?_
  have hl : l.length ≤ 1000000 := hpre
  refine ei (LAnn.inv { X := Nat, up := fun k => [(6, .s (iA k)), (5, rowN (ownTo l p k))], uo := fun k => [], inv := fun k => k ≤ l.length ∧ (True), meas := fun k => l.length - k, x0 := 0 }) ?_
  refine ai (ai (ai (by (repeat' (first | exact rfl | exact trivial | exact (fun _ => rfl) | exact (fun _ _ => rfl) | exact nof | refine ai ?_ ?_))) (ai (by (repeat' (first | with_reducible rfl | exact trivial | refine ai ?_ ?_ | (show (_ : Int) = _; first | with_reducible rfl | exact wr1 (by omega) | (simp only [zz, reduceCtorEq] <;> first | done | rfl | omega) | omega | rfl) | exact rfl | exact (fun _ => rfl) | exact (fun _ _ => rfl) | exact nof))) (by (repeat' (first | with_reducible rfl | exact trivial | refine ai ?_ ?_ | (show (_ : Int) = _; first | with_reducible rfl | exact wr1 (by omega) | (simp only [zz, reduceCtorEq] <;> first | done | rfl | omega) | omega | rfl) | exact rfl | exact (fun _ => rfl) | exact (fun _ _ => rfl) | exact nof))))) rfl) (ai (ai (Nat.zero_le _) ?_) ?_)
  · trivial
  intro (k : Nat) ⟨hk, _⟩
  refine bcase_p (p := k < l.length) (by first | (with_reducible refine bif_lt ?_; omega) | (with_reducible refine bif_le ?_; omega) | (with_reducible refine bif_eq ?_; omega) | (with_reducible refine bif_ne ?_; omega) | exact b8_eq rfl | exact b8_ne rfl | exact bif_lt (by omega) | exact bif_le (by omega) | exact bif_eq (by omega) | exact bif_ne (by omega) | exact Iff.rfl | (simp only [zz, reduceCtorEq] <;> first | done | omega | exact Iff.rfl) | (simp; done) | (simp; omega)) (fun h1 => ?_) (fun h1 => ?_)
  · refine ai (ai (Int.natCast_nonneg _) (by show (k : Int) < (l.length : Int); omega)) ?_
    refine ai rfl ?_
    refine ei _ (ai in_ok (ei ((l.getD k ⟨0, 0⟩, p)) (ei [] (ai (ai rfl (ai rfl (ai rfl (ai rfl (ai (fun _ => Or.inl rfl) (ai (by first | exact nof | exact (fun _ => ai rfl rfl)) (by first | exact Or.inl rfl | exact Or.inr rfl))))))) (ai (by (repeat' (first | with_reducible rfl | exact trivial | refine ai ?_ ?_ | (show (_ : Int) = _; first | with_reducible rfl | exact wr1 (by omega) | (simp only [zz, reduceCtorEq] <;> first | done | rfl | omega) | omega | rfl) | exact rfl | exact (fun _ => rfl) | exact (fun _ _ => rfl) | exact nof))) (ai trivial (ai (trivial) ?_)))))))
    refine bcase_b (b := hasC (l.getD k ⟨0, 0⟩) p) (by first | exact rfl | (simp only [zz, reduceCtorEq] <;> first | done | exact rfl)) (fun h2 => ?_) (fun h2 => ?_)
    · have hlen : (ownTo l p k).length ≤ k := filt_len _ k
      refine ai (ai (by show (ownTo l p k).length + 1 ≤ maxLen; unfold maxLen; omega) (by show ((ownTo l p k).length + 1) * 8 ≤ 140737488355328; omega)) ?_
      refine ai (fun k hk => by
        have hk : k < 1 := hk
        obtain rfl : k = 0 := by omega
        rfl) ?_
      refine ei (k + 1) (ai (ai rfl rfl) (ai (ai ?_ rfl) (ai (ai (by show k + 1 ≤ l.length; omega) ?_) (by show l.length - (k + 1) < l.length - k; omega))))
      any_goals (repeat' (first | with_reducible rfl | exact trivial | refine ai ?_ ?_ | (show (_ : Int) = _; first | with_reducible rfl | exact wr1 (by omega) | (simp only [zz, reduceCtorEq] <;> first | done | rfl | omega) | omega | rfl) | exact rfl | exact (fun _ => rfl) | exact (fun _ _ => rfl) | exact nof))
      · exact app_len (filt_yes h2)
      · exact join_app (fun i : Nat => [iP (i : Int)]) 0 (filt_yes h2) _ rfl
    · skip
      refine ei (k + 1) (ai (ai rfl rfl) (ai (ai ?_ rfl) (ai (ai (by show k + 1 ≤ l.length; omega) ?_) (by show l.length - (k + 1) < l.length - k; omega))))
      any_goals (repeat' (first | with_reducible rfl | exact trivial | refine ai ?_ ?_ | (show (_ : Int) = _; first | with_reducible rfl | exact wr1 (by omega) | (simp only [zz, reduceCtorEq] <;> first | done | rfl | omega) | omega | rfl) | exact rfl | exact (fun _ => rfl) | exact (fun _ _ => rfl) | exact nof))
      · exact congrArg List.length (filt_no h2)
      · exact row_same (fun i : Nat => [iP (i : Int)]) 0 (filt_no h2)
  · obtain rfl : k = l.length := by omega
    refine ai (ai (fun _ => (by (repeat' (first | exact rfl | exact trivial | exact (fun _ => rfl) | exact (fun _ _ => rfl) | exact nof | refine ai ?_ ?_)))) ?_) trivial
    any_goals (repeat' (first | with_reducible rfl | exact trivial | refine ai ?_ ?_ | (show (_ : Int) = _; first | with_reducible rfl | exact wr1 (by omega) | (simp only [zz, reduceCtorEq] <;> first | done | rfl | omega) | omega | rfl) | exact rfl | exact (fun _ => rfl) | exact (fun _ _ => rfl) | exact nof))

end Go.Sx.Pn

namespace Go.Sx.Pn
open Go Go.Proofs

def cubeK (n k : Nat) : Cu := (cubesL n).getD k ⟨0, 0⟩
theorem cubesL_get {n k : Nat} (h : k < (cubesL n).length) : (cubesL n)[k]? = some (cubeK n k) := by
  rw [cubeK, List.getD_eq_getElem?_getD, List.getElem?_eq_getElem h]; rfl
theorem all_ok' : FnOk Tryz.prog 31 primesS := by
  refine fnOk (Tb := tab) mixed tab_ok Tryz.func31 rfl rfl ?_
  rintro ⟨n, x⟩ hpre
  refine ai (ai rfl (ai rfl rfl)) ?_
  obtain ⟨hn, hx⟩ : n ≤ 6 ∧ x.on.n = n := hpre
  have hlen := cubesL_len hn
  refine ei _ (ai rcubes_ok (ei (n) (ei [] (ai (ai rfl (ai rfl (ai rfl (ai rfl (ai (fun _ => Or.inl rfl) (ai (by first | exact nof | exact (fun _ => ai rfl rfl)) (by first | exact Or.inl rfl | exact Or.inr rfl))))))) (ai (by (repeat' (first | with_reducible rfl | exact trivial | refine ai ?_ ?_ | (show (_ : Int) = _; first | with_reducible rfl | exact wr1 (by omega) | (simp only [zz, reduceCtorEq] <;> first | done | rfl | omega) | omega | rfl) | exact rfl | exact (fun _ => rfl) | exact (fun _ _ => rfl) | exact nof))) (ai trivial (ai (hn) ?_)))))))
  refine ei (LAnn.inv { X := Nat, up := fun k => [(5, .s (iA k)), (4, rowC (primesTo n x k))], uo := fun k => [], inv := fun k => k ≤ (cubesL n).length ∧ (True), meas := fun k => (cubesL n).length - k, x0 := 0 }) ?_
  refine ai (ai (ai (by (repeat' (first | exact rfl | exact trivial | exact (fun _ => rfl) | exact (fun _ _ => rfl) | exact nof | refine ai ?_ ?_))) (ai (by (repeat' (first | with_reducible rfl | exact trivial | refine ai ?_ ?_ | (show (_ : Int) = _; first | with_reducible rfl | exact wr1 (by omega) | (simp only [zz, reduceCtorEq] <;> first | done | rfl | omega) | omega | rfl) | exact rfl | exact (fun _ => rfl) | exact (fun _ _ => rfl) | exact nof))) (by (repeat' (first | with_reducible rfl | exact trivial | refine ai ?_ ?_ | (show (_ : Int) = _; first | with_reducible rfl | exact wr1 (by omega) | (simp only [zz, reduceCtorEq] <;> first | done | rfl | omega) | omega | rfl) | exact rfl | exact (fun _ => rfl) | exact (fun _ _ => rfl) | exact nof))))) rfl) (ai (ai (Nat.zero_le _) ?_) ?_)
  · trivial
  intro (k : Nat) ⟨hk, _⟩
  refine bcase_p (p := k < (cubesL n).length) (by first | (with_reducible refine bif_lt ?_; omega) | (with_reducible refine bif_le ?_; omega) | (with_reducible refine bif_eq ?_; omega) | (with_reducible refine bif_ne ?_; omega) | exact b8_eq rfl | exact b8_ne rfl | exact bif_lt (by omega) | exact bif_le (by omega) | exact bif_eq (by omega) | exact bif_ne (by omega) | exact Iff.rfl | (simp only [zz, reduceCtorEq] <;> first | done | omega | exact Iff.rfl) | (simp; done) | (simp; omega)) (fun h1 => ?_) (fun h1 => ?_)
  · have hget := cubesL_get h1
    have hmem : cubeK n k ∈ cubesL n := List.mem_of_getElem? hget
    refine ai (ai (Int.natCast_nonneg _) (by show (k : Int) < ((cubesL n).length : Int); omega)) ?_
    refine ai rfl ?_
    have hp := prime_eq hn x hmem
    have no : primeP n x (cubeK n k) = false → primesTo n x k = primesTo n x (k + 1) := fun h => by rw [primesTo_succ hget, h]; simp
    refine ei _ (ai touches_ok (ei ((n, x, cubeK n k)) (ei [] (ai (ai rfl (ai rfl (ai rfl (ai rfl (ai (fun _ => Or.inl rfl) (ai (by first | exact nof | exact (fun _ => ai rfl rfl)) (by first | exact Or.inl rfl | exact Or.inr rfl))))))) (ai (by (repeat' (first | with_reducible rfl | exact trivial | refine ai ?_ ?_ | (show (_ : Int) = _; first | with_reducible rfl | exact wr1 (by omega) | (simp only [zz, reduceCtorEq] <;> first | done | rfl | omega) | omega | rfl) | exact rfl | exact (fun _ => rfl) | exact (fun _ _ => rfl) | exact nof))) (ai trivial (ai (⟨hn, hx⟩) ?_)))))))
    refine bcase_b (b := touchC n x (cubeK n k)) (by first | exact rfl | (simp only [zz, reduceCtorEq] <;> first | done | exact rfl)) (fun h2 => ?_) (fun h2 => ?_)
    · skip
      refine ei _ (ai good_ok (ei ((n, x, cubeK n k)) (ei [] (ai (ai rfl (ai rfl (ai rfl (ai rfl (ai (fun _ => Or.inl rfl) (ai (by first | exact nof | exact (fun _ => ai rfl rfl)) (by first | exact Or.inl rfl | exact Or.inr rfl))))))) (ai (by (repeat' (first | with_reducible rfl | exact trivial | refine ai ?_ ?_ | (show (_ : Int) = _; first | with_reducible rfl | exact wr1 (by omega) | (simp only [zz, reduceCtorEq] <;> first | done | rfl | omega) | omega | rfl) | exact rfl | exact (fun _ => rfl) | exact (fun _ _ => rfl) | exact nof))) (ai trivial (ai (⟨hn, hx⟩) ?_)))))))
      refine bcase_b (b := goodC n x (cubeK n k)) (by first | exact rfl | (simp only [zz, reduceCtorEq] <;> first | done | exact rfl)) (fun h3 => ?_) (fun h3 => ?_)
      · skip
        refine ei _ (ai rgrows_ok (ei ((n, x, cubeK n k)) (ei [] (ai (ai rfl (ai rfl (ai rfl (ai rfl (ai (fun _ => Or.inl rfl) (ai (by first | exact nof | exact (fun _ => ai rfl rfl)) (by first | exact Or.inl rfl | exact Or.inr rfl))))))) (ai (by (repeat' (first | with_reducible rfl | exact trivial | refine ai ?_ ?_ | (show (_ : Int) = _; first | with_reducible rfl | exact wr1 (by omega) | (simp only [zz, reduceCtorEq] <;> first | done | rfl | omega) | omega | rfl) | exact rfl | exact (fun _ => rfl) | exact (fun _ _ => rfl) | exact nof))) (ai trivial (ai (⟨hn, hx⟩) ?_)))))))
        refine bcase_b (b := !growC n x (cubeK n k)) (by first | exact rfl | (simp only [zz, reduceCtorEq] <;> first | done | exact rfl)) (fun h4 => ?_) (fun h4 => ?_)
        · have hy : primeP n x (cubeK n k) = true := by rw [hp, primeR, h2, h3, h4]; rfl
          have e : primesTo n x (k + 1) = primesTo n x k ++ [cubeK n k] := by rw [primesTo_succ hget, hy]; rfl
          have hl := primesTo_len hn x k
          refine ai (ai (by show (primesTo n x k).length + 1 ≤ maxLen; unfold maxLen; omega) (by show ((primesTo n x k).length + 1) * 16 ≤ 140737488355328; omega)) ?_
          refine ai (fun k hk => by
            have hk : k < 1 := hk
            obtain rfl : k = 0 := by omega
            rfl) ?_
          refine ei (k + 1) (ai (ai rfl rfl) (ai (ai ?_ rfl) (ai (ai (by show k + 1 ≤ (cubesL n).length; omega) ?_) (by show (cubesL n).length - (k + 1) < (cubesL n).length - k; omega))))
          any_goals (repeat' (first | with_reducible rfl | exact trivial | refine ai ?_ ?_ | (show (_ : Int) = _; first | with_reducible rfl | exact wr1 (by omega) | (simp only [zz, reduceCtorEq] <;> first | done | rfl | omega) | omega | rfl) | exact rfl | exact (fun _ => rfl) | exact (fun _ _ => rfl) | exact nof))
          · exact app_len e
          · exact join_app Cu.cells ⟨0, 0⟩ e _ rfl
        · have hq : primeR n x (cubeK n k) = false := by rw [primeR, h4, Bool.and_false]
          refine ei (k + 1) (ai (ai rfl rfl) (ai (ai ?_ rfl) (ai (ai (by show k + 1 ≤ (cubesL n).length; omega) ?_) (by show (cubesL n).length - (k + 1) < (cubesL n).length - k; omega))))
          any_goals (repeat' (first | with_reducible rfl | exact trivial | refine ai ?_ ?_ | (show (_ : Int) = _; first | with_reducible rfl | exact wr1 (by omega) | (simp only [zz, reduceCtorEq] <;> first | done | rfl | omega) | omega | rfl) | exact rfl | exact (fun _ => rfl) | exact (fun _ _ => rfl) | exact nof))
          · exact congrArg List.length (no (by rw [hp]; exact hq))
          · exact row_same Cu.cells ⟨0, 0⟩ (no (by rw [hp]; exact hq))
      · have hq : primeR n x (cubeK n k) = false := by rw [primeR, h3, Bool.and_false, Bool.false_and]
        refine ei (k + 1) (ai (ai rfl rfl) (ai (ai ?_ rfl) (ai (ai (by show k + 1 ≤ (cubesL n).length; omega) ?_) (by show (cubesL n).length - (k + 1) < (cubesL n).length - k; omega))))
        any_goals (repeat' (first | with_reducible rfl | exact trivial | refine ai ?_ ?_ | (show (_ : Int) = _; first | with_reducible rfl | exact wr1 (by omega) | (simp only [zz, reduceCtorEq] <;> first | done | rfl | omega) | omega | rfl) | exact rfl | exact (fun _ => rfl) | exact (fun _ _ => rfl) | exact nof))
        · exact congrArg List.length (no (by rw [hp]; exact hq))
        · exact row_same Cu.cells ⟨0, 0⟩ (no (by rw [hp]; exact hq))
    · have hq : primeR n x (cubeK n k) = false := by rw [primeR, h2, Bool.false_and, Bool.false_and]
      refine ei (k + 1) (ai (ai rfl rfl) (ai (ai ?_ rfl) (ai (ai (by show k + 1 ≤ (cubesL n).length; omega) ?_) (by show (cubesL n).length - (k + 1) < (cubesL n).length - k; omega))))
      any_goals (repeat' (first | with_reducible rfl | exact trivial | refine ai ?_ ?_ | (show (_ : Int) = _; first | with_reducible rfl | exact wr1 (by omega) | (simp only [zz, reduceCtorEq] <;> first | done | rfl | omega) | omega | rfl) | exact rfl | exact (fun _ => rfl) | exact (fun _ _ => rfl) | exact nof))
      · exact congrArg List.length (no (by rw [hp]; exact hq))
      · exact row_same Cu.cells ⟨0, 0⟩ (no (by rw [hp]; exact hq))
  · obtain rfl : k = (cubesL n).length := by omega
    have e : primesTo n x (cubesL n).length = primesL n x := by rw [primesTo, List.take_length]; rfl
    refine ai (ai (fun _ => (by (repeat' (first | exact rfl | exact trivial | exact (fun _ => rfl) | exact (fun _ _ => rfl) | exact nof | refine ai ?_ ?_)))) ?_) trivial
    any_goals (repeat' (first | with_reducible rfl | exact trivial | refine ai ?_ ?_ | (show (_ : Int) = _; first | with_reducible rfl | exact wr1 (by omega) | (simp only [zz, reduceCtorEq] <;> first | done | rfl | omega) | omega | rfl) | exact rfl | exact (fun _ => rfl) | exact (fun _ _ => rfl) | exact nof))
    · exact congrArg List.length e
    · exact row_same Cu.cells ⟨0, 0⟩ e

end Go.Sx.Pn

namespace Go.Sx.Pn
open Go Go.Proofs

theorem primesL_len {n : Nat} (h : n ≤ 6) (x : Tk) : (primesL n x).length ≤ 729 :=
  Nat.le_trans (List.length_filter_le _ _) (cubesL_len h)
def bA (b : Bool) : SV := .p false (.val (.bool b))

/-- the program's words: the points that some cubes have, and those that several have -/
def onceU (n : Nat) (l : List Cu) : Nat → U
  | 0 => 0#64
  | k + 1 => onceU n l k ||| ptsC (l.getD k ⟨0, 0⟩) (2 ^ n)
def oftenU (n : Nat) (l : List Cu) : Nat → U
  | 0 => 0#64
  | k + 1 => oftenU n l k ||| (onceU n l k &&& ptsC (l.getD k ⟨0, 0⟩) (2 ^ n))
theorem once_bit {n : Nat} (hn : n ≤ 6) (l : List Cu) {k : Nat} (hk : k < 2 ^ n) : ∀ m, (onceU n l m).getLsbD k = decide (1 ≤ (ownTo l k m).length) ∧ (oftenU n l m).getLsbD k = decide (2 ≤ (ownTo l k m).length)
  | 0 => by simp [onceU, oftenU, ownTo]
  | m + 1 => by
    have h64 := pow_le64 hn
    obtain ⟨h1, h2⟩ := once_bit hn l hk m
    rw [onceU, oftenU, BitVec.getLsbD_or, BitVec.getLsbD_or, BitVec.getLsbD_and, ptsC_bit _ _ h64, h1, h2]
    cases h : hasC (l.getD m ⟨0, 0⟩) (k : Int) with
    | true =>
      have e : (ownTo l k (m + 1)).length = (ownTo l k m).length + 1 := by unfold ownTo; rw [filt_yes h]; simp
      rw [e]
      simp only [hk, decide_true, Bool.true_and, Bool.and_true, Bool.or_true]
      constructor
      · simp
      · rw [Bool.eq_iff_iff]; simp; omega
    | false =>
      have e : (ownTo l k (m + 1)).length = (ownTo l k m).length := by unfold ownTo; rw [← filt_no h]
      rw [e]
      simp
end Go.Sx.Pn

namespace Go.Sx.Pn
open Go Go.Proofs

theorem fnS_at {P : Program} {f : Nat} {α : Type} {args : α → List SV} {pre : α → Prop} {res : α → PV} (h : FnOk P f (fnS args pre res)) (a : α) (hp : pre a) {r : PV} (e : res a = r) :
    FnOk P f (fnS (fun _ : Unit => args a) (fun _ => True) (fun _ => r)) := by
  subst e
  exact ⟨h.1, fun _ _ E vs w hh hA => h.2 a hp E vs w hh hA⟩
/-- a right cube of n variables -/
structure Cu.Ok (n : Nat) (c : Cu) : Prop where
  care : c.care &&& ~~~ allU n = 0#64
  value : c.value &&& ~~~ c.care = 0#64
theorem Cu.Ok.care_bit {n : Nat} {c : Cu} (h : c.Ok n) (hn : n ≤ 6) {i : Nat} (hi : i < 64) (h1 : c.care.getLsbD i = true) : i < n := by
  have := (eq0_iff _).1 h.care i hi
  rw [BitVec.getLsbD_and, BitVec.getLsbD_not, allU_bit hn hi, h1] at this
  simpa [hi] using this
theorem Cu.Ok.value_bit {n : Nat} {c : Cu} (h : c.Ok n) {i : Nat} (hi : i < 64) (h1 : c.value.getLsbD i = true) : c.care.getLsbD i = true := by
  have := (eq0_iff _).1 h.value i hi
  rw [BitVec.getLsbD_and, BitVec.getLsbD_not, h1] at this
  simpa [hi] using this
theorem chk_ok {n : Nat} {c : Cu} (h : chkC (n : Int) c = 0) : n ≤ 6 ∧ c.Ok n := by
  obtain ⟨k, hk, e, h1, h2⟩ := chkC_zero h
  obtain rfl : n = k := by omega
  exact ⟨hk, h1, h2⟩

theorem ofInt_bit (k i : Nat) (hi : i < 64) : (BitVec.ofInt 64 (k : Int)).getLsbD i = k.testBit i := by
  rw [BitVec.ofInt_natCast, BitVec.getLsbD_ofNat]; simp [hi]
theorem has_iff {n : Nat} {c : Cu} (h : c.Ok n) (k : Nat) : hasC c (k : Int) = true ↔ ∀ i, i < 64 → c.care.getLsbD i = true → k.testBit i = c.value.getLsbD i := by
  rw [hasC, beq_iff_eq]
  constructor
  · intro e i hi hc
    have := congrArg (fun b : U => b.getLsbD i) e
    simp only [BitVec.getLsbD_and, ofInt_bit k i hi, hc, Bool.and_true] at this
    exact this
  · intro hall
    apply BitVec.eq_of_getLsbD_eq
    intro i hi
    rw [BitVec.getLsbD_and, ofInt_bit k i hi]
    cases hc : c.care.getLsbD i with
    | true => rw [Bool.and_true]; exact hall i hi hc
    | false =>
      cases hv : c.value.getLsbD i with
      | false => simp
      | true => rw [h.value_bit hi hv] at hc; cases hc

/-- the word of a cube's values is a point of it -/
theorem toNat_bit (x : U) {i : Nat} : x.toNat.testBit i = x.getLsbD i := by rw [BitVec.testBit_toNat]
theorem lt_pow {n : Nat} (hn : n ≤ 6) {x : U} (h : ∀ i, i < 64 → x.getLsbD i = true → i < n) : x.toNat < 2 ^ n := by
  apply Nat.lt_pow_two_of_testBit
  intro i hi
  rw [toNat_bit]
  cases hx : x.getLsbD i with
  | false => rfl
  | true =>
    have h64 : i < 64 := by
      rcases Nat.lt_or_ge i 64 with h1 | h1
      · exact h1
      · rw [BitVec.getLsbD_of_ge x i h1] at hx; cases hx
    have := h i h64 hx
    omega

theorem inside_eq {n : Nat} (hn : n ≤ 6) {a b : Cu} (ha : a.Ok n) (hb : b.Ok n) : withinC n a b = insideC a b := by
  have h64 := pow_le64 hn
  rw [Bool.eq_iff_iff, withinC, List.all_eq_true, insideC, Bool.and_eq_true, beq_iff_eq, beq_iff_eq, eq0_iff]
  constructor
  · intro h
    have within : ∀ k : Nat, k < 2 ^ n → hasC a (k : Int) = true → hasC b (k : Int) = true := fun k hk hh => by
      have := h k (List.mem_range.2 hk)
      rw [wAt, hh] at this; simpa using this
    have hva : ∀ i, i < 64 → a.value.getLsbD i = true → i < n := fun i hi hv => ha.care_bit hn hi (ha.value_bit hi hv)
    have p1 : hasC a (a.value.toNat : Int) = true := (has_iff ha _).2 fun i hi _ => toNat_bit _
    have p2 := (has_iff hb _).1 (within _ (lt_pow hn hva) p1)
    constructor
    · intro i hi
      rw [BitVec.getLsbD_and, BitVec.getLsbD_not]
      cases hbi : b.care.getLsbD i with
      | false => simp
      | true =>
        cases hai : a.care.getLsbD i with
        | true => simp
        | false =>
          exfalso
          have hin := hb.care_bit hn hi hbi
          have hav : a.value.getLsbD i = false := by
            cases hv : a.value.getLsbD i with
            | false => rfl
            | true => rw [ha.value_bit hi hv] at hai; cases hai
          have hbit : ∀ j, j < 64 → (a.value ||| 1#64 <<< i).getLsbD j = (a.value.getLsbD j || decide (j = i)) := fun j hj => by
            rw [BitVec.getLsbD_or, shl1_bit hi]
          have q1 : hasC a ((a.value ||| 1#64 <<< i).toNat : Int) = true := (has_iff ha _).2 fun j hj hc => by
            rw [toNat_bit, hbit j hj]
            have : j ≠ i := fun e => by rw [e, hai] at hc; cases hc
            simp [this]
          have q2 := (has_iff hb _).1 (within _ (lt_pow hn fun j hj hv => by
            rw [hbit j hj, Bool.or_eq_true, decide_eq_true_eq] at hv
            rcases hv with hv | rfl
            · exact hva j hj hv
            · exact hin) q1) i hi hbi
          rw [toNat_bit, hbit i hi] at q2
          have q3 := p2 i hi hbi
          rw [toNat_bit, hav] at q3
          rw [hav, ← q3] at q2
          simp at q2
    · apply BitVec.eq_of_getLsbD_eq
      intro i hi
      rw [BitVec.getLsbD_and]
      cases hbi : b.care.getLsbD i with
      | true =>
        have q3 := p2 i hi hbi
        rw [toNat_bit] at q3
        rw [Bool.and_true]; exact q3
      | false =>
        cases hv : b.value.getLsbD i with
        | false => simp
        | true => rw [hb.value_bit hi hv] at hbi; cases hbi
  · rintro ⟨h1, h2⟩ k hk
    rw [wAt]
    cases hh : hasC a (k : Int) with
    | false => rfl
    | true =>
      have p := (has_iff ha _).1 hh
      have : hasC b (k : Int) = true := (has_iff hb _).2 fun i hi hbi => by
        have h3 := h1 i hi
        rw [BitVec.getLsbD_and, BitVec.getLsbD_not, hbi] at h3
        have hai : a.care.getLsbD i = true := by simpa [hi] using h3
        have h4 := congrArg (fun b : U => b.getLsbD i) h2
        simp only [BitVec.getLsbD_and, hbi, Bool.and_true] at h4
        rw [p i hi hai, h4]
      rw [this]; rfl

end Go.Sx.Pn
