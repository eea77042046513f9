/- Words and points: what the program says of words is what the reference says of points. -/
import Derived.Test.YtdkhdkldjpaadaaPC
set_option maxHeartbeats 1000000
set_option maxRecDepth 4000
set_option linter.unusedSimpArgs false
set_option linter.unusedVariables false
namespace Go.Sx.Pn
open Go Go.Proofs

theorem ptsC_bit (c : Cu) : ∀ (m : Nat), m ≤ 64 → ∀ i, (ptsC c m).getLsbD i = (decide (i < m) && hasC c (i : Int))
  | 0, _, i => by simp [ptsC]
  | k + 1, hm, i => by
    have ih := ptsC_bit c k (by omega) i
    rw [ptsC]
    by_cases h : hasC c (k : Int) = true
    · rw [if_pos h, BitVec.getLsbD_or, ih, shl1_bit (by omega)]
      by_cases e : i = k
      · subst e; simp [h]
      · by_cases h2 : i < k
        · simp [e, h2, show i < k + 1 by omega]
        · simp [e, h2, show ¬ i < k + 1 by omega]
    · rw [if_neg h, ih]
      by_cases e : i = k
      · subst e; simp [h]
      · by_cases h2 : i < k
        · simp [h2, show i < k + 1 by omega]
        · simp [h2, show ¬ i < k + 1 by omega]

theorem implies_good {n : Nat} (hn : n ≤ 6) (x : Tk) (c : Cu) : impliesU n x c = goodC n x c := by
  have h64 := pow_le64 hn
  rw [Bool.eq_iff_iff, impliesU, beq_iff_eq, eq0_iff, goodC, List.all_eq_true]
  constructor
  · intro h k hk
    have hk := List.mem_range.1 hk
    have h1 := h k (by omega)
    rw [BitVec.getLsbD_and, ptsC_bit c _ h64, BitVec.getLsbD_not, BitVec.getLsbD_or] at h1
    simp only [hk, decide_true, Bool.true_and, show k < 64 by omega] at h1
    unfold gAt atT
    revert h1
    cases hasC c (k : Int) <;> cases x.on.bits.getLsbD k <;> cases x.free.bits.getLsbD k <;> simp
  · intro h i hi
    rw [BitVec.getLsbD_and, ptsC_bit c _ h64, BitVec.getLsbD_not, BitVec.getLsbD_or]
    by_cases hk : i < 2 ^ n
    · have h1 := h i (List.mem_range.2 hk)
      unfold gAt atT at h1
      revert h1
      simp only [hk, hi, decide_true, Bool.true_and]
      cases hasC c (i : Int) <;> cases x.on.bits.getLsbD i <;> cases x.free.bits.getLsbD i <;> simp
    · simp [hk]

theorem touch_eq {n : Nat} (hn : n ≤ 6) (x : Tk) (c : Cu) : (ptsC c (2 ^ n) &&& x.on.bits != 0#64) = touchC n x c := by
  have h64 := pow_le64 hn
  rw [Bool.eq_iff_iff, bne_iff_ne, ne0_iff, touchC, List.any_eq_true]
  constructor
  · rintro ⟨i, hi, h⟩
    rw [BitVec.getLsbD_and, ptsC_bit c _ h64] at h
    simp only [Bool.and_eq_true, decide_eq_true_eq] at h
    exact ⟨i, List.mem_range.2 h.1.1, by rw [tAt, atT, h.1.2, h.2]; rfl⟩
  · rintro ⟨k, hk, h⟩
    have hk := List.mem_range.1 hk
    refine ⟨k, by omega, ?_⟩
    rw [BitVec.getLsbD_and, ptsC_bit c _ h64]
    unfold tAt atT at h
    rw [Bool.and_eq_true] at h
    simp [hk, h.1, h.2]

theorem wide_ne {c : Cu} (hc : c.value &&& ~~~ c.care = 0#64) {i : Nat} (hi : i < 64) : wideC c i ≠ c ↔ c.care.getLsbD i = true := by
  have hv : ∀ k, k < 64 → c.care.getLsbD k = false → c.value.getLsbD k = false := fun k hk h => by
    have := (eq0_iff _).1 hc k hk
    rw [BitVec.getLsbD_and, BitVec.getLsbD_not, h] at this
    simpa [hk] using this
  constructor
  · intro h
    cases hb : c.care.getLsbD i with
    | true => rfl
    | false =>
      refine absurd ?_ h
      have e : ∀ w : U, w.getLsbD i = false → w &&& ~~~ (1#64 <<< i) = w := fun w hw => by
        apply BitVec.eq_of_getLsbD_eq
        intro k hk
        rw [BitVec.getLsbD_and, BitVec.getLsbD_not, shl1_bit hi]
        by_cases e : k = i
        · subst e; simp [hw]
        · simp [e, hk]
      show (⟨c.care &&& ~~~ (1#64 <<< i), c.value &&& ~~~ (1#64 <<< i)⟩ : Cu) = c
      rw [e _ hb, e _ (hv i hi hb)]
  · intro h e
    have := congrArg (fun d : Cu => d.care.getLsbD i) e
    simp only [wideC, BitVec.getLsbD_and, BitVec.getLsbD_not, shl1_bit hi, h] at this
    simp at this
/-- a right cube -/
theorem cubeAt_ok {i j : Nat} {c : Cu} (h : cubeAt i j = some c) : c.value &&& ~~~ c.care = 0#64 := by
  unfold cubeAt at h
  split at h
  · cases h; assumption
  · cases h
theorem cubesL_ok {n : Nat} {c : Cu} (h : c ∈ cubesL n) : c.value &&& ~~~ c.care = 0#64 := by
  obtain ⟨i, _, h⟩ := List.mem_flatMap.1 h
  obtain ⟨j, _, h⟩ := List.mem_filterMap.1 h
  exact cubeAt_ok h
theorem uN_toNat {i : Nat} (h : i ≤ 64) : (uN i).toNat = i := by have := uN_small h; omega
end Go.Sx.Pn

namespace Go.Sx.Pn
open Go Go.Proofs

/-- lists at loops' heads -/
def rowC (L : List Cu) : LV := .rw 24 2 L.length (fun i => (L.getD i ⟨0, 0⟩).cells)
theorem join_app {α : Type} (enc : α → List PV) (d : α) {L L' : List α} {x : α} (h : L' = L ++ [x]) (g : Nat → List PV) (hg : g 0 = enc x) : ∀ j, j < L.length + 1 → joinF L.length (fun i => enc (L.getD i d)) g j = enc (L'.getD j d) := by
  intro j hj
  subst h
  unfold joinF
  by_cases e : j < L.length
  · rw [if_pos e]; simp only [List.getD_eq_getElem?_getD, List.getElem?_append_left e]
  · obtain rfl : j = L.length := by omega
    rw [if_neg e, Nat.sub_self, hg]
    simp
theorem app_len {α : Type} {L L' : List α} {x : α} (h : L' = L ++ [x]) : L.length + 1 = L'.length := by subst h; simp
theorem row_same {α : Type} (enc : α → List PV) (d : α) {L L' : List α} (h : L = L') : ∀ j, j < L.length → enc (L.getD j d) = enc (L'.getD j d) := fun j _ => by rw [h]

end Go.Sx.Pn

namespace Go.Sx.Pn
open Go Go.Proofs

theorem getD_ext {α : Type} (d : α) {a b : List α} (hl : a.length = b.length) (h : ∀ k, k < a.length → a.getD k d = b.getD k d) : a = b := by
  apply List.ext_getElem hl
  intro k h1 h2
  have := h k h1
  simpa [List.getD_eq_getElem?_getD, h1, h2] using this
def sameS : Spec := fnS (fun x : List Cu × List Cu => [csA x.1, csA x.2]) (fun x => x.1.length ≤ 1000000) (fun x => bP (decide (x.1 = x.2)))
theorem same_ok : FnOk Try.prog 27 sameS := by
  refine fnOk (Tb := tab) mixed tab_ok Try.func27 rfl rfl ?_
  rintro ⟨a, b⟩ hpre
  refine ai (ai rfl (ai rfl rfl)) ?_
  have hl : a.length ≤ 1000000 := hpre
  refine bcase_n (p := a.length = b.length) (by first | (with_reducible refine bif_lt ?_; omega) | (with_reducible refine bif_le ?_; omega) | (with_reducible refine bif_eq ?_; omega) | (with_reducible refine bif_ne ?_; omega) | exact b8_eq rfl | exact b8_ne rfl | exact bif_lt (by omega) | exact bif_le (by omega) | exact bif_eq (by omega) | exact bif_ne (by omega) | exact Iff.rfl | (simp only [zz, reduceCtorEq] <;> first | done | omega | exact Iff.rfl) | (simp; done) | (simp; omega)) (fun h1 => ?_) (fun h1 => ?_)
  · skip
    refine ai (ai (fun _ => (by (repeat' (first | exact rfl | exact trivial | exact (fun _ => rfl) | exact (fun _ _ => rfl) | exact nof | refine ai ?_ ?_)))) ?_) trivial
    show ple _ (bP (decide (a = b)))
    rw [show decide (a = b) = false by simp; rintro rfl; exact h1 rfl]
    any_goals (repeat' (first | with_reducible rfl | exact trivial | refine ai ?_ ?_ | (show (_ : Int) = _; first | with_reducible rfl | exact wr1 (by omega) | (simp only [zz, reduceCtorEq] <;> first | done | rfl | omega) | omega | rfl) | exact rfl | exact (fun _ => rfl) | exact (fun _ _ => rfl) | exact nof))
  refine ei (LAnn.inv { X := Nat, up := fun k => [(5, .s (iA k))], uo := fun k => [], inv := fun k => k ≤ a.length ∧ (∀ j, j < k → a.getD j ⟨0, 0⟩ = b.getD j ⟨0, 0⟩), meas := fun k => a.length - k, x0 := 0 }) ?_
  refine ai (ai (ai (by (repeat' (first | exact rfl | exact trivial | exact (fun _ => rfl) | exact (fun _ _ => rfl) | exact nof | refine ai ?_ ?_))) (ai (by (repeat' (first | with_reducible rfl | exact trivial | refine ai ?_ ?_ | (show (_ : Int) = _; first | with_reducible rfl | exact wr1 (by omega) | (simp only [zz, reduceCtorEq] <;> first | done | rfl | omega) | omega | rfl) | exact rfl | exact (fun _ => rfl) | exact (fun _ _ => rfl) | exact nof))) (by (repeat' (first | with_reducible rfl | exact trivial | refine ai ?_ ?_ | (show (_ : Int) = _; first | with_reducible rfl | exact wr1 (by omega) | (simp only [zz, reduceCtorEq] <;> first | done | rfl | omega) | omega | rfl) | exact rfl | exact (fun _ => rfl) | exact (fun _ _ => rfl) | exact nof))))) rfl) (ai (ai (Nat.zero_le _) ?_) ?_)
  · exact fun j hj => absurd hj (Nat.not_lt_zero _)
  intro (k : Nat) ⟨hk, hall⟩
  refine bcase_p (p := k < a.length) (by first | (with_reducible refine bif_lt ?_; omega) | (with_reducible refine bif_le ?_; omega) | (with_reducible refine bif_eq ?_; omega) | (with_reducible refine bif_ne ?_; omega) | exact b8_eq rfl | exact b8_ne rfl | exact bif_lt (by omega) | exact bif_le (by omega) | exact bif_eq (by omega) | exact bif_ne (by omega) | exact Iff.rfl | (simp only [zz, reduceCtorEq] <;> first | done | omega | exact Iff.rfl) | (simp; done) | (simp; omega)) (fun h2 => ?_) (fun h2 => ?_)
  · skip
    refine ei [0, 1, 2, 3, 4, 5, 6, 7, 8] (ai (by kernel_rfl) ?_)
    refine ai (ai (Int.natCast_nonneg _) (by show (k : Int) < (a.length : Int); omega)) ?_
    refine ai rfl ?_
    refine ai (ai (Int.natCast_nonneg _) (by show (k : Int) < (b.length : Int); omega)) ?_
    refine ai rfl ?_
    refine bcase_n (p := a.getD k ⟨0, 0⟩ = b.getD k ⟨0, 0⟩) (by exact (Bool.eq_iff_iff.1 (neqC (a.getD k ⟨0, 0⟩) (b.getD k ⟨0, 0⟩))).trans decide_eq_true_iff) (fun h3 => ?_) (fun h3 => ?_)
    · skip
      refine ai (ai (fun _ => (by (repeat' (first | exact rfl | exact trivial | exact (fun _ => rfl) | exact (fun _ _ => rfl) | exact nof | refine ai ?_ ?_)))) ?_) trivial
      show ple _ (bP (decide (a = b)))
      rw [show decide (a = b) = false by simp; rintro rfl; exact h3 rfl]
      any_goals (repeat' (first | with_reducible rfl | exact trivial | refine ai ?_ ?_ | (show (_ : Int) = _; first | with_reducible rfl | exact wr1 (by omega) | (simp only [zz, reduceCtorEq] <;> first | done | rfl | omega) | omega | rfl) | exact rfl | exact (fun _ => rfl) | exact (fun _ _ => rfl) | exact nof))
    · skip
      refine ei (k + 1) (ai (ai rfl rfl) (ai (ai ?_ rfl) (ai (ai (by show k + 1 ≤ a.length; omega) ?_) (by show a.length - (k + 1) < a.length - k; omega))))
      any_goals (repeat' (first | with_reducible rfl | exact trivial | refine ai ?_ ?_ | (show (_ : Int) = _; first | with_reducible rfl | exact wr1 (by omega) | (simp only [zz, reduceCtorEq] <;> first | done | rfl | omega) | omega | rfl) | exact rfl | exact (fun _ => rfl) | exact (fun _ _ => rfl) | exact nof))
      exact upto_succ hall h3
  · skip
    refine ai (ai (fun _ => (by (repeat' (first | exact rfl | exact trivial | exact (fun _ => rfl) | exact (fun _ _ => rfl) | exact nof | refine ai ?_ ?_)))) ?_) trivial
    show ple _ (bP (decide (a = b)))
    rw [show decide (a = b) = true by simp; exact getD_ext ⟨0, 0⟩ h1 fun k hk => hall k (by omega)]
    any_goals (repeat' (first | with_reducible rfl | exact trivial | refine ai ?_ ?_ | (show (_ : Int) = _; first | with_reducible rfl | exact wr1 (by omega) | (simp only [zz, reduceCtorEq] <;> first | done | rfl | omega) | omega | rfl) | exact rfl | exact (fun _ => rfl) | exact (fun _ _ => rfl) | exact nof))

/-- the places of the cubes with a point -/
def ownTo (l : List Cu) (p : Int) (m : Nat) : List Nat := (List.range m).filter fun i => hasC (l.getD i ⟨0, 0⟩) p
theorem filt_yes {f : Nat → Bool} {k : Nat} (h : f k = true) : (List.range (k + 1)).filter f = (List.range k).filter f ++ [k] := by
  rw [List.range_succ, List.filter_append]; simp [h]
theorem filt_no {f : Nat → Bool} {k : Nat} (h : f k = false) : (List.range k).filter f = (List.range (k + 1)).filter f := by
  rw [List.range_succ, List.filter_append]; simp [h]
end Go.Sx.Pn

namespace Go.Sx.Pn
open Go Go.Proofs

end Go.Sx.Pn

namespace Go.Sx.Pn
open Go Go.Proofs

theorem primesL_len {n : Nat} (h : n ≤ 6) (x : Tk) : (primesL n x).length ≤ 729 :=
  Nat.le_trans (List.length_filter_le _ _) (cubesL_len h)
def bA (b : Bool) : SV := .p false (.val (.bool b))

/-- the program's words: the points that some cubes have, and those that several have -/
def onceU (n : Nat) (l : List Cu) : Nat → U
  | 0 => 0#64
  | k + 1 => onceU n l k ||| ptsC (l.getD k ⟨0, 0⟩) (2 ^ n)
def oftenU (n : Nat) (l : List Cu) : Nat → U
  | 0 => 0#64
  | k + 1 => oftenU n l k ||| (onceU n l k &&& ptsC (l.getD k ⟨0, 0⟩) (2 ^ n))
theorem once_bit {n : Nat} (hn : n ≤ 6) (l : List Cu) {k : Nat} (hk : k < 2 ^ n) : ∀ m, (onceU n l m).getLsbD k = decide (1 ≤ (ownTo l k m).length) ∧ (oftenU n l m).getLsbD k = decide (2 ≤ (ownTo l k m).length)
  | 0 => by simp [onceU, oftenU, ownTo]
  | m + 1 => by
    have h64 := pow_le64 hn
    obtain ⟨h1, h2⟩ := once_bit hn l hk m
    rw [onceU, oftenU, BitVec.getLsbD_or, BitVec.getLsbD_or, BitVec.getLsbD_and, ptsC_bit _ _ h64, h1, h2]
    cases h : hasC (l.getD m ⟨0, 0⟩) (k : Int) with
    | true =>
      have e : (ownTo l k (m + 1)).length = (ownTo l k m).length + 1 := by unfold ownTo; rw [filt_yes h]; simp
      rw [e]
      simp only [hk, decide_true, Bool.true_and, Bool.and_true, Bool.or_true]
      constructor
      · simp
      · rw [Bool.eq_iff_iff]; simp; omega
    | false =>
      have e : (ownTo l k (m + 1)).length = (ownTo l k m).length := by unfold ownTo; rw [← filt_no h]
      rw [e]
      simp
end Go.Sx.Pn

namespace Go.Sx.Pn
open Go Go.Proofs

theorem fnS_at {P : Program} {f : Nat} {α : Type} {args : α → List SV} {pre : α → Prop} {res : α → PV} (h : FnOk P f (fnS args pre res)) (a : α) (hp : pre a) {r : PV} (e : res a = r) :
    FnOk P f (fnS (fun _ : Unit => args a) (fun _ => True) (fun _ => r)) := by
  subst e
  exact ⟨h.1, fun _ _ E vs w hh hA => h.2 a hp E vs w hh hA⟩
/-- a right cube of n variables -/
structure Cu.Ok (n : Nat) (c : Cu) : Prop where
  care : c.care &&& ~~~ allU n = 0#64
  value : c.value &&& ~~~ c.care = 0#64
theorem Cu.Ok.care_bit {n : Nat} {c : Cu} (h : c.Ok n) (hn : n ≤ 6) {i : Nat} (hi : i < 64) (h1 : c.care.getLsbD i = true) : i < n := by
  have := (eq0_iff _).1 h.care i hi
  rw [BitVec.getLsbD_and, BitVec.getLsbD_not, allU_bit hn hi, h1] at this
  simpa [hi] using this
theorem Cu.Ok.value_bit {n : Nat} {c : Cu} (h : c.Ok n) {i : Nat} (hi : i < 64) (h1 : c.value.getLsbD i = true) : c.care.getLsbD i = true := by
  have := (eq0_iff _).1 h.value i hi
  rw [BitVec.getLsbD_and, BitVec.getLsbD_not, h1] at this
  simpa [hi] using this
theorem chk_ok {n : Nat} {c : Cu} (h : chkC (n : Int) c = 0) : n ≤ 6 ∧ c.Ok n := by
  obtain ⟨k, hk, e, h1, h2⟩ := chkC_zero h
  obtain rfl : n = k := by omega
  exact ⟨hk, h1, h2⟩

theorem ofInt_bit (k i : Nat) (hi : i < 64) : (BitVec.ofInt 64 (k : Int)).getLsbD i = k.testBit i := by
  rw [BitVec.ofInt_natCast, BitVec.getLsbD_ofNat]; simp [hi]
theorem has_iff {n : Nat} {c : Cu} (h : c.Ok n) (k : Nat) : hasC c (k : Int) = true ↔ ∀ i, i < 64 → c.care.getLsbD i = true → k.testBit i = c.value.getLsbD i := by
  rw [hasC, beq_iff_eq]
  constructor
  · intro e i hi hc
    have := congrArg (fun b : U => b.getLsbD i) e
    simp only [BitVec.getLsbD_and, ofInt_bit k i hi, hc, Bool.and_true] at this
    exact this
  · intro hall
    apply BitVec.eq_of_getLsbD_eq
    intro i hi
    rw [BitVec.getLsbD_and, ofInt_bit k i hi]
    cases hc : c.care.getLsbD i with
    | true => rw [Bool.and_true]; exact hall i hi hc
    | false =>
      cases hv : c.value.getLsbD i with
      | false => simp
      | true => rw [h.value_bit hi hv] at hc; cases hc

/-- the word of a cube's values is a point of it -/
theorem toNat_bit (x : U) {i : Nat} : x.toNat.testBit i = x.getLsbD i := by rw [BitVec.testBit_toNat]
theorem lt_pow {n : Nat} (hn : n ≤ 6) {x : U} (h : ∀ i, i < 64 → x.getLsbD i = true → i < n) : x.toNat < 2 ^ n := by
  apply Nat.lt_pow_two_of_testBit
  intro i hi
  rw [toNat_bit]
  cases hx : x.getLsbD i with
  | false => rfl
  | true =>
    have h64 : i < 64 := by
      rcases Nat.lt_or_ge i 64 with h1 | h1
      · exact h1
      · rw [BitVec.getLsbD_of_ge x i h1] at hx; cases hx
    have := h i h64 hx
    omega

end Go.Sx.Pn
