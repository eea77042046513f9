/- Plain facts for the laws of chapter 8. -/
import Derived.Test.YtdkhdkldjpaadaaGreatP53
set_option maxHeartbeats 1000000
set_option maxRecDepth 4000
set_option linter.unusedSimpArgs false
set_option linter.unusedVariables false
namespace Go.Sx.Pn
open Go Go.Proofs

theorem firstE_ok {n : Nat} (hn : n ≤ 6) {l : List Cu} (h : ∀ c ∈ l, c.Ok n) : ∀ m, m ≤ l.length → firstE n l m = 0
  | 0, _ => rfl
  | m + 1, hm => by
    rw [firstE, if_pos (firstE_ok hn h m (by omega))]
    exact ok_chk hn (h _ (getC_mem (by omega)))
theorem chkN_of {n : Nat} (hn : n ≤ 6) {l : List Cu} (hl : l.length ≤ 256) (h : ∀ c ∈ l, c.Ok n) : chkN n l = 0 := by
  rw [chkN, if_neg (by omega), if_neg (by omega), chkL, if_neg (by omega)]
  exact firstE_ok hn h _ (Nat.le_refl _)
theorem tab_has {n : Nat} (hn : n ≤ 6) (l : List Cu) {k : Nat} (hk : k < 2 ^ n) : (tabU l (2 ^ n)).getLsbD k = l.any (fun c => hasC c (k : Int)) := by
  rw [tab_bit l _ (pow_le64 hn)]; simp [hk]
theorem pr_ok {n : Nat} (hn : n ≤ 6) {b : U} {c : Cu} (h : c ∈ prL n b) : c.Ok n := ((mem_primes hn).1 h).1
theorem pr_in {n : Nat} (hn : n ≤ 6) {b : U} {c : Cu} (h : c ∈ prL n b) {k : Nat} (hk : k < 2 ^ n) (hc : hasC c (k : Int) = true) : b.getLsbD k = true := by
  have := (implies_iff hn _ c).1 (prime_parts ((mem_primes hn).1 h).2).2.1 k hk hc
  rw [BitVec.getLsbD_or] at this
  simpa [tk] using this
theorem mendL_mem {n : Nat} {l : List Cu} {c : Cu} (h : c ∈ mendL n l) : c ∈ prL n (tabU l (2 ^ n)) := mend_mem _ (Nat.le_refl _) c h
/-- what is added does not change the function -/
theorem mend_tab {n : Nat} (hn : n ≤ 6) (l : List Cu) : tabU (l ++ mendL n l) (2 ^ n) = tabU l (2 ^ n) := by
  apply BitVec.eq_of_getLsbD_eq
  intro k _
  rw [tab_bit _ _ (pow_le64 hn), tab_bit l _ (pow_le64 hn)]
  by_cases hk : k < 2 ^ n
  · rw [List.any_append]
    cases h : l.any (fun c => hasC c (k : Int)) with
    | true => simp
    | false =>
      cases h2 : (mendL n l).any (fun c => hasC c (k : Int)) with
      | false => simp
      | true =>
        obtain ⟨c, hc, hh⟩ := List.any_eq_true.1 h2
        have := pr_in hn (mendL_mem hc) hk hh
        rw [tab_has hn l hk, h] at this; cases this
  · simp [hk]
theorem mend_tog {n : Nat} (hn : n ≤ 6) (l : List Cu) {p : Nat × Nat} (hp : p ∈ badL n l) : togC (mendL n l) p = true := by
  obtain ⟨j, hj, rfl⟩ := List.getElem_of_mem hp
  have := mend_all (bad_prime hn l) _ (Nat.le_refl _) j hj
  rwa [getP hj] at this
/-- behind what is added there is no hazard -/
theorem mend_bad {n : Nat} (hn : n ≤ 6) (l : List Cu) : badL n (l ++ mendL n l) = [] := by
  unfold badL
  rw [mend_tab hn, List.filter_eq_nil_iff]
  intro p hp
  rw [tog_append]
  cases h : togC l p with
  | true => simp
  | false =>
    have : p ∈ badL n l := List.mem_filter.2 ⟨hp, by rw [h]; rfl⟩
    rw [mend_tog hn l this]; simp
theorem mend_len {n : Nat} (l : List Cu) : (mendL n l).length ≤ (badL n l).length := mendTo_len _ _ _ (Nat.le_refl _)
theorem mend_nil {n : Nat} (hn : n ≤ 6) (l : List Cu) : (mendL n l).length = 0 ↔ (badL n l).length = 0 := by
  constructor
  · intro h
    have h1 := List.length_eq_zero_iff.1 h
    refine Classical.byContradiction fun hne => ?_
    have := mend_tog hn l (getP_mem (show 0 < (badL n l).length by omega))
    rw [h1] at this; cases this
  · intro h
    have := mend_len (n := n) l
    omega
theorem bad_len5 {n : Nat} (hn : n ≤ 5) (l : List Cu) : (badL n l).length ≤ 160 := by
  have h1 := List.length_filter_le (fun p => !togC l p) (pairsL n (tabU l (2 ^ n)))
  have h2 := pairsTo_len n (tabU l (2 ^ n)) (2 ^ n)
  have h4 : 2 ^ n ≤ 2 ^ 5 := Nat.pow_le_pow_right (by decide) hn
  have h3 : 2 ^ n * n ≤ 32 * 5 := Nat.mul_le_mul h4 hn
  show (List.filter _ _).length ≤ 160
  have h4 : (pairsL n (tabU l (2 ^ n))).length ≤ 2 ^ n * n := h2
  omega

/- changes -/
theorem on_refl {n a : Nat} (ha : a < 2 ^ n) (k : Nat) : k ∈ onL n a a ↔ k = a := by
  rw [mem_on]
  constructor
  · rintro ⟨hk, h⟩; exact ext_low hk ha fun i hi => h i hi rfl
  · rintro rfl; exact ⟨ha, fun _ _ _ => rfl⟩
theorem all_refl {n a : Nat} (ha : a < 2 ^ n) (c : Cu) : allOn n a a c = hasC c (a : Int) := by
  unfold allOn
  rw [Bool.eq_iff_iff, List.all_eq_true]
  exact ⟨fun h => h a ((on_refl ha a).2 rfl), fun h k hk => by rw [(on_refl ha k).1 hk]; exact h⟩
theorem some_refl {n a : Nat} (ha : a < 2 ^ n) (c : Cu) : someOn n a a c = hasC c (a : Int) := by
  unfold someOn
  rw [Bool.eq_iff_iff, List.any_eq_true]
  exact ⟨fun ⟨k, hk, h⟩ => by rw [(on_refl ha k).1 hk] at h; exact h, fun h => ⟨a, (on_refl ha a).2 rfl, h⟩⟩
theorem bet_self {n a : Nat} (ha : a < 2 ^ n) (l : List Cu) : betL n l a a = if l.any (fun c => hasC c (a : Int)) then 1 else 0 := by
  unfold betL
  rw [show allOn n a a = fun c => hasC c (a : Int) from funext (all_refl ha), show someOn n a a = fun c => hasC c (a : Int) from funext (some_refl ha)]
  cases l.any (fun c => hasC c (a : Int)) <;> rfl
theorem on_sub {n a b m : Nat} (hm : m ∈ onL n a b) {k : Nat} (hk : k ∈ onL n a m) : k ∈ onL n a b := by
  rw [mem_on] at hm hk ⊢
  exact ⟨hk.1, fun i hi e => hk.2 i hi (hm.2 i hi e).symm⟩
theorem bet_one {n a b m : Nat} (hm : m ∈ onL n a b) {l : List Cu} (h : betL n l a b = 1) : betL n l m m = 1 ∧ betL n l a m = 1 := by
  have hm2 := (mem_on.1 hm).1
  have h1 : l.any (allOn n a b) = true := by
    unfold betL at h
    cases h1 : l.any (allOn n a b) with
    | true => rfl
    | false => rw [h1] at h; cases h2 : l.any (someOn n a b) <;> rw [h2] at h <;> simp at h
  obtain ⟨c, hc, hall⟩ := List.any_eq_true.1 h1
  have hall := List.all_eq_true.1 hall
  constructor
  · rw [bet_self hm2, if_pos (List.any_eq_true.2 ⟨c, hc, hall m hm⟩)]
  · unfold betL
    rw [if_pos (List.any_eq_true.2 ⟨c, hc, List.all_eq_true.2 fun k hk => hall k (on_sub hm hk)⟩)]
theorem bet_zero {n a b m : Nat} (ha : a < 2 ^ n) (hm : m ∈ onL n a b) {l : List Cu} (h : betL n l a b = 0) : betL n l m m = 0 ∧ betL n l a m = 0 := by
  have hm2 := (mem_on.1 hm).1
  have h1 : l.any (someOn n a b) = false := by
    unfold betL at h
    cases h1 : l.any (someOn n a b) with
    | false => rfl
    | true => rw [h1] at h; cases h2 : l.any (allOn n a b) <;> rw [h2] at h <;> simp at h
  have hno : ∀ c ∈ l, ∀ k ∈ onL n a b, hasC c (k : Int) = false := fun c hc k hk => by
    cases hh : hasC c (k : Int) with
    | false => rfl
    | true => rw [List.any_eq_true.2 ⟨c, hc, List.any_eq_true.2 ⟨k, hk, hh⟩⟩] at h1; cases h1
  have f1 : l.any (fun c => hasC c (m : Int)) = false := by
    cases hh : l.any (fun c => hasC c (m : Int)) with
    | false => rfl
    | true => obtain ⟨c, hc, h2⟩ := List.any_eq_true.1 hh; rw [hno c hc m hm] at h2; cases h2
  constructor
  · rw [bet_self hm2, f1]; rfl
  · have f2 : l.any (someOn n a m) = false := by
      cases hh : l.any (someOn n a m) with
      | false => rfl
      | true =>
        obtain ⟨c, hc, h2⟩ := List.any_eq_true.1 hh
        obtain ⟨k, hk, h3⟩ := List.any_eq_true.1 h2
        rw [hno c hc k (on_sub hm hk)] at h3; cases h3
    have f3 : l.any (allOn n a m) = false := by
      cases hh : l.any (allOn n a m) with
      | false => rfl
      | true =>
        obtain ⟨c, hc, h2⟩ := List.any_eq_true.1 hh
        rw [List.any_eq_true.2 ⟨c, hc, all_some ha h2⟩] at f2; cases f2
    unfold betL
    rw [f3, f2]; rfl

/-- the point on the way that a number chooses -/
def midN (a b c : Nat) : Nat := ((uN a &&& ~~~ uN (a ^^^ b)) ||| (uN c &&& uN (a ^^^ b))).toNat
theorem mid_bit {a b c i : Nat} (hi : i < 64) : (midN a b c).testBit i = if a.testBit i = b.testBit i then a.testBit i else c.testBit i := by
  unfold midN
  rw [toNat_bit, BitVec.getLsbD_or, BitVec.getLsbD_and, BitVec.getLsbD_and, BitVec.getLsbD_not, uN_bit _ hi, uN_bit _ hi, uN_bit _ hi, Nat.testBit_xor]
  cases a.testBit i <;> cases b.testBit i <;> simp [hi]
theorem mid_on {n a b c : Nat} (hn : n ≤ 6) (ha : a < 2 ^ n) (hb : b < 2 ^ n) : midN a b c ∈ onL n a b := by
  refine mem_on.2 ⟨lt_of_bits fun i hi => ?_, fun i hi e => by rw [mid_bit (by omega), if_pos e]⟩
  by_cases h : i < 64
  · rw [mid_bit h, if_pos (by rw [bit_high ha hi, bit_high hb hi]), bit_high ha hi]
  · have : midN a b c < 2 ^ 64 := BitVec.isLt _
    exact bit_high this (by omega)
theorem mid_raw {a b c : Nat} (ha : a < 64) (hb : b < 64) (hc : c < 256) : bits .or .i64 (bits .andNot .i64 (a : Int) (bits .xor .i64 (a : Int) (b : Int))) (bits .and .i64 (c : Int) (bits .xor .i64 (a : Int) (b : Int))) = ((midN a b c : Nat) : Int) := by
  have l1 : (BitVec.ofNat 64 a &&& ~~~ BitVec.ofNat 64 (a ^^^ b)).toNat < 9223372036854775808 := by
    rw [BitVec.toNat_and]
    exact Nat.lt_of_le_of_lt Nat.and_le_left (by rw [BitVec.toNat_ofNat]; omega)
  have l2 : (BitVec.ofNat 64 c &&& BitVec.ofNat 64 (a ^^^ b)).toNat < 9223372036854775808 := by
    rw [BitVec.toNat_and]
    exact Nat.lt_of_le_of_lt Nat.and_le_left (by rw [BitVec.toNat_ofNat]; omega)
  rw [i_xor (by omega) (by omega), i_andNot (by omega), i_and (by omega), i_or l1 l2]
  unfold midN
  rw [BitVec.toNat_or]; rfl
theorem u8_lt (x : UInt8) : x.toNat < 256 := x.toNat_lt
theorem wrap_u8 (x : UInt8) : IntKind.i64.wrap (x.toNat : Int) = (x.toNat : Int) := i_wrap_nat (by have := u8_lt x; omega)
theorem rem_u8 (x : UInt8) (m : Nat) : (IntKind.i64.wrap (x.toNat : Int)).tmod (m : Int) = ((x.toNat % m : Nat) : Int) := by
  rw [wrap_u8]; exact (Int.ofNat_tmod _ _).symm

/- a change of a single variable -/
theorem all_flip {n a i : Nat} (ha : a < 2 ^ n) (hi : i < n) (c : Cu) : allOn n a (flip a i) c = (hasC c (a : Int) && hasC c (flip a i : Nat)) := by
  unfold allOn
  rw [Bool.eq_iff_iff, List.all_eq_true, Bool.and_eq_true]
  exact ⟨fun h => ⟨h a ((on_flip ha hi a).2 (.inl rfl)), h _ ((on_flip ha hi _).2 (.inr rfl))⟩, fun h k hk => by
    rcases (on_flip ha hi k).1 hk with rfl | rfl
    · exact h.1
    · exact h.2⟩
theorem some_flip {n a i : Nat} (ha : a < 2 ^ n) (hi : i < n) (c : Cu) : someOn n a (flip a i) c = (hasC c (a : Int) || hasC c (flip a i : Nat)) := by
  unfold someOn
  rw [Bool.eq_iff_iff, List.any_eq_true, Bool.or_eq_true]
  exact ⟨fun ⟨k, hk, h⟩ => by
    rcases (on_flip ha hi k).1 hk with rfl | rfl
    · exact .inl h
    · exact .inr h, fun h => h.elim (fun h => ⟨a, (on_flip ha hi a).2 (.inl rfl), h⟩) (fun h => ⟨_, (on_flip ha hi _).2 (.inr rfl), h⟩)⟩
theorem any_or {α : Type} (l : List α) (f g : α → Bool) : l.any (fun c => f c || g c) = (l.any f || l.any g) := by
  induction l with
  | nil => rfl
  | cons x l ih => simp only [List.any_cons, ih]; cases f x <;> cases g x <;> simp
theorem log_flip {n : Nat} (hn : n ≤ 6) (l : List Cu) {a i : Nat} (ha : a < 2 ^ n) (hi : i < n) :
    logL n l a (flip a i) = ((tabU l (2 ^ n)).getLsbD a && (tabU l (2 ^ n)).getLsbD (flip a i) && !togC l (a, flip a i)) := by
  have hb := flip_lt ha hi
  have e1 : steadyB n (tabU l (2 ^ n)) a (flip a i) = ((tabU l (2 ^ n)).getLsbD (flip a i) == (tabU l (2 ^ n)).getLsbD a) := by
    unfold steadyB
    rw [Bool.eq_iff_iff, List.all_eq_true]
    exact ⟨fun h => h _ ((on_flip ha hi _).2 (.inr rfl)), fun h k hk => by
      rcases (on_flip ha hi k).1 hk with rfl | rfl
      · simp
      · exact h⟩
  have e2 : l.any (allOn n a (flip a i)) = togC l (a, flip a i) := by
    unfold togC; congr 1; exact funext (all_flip ha hi)
  have e3 : l.any (someOn n a (flip a i)) = ((tabU l (2 ^ n)).getLsbD a || (tabU l (2 ^ n)).getLsbD (flip a i)) := by
    rw [tab_has hn l ha, tab_has hn l hb, ← any_or]; congr 1; exact funext (some_flip ha hi)
  unfold logL betL
  rw [e1, e2, e3]
  have e4 : togC l (a, flip a i) = true → (tabU l (2 ^ n)).getLsbD a = true := fun h => by
    obtain ⟨c, hc, h⟩ := List.any_eq_true.1 h
    rw [Bool.and_eq_true] at h
    rw [tab_has hn l ha]; exact List.any_eq_true.2 ⟨c, hc, h.1⟩
  revert e4
  cases togC l (a, flip a i) <;> cases (tabU l (2 ^ n)).getLsbD a <;> cases (tabU l (2 ^ n)).getLsbD (flip a i) <;> simp
theorem tog_swap (l : List Cu) (a b : Nat) : togC l (a, b) = togC l (b, a) := by
  unfold togC; congr 1; funext c; exact Bool.and_comm _ _
/-- a change of a single variable can be noticed just if it is a static hazard -/
theorem notice {n : Nat} (hn : n ≤ 6) (l : List Cu) {a i : Nat} (ha : a < 2 ^ n) (hi : i < n) :
    logL n l a (flip a i) = decide ((min a (flip a i), max a (flip a i)) ∈ badL n l) := by
  rw [log_flip hn l ha hi]
  have hb := flip_lt ha hi
  have key : ∀ lo, lo < 2 ^ n → lo.testBit i = false → ((lo, up lo i) ∈ badL n l ↔ ((tabU l (2 ^ n)).getLsbD lo && (tabU l (2 ^ n)).getLsbD (up lo i) && !togC l (lo, up lo i)) = true) := by
    intro lo hlo h0
    unfold badL
    rw [List.mem_filter, mem_pairs, Bool.and_eq_true, Bool.and_eq_true]
    constructor
    · rintro ⟨⟨a', i', _, _, _, h1, h2, e⟩, h3⟩
      obtain ⟨rfl, e2⟩ := Prod.ext_iff.1 e
      have e2 : up lo i = up lo i' := e2
      exact ⟨⟨h1, by rw [e2]; exact h2⟩, h3⟩
    · rintro ⟨⟨h1, h2⟩, h3⟩
      exact ⟨⟨lo, i, hlo, hi, h0, h1, h2, rfl⟩, h3⟩
  rw [Bool.eq_iff_iff, decide_eq_true_iff]
  cases h0 : a.testBit i with
  | false =>
    have h1 := lt_up h0
    rw [← up_flip h0, show min a (up a i) = a by omega, show max a (up a i) = up a i by omega, key a ha h0]
  | true =>
    have h1 := flip_down h0
    have h2 : (flip a i).testBit i = false := by rw [flip_bit, h0]; simp
    have h3 : up (flip a i) i = a := by rw [up_flip h2, flip_flip]
    have h4 := key (flip a i) hb h2
    rw [h3] at h4
    rw [show min a (flip a i) = flip a i by omega, show max a (flip a i) = a by omega, h4, tog_swap l a (flip a i)]
    cases (tabU l (2 ^ n)).getLsbD a <;> cases (tabU l (2 ^ n)).getLsbD (flip a i) <;> simp

end Go.Sx.Pn
