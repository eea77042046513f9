/- Cubes: what the program computes of words is what the reference finds by points and variables. -/
import Derived.Test.YtdkhdkldjpaadaaP30
set_option maxHeartbeats 1000000
set_option maxRecDepth 4000
set_option linter.unusedSimpArgs false
set_option linter.unusedVariables false
namespace Go.Sx.Pn
open Go Go.Proofs

theorem fnS_at {P : Program} {f : Nat} {α : Type} {args : α → List SV} {pre : α → Prop} {res : α → PV} (h : FnOk P f (fnS args pre res)) (a : α) (hp : pre a) {r : PV} (e : res a = r) :
    FnOk P f (fnS (fun _ : Unit => args a) (fun _ => True) (fun _ => r)) := by
  subst e
  exact ⟨h.1, fun _ _ E vs w hh hA => h.2 a hp E vs w hh hA⟩
theorem fnS_res {P : Program} {f : Nat} {α : Type} {args : α → List SV} {pre : α → Prop} {res res' : α → PV} (h : FnOk P f (fnS args pre res)) (e : ∀ a, pre a → res a = res' a) :
    FnOk P f (fnS args pre res') :=
  ⟨h.1, fun a hp E vs w hh hA => by
    have := h.2 a hp E vs w hh hA
    have e1 : (fnS args pre res).res a = (fnS args pre res').res a := e a hp
    rw [e1] at this; exact this⟩

/-- a right cube of n variables -/
structure Cu.Ok (n : Nat) (c : Cu) : Prop where
  care : c.care &&& ~~~ allU n = 0#64
  value : c.value &&& ~~~ c.care = 0#64
theorem Cu.Ok.care_bit {n : Nat} {c : Cu} (h : c.Ok n) (hn : n ≤ 6) {i : Nat} (hi : i < 64) (h1 : c.care.getLsbD i = true) : i < n := by
  have := (eq0_iff _).1 h.care i hi
  rw [BitVec.getLsbD_and, BitVec.getLsbD_not, allU_bit hn hi, h1] at this
  simpa [hi] using this
theorem Cu.Ok.value_bit {n : Nat} {c : Cu} (h : c.Ok n) {i : Nat} (hi : i < 64) (h1 : c.value.getLsbD i = true) : c.care.getLsbD i = true := by
  have := (eq0_iff _).1 h.value i hi
  rw [BitVec.getLsbD_and, BitVec.getLsbD_not, h1] at this
  simpa [hi] using this
theorem chk_ok {n : Nat} {c : Cu} (h : chkC (n : Int) c = 0) : n ≤ 6 ∧ c.Ok n := by
  obtain ⟨k, hk, e, h1, h2⟩ := chkC_zero h
  obtain rfl : n = k := by omega
  exact ⟨hk, h1, h2⟩

theorem ofInt_bit (k i : Nat) (hi : i < 64) : (BitVec.ofInt 64 (k : Int)).getLsbD i = k.testBit i := by
  rw [BitVec.ofInt_natCast, BitVec.getLsbD_ofNat]; simp [hi]
theorem has_iff {n : Nat} {c : Cu} (h : c.Ok n) (k : Nat) : hasC c (k : Int) = true ↔ ∀ i, i < 64 → c.care.getLsbD i = true → k.testBit i = c.value.getLsbD i := by
  rw [hasC, beq_iff_eq]
  constructor
  · intro e i hi hc
    have := congrArg (fun b : U => b.getLsbD i) e
    simp only [BitVec.getLsbD_and, ofInt_bit k i hi, hc, Bool.and_true] at this
    exact this
  · intro hall
    apply BitVec.eq_of_getLsbD_eq
    intro i hi
    rw [BitVec.getLsbD_and, ofInt_bit k i hi]
    cases hc : c.care.getLsbD i with
    | true => rw [Bool.and_true]; exact hall i hi hc
    | false =>
      cases hv : c.value.getLsbD i with
      | false => simp
      | true => rw [h.value_bit hi hv] at hc; cases hc

/-- the word of a cube's values is a point of it -/
theorem toNat_bit (x : U) {i : Nat} : x.toNat.testBit i = x.getLsbD i := by rw [BitVec.testBit_toNat]
theorem lt_pow {n : Nat} (hn : n ≤ 6) {x : U} (h : ∀ i, i < 64 → x.getLsbD i = true → i < n) : x.toNat < 2 ^ n := by
  apply Nat.lt_pow_two_of_testBit
  intro i hi
  rw [toNat_bit]
  cases hx : x.getLsbD i with
  | false => rfl
  | true =>
    have h64 : i < 64 := by
      rcases Nat.lt_or_ge i 64 with h1 | h1
      · exact h1
      · rw [BitVec.getLsbD_of_ge x i h1] at hx; cases hx
    have := h i h64 hx
    omega

theorem inside_eq {n : Nat} (hn : n ≤ 6) {a b : Cu} (ha : a.Ok n) (hb : b.Ok n) : withinC n a b = insideC a b := by
  have h64 := pow_le64 hn
  rw [Bool.eq_iff_iff, withinC, List.all_eq_true, insideC, Bool.and_eq_true, beq_iff_eq, beq_iff_eq, eq0_iff]
  constructor
  · intro h
    have within : ∀ k : Nat, k < 2 ^ n → hasC a (k : Int) = true → hasC b (k : Int) = true := fun k hk hh => by
      have := h k (List.mem_range.2 hk)
      rw [wAt, hh] at this; simpa using this
    have hva : ∀ i, i < 64 → a.value.getLsbD i = true → i < n := fun i hi hv => ha.care_bit hn hi (ha.value_bit hi hv)
    have p1 : hasC a (a.value.toNat : Int) = true := (has_iff ha _).2 fun i hi _ => toNat_bit _
    have p2 := (has_iff hb _).1 (within _ (lt_pow hn hva) p1)
    constructor
    · intro i hi
      rw [BitVec.getLsbD_and, BitVec.getLsbD_not]
      cases hbi : b.care.getLsbD i with
      | false => simp
      | true =>
        cases hai : a.care.getLsbD i with
        | true => simp
        | false =>
          exfalso
          have hin := hb.care_bit hn hi hbi
          have hav : a.value.getLsbD i = false := by
            cases hv : a.value.getLsbD i with
            | false => rfl
            | true => rw [ha.value_bit hi hv] at hai; cases hai
          have hbit : ∀ j, j < 64 → (a.value ||| 1#64 <<< i).getLsbD j = (a.value.getLsbD j || decide (j = i)) := fun j hj => by
            rw [BitVec.getLsbD_or, shl1_bit hi]
          have q1 : hasC a ((a.value ||| 1#64 <<< i).toNat : Int) = true := (has_iff ha _).2 fun j hj hc => by
            rw [toNat_bit, hbit j hj]
            have : j ≠ i := fun e => by rw [e, hai] at hc; cases hc
            simp [this]
          have q2 := (has_iff hb _).1 (within _ (lt_pow hn fun j hj hv => by
            rw [hbit j hj, Bool.or_eq_true, decide_eq_true_eq] at hv
            rcases hv with hv | rfl
            · exact hva j hj hv
            · exact hin) q1) i hi hbi
          rw [toNat_bit, hbit i hi] at q2
          have q3 := p2 i hi hbi
          rw [toNat_bit, hav] at q3
          rw [hav, ← q3] at q2
          simp at q2
    · apply BitVec.eq_of_getLsbD_eq
      intro i hi
      rw [BitVec.getLsbD_and]
      cases hbi : b.care.getLsbD i with
      | true =>
        have q3 := p2 i hi hbi
        rw [toNat_bit] at q3
        rw [Bool.and_true]; exact q3
      | false =>
        cases hv : b.value.getLsbD i with
        | false => simp
        | true => rw [hb.value_bit hi hv] at hbi; cases hbi
  · rintro ⟨h1, h2⟩ k hk
    rw [wAt]
    cases hh : hasC a (k : Int) with
    | false => rfl
    | true =>
      have p := (has_iff ha _).1 hh
      have : hasC b (k : Int) = true := (has_iff hb _).2 fun i hi hbi => by
        have h3 := h1 i hi
        rw [BitVec.getLsbD_and, BitVec.getLsbD_not, hbi] at h3
        have hai : a.care.getLsbD i = true := by simpa [hi] using h3
        have h4 := congrArg (fun b : U => b.getLsbD i) h2
        simp only [BitVec.getLsbD_and, hbi, Bool.and_true] at h4
        rw [p i hi hai, h4]
      rw [this]; rfl

theorem against_bit (a b : Cu) (i : Nat) : (againstC a b).getLsbD i = oppAt a b i := by
  rw [againstC, BitVec.getLsbD_and, BitVec.getLsbD_xor, oppAt]
theorem opp_range {n : Nat} (hn : n ≤ 6) {a b : Cu} (ha : a.Ok n) {i : Nat} (hi : i < 64) (h : oppAt a b i = true) : i < n := by
  rw [oppAt, BitVec.getLsbD_and, Bool.and_eq_true, Bool.and_eq_true] at h
  exact ha.care_bit hn hi h.1.1
theorem opp_zero {n : Nat} (hn : n ≤ 6) {a b : Cu} (ha : a.Ok n) : (oppL a b n).length = 0 ↔ againstC a b = 0#64 := by
  rw [eq0_iff, List.length_eq_zero_iff, oppL, List.filter_eq_nil_iff]
  constructor
  · intro h i hi
    rw [against_bit]
    cases ho : oppAt a b i with
    | false => rfl
    | true => exact absurd ho (h i (List.mem_range.2 (opp_range hn ha hi ho)))
  · intro h i hi ho
    have hi := List.mem_range.1 hi
    have := h i (by omega)
    rw [against_bit, ho] at this; cases this
theorem meet_eq (n : Int) (a b : Cu) : rMeetC n a b = meetC n a b := by
  unfold rMeetC meetC
  by_cases h : chk2 n a b = 0
  · obtain ⟨k, hk, rfl, h1, h2⟩ := chkC_zero (chk2_zero h).1
    have := opp_zero hk (a := a) (b := b) ⟨h1, h2⟩
    simp only [h, if_true, Int.toNat_natCast, this]
    rfl
  · simp only [h, if_false]

theorem pop_count {x : U} (h : x.toNat < 64) : popU x = ((List.range 6).filter x.getLsbD).length := by
  have key : ∀ m : Nat, m < 64 → Lib.onesCount m = ((List.range 6).filter (BitVec.ofNat 64 m).getLsbD).length := by decide +kernel
  have := key x.toNat h
  rw [BitVec.ofNat_toNat, BitVec.setWidth_eq] at this
  unfold popU
  exact this
theorem opp_pop {n : Nat} (hn : n ≤ 6) {a b : Cu} (ha : a.Ok n) : (oppL a b n).length = popU (againstC a b) := by
  rw [pop_count (against_lt hn ha.care), oppL]
  have e : (againstC a b).getLsbD = oppAt a b := funext fun i => against_bit a b i
  rw [e]
  have step : ∀ m, n ≤ m → m ≤ 6 → ((List.range m).filter (oppAt a b)).length = ((List.range n).filter (oppAt a b)).length := by
    intro m hm
    induction hm with
    | refl => intro _; rfl
    | @step k hk ih =>
      intro h6
      rw [← ih (by omega)]
      have hk' : n ≤ k := hk
      have : oppAt a b k = false := by
        cases ho : oppAt a b k with
        | false => rfl
        | true => have := opp_range hn ha (show k < 64 by omega) ho; omega
      rw [← filt_no this]
  exact (step 6 hn (Nat.le_refl _)).symm
theorem cons_eq (n : Int) (a b : Cu) : rConsC n a b = consC n a b := by
  unfold rConsC consC
  by_cases h : chk2 n a b = 0
  · obtain ⟨k, hk, rfl, h1, h2⟩ := chkC_zero (chk2_zero h).1
    have ha : a.Ok k := ⟨h1, h2⟩
    have hp := opp_pop hk (a := a) (b := b) ha
    simp only [h, if_true, Int.toNat_natCast, hp]
    by_cases h3 : popU (againstC a b) = 1
    · rw [if_pos h3, if_pos h3]
      rw [h3] at hp
      obtain ⟨i, hi⟩ := List.length_eq_one_iff.1 hp
      have hmem : i ∈ oppL a b k := by rw [hi]; simp
      rw [oppL, List.mem_filter] at hmem
      have hik := List.mem_range.1 hmem.1
      have e : againstC a b = 1#64 <<< i := by
        apply BitVec.eq_of_getLsbD_eq
        intro j hj
        rw [against_bit, shl1_bit (by omega)]
        by_cases e : j = i
        · subst e; simp [hmem.2]
        · cases ho : oppAt a b j with
          | false => simp [e]
          | true =>
            have : j ∈ oppL a b k := by rw [oppL, List.mem_filter]; exact ⟨List.mem_range.2 (opp_range hk ha hj ho), ho⟩
            rw [hi] at this
            simp at this; exact absurd this e
      rw [hi, e]
      rfl
    · rw [if_neg h3, if_neg h3]
  · simp only [h, if_false]

theorem rInside_ok' : FnOk Try.prog 30 InsideS :=
  fnS_res rInside_ok fun x _ => by
    obtain ⟨n, a, b⟩ := x
    by_cases h : chk2 n a b = 0
    · obtain ⟨k, hk, rfl, h1, h2⟩ := chkC_zero (chk2_zero h).1
      obtain ⟨_, hb⟩ := chk_ok (chk2_zero h).2
      simp only [h, if_true, Int.toNat_natCast, inside_eq hk ⟨h1, h2⟩ hb]
    · simp only [h, if_false]
theorem rMeet_ok' : FnOk Try.prog 32 MeetS :=
  fnS_res rMeet_ok fun x _ => by rw [meet_eq]
theorem rCons_ok' : FnOk Try.prog 34 ConsS :=
  fnS_res rCons_ok fun x _ => by rw [cons_eq]

end Go.Sx.Pn
