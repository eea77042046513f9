/- Chapter 7: renamed and turned tasks have least forms of the same size. -/
import Derived.Test.YtmjfhoidokajpaaGreatM15
set_option maxHeartbeats 1000000
set_option maxRecDepth 4000
set_option linter.unusedSimpArgs false
set_option linter.unusedVariables false
set_option linter.unusedSectionVars false
namespace Go.Sx.Pn
open Go Go.Proofs

instance (n : Nat) (c : Cu) : Decidable (c.Ok n) := decidable_of_iff (c.care &&& ~~~ allU n = 0#64 ∧ c.value &&& ~~~ c.care = 0#64) ⟨fun h => ⟨h.1, h.2⟩, fun h => ⟨h.1, h.2⟩⟩
/-- points and cubes moved -/
def movOk (n : Nat) (p : Nat → Nat) (F : Cu → Cu) : Bool :=
  ((List.range (2 ^ n)).all fun k => decide (p k < 2 ^ n) && decide (p (p k) = k)) &&
  (cubesL n).all fun c => decide ((F c).Ok n) && decide (popU (F c).care = popU c.care) && (List.range (2 ^ n)).all fun k => hasC (F c) (k : Int) == hasC c ((p k : Nat) : Int)
structure Mov (n : Nat) (p : Nat → Nat) (F : Cu → Cu) : Prop where
  lt : ∀ k, k < 2 ^ n → p k < 2 ^ n
  inv : ∀ k, k < 2 ^ n → p (p k) = k
  ok : ∀ c : Cu, c.Ok n → (F c).Ok n
  pop : ∀ c : Cu, c.Ok n → popU (F c).care = popU c.care
  has : ∀ c : Cu, c.Ok n → ∀ k, k < 2 ^ n → hasC (F c) ((k : Nat) : Int) = hasC c ((p k : Nat) : Int)
theorem mov_of {n : Nat} (hn : n ≤ 6) {p : Nat → Nat} {F : Cu → Cu} (h : movOk n p F = true) : Mov n p F := by
  unfold movOk at h
  rw [Bool.and_eq_true, List.all_eq_true, List.all_eq_true] at h
  obtain ⟨h1, h2⟩ := h
  have g1 : ∀ k, k < 2 ^ n → p k < 2 ^ n ∧ p (p k) = k := fun k hk => by
    have := h1 k (List.mem_range.2 hk)
    simpa using this
  have g2 : ∀ c : Cu, c.Ok n → ((F c).Ok n ∧ popU (F c).care = popU c.care) ∧ ∀ k, k < 2 ^ n → hasC (F c) ((k : Nat) : Int) = hasC c ((p k : Nat) : Int) := fun c hc => by
    have := h2 c (mem_cubes hn hc)
    rw [Bool.and_eq_true, Bool.and_eq_true, decide_eq_true_iff, decide_eq_true_iff, List.all_eq_true] at this
    exact ⟨this.1, fun k hk => beq_iff_eq.1 (this.2 k (List.mem_range.2 hk))⟩
  exact ⟨fun k hk => (g1 k hk).1, fun k hk => (g1 k hk).2, fun c hc => (g2 c hc).1.1, fun c hc => (g2 c hc).1.2, fun c hc => (g2 c hc).2⟩
theorem litL_map {F : Cu → Cu} : ∀ l : List Cu, (∀ c ∈ l, popU (F c).care = popU c.care) → litL (l.map F) = litL l
  | [], _ => rfl
  | c :: l, h => by
    rw [List.map_cons, litL_cons, litL_cons, h c (List.mem_cons_self ..), litL_map l fun d hd => h d (List.mem_cons_of_mem _ hd)]
theorem half_least {n : Nat} (hn : n ≤ 4) {x y : Tk} {p : Nat → Nat} {F : Cu → Cu} (h : Mov n p F) (hon : ∀ k, k < 2 ^ n → y.on.bits.getLsbD k = x.on.bits.getLsbD (p k)) (hfr : ∀ k, k < 2 ^ n → y.free.bits.getLsbD k = x.free.bits.getLsbD (p k)) :
    (leaL y n (primesL n y)).length < (leaL x n (primesL n x)).length ∨ (leaL y n (primesL n y)).length = (leaL x n (primesL n x)).length ∧ litW (primesL n y) (leaL y n (primesL n y)) ≤ litW (primesL n x) (leaL x n (primesL n x)) := by
  have hB := lea_best4 hn x
  have hok : ∀ c ∈ wchL (primesL n x) (leaL x n (primesL n x)), c.Ok n ∧ impliesU n x c = true := fun c hc => by
    obtain ⟨i, hi, rfl⟩ := List.mem_map.1 hc
    have := prime_at (show n ≤ 6 by omega) x (hB.idx i hi)
    exact ⟨this.1, (prime_parts this.2).2.1⟩
  have hl := least_form hn (x := y) (l := (wchL (primesL n x) (leaL x n (primesL n x))).map F)
    (fun c hc => by obtain ⟨d, hd, rfl⟩ := List.mem_map.1 hc; exact h.ok d (hok d hd).1)
    (fun c hc => by
      obtain ⟨d, hd, rfl⟩ := List.mem_map.1 hc
      rw [implies_iff (by omega)]
      intro k hk hh
      rw [h.has d (hok d hd).1 k hk] at hh
      have := (implies_iff (by omega) x d).1 (hok d hd).2 (p k) (h.lt k hk) hh
      rw [BitVec.getLsbD_or] at this ⊢
      rw [hon k hk, hfr k hk]; exact this)
    (fun k hk ho => by
      rw [onW_bit hk, hon k hk] at ho
      obtain ⟨i, hi, hh⟩ := hB.cov (p k) (h.lt k hk) (by rw [onW_bit (h.lt k hk)]; exact ho)
      have hm : (primesL n x).getD i ⟨0, 0⟩ ∈ wchL (primesL n x) (leaL x n (primesL n x)) := List.mem_map.2 ⟨i, hi, rfl⟩
      exact ⟨_, List.mem_map.2 ⟨_, hm, rfl⟩, by rw [h.has _ (hok _ hm).1 k hk]; exact hh⟩)
  rw [List.length_map, wch_len, litL_map _ fun c hc => h.pop c (hok c hc).1] at hl
  exact hl
theorem same_least {n : Nat} (hn : n ≤ 4) {x y : Tk} {p : Nat → Nat} {F : Cu → Cu} (h : Mov n p F) (hon : ∀ k, k < 2 ^ n → y.on.bits.getLsbD k = x.on.bits.getLsbD (p k)) (hfr : ∀ k, k < 2 ^ n → y.free.bits.getLsbD k = x.free.bits.getLsbD (p k)) :
    (leaL y n (primesL n y)).length = (leaL x n (primesL n x)).length ∧ litW (primesL n y) (leaL y n (primesL n y)) = litW (primesL n x) (leaL x n (primesL n x)) := by
  have h1 := half_least hn h hon hfr
  have h2 := half_least hn (x := y) (y := x) h (fun k hk => by rw [hon _ (h.lt k hk), h.inv k hk]) (fun k hk => by rw [hfr _ (h.lt k hk), h.inv k hk])
  omega

/- variables exchanged -/
def swL (n i k : Nat) : List Int := (List.range n).map fun j => ((if j = i then k else if j = k then i else j : Nat) : Int)
def swP (n i k x : Nat) : Nat := renY (swL n i k) x n
def swC (n i k : Nat) (c : Cu) : Cu := ⟨uN (swP n i k c.care.toNat), uN (swP n i k c.value.toNat)⟩
theorem sw_all : (List.range 5).all (fun n => (List.range n).all fun i => (List.range n).all fun k => movOk n (swP n i k) (swC n i k) && decide (renE n (swL n i k) n = 0)) = true := by unfold movOk popU; decide +kernel
theorem sw_mov {n i k : Nat} (hn : n ≤ 4) (hi : i < n) (hk : k < n) : Mov n (swP n i k) (swC n i k) ∧ renE n (swL n i k) n = 0 := by
  have h := List.all_eq_true.1 (List.all_eq_true.1 (List.all_eq_true.1 sw_all n (List.mem_range.2 (by omega))) i (List.mem_range.2 hi)) k (List.mem_range.2 hk)
  rw [Bool.and_eq_true, decide_eq_true_iff] at h
  exact ⟨mov_of (by omega) h.1, h.2⟩
theorem swL_len (n i k : Nat) : (swL n i k).length = n := by unfold swL; simp
theorem swL_get {n i k j : Nat} (hj : j < n) : (swL n i k).getD j 0 = ((if j = i then k else if j = k then i else j : Nat) : Int) := by
  unfold swL
  rw [List.getD_eq_getElem?_getD, List.getElem?_map, List.getElem?_range hj]; rfl
theorem bitsU_bit (q : Nat → Bool) : ∀ (m : Nat), m ≤ 64 → ∀ i, (bitsU q m).getLsbD i = (decide (i < m) && q i)
  | 0, _, i => by simp [bitsU]
  | m + 1, hm, i => by
    have ih := bitsU_bit q m (by omega) i
    have hs : (1#64 <<< m : U).getLsbD i = decide (i = m) := by
      rw [BitVec.getLsbD_shiftLeft, BitVec.getLsbD_one]
      by_cases h : i = m
      · subst h; simp; omega
      · simp [h]; omega
    rw [bitsU]
    split
    · rename_i hq
      rw [BitVec.getLsbD_or, ih, hs]
      by_cases h : i = m
      · subst h; simp [hq]
      · have : decide (i < m + 1) = decide (i < m) := by simp; omega
        simp [h, this]
    · rename_i hq
      rw [ih]
      by_cases h : i = m
      · subst h; simp [hq]
      · have : decide (i < m + 1) = decide (i < m) := by simp; omega
        rw [this]
def swU (n i k : Nat) (b : U) : U := bitsU (renQ (swL n i k) n b) (2 ^ n)
theorem swU_bit {n i k : Nat} (hn : n ≤ 6) (b : U) (j : Nat) : (swU n i k b).getLsbD j = (decide (j < 2 ^ n) && b.getLsbD (swP n i k j)) := by
  unfold swU
  rw [bitsU_bit _ _ (pow_le64 hn), renQ, swL_len]; rfl

/- the values of a variable exchanged -/
def fl (i x : Nat) : Nat := x ^^^ 2 ^ i
def flC (i : Nat) (c : Cu) : Cu := ⟨c.care, c.value ^^^ (c.care &&& uN (2 ^ i))⟩
theorem fl_all : (List.range 5).all (fun n => (List.range n).all fun i => movOk n (fl i) (flC i)) = true := by unfold movOk popU; decide +kernel
theorem fl_mov {n i : Nat} (hn : n ≤ 4) (hi : i < n) : Mov n (fl i) (flC i) :=
  mov_of (by omega) (List.all_eq_true.1 (List.all_eq_true.1 fl_all n (List.mem_range.2 (by omega))) i (List.mem_range.2 hi))
def tuU (b : U) (i : Nat) : Nat → U
  | 0 => 0#64
  | p + 1 => tuU b i p ||| (b >>> p &&& 1#64) <<< (fl i p)
theorem tuU_bit {i : Nat} (hi : i < 6) (b : U) {q : Nat} (hq : q < 64) : ∀ m, m ≤ 64 → (tuU b i m).getLsbD q = (decide (fl i q < m) && b.getLsbD (fl i q))
  | 0, _ => by simp [tuU]
  | m + 1, hm => by
    have hf : ∀ x, x < 64 → fl i x < 64 := fun x hx => Nat.xor_lt_two_pow (n := 6) hx (Nat.pow_lt_pow_right (by decide) hi)
    have hff : fl i (fl i q) = q := by unfold fl; rw [Nat.xor_assoc, Nat.xor_self, Nat.xor_zero]
    rw [tuU, BitVec.getLsbD_or, tuU_bit hi b hq m (by omega), BitVec.getLsbD_shiftLeft, BitVec.getLsbD_and, BitVec.getLsbD_one]
    by_cases e : fl i q = m
    · have e2 : fl i m = q := by rw [← e]; exact hff
      rw [e2, e]
      simp [hq, BitVec.getLsbD_ushiftRight]
    · have e2 : ¬ fl i m = q := fun h => e (by rw [← h]; unfold fl; rw [Nat.xor_assoc, Nat.xor_self, Nat.xor_zero])
      have e3 : decide (fl i q < m + 1) = decide (fl i q < m) := decide_eq_decide.2 (by omega)
      rw [e3]
      have e4 : (!decide (q < fl i m) && (decide (0 < 64) && decide (q - fl i m = 0))) = false := by
        by_cases h1 : q < fl i m
        · simp [h1]
        · have : ¬ q - fl i m = 0 := by omega
          simp [this]
      cases h5 : decide (q < fl i m) <;> cases h6 : decide (q - fl i m = 0) <;> simp_all
def turnU (n : Nat) (b : U) (i : Nat) : U := tuU b i (2 ^ n)
theorem turn_bit {n i : Nat} (hn : n ≤ 4) (hi : i < n) (b : U) {q : Nat} (hq : q < 2 ^ n) : (turnU n b i).getLsbD q = b.getLsbD (fl i q) := by
  have h64 := pow_le64 (show n ≤ 6 by omega)
  rw [turnU, tuU_bit (by omega) b (by omega) _ h64, decide_eq_true ((fl_mov hn hi).lt q hq), Bool.true_and]
theorem turn_high {n i : Nat} (hn : n ≤ 4) (hi : i < n) (b : U) {q : Nat} (hq : 2 ^ n ≤ q) (h64q : q < 64) : (turnU n b i).getLsbD q = false := by
  have h64 := pow_le64 (show n ≤ 6 by omega)
  rw [turnU, tuU_bit (by omega) b h64q _ h64]
  have : ¬ fl i q < 2 ^ n := fun h => by
    have := (fl_mov hn hi).lt _ h
    unfold fl at this
    rw [Nat.xor_assoc, Nat.xor_self, Nat.xor_zero] at this; omega
  rw [decide_eq_false this]; rfl
/-- a right task, moved -/
theorem moved_right {n : Nat} (hn : n ≤ 4) {x : Tk} (h : chkK x = 0) (hx : x.on.n = n) {p : Nat → Nat} {F : Cu → Cu} (hm : Mov n p F) {a b : U}
    (ha : ∀ k, k < 2 ^ n → a.getLsbD k = x.on.bits.getLsbD (p k)) (hb : ∀ k, k < 2 ^ n → b.getLsbD k = x.free.bits.getLsbD (p k)) (ha2 : ∀ k, 2 ^ n ≤ k → k < 64 → a.getLsbD k = false) (hb2 : ∀ k, 2 ^ n ≤ k → k < 64 → b.getLsbD k = false) :
    chkK ⟨⟨n, a⟩, ⟨n, b⟩⟩ = 0 ∧ (mformR ⟨⟨n, a⟩, ⟨n, b⟩⟩).length = (mformR x).length ∧ litL (mformR ⟨⟨n, a⟩, ⟨n, b⟩⟩) = litL (mformR x) := by
  have h0 := (chkK_zero h).2.2.2
  have hc : chkK ⟨⟨n, a⟩, ⟨n, b⟩⟩ = 0 := by
    rw [chkK, if_pos (chkT_of (by omega) ha2), if_pos (chkT_of (by omega) hb2), if_pos rfl, if_pos]
    apply BitVec.eq_of_getLsbD_eq
    intro k hk
    rw [BitVec.getLsbD_and, BitVec.getLsbD_zero]
    by_cases hk2 : k < 2 ^ n
    · show (a.getLsbD k && b.getLsbD k) = false
      rw [ha k hk2, hb k hk2, ← BitVec.getLsbD_and, h0, BitVec.getLsbD_zero]
    · show (a.getLsbD k && b.getLsbD k) = false
      rw [ha2 k (by omega) hk]; rfl
  obtain ⟨_, n1, _, h1, e1⟩ := right_parts h (by omega)
  obtain ⟨_, n2, _, h2, e2⟩ := right_parts hc (by show (n : Int) ≤ 4; omega)
  obtain rfl : n = n1 := by omega
  obtain rfl : n = n2 := by have : (n : Int) = n2 := h2; omega
  have hs := same_least hn (x := x) (y := ⟨⟨n, a⟩, ⟨n, b⟩⟩) hm ha hb
  refine ⟨hc, ?_, ?_⟩
  · rw [e1, e2, wch_len, wch_len]; exact hs.1
  · rw [e1, e2]; exact hs.2

/- a bit turned -/
def flS : Spec := fnS (fun y : Nat × Nat => [iA y.1, iA y.2, bA (!y.1.testBit y.2)]) (fun y => y.1 < 64 ∧ y.2 < 6) (fun y => iP (fl y.2 y.1 : Nat))
theorem fl_tab : (List.range 64).all (fun p => (List.range 6).all fun i => decide ((fl i p : Int) = if p.testBit i then (p : Int) - (2 ^ i : Nat) else (p : Int) + (2 ^ i : Nat))) = true := by decide +kernel
theorem fl_eq {p i : Nat} (hp : p < 64) (hi : i < 6) : (fl i p : Int) = if p.testBit i then (p : Int) - (2 ^ i : Nat) else (p : Int) + (2 ^ i : Nat) :=
  of_decide_eq_true (List.all_eq_true.1 (List.all_eq_true.1 fl_tab p (List.mem_range.2 hp)) i (List.mem_range.2 hi))
theorem fl_ok : FnOk Tryz.prog 23 flS := by
  refine fnOk (Tb := tab) mixed tab_ok Tryz.func23 rfl rfl ?_
  rintro ⟨p, i⟩ hpre
  refine ai (ai rfl (ai rfl rfl)) ?_
  obtain ⟨hp, hi⟩ : p < 64 ∧ i < 6 := hpre
  have h2 : 2 ^ i ≤ 2 ^ 6 := Nat.pow_le_pow_right (by decide) (by omega)
  have hf := fl_eq hp hi
  have hlt : fl i p < 64 := Nat.xor_lt_two_pow (n := 6) hp (Nat.pow_lt_pow_right (by decide) hi)
  refine ei _ (ai rhas_ok (ei ((p, i)) (ei [] (ai (ai rfl (ai rfl (ai rfl (ai rfl (ai (fun _ => Or.inl rfl) (ai (by first | exact nof | exact (fun _ => ai rfl rfl)) (by first | exact Or.inl rfl | exact Or.inr rfl))))))) (ai (by (repeat' (first | with_reducible rfl | exact trivial | refine ai ?_ ?_ | (show (_ : Int) = _; first | with_reducible rfl | exact wr1 (by omega) | (simp only [zz, reduceCtorEq] <;> first | done | rfl | omega) | omega | rfl) | exact rfl | exact (fun _ => rfl) | exact (fun _ _ => rfl) | exact nof))) (ai trivial (ai (⟨hp, by show i < 64; omega⟩) ?_)))))))
  refine bcase_b (b := false) (by show (p.testBit i == !p.testBit i) = false; cases p.testBit i <;> rfl) (fun h => absurd h (by decide)) (fun _ => ?_)
  cases hb : p.testBit i with
  | false =>
    rw [hb] at hf
    refine bcase_b (b := true) (by show (!p.testBit i) = true; rw [hb]; rfl) (fun _ => ?_) (fun h => absurd h (by decide))
    repeat (refine ai (by first | exact Int.natCast_nonneg _ | omega | exact ai (Int.natCast_nonneg _) (by omega)) ?_)
    refine ai (ai (fun _ => trivial) ?_) trivial
    show IntKind.i64.wrap ((p : Int) + IntKind.i64.wrap (1 * 2 ^ min (i : Int).toNat IntKind.i64.bits)) = ((fl i p : Nat) : Int)
    rw [pow6 (show i ≤ 6 by omega), hf, wrap_i _ (by omega) (by omega)]; rfl
  | true =>
    rw [hb] at hf
    refine bcase_b (b := false) (by show (!p.testBit i) = false; rw [hb]; rfl) (fun h => absurd h (by decide)) (fun _ => ?_)
    repeat (refine ai (by first | exact Int.natCast_nonneg _ | omega | exact ai (Int.natCast_nonneg _) (by omega)) ?_)
    refine ai (ai (fun _ => trivial) ?_) trivial
    show IntKind.i64.wrap ((p : Int) - IntKind.i64.wrap (1 * 2 ^ min (i : Int).toNat IntKind.i64.bits)) = ((fl i p : Nat) : Int)
    rw [pow6 (show i ≤ 6 by omega), hf, wrap_i _ (by omega) (by omega)]; rfl

end Go.Sx.Pn
