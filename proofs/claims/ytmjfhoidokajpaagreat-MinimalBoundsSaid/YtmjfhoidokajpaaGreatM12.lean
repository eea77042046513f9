/- Chapter 7: both least forms are the same; MinimalForms, walked. -/
import Derived.Test.YtmjfhoidokajpaaGreatM11
set_option maxHeartbeats 1000000
set_option maxRecDepth 4000
set_option linter.unusedSimpArgs false
set_option linter.unusedVariables false
set_option linter.unusedSectionVars false
namespace Go.Sx.Pn
open Go Go.Proofs

theorem pts_wid4 : (List.range 5).all (fun n => (cubesL n).all fun c => decide ((ptN n c).length ≤ 2 ^ (n - popU c.care))) = true := by unfold popU; decide +kernel
theorem pts_wid {n : Nat} (hn : n ≤ 4) {c : Cu} (hc : c.Ok n) : (ptN n c).length ≤ 2 ^ (n - popU c.care) := by
  have h1 := List.all_eq_true.1 pts_wid4 n (List.mem_range.2 (by omega))
  exact of_decide_eq_true (List.all_eq_true.1 h1 c (mem_cubes (by omega) hc))
theorem wid_mono (n : Nat) (L : List Cu) {j : Nat} : ∀ {k : Nat}, j ≤ k → widTo n L j ≤ widTo n L k
  | 0, h => by obtain rfl : j = 0 := by omega
               exact Nat.le_refl _
  | k + 1, h => by
    by_cases e : j = k + 1
    · subst e; exact Nat.le_refl _
    · rw [widTo]
      have := wid_mono n L (show j ≤ k by omega)
      omega
theorem wid_le {n : Nat} {L : List Cu} {i : Nat} (hi : i < L.length) : 2 ^ (n - popU (L.getD i ⟨0, 0⟩).care) ≤ widL n L := by
  have h1 := wid_mono n L (show i + 1 ≤ L.length by omega)
  rw [widTo] at h1
  unfold widL
  omega
theorem onW_bit {x : Tk} {n k : Nat} (hk : k < 2 ^ n) : onW x n k = x.on.bits.getLsbD k := by
  show (decide ((0 : Int) ≤ (k : Nat)) && decide (((k : Nat) : Int) < (2 ^ n : Nat)) && x.on.bits.getLsbD k) = _
  rw [decide_eq_true (show (0 : Int) ≤ (k : Nat) by omega), decide_eq_true (show ((k : Nat) : Int) < (2 ^ n : Nat) by omega)]; rfl
theorem primes_all {n : Nat} (hn : n ≤ 6) (x : Tk) : Cov x n (primesL n x) (List.range (primesL n x).length) := by
  intro k hk hon
  rw [onW_bit hk] at hon
  have := primes_cover hn x hk hon
  obtain ⟨i, hi, h⟩ := (once_any hn _ hk _).1 this
  exact ⟨i, List.mem_range.2 hi, h⟩
theorem lea_best4 {n : Nat} (hn : n ≤ 4) (x : Tk) : Best x n (primesL n x) (leaL x n (primesL n x)) :=
  lea_best (fun i hi => Nat.le_trans (pts_wid hn (prime_at (show n ≤ 6 by omega) x hi).1) (wid_le hi)) (primes_all (by omega) x)

/- the bits of a number, as a list -/
def bitsF (w s m : Nat) : List Nat := (List.range' s m).filter fun i => w.testBit i
def bitsL (w m : Nat) : List Nat := (List.range m).filter fun i => w.testBit i
theorem bitsF_lt : ∀ (m s w b : Nat), (bitsF w s m).length = (bitsF b s m).length → (bitsF w s m < bitsF b s m ↔ (match (List.range' s m).find? (fun i => w.testBit i != b.testBit i) with | some i => w.testBit i | none => false) = true)
  | 0, s, w, b, _ => by
    simp only [bitsF, List.range'_zero, List.filter_nil, List.find?_nil]
    simp
  | m + 1, s, w, b, h => by
    have lt_of : ∀ (w b : Nat), b.testBit s = false → (bitsF b s (m + 1)).length = (bitsF w (s + 1) m).length + 1 → s :: bitsF w (s + 1) m < bitsF b s (m + 1) := by
      intro w b hb hl
      have e : bitsF b s (m + 1) = bitsF b (s + 1) m := by rw [bitsF, List.range'_succ, List.filter_cons, hb]; rfl
      rw [e] at hl ⊢
      cases hB : bitsF b (s + 1) m with
      | nil => rw [hB] at hl; simp at hl
      | cons c B =>
        rw [List.cons_lt_cons_iff]
        left
        have : c ∈ bitsF b (s + 1) m := by rw [hB]; exact List.mem_cons_self ..
        have := (List.mem_range'_1.1 (List.mem_filter.1 this).1).1
        omega
    cases hw : w.testBit s <;> cases hb : b.testBit s
    · have e1 : bitsF w s (m + 1) = bitsF w (s + 1) m := by rw [bitsF, List.range'_succ, List.filter_cons, hw]; rfl
      have e2 : bitsF b s (m + 1) = bitsF b (s + 1) m := by rw [bitsF, List.range'_succ, List.filter_cons, hb]; rfl
      rw [e1, e2] at h ⊢
      rw [bitsF_lt m (s + 1) w b h, List.range'_succ, List.find?_cons, hw, hb]; rfl
    · have e2 : bitsF b s (m + 1) = s :: bitsF b (s + 1) m := by rw [bitsF, List.range'_succ, List.filter_cons, hb]; rfl
      have h1 := lt_of b w hw (by rw [h, e2]; rfl)
      rw [← e2] at h1
      rw [List.range'_succ, List.find?_cons, hw, hb]
      constructor
      · intro h2; exact absurd (List.lt_trans h1 h2) (List.lt_irrefl _)
      · intro h2
        simp only [Bool.false_bne] at h2
        rw [hw] at h2; cases h2
    · have e1 : bitsF w s (m + 1) = s :: bitsF w (s + 1) m := by rw [bitsF, List.range'_succ, List.filter_cons, hw]; rfl
      have h1 := lt_of w b hb (by rw [← h, e1]; rfl)
      rw [← e1] at h1
      rw [List.range'_succ, List.find?_cons, hw, hb]
      constructor
      · intro _; exact hw
      · intro _; exact h1
    · have e1 : bitsF w s (m + 1) = s :: bitsF w (s + 1) m := by rw [bitsF, List.range'_succ, List.filter_cons, hw]; rfl
      have e2 : bitsF b s (m + 1) = s :: bitsF b (s + 1) m := by rw [bitsF, List.range'_succ, List.filter_cons, hb]; rfl
      rw [e1, e2] at h ⊢
      rw [List.cons_lt_cons_iff, bitsF_lt m (s + 1) w b (by simpa using h), List.range'_succ, List.find?_cons, hw, hb]
      simp
theorem firstB_lt {m w b : Nat} (hm : m ≤ 30) (hw : w < 2 ^ m) (hb : b < 2 ^ m) (hl : (bitsL w m).length = (bitsL b m).length) : firstB w b = true ↔ bitsL w m < bitsL b m := by
  have e : ∀ w, bitsL w m = bitsF w 0 m := fun w => by rw [bitsL, bitsF, List.range_eq_range']
  rw [e, e] at hl ⊢
  rw [bitsF_lt m 0 w b hl]
  have hr : List.range 30 = List.range' 0 m ++ List.range' m (30 - m) := by
    rw [List.range_eq_range', show 30 = m + (30 - m) by omega, ← List.range'_append_1]
    simp
  have hno : (List.range' m (30 - m)).find? (fun i => w.testBit i != b.testBit i) = none := by
    rw [List.find?_eq_none]
    intro i hi
    have hi := (List.mem_range'_1.1 hi).1
    rw [Nat.testBit_lt_two_pow (Nat.lt_of_lt_of_le hw (Nat.pow_le_pow_right (by decide) hi)), Nat.testBit_lt_two_pow (Nat.lt_of_lt_of_le hb (Nat.pow_le_pow_right (by decide) hi))]
    simp
  unfold firstB
  rw [hr, List.find?_append, hno, Option.or_none]
  cases (List.range' 0 m).find? (fun i => w.testBit i != b.testBit i) <;> rfl
theorem bits_sorted (w m : Nat) : (bitsL w m).Pairwise (· ≤ ·) := (List.pairwise_lt_range.imp fun h => Nat.le_of_lt h).filter _
theorem bits_nodup (w m : Nat) : (bitsL w m).Nodup := List.Pairwise.filter _ List.nodup_range
theorem mem_bits {w m i : Nat} : i ∈ bitsL w m ↔ i < m ∧ w.testBit i = true := by rw [bitsL, List.mem_filter, List.mem_range]
theorem ex_bits (p : Nat → Bool) : ∀ m, ∃ w, w < 2 ^ m ∧ ∀ i, i < m → w.testBit i = p i
  | 0 => ⟨0, by decide, fun i hi => absurd hi (Nat.not_lt_zero _)⟩
  | m + 1 => by
    obtain ⟨w, h1, h2⟩ := ex_bits p m
    rw [Nat.pow_succ]
    cases hp : p m with
    | false =>
      refine ⟨w, by omega, fun i hi => ?_⟩
      by_cases e : i = m
      · subst e; rw [hp]; exact Nat.testBit_lt_two_pow h1
      · exact h2 i (by omega)
    | true =>
      refine ⟨2 ^ m + w, by omega, fun i hi => ?_⟩
      by_cases e : i = m
      · subst e; rw [hp, Nat.testBit_two_pow_add_eq, Nat.testBit_lt_two_pow h1]; rfl
      · rw [Nat.testBit_two_pow_add_gt (by omega)]; exact h2 i (by omega)
theorem ch_wch (L : List Cu) (w : Nat) : chL L w = wchL L (bitsL w L.length) := rfl
theorem covQ_iff {x : Tk} {n : Nat} {L : List Cu} {l : List Nat} (hl : ∀ i ∈ l, i < L.length) : covQ x n (wchL L l) = true ↔ Cov x n L l := by
  unfold covQ
  rw [List.all_eq_true]
  have mem : ∀ k : Nat, ownL (wchL L l) (k : Int) = [] ↔ ∀ i ∈ l, hasC (L.getD i ⟨0, 0⟩) (k : Int) = false := fun k => by
    rw [List.eq_nil_iff_forall_not_mem]
    constructor
    · intro h i hi
      cases hc : hasC (L.getD i ⟨0, 0⟩) (k : Int) with
      | false => rfl
      | true =>
        obtain ⟨j, hj⟩ := List.getElem?_of_mem hi
        refine absurd (mem_own.2 ⟨?_, ?_⟩) (h j)
        · rw [wch_len]; exact (List.getElem?_eq_some_iff.1 hj).1
        · unfold wchL
          rw [List.getD_eq_getElem?_getD, List.getElem?_map, hj]; exact hc
    · intro h j hj
      obtain ⟨h1, h2⟩ := mem_own.1 hj
      rw [wch_len] at h1
      have := h (l.getD j 0) (by rw [List.getD_eq_getElem?_getD, List.getElem?_eq_getElem h1]; exact List.getElem_mem h1)
      unfold wchL at h2
      rw [List.getD_eq_getElem?_getD, List.getElem?_map, List.getElem?_eq_getElem h1] at h2
      rw [show l.getD j 0 = l[j] by rw [List.getD_eq_getElem?_getD, List.getElem?_eq_getElem h1]; rfl] at this
      rw [show (Option.map (fun i => L.getD i ⟨0, 0⟩) (some l[j])).getD ⟨0, 0⟩ = L.getD l[j] ⟨0, 0⟩ from rfl, this] at h2
      cases h2
  constructor
  · intro h k hk hon
    have h1 := h k (List.mem_range.2 hk)
    rw [onW_bit hk] at hon
    unfold covK at h1
    rw [hon, Bool.true_and, Bool.not_eq_true', decide_eq_false_iff_not, mem] at h1
    refine Classical.byContradiction fun hno => h1 fun i hi => ?_
    cases hc : hasC (L.getD i ⟨0, 0⟩) (k : Int) with
    | false => rfl
    | true => exact absurd ⟨i, hi, hc⟩ hno
  · intro h k hk
    have hk := List.mem_range.1 hk
    unfold covK
    cases hon : x.on.bits.getLsbD k with
    | false => rfl
    | true =>
      obtain ⟨i, hi, hc⟩ := h k hk (by rw [onW_bit hk]; exact hon)
      rw [Bool.true_and, Bool.not_eq_true', decide_eq_false_iff_not, mem]
      intro h2
      rw [h2 i hi] at hc; cases hc

/-- not better: fewer cubes, then fewer literals, then first -/
def kb (L : List Cu) (a b : List Nat) : Prop := a.length < b.length ∨ a.length = b.length ∧ bt L a b
theorem kb_irrefl (L : List Cu) (a : List Nat) : ¬ kb L a a := by
  rintro (h | h)
  · omega
  · exact bt_irrefl L a h.2
theorem kb_trans {L : List Cu} {a b c : List Nat} (h1 : ¬ kb L a b) (h2 : ¬ kb L b c) : ¬ kb L a c := by
  unfold kb at *
  have e1 : ¬ a.length < b.length := fun h => h1 (.inl h)
  have e2 : ¬ b.length < c.length := fun h => h2 (.inl h)
  rintro (h | ⟨h, h3⟩)
  · omega
  · exact nbt_trans (fun h => h1 (.inr ⟨by omega, h⟩)) (fun h => h2 (.inr ⟨by omega, h⟩)) h3
theorem kb_asymm {L : List Cu} {a b : List Nat} (h : kb L a b) : ¬ kb L b a := by
  unfold kb at *
  rcases h with h | h <;> rintro (h2 | h2)
  · omega
  · omega
  · omega
  · exact bt_asymm h.2 h2.2
theorem rBet_kb {L : List Cu} {w b : Nat} (hm : L.length ≤ 30) (hw : w < 2 ^ L.length) (hb : b < 2 ^ L.length) : rBet (chL L w) (chL L b) w b ↔ kb L (bitsL w L.length) (bitsL b L.length) := by
  unfold rBet kb bt litW
  rw [ch_wch, ch_wch, wch_len, wch_len]
  constructor
  · rintro (h | ⟨h, h1⟩)
    · exact .inl h
    · refine .inr ⟨h, ?_⟩
      rcases h1 with h1 | ⟨h1, h2⟩
      · exact .inl h1
      · exact .inr ⟨h1, (firstB_lt hm hw hb h).1 h2⟩
  · rintro (h | ⟨h, h1⟩)
    · exact .inl h
    · refine .inr ⟨h, ?_⟩
      rcases h1 with h1 | ⟨h1, h2⟩
      · exact .inl h1
      · exact .inr ⟨h1, (firstB_lt hm hw hb h).2 h2⟩
theorem rBT_best {x : Tk} {n : Nat} {L : List Cu} (hm : L.length ≤ 30) : ∀ m, m ≤ 2 ^ L.length →
    (∀ b, rBT x n L m = some b → Cov x n L (bitsL b L.length)) ∧ ∀ w, w < m → Cov x n L (bitsL w L.length) → ∃ b, rBT x n L m = some b ∧ ¬ kb L (bitsL w L.length) (bitsL b L.length)
  | 0, _ => ⟨fun b h => (by cases h), fun w h => absurd h (Nat.not_lt_zero _)⟩
  | m + 1, hmm => by
    obtain ⟨h1, h2⟩ := rBT_best (x := x) (n := n) hm m (by omega)
    have hlt := rBT_lt (x := x) (n := n) (all := L) m
    have hcm : covQ x n (chL L m) = true ↔ Cov x n L (bitsL m L.length) := by
      rw [ch_wch]; exact covQ_iff fun i hi => (mem_bits.1 hi).1
    have hst : rBT x n L (m + 1) = rBs x n L m (rBT x n L m) := rfl
    rw [rBs.eq_def] at hst
    by_cases hc : covQ x n (chL L m) = true
    · rw [if_pos hc] at hst
      cases hb : rBT x n L m with
      | none =>
        rw [hb] at hst
        have hst : rBT x n L (m + 1) = some m := hst
        rw [hst]
        refine ⟨fun b h => (by cases h; exact hcm.1 hc), fun w hw hcw => ⟨m, rfl, ?_⟩⟩
        by_cases e : w = m
        · subst e; exact kb_irrefl L _
        · obtain ⟨b, h3, _⟩ := h2 w (by omega) hcw
          rw [hb] at h3; cases h3
      | some b =>
        rw [hb] at hst
        have hst : rBT x n L (m + 1) = if rBet (chL L m) (chL L b) m b then some m else some b := hst
        have hbm := hlt b hb
        have hr := rBet_kb (L := L) hm (show m < 2 ^ L.length by omega) (show b < 2 ^ L.length by omega)
        by_cases hk : rBet (chL L m) (chL L b) m b
        · rw [if_pos hk] at hst
          rw [hst]
          refine ⟨fun b h => (by cases h; exact hcm.1 hc), fun w hw hcw => ⟨m, rfl, ?_⟩⟩
          by_cases e : w = m
          · subst e; exact kb_irrefl L _
          · obtain ⟨b', h3, h4⟩ := h2 w (by omega) hcw
            rw [hb] at h3
            cases h3
            exact kb_trans h4 (kb_asymm (hr.1 hk))
        · rw [if_neg hk] at hst
          rw [hst]
          refine ⟨fun b' h => (by cases h; exact h1 _ hb), fun w hw hcw => ⟨b, rfl, ?_⟩⟩
          by_cases e : w = m
          · subst e; exact fun h => hk (hr.2 h)
          · obtain ⟨b', h3, h4⟩ := h2 w (by omega) hcw
            rw [hb] at h3
            cases h3
            exact h4
    · rw [if_neg hc] at hst
      rw [hst]
      refine ⟨h1, fun w hw hcw => ?_⟩
      by_cases e : w = m
      · subst e; exact absurd (hcm.2 hcw) hc
      · exact h2 w (by omega) hcw
theorem best_unique {x : Tk} {n : Nat} {L : List Cu} {a b : List Nat} (ha : Best x n L a) (hb : Best x n L b) : a = b := by
  have sa := sortN_eq ha.sorted (List.Perm.refl a)
  have sb := sortN_eq hb.sorted (List.Perm.refl b)
  have h1 := ha.least b hb.nodup hb.idx hb.cov
  have h2 := hb.least a ha.nodup ha.idx ha.cov
  rw [sb] at h1
  rw [sa] at h2
  have h3 : ¬ bt L b a := by rcases h1 with h | h <;> rcases h2 with h' | h' <;> first | (exact h.2) | omega
  have h4 : ¬ bt L a b := by rcases h1 with h | h <;> rcases h2 with h' | h' <;> first | (exact h'.2) | omega
  exact bt_total h4 h3
theorem rlea_best {x : Tk} {n : Nat} {L : List Cu} (hm : L.length ≤ 30) (hall : covQ x n L = true) : ∃ b, rBT x n L (2 ^ L.length) = some b ∧ Best x n L (bitsL b L.length) := by
  obtain ⟨h1, h2⟩ := rBT_best (x := x) (n := n) hm (2 ^ L.length) (Nat.le_refl _)
  have hpos := Nat.two_pow_pos L.length
  obtain ⟨b, hb⟩ := rBT_some (x := x) (n := n) (all := L) (w := 2 ^ L.length - 1) (by rw [ch_full]; exact hall) (2 ^ L.length) (by omega)
  refine ⟨b, hb, bits_sorted _ _, bits_nodup _ _, fun i hi => (mem_bits.1 hi).1, h1 b hb, fun S g1 g2 g3 => ?_⟩
  obtain ⟨w, hw, hbits⟩ := ex_bits (fun i => S.contains i) L.length
  have hp : (bitsL w L.length).Perm S := by
    refine (List.perm_ext_iff_of_nodup (bits_nodup _ _) g1).2 fun i => ?_
    rw [mem_bits]
    constructor
    · rintro ⟨hi, h⟩
      rw [hbits i hi] at h
      exact List.contains_iff_mem.1 h
    · intro h
      exact ⟨g2 i h, by rw [hbits i (g2 i h)]; exact List.contains_iff_mem.2 h⟩
  have hs : sortN S = bitsL w L.length := sortN_eq (bits_sorted _ _) hp
  obtain ⟨b', h3, h4⟩ := h2 w hw (fun k hk hon => by
    obtain ⟨i, hi, h⟩ := g3 k hk hon
    exact ⟨i, hp.mem_iff.2 hi, h⟩)
  rw [hb] at h3
  cases h3
  rw [hs, ← hp.length_eq]
  unfold kb at h4
  by_cases e : (bitsL b L.length).length < (bitsL w L.length).length
  · exact .inl e
  · have : ¬ (bitsL w L.length).length < (bitsL b L.length).length := fun h => h4 (.inl h)
    exact .inr ⟨by omega, fun h => h4 (.inr ⟨by omega, h⟩)⟩
theorem covQ_all {n : Nat} (hn : n ≤ 6) (x : Tk) : covQ x n (primesL n x) = true := by
  have e : wchL (primesL n x) (List.range (primesL n x).length) = primesL n x := by
    unfold wchL
    apply List.ext_getElem
    · simp
    · intro i h1 h2
      simp [List.getD_eq_getElem?_getD, h2]
  have := (covQ_iff (x := x) (n := n) (L := primesL n x) (l := List.range (primesL n x).length) fun i hi => List.mem_range.1 hi).2 (primes_all hn x)
  rwa [e] at this
theorem mform_same {x : Tk} (h : fewM x = true) : mformR x = rmformR x := by
  by_cases h0 : chkK x = 0
  · obtain ⟨hf, h10⟩ := fewM_wfew h h0
    obtain ⟨_, n, hn, hx⟩ := few_zero hf
    have hnn : x.on.n.toNat = n := by rw [hx]; rfl
    rw [hnn] at h10
    rw [mformR, if_pos hf, rmformR, if_pos h0, hnn]
    obtain ⟨b, hb, hB⟩ := rlea_best (x := x) (n := n) (L := primesL n x) (by omega) (covQ_all (by omega) x)
    rw [rleaL, hb, best_unique (lea_best4 hn x) hB]
    exact (ch_wch _ _).symm
  · rw [mformR, if_neg (by rw [few_chk h]; exact h0), rmformR, if_neg h0]

def formsLaw : Spec := fnS (fun x : Tk => [kA x]) (fun _ => True) (fun _ => bP true)
theorem mformR_len (x : Tk) : (mformR x).length ≤ 1000000 := by
  unfold mformR
  split
  · rename_i h
    obtain ⟨h0, n, hn, hx⟩ := few_zero h
    have hnn : x.on.n.toNat = n := by rw [hx]; rfl
    have hlen := primesL_len (show n ≤ 6 by omega) x
    rw [hnn, wch_len]
    exact Nat.le_trans (lea_good x n (show (primesL n x).length ≤ 999 by omega)).1 (by decide)
  · exact Nat.zero_le _
theorem mforms_law : FnOk Tryz.prog 4 formsLaw := by
  refine fnOk (Tb := tab) mixed tab_ok Tryz.func4 rfl rfl ?_
  rintro (x : Tk) hpre
  refine ai (ai rfl (ai rfl rfl)) ?_
  refine ei _ (ai fewM_ok (ei (x) (ei [] (ai (ai rfl (ai rfl (ai rfl (ai rfl (ai (fun _ => Or.inl rfl) (ai (by first | exact nof | exact (fun _ => ai rfl rfl)) (by first | exact Or.inl rfl | exact Or.inr rfl))))))) (ai (by (repeat' (first | with_reducible rfl | exact trivial | refine ai ?_ ?_ | (show (_ : Int) = _; first | with_reducible rfl | exact wr1 (by omega) | (simp only [zz, reduceCtorEq] <;> first | done | rfl | omega) | omega | rfl) | exact rfl | exact (fun _ => rfl) | exact (fun _ _ => rfl) | exact nof))) (ai trivial (ai (trivial) ?_)))))))
  refine bcase_b (b := !fewM x) (by first | exact rfl | (simp only [zz, reduceCtorEq] <;> first | done | exact rfl)) (fun h2 => ?_) (fun h2 => ?_)
  · skip
    refine ei _ (ai awake7_ok (ei (()) (ei [] (ai (ai rfl (ai rfl (ai rfl (ai rfl (ai (fun _ => Or.inl rfl) (ai (by first | exact nof | exact (fun _ => ai rfl rfl)) (by first | exact Or.inl rfl | exact Or.inr rfl))))))) (ai (by (repeat' (first | with_reducible rfl | exact trivial | refine ai ?_ ?_ | (show (_ : Int) = _; first | with_reducible rfl | exact wr1 (by omega) | (simp only [zz, reduceCtorEq] <;> first | done | rfl | omega) | omega | rfl) | exact rfl | exact (fun _ => rfl) | exact (fun _ _ => rfl) | exact nof))) (ai trivial (ai (trivial) ?_)))))))
    refine ai (ai (fun _ => (by (repeat' (first | exact rfl | exact trivial | exact (fun _ => rfl) | exact (fun _ _ => rfl) | exact nof | refine ai ?_ ?_)))) ?_) trivial
    any_goals (repeat' (first | with_reducible rfl | exact trivial | refine ai ?_ ?_ | (show (_ : Int) = _; first | with_reducible rfl | exact wr1 (by omega) | (simp only [zz, reduceCtorEq] <;> first | done | rfl | omega) | omega | rfl) | exact rfl | exact (fun _ => rfl) | exact (fun _ _ => rfl) | exact nof))
  have h2 : fewM x = true := by simpa using h2
  have c1 := fnSF_at mform_ok x trivial (r := .tup [csP (mformR x), iP (chkK x)]) (by show PV.tup [csP (mformR x), iP (wfewE x)] = _; rw [few_chk h2])
  refine ei _ (ai c1 (ei (()) (ei [] (ai (ai rfl (ai rfl (ai rfl (ai rfl (ai (fun _ => Or.inl rfl) (ai (by first | exact nof | exact (fun _ => ai rfl rfl)) (by first | exact Or.inl rfl | exact Or.inr rfl))))))) (ai (by (repeat' (first | with_reducible rfl | exact trivial | refine ai ?_ ?_ | (show (_ : Int) = _; first | with_reducible rfl | exact wr1 (by omega) | (simp only [zz, reduceCtorEq] <;> first | done | rfl | omega) | omega | rfl) | exact rfl | exact (fun _ => rfl) | exact (fun _ _ => rfl) | exact nof))) (ai trivial (ai (trivial) ?_)))))))
  have c2 := fnS_at rmform_ok x (fun h0 => by
    obtain ⟨hf, h10⟩ := fewM_wfew h2 h0
    obtain ⟨_, n, hn, hx⟩ := few_zero hf
    have hnn : x.on.n.toNat = n := by rw [hx]; rfl
    rw [hnn] at h10 ⊢
    exact ⟨h10, covQ_all (by omega) x⟩) (r := .tup [csP (mformR x), iP (chkK x)]) (by show PV.tup [csP (rmformR x), iP (chkK x)] = _; rw [mform_same h2])
  refine ei _ (ai c2 (ei (()) (ei [] (ai (ai rfl (ai rfl (ai rfl (ai rfl (ai (fun _ => Or.inl rfl) (ai (by first | exact nof | exact (fun _ => ai rfl rfl)) (by first | exact Or.inl rfl | exact Or.inr rfl))))))) (ai (by (repeat' (first | with_reducible rfl | exact trivial | refine ai ?_ ?_ | (show (_ : Int) = _; first | with_reducible rfl | exact wr1 (by omega) | (simp only [zz, reduceCtorEq] <;> first | done | rfl | omega) | omega | rfl) | exact rfl | exact (fun _ => rfl) | exact (fun _ _ => rfl) | exact nof))) (ai trivial (ai (trivial) ?_)))))))
  refine ei _ (ai (same_self _ (mformR_len x)) (ei (()) (ei [] (ai (ai rfl (ai rfl (ai rfl (ai rfl (ai (fun _ => Or.inl rfl) (ai (by first | exact nof | exact (fun _ => ai rfl rfl)) (by first | exact Or.inl rfl | exact Or.inr rfl))))))) (ai (by (repeat' (first | with_reducible rfl | exact trivial | refine ai ?_ ?_ | (show (_ : Int) = _; first | with_reducible rfl | exact wr1 (by omega) | (simp only [zz, reduceCtorEq] <;> first | done | rfl | omega) | omega | rfl) | exact rfl | exact (fun _ => rfl) | exact (fun _ _ => rfl) | exact nof))) (ai trivial (ai (trivial) ?_)))))))
  refine bcase_b (b := true) (by (first | (simp only [beq_self_eq_true, Bool.and_true, Bool.and_self]; done) | (simp only [hz, Int.add_zero, wrap_z]; done) | (simp only [hz, Int.add_zero, wrap_z]; rfl) | decide | rfl | decide | (simp; done))) (fun _ => ?_) (fun h => absurd h (by decide))
  refine ei _ (ai awake7_ok (ei (()) (ei [] (ai (ai rfl (ai rfl (ai rfl (ai rfl (ai (fun _ => Or.inl rfl) (ai (by first | exact nof | exact (fun _ => ai rfl rfl)) (by first | exact Or.inl rfl | exact Or.inr rfl))))))) (ai (by (repeat' (first | with_reducible rfl | exact trivial | refine ai ?_ ?_ | (show (_ : Int) = _; first | with_reducible rfl | exact wr1 (by omega) | (simp only [zz, reduceCtorEq] <;> first | done | rfl | omega) | omega | rfl) | exact rfl | exact (fun _ => rfl) | exact (fun _ _ => rfl) | exact nof))) (ai trivial (ai (trivial) ?_)))))))
  refine ai (ai (fun _ => (by (repeat' (first | exact rfl | exact trivial | exact (fun _ => rfl) | exact (fun _ _ => rfl) | exact nof | refine ai ?_ ?_)))) ?_) trivial
  any_goals (repeat' (first | with_reducible rfl | exact trivial | refine ai ?_ ?_ | (show (_ : Int) = _; first | with_reducible rfl | exact wr1 (by omega) | (simp only [zz, reduceCtorEq] <;> first | done | rfl | omega) | omega | rfl) | exact rfl | exact (fun _ => rfl) | exact (fun _ _ => rfl) | exact nof))

end Go.Sx.Pn
