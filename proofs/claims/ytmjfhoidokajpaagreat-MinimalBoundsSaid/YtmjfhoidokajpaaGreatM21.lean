/- Chapter 7: what Spare leaves has nothing spare; points that are apart need different prime implicants. -/
import Derived.Test.YtmjfhoidokajpaaGreatM20
set_option maxHeartbeats 1000000
set_option maxRecDepth 4000
set_option linter.unusedSimpArgs false
set_option linter.unusedVariables false
set_option linter.unusedSectionVars false
namespace Go.Sx.Pn
open Go Go.Proofs

theorem covC_iff {x : Tk} {n : Nat} {l : List Cu} : covQ x n l = true ↔ CovC x n l := by rw [← covWQ]; exact covW_iff
theorem CovC.mono {x : Tk} {n : Nat} {a b : List Cu} (h : CovC x n a) (hs : ∀ c ∈ a, c ∈ b) : CovC x n b := fun k hk hon => by
  obtain ⟨c, hc, hh⟩ := h k hk hon
  exact ⟨c, hs c hc, hh⟩
/-- from an index on no cube is spare -/
def Tight (x : Tk) (n : Nat) (l : List Cu) (m : Nat) : Prop := ∀ i, m ≤ i → i < l.length → ¬ CovC x n (l.eraseIdx i)
theorem sp_tight {x : Tk} {n : Nat} {l : List Cu} (h : Tight x n l 0) : ∀ k, k ≤ l.length → spTo x n l k = (l, [])
  | 0, _ => rfl
  | k + 1, hk => by
    rw [spTo, sp_tight h k (by omega)]
    exact sp_no (Bool.eq_false_iff.2 fun e => h (l.length - 1 - k) (Nat.zero_le _) (by omega) (covC_iff.1 e))

/-- the cubes whose index is not in a list -/
def keepTo (l : List Cu) (D : List Nat) : Nat → List Cu
  | 0 => []
  | k + 1 => if k ∈ D then keepTo l D k else keepTo l D k ++ [l.getD k ⟨0, 0⟩]
theorem keep_yes {l : List Cu} {D : List Nat} {k : Nat} (h : k ∈ D) : keepTo l D (k + 1) = keepTo l D k := by rw [keepTo, if_pos h]
theorem keep_no {l : List Cu} {D : List Nat} {k : Nat} (h : k ∉ D) : keepTo l D (k + 1) = keepTo l D k ++ [l.getD k ⟨0, 0⟩] := by rw [keepTo, if_neg h]
theorem keep_le (l : List Cu) (D : List Nat) : ∀ k, (keepTo l D k).length ≤ k
  | 0 => Nat.le_refl _
  | k + 1 => by
    have := keep_le l D k
    rw [keepTo]
    split
    · omega
    · rw [List.length_append, List.length_cons, List.length_nil]; omega
theorem keep_congr {l : List Cu} {D E : List Nat} (h : ∀ d, d ∈ D ↔ d ∈ E) : ∀ k, keepTo l D k = keepTo l E k
  | 0 => rfl
  | k + 1 => by
    by_cases hk : k ∈ D
    · rw [keep_yes hk, keep_yes ((h k).1 hk), keep_congr h k]
    · rw [keep_no hk, keep_no fun e => hk ((h k).2 e), keep_congr h k]
theorem keep_mem {l : List Cu} {D : List Nat} : ∀ k, k ≤ l.length → ∀ c ∈ keepTo l D k, c ∈ l
  | 0, _, c, hc => by cases hc
  | k + 1, hk, c, hc => by
    by_cases h : k ∈ D
    · rw [keep_yes h] at hc; exact keep_mem k (by omega) c hc
    · rw [keep_no h] at hc
      rcases List.mem_append.1 hc with hc | hc
      · exact keep_mem k (by omega) c hc
      · obtain rfl : c = l.getD k ⟨0, 0⟩ := by simpa using hc
        exact getC_mem (by omega)
theorem take_one {l : List Cu} {k : Nat} (hk : k < l.length) : l.take (k + 1) = l.take k ++ [l.getD k ⟨0, 0⟩] := by
  rw [List.take_add_one, List.getElem?_eq_getElem hk]
  simp [List.getD_eq_getElem?_getD, hk]
theorem keep_lo {l : List Cu} {D : List Nat} {m : Nat} (hD : ∀ d ∈ D, m ≤ d) : ∀ k, k ≤ m → k ≤ l.length → keepTo l D k = l.take k
  | 0, _, _ => by rw [keepTo, List.take_zero]
  | k + 1, h1, h2 => by rw [keep_no fun e => by have := hD k e; omega, keep_lo hD k (by omega) (by omega), take_one (by omega)]
theorem keep_ge {l : List Cu} {D : List Nat} {m : Nat} (hD : ∀ d ∈ D, m ≤ d) (hm : m ≤ l.length) : ∀ j, m ≤ (keepTo l D (m + j)).length
  | 0 => by rw [Nat.add_zero, keep_lo hD m (Nat.le_refl _) hm, List.length_take]; omega
  | j + 1 => by
    have := keep_ge hD hm j
    by_cases h : m + j ∈ D
    · rw [show m + (j + 1) = m + j + 1 from rfl, keep_yes h]; exact this
    · rw [show m + (j + 1) = m + j + 1 from rfl, keep_no h, List.length_append]; omega
theorem keep_erase {l : List Cu} {D : List Nat} {q : Nat} (hD : ∀ d ∈ D, q + 1 ≤ d) (hq : q < l.length) : ∀ j, keepTo l (D ++ [q]) (q + 1 + j) = (keepTo l D (q + 1 + j)).eraseIdx q
  | 0 => by
    have hD2 : ∀ d ∈ D ++ [q], q ≤ d := fun d hd => by
      rcases List.mem_append.1 hd with h | h
      · have := hD d h; omega
      · have : d = q := by simpa using h
        omega
    rw [Nat.add_zero, keep_yes (by simp), keep_lo hD2 q (Nat.le_refl _) (by omega), keep_lo hD (q + 1) (Nat.le_refl _) hq, take_one hq]
    have hl : (l.take q).length = q := by rw [List.length_take]; omega
    rw [List.eraseIdx_append_of_length_le (by omega), hl, Nat.sub_self]
    simp
  | j + 1 => by
    have ih := keep_erase hD hq j
    have hl := keep_ge hD (show q + 1 ≤ l.length by omega) j
    by_cases h : q + 1 + j ∈ D
    · rw [show q + 1 + (j + 1) = q + 1 + j + 1 from rfl, keep_yes h, keep_yes (List.mem_append_left _ h), ih]
    · have h2 : q + 1 + j ∉ D ++ [q] := fun e => by
        rcases List.mem_append.1 e with e | e
        · exact h e
        · have : q + 1 + j = q := by simpa using e
          omega
      rw [show q + 1 + (j + 1) = q + 1 + j + 1 from rfl, keep_no h, keep_no h2, ih, List.eraseIdx_append_of_lt_length (by omega)]
theorem erase_twice {l : List Cu} {q i : Nat} (h : q ≤ i) : ∀ c ∈ (l.eraseIdx q).eraseIdx i, c ∈ l.eraseIdx (i + 1) := by
  intro c hc
  obtain ⟨j, h1, h2⟩ := List.mem_eraseIdx_iff_getElem?.1 hc
  rw [List.getElem?_eraseIdx] at h2
  by_cases h3 : j < q
  · rw [if_pos h3] at h2
    exact List.mem_eraseIdx_iff_getElem?.2 ⟨j, by omega, h2⟩
  · rw [if_neg h3] at h2
    exact List.mem_eraseIdx_iff_getElem?.2 ⟨j + 1, by omega, h2⟩
structure SpI (x : Tk) (n : Nat) (l : List Cu) (k : Nat) (s : List Cu × List Nat) : Prop where
  keep : s.1 = keepTo l s.2 l.length
  low : ∀ d ∈ s.2, l.length - k ≤ d
  len : s.1.length + s.2.length = l.length
  tight : Tight x n s.1 (l.length - k)
  cov : CovC x n l → CovC x n s.1
theorem sp_inv (x : Tk) (n : Nat) (l : List Cu) : ∀ k, k ≤ l.length → SpI x n l k (spTo x n l k)
  | 0, _ => by
    refine ⟨?_, fun d hd => ?_, rfl, fun i h1 h2 => ?_, id⟩
    · show l = keepTo l [] l.length
      rw [keep_lo (m := l.length) (fun d hd => by cases hd) _ (Nat.le_refl _) (Nat.le_refl _), List.take_length]
    · cases hd
    · have h2 : i < l.length := h2
      omega
  | k + 1, hk => by
    have ih := sp_inv x n l k (by omega)
    rw [spTo]
    generalize spTo x n l k = s at ih ⊢
    obtain ⟨q, hq⟩ : ∃ q, l.length - 1 - k = q := ⟨_, rfl⟩
    have e1 : l.length - k = q + 1 := by omega
    have e2 : l.length - (k + 1) = q := by omega
    obtain ⟨h1, h2, h3, h4, h5⟩ := ih
    rw [e1] at h2 h4
    have hs : q + 1 ≤ s.1.length := by
      have := keep_ge h2 (show q + 1 ≤ l.length by omega) (l.length - (q + 1))
      rw [show q + 1 + (l.length - (q + 1)) = l.length by omega, ← h1] at this
      exact this
    rw [hq]
    cases h : covQ x n (s.1.eraseIdx q) with
    | true =>
      rw [sp_yes h]
      have hel := erase_len (show q < s.1.length by omega)
      refine ⟨?_, fun d hd => ?_, ?_, fun i hi hi2 hc => ?_, fun _ => covC_iff.1 h⟩
      · have := keep_erase h2 (show q < l.length by omega) (l.length - (q + 1))
        rw [show q + 1 + (l.length - (q + 1)) = l.length by omega, ← h1] at this
        exact this.symm
      · rcases List.mem_append.1 hd with hd | hd
        · have := h2 d hd; omega
        · have : d = q := by simpa using hd
          omega
      · show (s.1.eraseIdx q).length + (s.2 ++ [q]).length = l.length
        rw [List.length_append, List.length_cons, List.length_nil]; omega
      · have hi2 : i < (s.1.eraseIdx q).length := hi2
        have hc : CovC x n ((s.1.eraseIdx q).eraseIdx i) := hc
        exact h4 (i + 1) (by omega) (by omega) (hc.mono (erase_twice (by omega)))
    | false =>
      rw [sp_no h]
      refine ⟨h1, fun d hd => by have := h2 d hd; omega, h3, fun i hi hi2 hc => ?_, h5⟩
      by_cases e : i = q
      · subst e
        rw [covC_iff.2 hc] at h; cases h
      · exact h4 i (by omega) hi2 hc
theorem ver_of {x : Tk} {n : Nat} (h0 : chkK x = 0) (hx : x.on.n = n) {l : List Cu} (hc : chkL (n : Int) l = 0) (hi : ∀ c ∈ l, impliesU n x c = true) (hcov : CovC x n l) : verE x l = 0 := by
  rw [verE, if_pos h0, hx, if_pos hc, Int.toNat_natCast, List.all_eq_true.2 hi, covW_iff.2 hcov]; rfl
/-- what is left without the spare cubes is a form, and nothing of it is spare -/
theorem spar_rest {x : Tk} {l : List Cu} (h : verE x l = 0) : verE x (keepTo l (sparL x l) l.length) = 0 ∧ (keepTo l (sparL x l) l.length).length + (sparL x l).length = l.length ∧ sparL x (keepTo l (sparL x l) l.length) = [] := by
  obtain ⟨h0, n, hn, hx, hc, himp, hcov⟩ := ver_parts h
  have hnn : x.on.n.toNat = n := by rw [hx]; rfl
  obtain ⟨h1, h2, h3, h4, h5⟩ := sp_inv x n l l.length (Nat.le_refl _)
  have hsp : sparL x l = (spTo x n l l.length).2.reverse := by rw [sparL, if_pos h, hnn]
  have hk : keepTo l (sparL x l) l.length = (spTo x n l l.length).1 := by
    rw [h1, hsp]
    exact keep_congr (fun d => List.mem_reverse) _
  obtain ⟨c1, c2⟩ := chkL_ok hn hc
  have hm : ∀ c ∈ (spTo x n l l.length).1, c ∈ l := by rw [h1]; exact keep_mem _ (Nat.le_refl _)
  have hv : verE x (spTo x n l l.length).1 = 0 :=
    ver_of h0 hx (chkL_of hn (by omega) fun c hc => c2 c (hm c hc)) (fun c hc => himp c (hm c hc)) (h5 hcov)
  rw [hk]
  refine ⟨hv, by rw [hsp, List.length_reverse]; exact h3, ?_⟩
  rw [Nat.sub_self] at h4
  rw [sparL, if_pos hv, hnn, sp_tight h4 _ (Nat.le_refl _)]; rfl

theorem erase_map {α β : Type} (f : α → β) : ∀ (l : List α) (i : Nat), (l.map f).eraseIdx i = (l.eraseIdx i).map f
  | [], _ => rfl
  | _ :: _, 0 => rfl
  | a :: l, i + 1 => by rw [List.map_cons, List.eraseIdx_cons_succ, List.eraseIdx_cons_succ, List.map_cons, erase_map f l i]
/-- no cube of the least form is spare -/
theorem form_tight {n : Nat} (hn : n ≤ 4) (x : Tk) : Tight x n (wchL (primesL n x) (leaL x n (primesL n x))) 0 := by
  have hB := lea_best4 hn x
  intro i _ hi hc
  rw [wch_len] at hi
  have hc : CovC x n (wchL (primesL n x) ((leaL x n (primesL n x)).eraseIdx i)) := by
    unfold wchL at hc ⊢
    rw [erase_map] at hc
    exact hc
  have hsub : List.Sublist ((leaL x n (primesL n x)).eraseIdx i) (leaL x n (primesL n x)) := List.eraseIdx_sublist ..
  have := hB.least _ (hB.nodup.sublist hsub) (fun j hj => hB.idx j (hsub.subset hj)) fun k hk hon => by
    obtain ⟨c, h1, h2⟩ := hc k hk hon
    obtain ⟨j, hj, rfl⟩ := List.mem_map.1 h1
    exact ⟨j, hj, h2⟩
  rw [List.length_eraseIdx, if_pos hi] at this
  rcases this with h | h
  · omega
  · omega
theorem form_spare {x : Tk} (h : chkK x = 0) (h4 : x.on.n ≤ 4) : sparL x (mformR x) = [] := by
  obtain ⟨_, n, hn, hx, hm⟩ := right_parts h h4
  have hnn : x.on.n.toNat = n := by rw [hx]; rfl
  rw [sparL, if_pos (form_ver h h4).1, hnn, sp_tight (by rw [hm]; exact form_tight hn x) _ (Nat.le_refl _)]; rfl

/- points that are apart -/
def Ap (x : Tk) (n : Nat) (L : List Cu) (p : List Nat) : Prop := ∀ i, i < p.length → apI x n L (fun _ => 0) p i = true
theorem ap_snoc {x : Tk} {n : Nat} {L : List Cu} {l : List Nat} {p : Nat} (h : Ap x n L l) (hon : onW x n p = true) (hd : dvB L l p = true) : Ap x n L (l ++ [p]) := by
  intro i hi
  rw [List.length_append, List.length_cons, List.length_nil] at hi
  by_cases hl : i < l.length
  · have := h i hl
    have e1 : (l ++ [p]).getD i 0 = l.getD i 0 := by
      simp only [List.getD_eq_getElem?_getD, List.getElem?_append_left hl]
    have e2 : (l ++ [p]).take i = l.take i := by rw [List.take_append_of_le_length (by omega)]
    rw [apI, e1, e2]; exact this
  · obtain rfl : i = l.length := by omega
    have e1 : (l ++ [p]).getD l.length 0 = p := by simp [List.getD_eq_getElem?_getD]
    have e2 : (l ++ [p]).take l.length = l := by rw [List.take_append_of_le_length (Nat.le_refl _), List.take_length]
    rw [apI, e1, e2, hon, hd]; rfl
theorem ap_lon {x : Tk} {n : Nat} {L : List Cu} {a b : List Nat} (ha : Ap x n L a) (hb : Ap x n L b) : Ap x n L (lonL a b) := by
  unfold lonL; split <;> assumption
theorem ap_loop {x : Tk} {n : Nat} {L : List Cu} : ∀ (rest l best : List Nat), (∀ p ∈ rest, onW x n p = true) → Ap x n L l → Ap x n L best → Ap x n L (loopG L rest l best)
  | [], _, _, _, _, hb => hb
  | p :: rest, l, best, hr, hl, hb => by
    rw [loopG]
    refine ap_loop rest l _ (fun q hq => hr q (List.mem_cons_of_mem _ hq)) hl ?_
    split
    · rename_i h
      have hs := ap_snoc hl (hr p (List.mem_cons_self ..)) h
      exact ap_loop rest (l ++ [p]) _ (fun q hq => hr q (List.mem_cons_of_mem _ hq)) hs (ap_lon hs hb)
    · exact hb
theorem ap_nil (x : Tk) (n : Nat) (L : List Cu) : Ap x n L [] := fun i hi => absurd hi (Nat.not_lt_zero _)
theorem ap_apR {x : Tk} (h : chkK x = 0) (h4 : x.on.n ≤ 4) {n : Nat} (hx : x.on.n = n) : Ap x n (primesL n x) (apR x) := by
  have hnn : x.on.n.toNat = n := by rw [hx]; rfl
  rw [apR, if_pos (right_parts h h4).1, hnn, growL]
  exact ap_loop _ _ _ (fun p hp => (mem_op.1 hp).2.1) (ap_nil _ _ _) (ap_lon (ap_nil _ _ _) (ap_nil _ _ _))
theorem ap_sep {x : Tk} {n : Nat} {L : List Cu} {p : List Nat} (h : Ap x n L p) {i j : Nat} (hij : i < j) (hj : j < p.length) {c : Cu} (hc : c ∈ L) (h1 : hasC c (p.getD i 0 : Nat) = true) (h2 : hasC c (p.getD j 0 : Nat) = true) : False := by
  have := h j hj
  simp only [apI, Bool.and_eq_true] at this
  have hd := this.2
  rw [dvB, Bool.not_eq_true', ← Bool.not_eq_true, List.any_eq_true] at hd
  refine hd ⟨c, hc, ?_⟩
  rw [dvQ, h2, Bool.true_and, List.any_eq_true]
  refine ⟨p.getD i 0, ?_, h1⟩
  refine List.mem_iff_getElem?.2 ⟨i, ?_⟩
  rw [List.getElem?_take, if_pos hij, List.getD_eq_getElem?_getD, List.getElem?_eq_getElem (by omega)]; rfl
theorem ap_on {x : Tk} {n : Nat} {L : List Cu} {p : List Nat} (h : Ap x n L p) {i : Nat} (hi : i < p.length) : onW x n (p.getD i 0) = true := by
  have := h i hi
  simp only [apI, Bool.and_eq_true] at this
  exact this.1.1
open Classical in
/-- a cover has no fewer cubes than there are points that are apart -/
theorem ap_cover {x : Tk} {n : Nat} {L : List Cu} {p S : List Nat} (h : Ap x n L p) (hc : Cov x n L S) (hi : ∀ i ∈ S, i < L.length) : p.length ≤ S.length := by
  have key : ∀ i, i < p.length → ∃ s, s ∈ S ∧ hasC (L.getD s ⟨0, 0⟩) (p.getD i 0 : Nat) = true := fun i hi => by
    obtain ⟨s, h1, h2⟩ := hc _ (onW_lt (ap_on h hi)) (ap_on h hi)
    exact ⟨s, h1, h2⟩
  have key2 : ∃ g : Nat → Nat, ∀ i, i < p.length → g i ∈ S ∧ hasC (L.getD (g i) ⟨0, 0⟩) (p.getD i 0 : Nat) = true :=
    ⟨fun i => if hi : i < p.length then (key i hi).choose else 0, fun i hi => by
      simp only [hi, dif_pos]
      exact (key i hi).choose_spec⟩
  obtain ⟨g, hg⟩ := key2
  have hn : ((List.range p.length).map g).Nodup := by
    rw [List.Nodup, List.pairwise_map, List.pairwise_iff_getElem]
    intro i j h1 h2 hij e
    simp only [List.getElem_range] at e
    rw [List.length_range] at h1 h2
    have a := (hg i h1).2
    have b := hg j h2
    rw [e] at a
    exact ap_sep h hij h2 (getC_mem (hi _ b.1)) a b.2
  have := nodup_len _ S hn fun s hs => by
    obtain ⟨i, hi, rfl⟩ := List.mem_map.1 hs
    exact (hg i (List.mem_range.1 hi)).1
  rw [List.length_map, List.length_range] at this
  exact this
theorem apart_proves {x : Tk} (h0 : chkK x = 0) (h4 : x.on.n ≤ 4) : (apR x).length ≤ (mformR x).length ∧ (0 < (apR x).length → refE x ((apR x).length - 1) (apR x) = 0 ∧ refE x (mformR x).length (apR x) = 15) := by
  obtain ⟨_, n, hn, hx, hm⟩ := right_parts h0 h4
  have hnn : x.on.n.toNat = n := by rw [hx]; rfl
  have hB := lea_best4 hn x
  have hA := ap_apR h0 h4 hx
  have h256 := (form_ver h0 h4).2.1
  have hle : (apR x).length ≤ (mformR x).length := by rw [hm, wch_len]; exact ap_cover hA hB.cov hB.idx
  refine ⟨hle, fun hp => ⟨?_, ?_⟩⟩
  · have hs : shB x n (primesL n x) (fun _ => 0) ((apR x).length - 1) (apR x) = true := by
      rw [shB, all_yes hA, decide_eq_true (show ((apR x).length : Int) - 1 < (apR x).length by omega)]; rfl
    rw [refE, if_pos h0, if_neg (by omega), hnn, if_pos hs]
  · have hs : ¬ shB x n (primesL n x) (fun _ => 0) (mformR x).length (apR x) = true := by
      rw [shB, decide_eq_false (show ¬ ((mformR x).length : Int) < (apR x).length by omega), Bool.false_or]
      have ho : ¬ ownL (primesL n x) ((apR x).getD 0 0 : Nat) = [] := fun e => by
        obtain ⟨s, h1, h2⟩ := hB.cov _ (onW_lt (ap_on hA hp)) (ap_on hA hp)
        have := mem_own.2 ⟨hB.idx s h1, h2⟩
        rw [e] at this; cases this
      rw [decide_eq_false ho, Bool.and_false, Bool.and_false]
      decide
    rw [refE, if_pos h0, if_neg (by omega), hnn, if_neg hs]

end Go.Sx.Pn
