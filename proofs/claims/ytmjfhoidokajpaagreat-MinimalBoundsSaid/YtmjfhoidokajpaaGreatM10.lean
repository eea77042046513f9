/- Chapter 7: the search finds the best cover. -/
import Derived.Test.YtmjfhoidokajpaaGreatM7
set_option maxHeartbeats 1000000
set_option maxRecDepth 4000
set_option linter.unusedSimpArgs false
set_option linter.unusedVariables false
set_option linter.unusedSectionVars false
namespace Go.Sx.Pn
open Go Go.Proofs

/- the order of covers -/
theorem cmpN_iff : ∀ (l m : List Nat), cmpN l m < 0 ↔ l < m
  | [], [] => by simp [cmpN]
  | [], b :: m => by simp [cmpN]
  | a :: l, [] => by simp [cmpN]
  | a :: l, b :: m => by
    rw [cmpN, List.cons_lt_cons_iff, ← cmpN_iff l m]
    unfold cmpI
    by_cases h1 : (a : Int) < b
    · rw [if_neg (by rw [if_pos h1]; decide), if_pos h1]
      simp; omega
    · by_cases h2 : (b : Int) < a
      · rw [if_neg (by rw [if_neg h1, if_pos h2]; decide), if_neg h1, if_pos h2]
        constructor
        · intro h; omega
        · rintro (h | h) <;> omega
      · rw [if_pos (by rw [if_neg h1, if_neg h2])]
        have : a = b := by omega
        subst this
        simp
def bt (L : List Cu) (l b : List Nat) : Prop := litW L l < litW L b ∨ litW L l = litW L b ∧ l < b
theorem ord_iff (L : List Cu) (l b : List Nat) : ordW L l b < 0 ↔ bt L l b := by
  unfold ordW bt
  rw [← cmpN_iff]
  unfold cmpI
  by_cases h1 : ((litW L l : Nat) : Int) < (litW L b : Nat)
  · rw [if_neg (by rw [if_pos h1]; decide), if_pos h1]
    constructor
    · intro _; exact .inl (by omega)
    · intro _; decide
  · by_cases h2 : ((litW L b : Nat) : Int) < (litW L l : Nat)
    · rw [if_neg (by rw [if_neg h1, if_pos h2]; decide), if_neg h1, if_pos h2]
      constructor
      · intro h; omega
      · rintro (h | h) <;> omega
    · rw [if_pos (by rw [if_neg h1, if_neg h2])]
      constructor
      · intro h; exact .inr ⟨by omega, h⟩
      · rintro (h | h)
        · omega
        · exact h.2
theorem bt_irrefl (L : List Cu) (l : List Nat) : ¬ bt L l l := by
  rintro (h | h)
  · omega
  · exact List.lt_irrefl _ h.2
/-- not better, step by step -/
theorem nbt_trans {L : List Cu} {a b c : List Nat} (h1 : ¬ bt L a b) (h2 : ¬ bt L b c) : ¬ bt L a c := by
  unfold bt at *
  have e1 : ¬ litW L a < litW L b := fun h => h1 (.inl h)
  have e2 : ¬ litW L b < litW L c := fun h => h2 (.inl h)
  rintro (h | ⟨h, h3⟩)
  · omega
  · have e3 : litW L a = litW L b := by omega
    have e4 : litW L b = litW L c := by omega
    have f1 : ¬ a < b := fun h => h1 (.inr ⟨e3, h⟩)
    have f2 : ¬ b < c := fun h => h2 (.inr ⟨e4, h⟩)
    have g1 : b ≤ a := f1
    have g2 : c ≤ b := f2
    exact (List.le_trans g2 g1 : c ≤ a) h3
theorem bt_total {L : List Cu} {a b : List Nat} (h1 : ¬ bt L a b) (h2 : ¬ bt L b a) : a = b := by
  unfold bt at *
  have e1 : ¬ litW L a < litW L b := fun h => h1 (.inl h)
  have e2 : ¬ litW L b < litW L a := fun h => h2 (.inl h)
  have e3 : litW L a = litW L b := by omega
  have f1 : b ≤ a := fun h => h1 (.inr ⟨e3, h⟩)
  have f2 : a ≤ b := fun h => h2 (.inr ⟨e3.symm, h⟩)
  exact List.le_antisymm f2 f1
theorem bt_asymm {L : List Cu} {a b : List Nat} (h : bt L a b) : ¬ bt L b a := by
  intro h2
  unfold bt at *
  rcases h with h | h <;> rcases h2 with h2 | h2
  · omega
  · omega
  · omega
  · exact List.lt_irrefl _ (List.lt_trans h.2 h2.2)

/-- some prime implicants have all points of On -/
def Cov (x : Tk) (n : Nat) (L : List Cu) (S : List Nat) : Prop := ∀ k : Nat, k < 2 ^ n → onW x n k = true → ∃ i ∈ S, hasC (L.getD i ⟨0, 0⟩) (k : Int) = true
def cntL (n : Nat) (L : List Cu) (l : List Nat) : Nat → Nat := l.foldl (fun f i => wiF f (L.getD i ⟨0, 0⟩) (2 ^ n)) fun _ => 0
theorem cnt_snoc (n : Nat) (L : List Cu) (l : List Nat) (i : Nat) : cntL n L (l ++ [i]) = wiF (cntL n L l) (L.getD i ⟨0, 0⟩) (2 ^ n) := by
  unfold cntL; rw [List.foldl_append]; rfl
theorem cnt_zero' {n : Nat} {L : List Cu} {k : Nat} (hk : k < 2 ^ n) : ∀ (l : List Nat) (f : Nat → Nat), (l.foldl (fun f i => wiF f (L.getD i ⟨0, 0⟩) (2 ^ n)) f) k = 0 ↔ f k = 0 ∧ ∀ i ∈ l, hasC (L.getD i ⟨0, 0⟩) (k : Int) = false
  | [], f => by simp
  | i :: l, f => by
    rw [List.foldl_cons, cnt_zero' hk l]
    unfold wiF
    constructor
    · rintro ⟨h1, h2⟩
      by_cases h : hasC (L.getD i ⟨0, 0⟩) (k : Int) = true
      · rw [if_pos ⟨hk, h⟩] at h1; omega
      · rw [if_neg (fun e => h e.2)] at h1
        refine ⟨h1, fun j hj => ?_⟩
        rcases List.mem_cons.1 hj with rfl | hj
        · exact Bool.eq_false_iff.2 h
        · exact h2 j hj
    · rintro ⟨h1, h2⟩
      have h := h2 i (List.mem_cons_self ..)
      rw [if_neg (fun e => by rw [h] at e; cases e.2)]
      exact ⟨h1, fun j hj => h2 j (List.mem_cons_of_mem _ hj)⟩
theorem cnt_zero {n : Nat} {L : List Cu} {k : Nat} (hk : k < 2 ^ n) (l : List Nat) : cntL n L l k = 0 ↔ ∀ i ∈ l, hasC (L.getD i ⟨0, 0⟩) (k : Int) = false := by
  unfold cntL
  rw [cnt_zero' hk]; simp
theorem mem_op {x : Tk} {n : Nat} {f : Nat → Nat} {k : Nat} : k ∈ opL x n f ↔ k < 2 ^ n ∧ onW x n k = true ∧ f k = 0 := by
  unfold opL opTo
  rw [List.mem_filter, List.mem_range]
  simp [opQ]
theorem op_nil {x : Tk} {n : Nat} {L : List Cu} {l : List Nat} : opL x n (cntL n L l) = [] ↔ Cov x n L l := by
  rw [List.eq_nil_iff_forall_not_mem]
  constructor
  · intro h k hk hon
    have h1 := h k
    rw [mem_op] at h1
    refine Classical.byContradiction fun hno => h1 ⟨hk, hon, (cnt_zero hk l).2 fun i hi => ?_⟩
    cases h : hasC (L.getD i ⟨0, 0⟩) (k : Int) with
    | false => rfl
    | true => exact absurd ⟨i, hi, h⟩ hno
  · intro h k hk
    rw [mem_op] at hk
    obtain ⟨i, hi, h1⟩ := h k hk.1 hk.2.1
    have := (cnt_zero hk.1 l).1 hk.2.2 i hi
    rw [h1] at this; cases this
theorem op_nodup (x : Tk) (n : Nat) (f : Nat → Nat) : (opL x n f).Nodup := by
  unfold opL opTo
  exact List.Pairwise.filter _ List.nodup_range
theorem first_mem {l : List Nat} (h : l ≠ []) : l.getD 0 0 ∈ l := by
  cases l with
  | nil => exact absurd rfl h
  | cons a l => simp
theorem mem_own {L : List Cu} {p : Int} {i : Nat} : i ∈ ownL L p ↔ i < L.length ∧ hasC (L.getD i ⟨0, 0⟩) p = true := by
  unfold ownL ownTo
  rw [List.mem_filter, List.mem_range]

theorem covG_nil {x : Tk} {n : Nat} {L : List Cu} {wid m : Nat} {f : Nat → Nat} {l : List Nat} {b : Bst} (h : opL x n f = []) : covG x n L wid m f l b = updQ L (sortN l) b := by
  cases m with
  | zero => rw [covG, if_pos h]
  | succ m => rw [covG, if_pos h]
theorem upd_mono {L : List Cu} {l s : List Nat} : ∃ r, updQ L l (some s) = some r ∧ ¬ bt L s r ∧ ¬ bt L l r := by
  unfold updQ
  by_cases h : betQ L l (some s) = true
  · rw [if_pos h]
    have h1 : bt L l s := (ord_iff L l s).1 (of_decide_eq_true h)
    exact ⟨l, rfl, bt_asymm h1, bt_irrefl L l⟩
  · rw [if_neg h]
    exact ⟨s, rfl, bt_irrefl L s, fun h1 => h (decide_eq_true ((ord_iff L l s).2 h1))⟩
theorem upd_some {L : List Cu} {l : List Nat} (b : Bst) : ∃ r, updQ L l b = some r ∧ ¬ bt L l r := by
  cases b with
  | none => exact ⟨l, rfl, bt_irrefl L l⟩
  | some s =>
    obtain ⟨r, h1, _, h2⟩ := upd_mono (L := L) (l := l) (s := s)
    exact ⟨r, h1, h2⟩
theorem covG_mono (x : Tk) (n : Nat) (L : List Cu) (wid : Nat) : ∀ (m : Nat) (f : Nat → Nat) (l s : List Nat), ∃ r, covG x n L wid m f l (some s) = some r ∧ ¬ bt L s r
  | 0, f, l, s => by
    rw [covG]
    split
    · obtain ⟨r, h1, h2, _⟩ := upd_mono (L := L) (l := sortN l) (s := s)
      exact ⟨r, h1, h2⟩
    · exact ⟨s, rfl, bt_irrefl L s⟩
  | m + 1, f, l, s => by
    rw [covG]
    split
    · obtain ⟨r, h1, h2, _⟩ := upd_mono (L := L) (l := sortN l) (s := s)
      exact ⟨r, h1, h2⟩
    · split
      · exact ⟨s, rfl, bt_irrefl L s⟩
      · have key : ∀ (os : List Nat) (s : List Nat), ∃ r, os.foldl (covStep x n L wid m f l) (some s) = some r ∧ ¬ bt L s r := by
          intro os
          induction os with
          | nil => exact fun s => ⟨s, rfl, bt_irrefl L s⟩
          | cons i os ih =>
            intro s
            obtain ⟨r1, e1, h1⟩ := covG_mono x n L wid m (wiF f (L.getD i ⟨0, 0⟩) (2 ^ n)) (l ++ [i]) s
            obtain ⟨r2, e2, h2⟩ := ih r1
            exact ⟨r2, by rw [List.foldl_cons, show covStep x n L wid m f l (some s) i = some r1 from e1]; exact e2, nbt_trans h1 h2⟩
        exact key _ s
theorem fold_mono (x : Tk) (n : Nat) (L : List Cu) (wid m : Nat) (f : Nat → Nat) (l : List Nat) : ∀ (os : List Nat) (s : List Nat), ∃ r, os.foldl (covStep x n L wid m f l) (some s) = some r ∧ ¬ bt L s r
  | [], s => ⟨s, rfl, bt_irrefl L s⟩
  | i :: os, s => by
    obtain ⟨r1, e1, h1⟩ := covG_mono x n L wid m (wiF f (L.getD i ⟨0, 0⟩) (2 ^ n)) (l ++ [i]) s
    obtain ⟨r2, e2, h2⟩ := fold_mono x n L wid m f l os r1
    exact ⟨r2, by rw [List.foldl_cons, show covStep x n L wid m f l (some s) i = some r1 from e1]; exact e2, nbt_trans h1 h2⟩

/-- what the search finds is a cover -/
def Found (x : Tk) (n : Nat) (L : List Cu) (m : Nat) (l r : List Nat) : Prop := ∃ T, r = sortN (l ++ T) ∧ Cov x n L (l ++ T) ∧ T.length ≤ m ∧ (∀ i ∈ l ++ T, i < L.length) ∧ (l ++ T).Nodup
theorem covG_sound (x : Tk) (n : Nat) (L : List Cu) (wid : Nat) : ∀ (m : Nat) (l : List Nat) (b : Bst), (∀ i ∈ l, i < L.length) → l.Nodup → covG x n L wid m (cntL n L l) l b = b ∨ ∃ r, covG x n L wid m (cntL n L l) l b = some r ∧ Found x n L m l r := by
  have upd : ∀ (m : Nat) (l : List Nat) (b : Bst), (∀ i ∈ l, i < L.length) → l.Nodup → opL x n (cntL n L l) = [] → updQ L (sortN l) b = b ∨ ∃ r, updQ L (sortN l) b = some r ∧ Found x n L m l r := by
    intro m l b h1 h2 h3
    unfold updQ
    split
    · exact .inr ⟨_, rfl, [], by rw [List.append_nil], by rw [List.append_nil]; exact op_nil.1 h3, Nat.zero_le _, by rw [List.append_nil]; exact h1, by rw [List.append_nil]; exact h2⟩
    · exact .inl rfl
  intro m
  induction m with
  | zero =>
    intro l b h1 h2
    rw [covG]
    split
    · rename_i h; exact upd 0 l b h1 h2 h
    · exact .inl rfl
  | succ m ih =>
    intro l b h1 h2
    rw [covG]
    split
    · rename_i h; exact upd (m + 1) l b h1 h2 h
    · rename_i hne
      split
      · exact .inl rfl
      · have hp := mem_op.1 (first_mem hne)
        have key : ∀ (os : List Nat) (b : Bst), (∀ i ∈ os, i ∈ ownL L ((opL x n (cntL n L l)).getD 0 0 : Nat)) → os.foldl (covStep x n L wid m (cntL n L l) l) b = b ∨ ∃ r, os.foldl (covStep x n L wid m (cntL n L l) l) b = some r ∧ Found x n L (m + 1) l r := by
          intro os
          induction os with
          | nil => exact fun b _ => .inl rfl
          | cons i os ihos =>
            intro b ho
            have hi := mem_own.1 (ho i (List.mem_cons_self ..))
            have hil : i ∉ l := fun h => by
              have := (cnt_zero hp.1 l).1 hp.2.2 i h
              rw [hi.2] at this; cases this
            have step : covStep x n L wid m (cntL n L l) l b i = covG x n L wid m (cntL n L (l ++ [i])) (l ++ [i]) b := by rw [cnt_snoc]; rfl
            have hn : (l ++ [i]).Nodup := by
              rw [List.nodup_append]
              exact ⟨h2, by simp, fun a ha c hc => by
                obtain rfl : c = i := by simpa using hc
                exact fun e => hil (e ▸ ha)⟩
            rw [List.foldl_cons, step]
            have h3 : covG x n L wid m (cntL n L (l ++ [i])) (l ++ [i]) b = b ∨ ∃ r, covG x n L wid m (cntL n L (l ++ [i])) (l ++ [i]) b = some r ∧ Found x n L (m + 1) l r := by
              rcases ih (l ++ [i]) b (goodI_snoc h1 hi.1) hn with h | ⟨r, h, T, hT1, hT2, hT3, hT4, hT5⟩
              · exact .inl h
              · refine .inr ⟨r, h, i :: T, ?_, ?_, ?_, ?_, ?_⟩
                · rw [hT1, List.append_assoc]; rfl
                · rw [List.append_assoc] at hT2; exact hT2
                · rw [List.length_cons]; omega
                · rw [List.append_assoc] at hT4; exact hT4
                · rw [List.append_assoc] at hT5; exact hT5
            rcases ihos (covG x n L wid m (cntL n L (l ++ [i])) (l ++ [i]) b) (fun j hj => ho j (List.mem_cons_of_mem _ hj)) with h4 | h4
            · rw [h4]; exact h3
            · exact .inr h4
        exact key _ b fun i hi => hi

theorem flat_le {α β : Type} (g : α → List β) (w : Nat) : ∀ (R : List α), (∀ i ∈ R, (g i).length ≤ w) → (R.flatMap g).length ≤ R.length * w
  | [], _ => by simp
  | i :: R, h => by
    rw [List.flatMap_cons, List.length_append, List.length_cons, Nat.succ_mul]
    have h1 := h i (List.mem_cons_self ..)
    have h2 := flat_le g w R fun j hj => h j (List.mem_cons_of_mem _ hj)
    omega
def ptN (n : Nat) (c : Cu) : List Nat := (List.range (2 ^ n)).filter fun k => hasC c (k : Int)
/-- no cover is missed -/
theorem covG_comp (x : Tk) (n : Nat) (L : List Cu) (wid : Nat) (hw : ∀ i, i < L.length → (ptN n (L.getD i ⟨0, 0⟩)).length ≤ wid) (S : List Nat) (hS : S.Nodup) (hSi : ∀ i ∈ S, i < L.length) (hSc : Cov x n L S) :
    ∀ (m : Nat) (l : List Nat) (b : Bst), (∀ i ∈ l, i ∈ S) → l.Nodup → S.length ≤ l.length + m →
      ∃ r T, covG x n L wid m (cntL n L l) l b = some r ∧ (∀ i ∈ l ++ T, i ∈ S) ∧ Cov x n L (l ++ T) ∧ (l ++ T).Nodup ∧ ¬ bt L (sortN (l ++ T)) r := by
  have done : ∀ (m : Nat) (l : List Nat) (b : Bst), (∀ i ∈ l, i ∈ S) → l.Nodup → opL x n (cntL n L l) = [] →
      ∃ r T, covG x n L wid m (cntL n L l) l b = some r ∧ (∀ i ∈ l ++ T, i ∈ S) ∧ Cov x n L (l ++ T) ∧ (l ++ T).Nodup ∧ ¬ bt L (sortN (l ++ T)) r := by
    intro m l b h1 h2 h3
    obtain ⟨r, h4, h5⟩ := upd_some (L := L) (l := sortN l) b
    exact ⟨r, [], by rw [covG_nil h3, h4], by rw [List.append_nil]; exact h1, by rw [List.append_nil]; exact op_nil.1 h3, by rw [List.append_nil]; exact h2, by rw [List.append_nil]; exact h5⟩
  intro m
  induction m with
  | zero =>
    intro l b h1 h2 h3
    refine done 0 l b h1 h2 (op_nil.2 fun k hk hon => ?_)
    obtain ⟨i, hi, h4⟩ := hSc k hk hon
    refine ⟨i, Classical.byContradiction fun hil => ?_, h4⟩
    have hn : (i :: l).Nodup := List.nodup_cons.2 ⟨hil, h2⟩
    have := nodup_len (i :: l) S hn fun j hj => by
      rcases List.mem_cons.1 hj with rfl | hj
      · exact hi
      · exact h1 j hj
    rw [List.length_cons] at this; omega
  | succ m ih =>
    intro l b h1 h2 h3
    by_cases hne : opL x n (cntL n L l) = []
    · exact done (m + 1) l b h1 h2 hne
    · have hcount : ¬ (m + 1) * wid < (opL x n (cntL n L l)).length := by
        have hsub : ∀ k ∈ opL x n (cntL n L l), k ∈ (S.filter fun i => !l.contains i).flatMap fun i => ptN n (L.getD i ⟨0, 0⟩) := fun k hk => by
          obtain ⟨hk1, hk2, hk3⟩ := mem_op.1 hk
          obtain ⟨i, hi, h4⟩ := hSc k hk1 hk2
          refine List.mem_flatMap.2 ⟨i, List.mem_filter.2 ⟨hi, ?_⟩, List.mem_filter.2 ⟨List.mem_range.2 hk1, h4⟩⟩
          rw [Bool.not_eq_true']
          rw [← Bool.not_eq_true, List.contains_iff_mem]
          intro hil
          have := (cnt_zero hk1 l).1 hk3 i hil
          rw [h4] at this; cases this
        have e1 := nodup_len _ _ (op_nodup x n (cntL n L l)) hsub
        have e2 := flat_le (fun i => ptN n (L.getD i ⟨0, 0⟩)) wid (S.filter fun i => !l.contains i) fun i hi => hw i (hSi i (List.mem_filter.1 hi).1)
        have hn : (l ++ S.filter fun i => !l.contains i).Nodup := by
          rw [List.nodup_append]
          refine ⟨h2, List.Pairwise.filter _ hS, fun a ha c hc e => ?_⟩
          have := (List.mem_filter.1 hc).2
          subst e
          rw [Bool.not_eq_true', ← Bool.not_eq_true, List.contains_iff_mem] at this
          exact this ha
        have e3 := nodup_len _ S hn fun j hj => by
          rcases List.mem_append.1 hj with hj | hj
          · exact h1 j hj
          · exact (List.mem_filter.1 hj).1
        rw [List.length_append] at e3
        have e4 : (S.filter fun i => !l.contains i).length * wid ≤ (m + 1) * wid := Nat.mul_le_mul_right _ (by omega)
        omega
      have hp := mem_op.1 (first_mem hne)
      obtain ⟨i, hiS, hip⟩ := hSc _ hp.1 hp.2.1
      have hio : i ∈ ownL L ((opL x n (cntL n L l)).getD 0 0 : Nat) := mem_own.2 ⟨hSi i hiS, hip⟩
      have hil : i ∉ l := fun h => by
        have := (cnt_zero hp.1 l).1 hp.2.2 i h
        rw [hip] at this; cases this
      have hn : (l ++ [i]).Nodup := by
        rw [List.nodup_append]
        exact ⟨h2, by simp, fun a ha c hc => by
          obtain rfl : c = i := by simpa using hc
          exact fun e => hil (e ▸ ha)⟩
      obtain ⟨O1, O2, hO⟩ := List.append_of_mem hio
      obtain ⟨b1, hb1⟩ : ∃ b1, O1.foldl (covStep x n L wid m (cntL n L l) l) b = b1 := ⟨_, rfl⟩
      obtain ⟨r1, T, e1, e2, e3, e4, e5⟩ := ih (l ++ [i]) b1 (fun j hj => by
        rcases List.mem_append.1 hj with hj | hj
        · exact h1 j hj
        · obtain rfl : j = i := by simpa using hj
          exact hiS) hn (by rw [List.length_append]; simp; omega)
      obtain ⟨r, f1, f2⟩ := fold_mono x n L wid m (cntL n L l) l O2 r1
      refine ⟨r, i :: T, ?_, ?_, ?_, ?_, ?_⟩
      · rw [covG, if_neg hne, if_neg hcount, hO]
        show (O1 ++ i :: O2).foldl (covStep x n L wid m (cntL n L l) l) b = some r
        rw [List.foldl_append, hb1, List.foldl_cons, show covStep x n L wid m (cntL n L l) l b1 i = some r1 by rw [← e1, cnt_snoc]; rfl]
        exact f1
      · rw [List.append_assoc] at e2; exact e2
      · rw [List.append_assoc] at e3; exact e3
      · rw [List.append_assoc] at e4; exact e4
      · rw [List.append_assoc] at e5; exact nbt_trans e5 f2

/-- the least cover -/
structure Best (x : Tk) (n : Nat) (L : List Cu) (l : List Nat) : Prop where
  sorted : l.Pairwise (· ≤ ·)
  nodup : l.Nodup
  idx : ∀ i ∈ l, i < L.length
  cov : Cov x n L l
  least : ∀ S : List Nat, S.Nodup → (∀ i ∈ S, i < L.length) → Cov x n L S → l.length < S.length ∨ l.length = S.length ∧ ¬ bt L (sortN S) l
theorem lea_best {x : Tk} {n : Nat} {L : List Cu} (hw : ∀ i, i < L.length → (ptN n (L.getD i ⟨0, 0⟩)).length ≤ widL n L) (hall : Cov x n L (List.range L.length)) : Best x n L (leaL x n L) := by
  have comp : ∀ (m : Nat) (S : List Nat), S.Nodup → (∀ i ∈ S, i < L.length) → Cov x n L S → S.length ≤ m → ∃ r T, covB x n L m = some r ∧ (∀ i ∈ T, i ∈ S) ∧ Cov x n L T ∧ T.Nodup ∧ ¬ bt L (sortN T) r := fun m S h1 h2 h3 h4 => by
    obtain ⟨r, T, e1, e2, e3, e4, e5⟩ := covG_comp x n L (widL n L) hw S h1 h2 h3 m [] none (fun i hi => by cases hi) .nil (by rw [List.length_nil]; omega)
    exact ⟨r, T, e1, e2, e3, e4, e5⟩
  have sound : ∀ (m : Nat) (r : List Nat), covB x n L m = some r → ∃ T, r = sortN T ∧ Cov x n L T ∧ T.length ≤ m ∧ (∀ i ∈ T, i < L.length) ∧ T.Nodup := fun m r h => by
    rcases covG_sound x n L (widL n L) m [] none (fun i hi => by cases hi) .nil with h1 | ⟨r', h1, h2⟩
    · have h : covG x n L (widL n L) m (cntL n L []) [] none = some r := h
      rw [h1] at h; cases h
    · have h : covG x n L (widL n L) m (cntL n L []) [] none = some r := h
      rw [h1] at h
      obtain rfl := Option.some.inj h
      exact h2
  obtain ⟨r0, _, h0, _⟩ := comp L.length (List.range L.length) List.nodup_range (fun i hi => List.mem_range.1 hi) hall (by simp)
  -- the first number for which there is one
  have hex : ∃ m, m ≤ L.length ∧ covB x n L m ≠ none ∧ ∀ j, j < m → covB x n L j = none := by
    have : ∀ k, (∃ m, m < k ∧ covB x n L m ≠ none ∧ ∀ j, j < m → covB x n L j = none) ∨ ∀ j, j < k → covB x n L j = none := by
      intro k
      induction k with
      | zero => exact .inr fun j hj => absurd hj (Nat.not_lt_zero _)
      | succ k ih =>
        rcases ih with ⟨m, h1, h2⟩ | h
        · exact .inl ⟨m, by omega, h2⟩
        · by_cases e : covB x n L k = none
          · exact .inr (upto_succ h e)
          · exact .inl ⟨k, by omega, e, h⟩
    rcases this (L.length + 1) with ⟨m, h1, h2⟩ | h
    · exact ⟨m, by omega, h2⟩
    · have := h L.length (by omega)
      rw [h0] at this; cases this
  obtain ⟨m, hm, hne, hno⟩ := hex
  obtain ⟨l, hl⟩ : ∃ l, covB x n L m = some l := by
    cases h : covB x n L m with
    | none => exact absurd h hne
    | some l => exact ⟨l, rfl⟩
  have hlea : leaL x n L = l := by rw [leaL, find_range (show m < L.length + 1 by omega) hl hno]; rfl
  have none_lt : ∀ S : List Nat, S.Nodup → (∀ i ∈ S, i < L.length) → Cov x n L S → m ≤ S.length := fun S h1 h2 h3 => by
    refine Classical.byContradiction fun h => ?_
    obtain ⟨r, _, h4, _⟩ := comp S.length S h1 h2 h3 (Nat.le_refl _)
    rw [hno S.length (by omega)] at h4; cases h4
  obtain ⟨T, hT, hTc, hTm, hTi, hTn⟩ := sound m l hl
  have hTl : T.length = m := Nat.le_antisymm hTm (none_lt T hTn hTi hTc)
  have hll : l.length = m := by rw [hT, sortN_len, hTl]
  rw [hlea]
  refine ⟨by rw [hT]; exact sortN_sorted T, by rw [hT]; exact (sortN_perm T).symm.nodup hTn, fun i hi => hTi i (by rw [hT] at hi; exact (sortN_perm T).mem_iff.1 hi), fun k hk hon => ?_, fun S h1 h2 h3 => ?_⟩
  · obtain ⟨i, hi, h⟩ := hTc k hk hon
    exact ⟨i, by rw [hT]; exact (sortN_perm T).mem_iff.2 hi, h⟩
  · have := none_lt S h1 h2 h3
    by_cases e : m < S.length
    · exact .inl (by omega)
    · refine .inr ⟨by omega, ?_⟩
      obtain ⟨r, U, g1, g2, g3, g4, g5⟩ := comp m S h1 h2 h3 (by omega)
      rw [hl] at g1
      obtain rfl := Option.some.inj g1
      have hUm := none_lt U g4 (fun i hi => h2 i (g2 i hi)) g3
      -- the cover found inside is the whole one
      have hp : S.Perm U := by
        refine (List.perm_ext_iff_of_nodup h1 g4).2 fun i => ⟨fun hi => Classical.byContradiction fun hn => ?_, fun hi => g2 i hi⟩
        have := nodup_len (i :: U) S (List.nodup_cons.2 ⟨hn, g4⟩) fun j hj => by
          rcases List.mem_cons.1 hj with rfl | hj
          · exact hi
          · exact g2 j hj
        rw [List.length_cons] at this; omega
      rw [sortN_eq (sortN_sorted U) ((sortN_perm U).trans hp.symm)]
      exact g5

end Go.Sx.Pn
