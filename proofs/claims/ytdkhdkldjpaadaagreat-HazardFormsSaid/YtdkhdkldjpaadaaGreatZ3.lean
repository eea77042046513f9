/- Both forms of chapter 8 are the same; HazardForms, walked. -/
import Derived.Test.YtdkhdkldjpaadaaGreatZ2
set_option maxHeartbeats 1000000
set_option maxRecDepth 4000
set_option linter.unusedSimpArgs false
set_option linter.unusedVariables false
namespace Go.Sx.Pn
open Go Go.Proofs

theorem len_top {x : U} {k : Nat} (hk : k < 64) (h : x.getLsbD k = true) (hno : ∀ j, k < j → x.getLsbD j = false) : lenU x = k + 1 := by
  have h1 : 2 ^ k ≤ x.toNat := Nat.ge_two_pow_of_testBit h
  have h2 : x.toNat < 2 ^ (k + 1) := Nat.lt_pow_two_of_testBit _ fun j hj => hno j (by omega)
  unfold lenU
  rw [Lib.bitLen_shift k x.toNat h1 x.isLt]
  have h3 : x.toNat / 2 ^ k = 1 := by
    rw [Nat.pow_succ] at h2
    apply Nat.div_eq_of_lt_le
    · omega
    · omega
  rw [h3]; rfl
theorem low_bit {d : U} (h : d ≠ 0#64) : ∃ i, i < 64 ∧ d.getLsbD i = true ∧ ∀ j, j < i → d.getLsbD j = false := by
  have key : ∀ m, (∃ i, i < m ∧ d.getLsbD i = true ∧ ∀ j, j < i → d.getLsbD j = false) ∨ ∀ j, j < m → d.getLsbD j = false := by
    intro m
    induction m with
    | zero => exact .inr fun j hj => absurd hj (Nat.not_lt_zero _)
    | succ m ih =>
      rcases ih with ⟨i, hi, h1⟩ | h1
      · exact .inl ⟨i, by omega, h1⟩
      · cases hm : d.getLsbD m with
        | true => exact .inl ⟨m, by omega, hm, h1⟩
        | false =>
          refine .inr fun j hj => ?_
          by_cases e : j = m
          · rw [e]; exact hm
          · exact h1 j (by omega)
  rcases key 64 with h1 | h1
  · exact h1
  · exact absurd (BitVec.eq_of_getLsbD_eq fun i hi => by rw [h1 i hi, BitVec.getLsbD_zero]) h
theorem shl_bit {k : Nat} (hk : k < 64) (j : Nat) : (1#64 <<< k).getLsbD j = decide (j = k) := shl1_bit hk j
theorem earl_at {W B : U} {i : Nat} (hi : i < 64) (h : (W ^^^ B).getLsbD i = true) (hno : ∀ j, j < i → (W ^^^ B).getLsbD j = false) : earl W B = W.getLsbD i := by
  have hl : lenU (revU (W ^^^ B)) = 63 - i + 1 := len_top (by omega) (by rw [rev_bit _ (by omega), show 63 - (63 - i) = i by omega]; exact h) fun j hj => by
    by_cases h64 : j < 64
    · rw [rev_bit _ h64]; exact hno _ (by omega)
    · exact BitVec.getLsbD_of_ge _ _ (by omega)
  unfold earl
  rw [hl, Nat.add_sub_cancel]
  have hx : ∀ j, j < 64 → (revU (1#64 <<< (63 - i))).getLsbD j = decide (j = i) := fun j hj => by
    rw [rev_bit _ hj, shl_bit (by omega)]
    apply decide_eq_decide.2; omega
  cases hw : W.getLsbD i with
  | true =>
    rw [bne_iff_ne]
    intro e
    have := congrArg (fun x : U => x.getLsbD i) e
    simp only [BitVec.getLsbD_and, hw, hx i hi, BitVec.getLsbD_zero] at this
    simp at this
  | false =>
    rw [bne_eq_false_iff_eq]
    apply BitVec.eq_of_getLsbD_eq
    intro j hj
    rw [BitVec.getLsbD_and, hx j hj, BitVec.getLsbD_zero]
    by_cases e : j = i
    · rw [e, hw]; rfl
    · simp [e]
theorem earl_first {w b : Nat} (hw : w < 65536) {B : U} (hB : B.toNat = b) (hb : b < 65536) (hne : BitVec.ofNat 64 w ^^^ B ≠ 0#64) : earl (BitVec.ofNat 64 w) B = firstB w b := by
  obtain ⟨i, hi, h1, h2⟩ := low_bit hne
  have hW : ∀ j, (BitVec.ofNat 64 w).getLsbD j = w.testBit j := fun j => by
    show (BitVec.ofNat 64 w).toNat.testBit j = _
    rw [ofNat_nat hw]
  have hBb : ∀ j, B.getLsbD j = b.testBit j := fun j => by
    show B.toNat.testBit j = _
    rw [hB]
  have hx : ∀ j, (BitVec.ofNat 64 w ^^^ B).getLsbD j = (w.testBit j != b.testBit j) := fun j => by
    rw [BitVec.getLsbD_xor, hW, hBb]
  rw [earl_at hi h1 h2, hW]
  have h30 : i < 30 := Classical.byContradiction fun h => by
    rw [hx] at h1
    have a1 : w.testBit i = false := Nat.testBit_lt_two_pow (Nat.lt_of_lt_of_le hw (Nat.pow_le_pow_right (n := 2) (by decide) (show 16 ≤ i by omega)))
    have a2 : b.testBit i = false := Nat.testBit_lt_two_pow (Nat.lt_of_lt_of_le hb (Nat.pow_le_pow_right (n := 2) (by decide) (show 16 ≤ i by omega)))
    rw [a1, a2] at h1; cases h1
  rw [firstB, find_at h30 (by rw [← hx]; exact h1) fun j hj => by rw [← hx]; exact h2 j hj]
theorem cmp_same {a b x y : Nat} {e : Bool} {g : Prop} : (a ≤ b ∧ g ∧ (a < b ∨ a = b ∧ (x < y ∨ x = y ∧ e = true))) ↔ (g ∧ ¬ (b < a ∨ a = b ∧ y < x) ∧ (a < b ∨ x < y ∨ e = true)) := by
  by_cases hg : g
  · simp only [hg, true_and]
    cases e
    · simp only [Bool.false_eq_true, and_false, or_false]; omega
    · simp only [and_true, or_true]; omega
  · simp [hg]
theorem forms_same {n : Nat} {t : U} {all : List Cu} (h16 : all.length ≤ 16) : ∀ w, w ≤ 2 ^ all.length - 1 → (fTo n t all w).1.toNat = rTo n t all w ∧ (fTo n t all w).2 = litL (chL all (rTo n t all w))
  | 0, _ => ⟨full_nat h16, by rw [show rTo n t all 0 = 2 ^ all.length - 1 from rfl, ch_full]; rfl⟩
  | w + 1, hw => by
    obtain ⟨h1, h2⟩ := forms_same (n := n) (t := t) h16 w (by omega)
    have hne := fTo_ne (n := n) (t := t) h16 (show w < 2 ^ all.length - 1 by omega)
    have hlt := fTo_lt (n := n) (t := t) h16 (show w ≤ 2 ^ all.length - 1 by omega)
    have hp := pow16 h16
    have hpop : popU (fTo n t all w).1 = (chL all (rTo n t all w)).length := by
      rw [popU_eq (by omega), h1, ch_len all _ (by rw [← h1]; exact hlt) h16]
    have he := earl_first (w := w) (by omega) h1 (by omega) hne
    rw [fTo, rTo, fStep, rStep]
    have hc : ((chL all w).length ≤ popU (fTo n t all w).1 ∧ goodL n t (chL all w) ∧ betterL (chL all w) (BitVec.ofNat 64 w) (fTo n t all w).1 (fTo n t all w).2) ↔ (goodL n t (chL all w) ∧ rbetterL (chL all w) (chL all (rTo n t all w)) w (rTo n t all w)) := by
      unfold betterL rbetterL
      rw [hpop, he, h2]
      exact cmp_same
    by_cases hg : goodL n t (chL all w) ∧ rbetterL (chL all w) (chL all (rTo n t all w)) w (rTo n t all w)
    · rw [if_pos (hc.2 hg), if_pos hg]
      exact ⟨ofNat_nat (by omega), rfl⟩
    · rw [if_neg (fun h => hg (hc.1 h)), if_neg hg]
      exact ⟨h1, h2⟩
theorem first_self (a : Nat) : firstB a a = false := by
  rw [firstB, show (List.range 30).find? (fun i => a.testBit i != a.testBit i) = none by
    rw [List.find?_eq_none]; intro j _; simp]
theorem last_step {n : Nat} {t : U} {all : List Cu} (h16 : all.length ≤ 16) : rTo n t all (2 ^ all.length) = rTo n t all (2 ^ all.length - 1) := by
  have hpos := Nat.two_pow_pos all.length
  obtain ⟨k, hk⟩ : ∃ k, 2 ^ all.length = k + 1 := ⟨2 ^ all.length - 1, by omega⟩
  have hb := rTo_lt (n := n) (t := t) (all := all) k (by omega)
  have hch : chL all k = all := by
    have := ch_full all
    rwa [hk, Nat.add_sub_cancel] at this
  rw [hk, Nat.add_sub_cancel, rTo, rStep]
  rw [hk] at hb
  split
  · rename_i h
    obtain ⟨_, h1, h2⟩ := h
    rw [hch] at h1 h2
    have hl : (chL all (rTo n t all k)).length ≤ all.length := ch_len_le _ _ _
    have hsub : all.length = (chL all (rTo n t all k)).length := by omega
    -- as many are chosen only if all are
    by_cases e : rTo n t all k = k
    · exact e.symm
    · exfalso
      have hex : ∃ i, i < all.length ∧ (rTo n t all k).testBit i = false := by
        refine Classical.byContradiction fun hne => e ?_
        have hall : ∀ i, i < all.length → (rTo n t all k).testBit i = true := fun i hi => by
          cases h : (rTo n t all k).testBit i with
          | true => rfl
          | false => exact absurd ⟨i, hi, h⟩ hne
        have : rTo n t all k = 2 ^ all.length - 1 := by
          apply Nat.eq_of_testBit_eq
          intro i
          rw [Nat.testBit_two_pow_sub_one]
          by_cases hi : i < all.length
          · rw [hall i hi]; simp [hi]
          · rw [Nat.testBit_lt_two_pow (Nat.lt_of_lt_of_le (by omega) (Nat.pow_le_pow_right (n := 2) (by decide) (show all.length ≤ i by omega)))]; simp [hi]
        omega
      obtain ⟨i, hi, h⟩ := hex
      have h3 : ((List.range all.length).filter fun i => (rTo n t all k).testBit i).length < (List.range all.length).length := by
        apply Classical.byContradiction
        intro h4
        have h5 := List.length_filter_le (fun i => (rTo n t all k).testBit i) (List.range all.length)
        have h6 := (List.length_filter_eq_length_iff.1 (show ((List.range all.length).filter fun i => (rTo n t all k).testBit i).length = (List.range all.length).length by omega)) i (List.mem_range.2 hi)
        rw [h] at h6; cases h6
      rw [List.length_range] at h3
      unfold chL chTo at hsub
      rw [List.length_map] at hsub
      omega
  · rfl
theorem form_same {n : Nat} {t : U} (h16 : (prL n t).length ≤ 16) : rformL n t = formL n t := by
  rw [rformL, formL, formW, last_step h16, (forms_same h16 _ (Nat.le_refl _)).1]

def fewB8t (t : Tb) : Bool := decide (¬ chkT t = 0) || (decide (t.n ≤ 3) || (decide (t.n ≤ 4) && decide ((prL t.n.toNat t.bits).length ≤ 9)))
def few8tS : Spec := fnS (fun t : Tb => [tA t]) (fun _ => True) (fun t => bP (fewB8t t))
theorem few8t_ok : FnOk Tryz.prog 10 few8tS := by
  refine fnOk (Tb := tab) mixed tab_ok Tryz.func10 rfl rfl ?_
  rintro ⟨n, t⟩ hpre
  refine ai (ai rfl (ai rfl rfl)) ?_
  refine ei _ (ai rtcheck_ok (ei (⟨n, t⟩) (ei [] (ai (ai rfl (ai rfl (ai rfl (ai rfl (ai (fun _ => Or.inl rfl) (ai (by first | exact nof | exact (fun _ => ai rfl rfl)) (by first | exact Or.inl rfl | exact Or.inr rfl))))))) (ai (by (repeat' (first | with_reducible rfl | exact trivial | refine ai ?_ ?_ | (show (_ : Int) = _; first | with_reducible rfl | exact wr1 (by omega) | (simp only [zz, reduceCtorEq] <;> first | done | rfl | omega) | omega | rfl) | exact rfl | exact (fun _ => rfl) | exact (fun _ _ => rfl) | exact nof))) (ai trivial (ai (trivial) ?_)))))))
  refine bcase_n (p := chkT ⟨n, t⟩ = 0) (by first | (with_reducible refine bif_lt ?_; omega) | (with_reducible refine bif_le ?_; omega) | (with_reducible refine bif_eq ?_; omega) | (with_reducible refine bif_ne ?_; omega) | exact b8_eq rfl | exact b8_ne rfl | exact bif_lt (by omega) | exact bif_le (by omega) | exact bif_eq (by omega) | exact bif_ne (by omega) | exact Iff.rfl | (simp only [zz, reduceCtorEq] <;> first | done | omega | exact Iff.rfl) | (simp; done) | (simp; omega)) (fun h1 => ?_) (fun h1 => ?_)
  · skip
    refine ai (ai (fun _ => (by (repeat' (first | exact rfl | exact trivial | exact (fun _ => rfl) | exact (fun _ _ => rfl) | exact nof | refine ai ?_ ?_)))) ?_) trivial
    show ple _ (bP (fewB8t ⟨n, t⟩))
    rw [show fewB8t ⟨n, t⟩ = true by simp [fewB8t, h1]]
    any_goals (repeat' (first | with_reducible rfl | exact trivial | refine ai ?_ ?_ | (show (_ : Int) = _; first | with_reducible rfl | exact wr1 (by omega) | (simp only [zz, reduceCtorEq] <;> first | done | rfl | omega) | omega | rfl) | exact rfl | exact (fun _ => rfl) | exact (fun _ _ => rfl) | exact nof))
  obtain ⟨k, hk, e, _⟩ := chkT_zero h1
  obtain rfl : n = k := e
  refine bcase_p (p := (k : Int) ≤ 3) (by first | (with_reducible refine bif_lt ?_; omega) | (with_reducible refine bif_le ?_; omega) | (with_reducible refine bif_eq ?_; omega) | (with_reducible refine bif_ne ?_; omega) | exact b8_eq rfl | exact b8_ne rfl | exact bif_lt (by omega) | exact bif_le (by omega) | exact bif_eq (by omega) | exact bif_ne (by omega) | exact Iff.rfl | (simp only [zz, reduceCtorEq] <;> first | done | omega | exact Iff.rfl) | (simp; done) | (simp; omega)) (fun h2 => ?_) (fun h2 => ?_)
  · skip
    refine ai (ai (fun _ => (by (repeat' (first | exact rfl | exact trivial | exact (fun _ => rfl) | exact (fun _ _ => rfl) | exact nof | refine ai ?_ ?_)))) ?_) trivial
    show ple _ (bP (fewB8t ⟨k, t⟩))
    rw [show fewB8t ⟨k, t⟩ = true by simp [fewB8t, h1]; omega]
    any_goals (repeat' (first | with_reducible rfl | exact trivial | refine ai ?_ ?_ | (show (_ : Int) = _; first | with_reducible rfl | exact wr1 (by omega) | (simp only [zz, reduceCtorEq] <;> first | done | rfl | omega) | omega | rfl) | exact rfl | exact (fun _ => rfl) | exact (fun _ _ => rfl) | exact nof))
  refine bcase_p (p := (k : Int) ≤ 4) (by first | (with_reducible refine bif_lt ?_; omega) | (with_reducible refine bif_le ?_; omega) | (with_reducible refine bif_eq ?_; omega) | (with_reducible refine bif_ne ?_; omega) | exact b8_eq rfl | exact b8_ne rfl | exact bif_lt (by omega) | exact bif_le (by omega) | exact bif_eq (by omega) | exact bif_ne (by omega) | exact Iff.rfl | (simp only [zz, reduceCtorEq] <;> first | done | omega | exact Iff.rfl) | (simp; done) | (simp; omega)) (fun h3 => ?_) (fun h3 => ?_)
  · skip
    refine ei _ (ai rpr_ok (ei ((k, t)) (ei [] (ai (ai rfl (ai rfl (ai rfl (ai rfl (ai (fun _ => Or.inl rfl) (ai (by first | exact nof | exact (fun _ => ai rfl rfl)) (by first | exact Or.inl rfl | exact Or.inr rfl))))))) (ai (by (repeat' (first | with_reducible rfl | exact trivial | refine ai ?_ ?_ | (show (_ : Int) = _; first | with_reducible rfl | exact wr1 (by omega) | (simp only [zz, reduceCtorEq] <;> first | done | rfl | omega) | omega | rfl) | exact rfl | exact (fun _ => rfl) | exact (fun _ _ => rfl) | exact nof))) (ai trivial (ai (hk) ?_)))))))
    refine ai (ai (fun _ => trivial) ?_) trivial
    show decide (((prL k t).length : Int) ≤ 9) = fewB8t ⟨k, t⟩
    have e : decide (((prL k t).length : Int) ≤ 9) = decide ((prL k t).length ≤ 9) := decide_eq_decide.2 (by omega)
    rw [e, fewB8t, decide_eq_false (show ¬ ¬ chkT ⟨k, t⟩ = 0 from fun h => h h1), decide_eq_false (show ¬ (k : Int) ≤ 3 from h2), decide_eq_true (show (k : Int) ≤ 4 from h3), Int.toNat_natCast]; rfl
  · skip
    refine ai (ai (fun _ => (by (repeat' (first | exact rfl | exact trivial | exact (fun _ => rfl) | exact (fun _ _ => rfl) | exact nof | refine ai ?_ ?_)))) ?_) trivial
    show ple _ (bP (fewB8t ⟨k, t⟩))
    rw [show fewB8t ⟨k, t⟩ = false by simp [fewB8t, h1]; omega]
    any_goals (repeat' (first | with_reducible rfl | exact trivial | refine ai ?_ ?_ | (show (_ : Int) = _; first | with_reducible rfl | exact wr1 (by omega) | (simp only [zz, reduceCtorEq] <;> first | done | rfl | omega) | omega | rfl) | exact rfl | exact (fun _ => rfl) | exact (fun _ _ => rfl) | exact nof))
def rformES : Spec := fnS (fun x : Tb => [tA x]) (fun x => ¬ chkT x = 0) (fun x => .tup [csP [], iP (chkT x)])
theorem rformE_ok : FnOk Tryz.prog 13 rformES := by
  refine fnOk (Tb := tab) mixed tab_ok Tryz.func13 rfl rfl ?_
  rintro ⟨n, t⟩ hpre
  refine ai (ai rfl (ai rfl rfl)) ?_
  have h : ¬ chkT ⟨n, t⟩ = 0 := hpre
  refine ei _ (ai rtcheck_ok (ei (⟨n, t⟩) (ei [] (ai (ai rfl (ai rfl (ai rfl (ai rfl (ai (fun _ => Or.inl rfl) (ai (by first | exact nof | exact (fun _ => ai rfl rfl)) (by first | exact Or.inl rfl | exact Or.inr rfl))))))) (ai (by (repeat' (first | with_reducible rfl | exact trivial | refine ai ?_ ?_ | (show (_ : Int) = _; first | with_reducible rfl | exact wr1 (by omega) | (simp only [zz, reduceCtorEq] <;> first | done | rfl | omega) | omega | rfl) | exact rfl | exact (fun _ => rfl) | exact (fun _ _ => rfl) | exact nof))) (ai trivial (ai (trivial) ?_)))))))
  refine bcase_n (p := chkT ⟨n, t⟩ = 0) (by first | (with_reducible refine bif_lt ?_; omega) | (with_reducible refine bif_le ?_; omega) | (with_reducible refine bif_eq ?_; omega) | (with_reducible refine bif_ne ?_; omega) | exact b8_eq rfl | exact b8_ne rfl | exact bif_lt (by omega) | exact bif_le (by omega) | exact bif_eq (by omega) | exact bif_ne (by omega) | exact Iff.rfl | (simp only [zz, reduceCtorEq] <;> first | done | omega | exact Iff.rfl) | (simp; done) | (simp; omega)) (fun h1 => ?_) (fun h1 => ?_)
  · skip
    refine ai (ai (fun _ => (by (repeat' (first | exact rfl | exact trivial | exact (fun _ => rfl) | exact (fun _ _ => rfl) | exact nof | refine ai ?_ ?_)))) ?_) trivial
    any_goals (repeat' (first | with_reducible rfl | exact trivial | refine ai ?_ ?_ | (show (_ : Int) = _; first | with_reducible rfl | exact wr1 (by omega) | (simp only [zz, reduceCtorEq] <;> first | done | rfl | omega) | omega | rfl) | exact rfl | exact (fun _ => rfl) | exact (fun _ _ => rfl) | exact nof))
  exact absurd h1 h

def forms8Law : Spec := fnS (fun x : Tb => [tA x]) (fun _ => True) (fun _ => bP true)
theorem forms8_law : FnOk Tryz.prog 3 forms8Law := by
  refine fnOk (Tb := tab) mixed tab_ok Tryz.func3 rfl rfl ?_
  rintro ⟨n, t⟩ hpre
  refine ai (ai rfl (ai rfl rfl)) ?_
  refine ei _ (ai few8t_ok (ei (⟨n, t⟩) (ei [] (ai (ai rfl (ai rfl (ai rfl (ai rfl (ai (fun _ => Or.inl rfl) (ai (by first | exact nof | exact (fun _ => ai rfl rfl)) (by first | exact Or.inl rfl | exact Or.inr rfl))))))) (ai (by (repeat' (first | with_reducible rfl | exact trivial | refine ai ?_ ?_ | (show (_ : Int) = _; first | with_reducible rfl | exact wr1 (by omega) | (simp only [zz, reduceCtorEq] <;> first | done | rfl | omega) | omega | rfl) | exact rfl | exact (fun _ => rfl) | exact (fun _ _ => rfl) | exact nof))) (ai trivial (ai (trivial) ?_)))))))
  refine bcase_b (b := !fewB8t ⟨n, t⟩) (by first | exact rfl | (simp only [zz, reduceCtorEq] <;> first | done | exact rfl)) (fun h0 => ?_) (fun h0 => ?_)
  · skip
    refine ei _ (ai awake8_ok (ei (()) (ei [] (ai (ai rfl (ai rfl (ai rfl (ai rfl (ai (fun _ => Or.inl rfl) (ai (by first | exact nof | exact (fun _ => ai rfl rfl)) (by first | exact Or.inl rfl | exact Or.inr rfl))))))) (ai (by (repeat' (first | with_reducible rfl | exact trivial | refine ai ?_ ?_ | (show (_ : Int) = _; first | with_reducible rfl | exact wr1 (by omega) | (simp only [zz, reduceCtorEq] <;> first | done | rfl | omega) | omega | rfl) | exact rfl | exact (fun _ => rfl) | exact (fun _ _ => rfl) | exact nof))) (ai trivial (ai (trivial) ?_)))))))
    refine ai (ai (fun _ => (by (repeat' (first | exact rfl | exact trivial | exact (fun _ => rfl) | exact (fun _ _ => rfl) | exact nof | refine ai ?_ ?_)))) ?_) trivial
    any_goals (repeat' (first | with_reducible rfl | exact trivial | refine ai ?_ ?_ | (show (_ : Int) = _; first | with_reducible rfl | exact wr1 (by omega) | (simp only [zz, reduceCtorEq] <;> first | done | rfl | omega) | omega | rfl) | exact rfl | exact (fun _ => rfl) | exact (fun _ _ => rfl) | exact nof))
  have h0 : fewB8t ⟨n, t⟩ = true := by simpa using h0
  by_cases h1 : chkT ⟨n, t⟩ = 0
  · obtain ⟨k, hk, e, _⟩ := chkT_zero h1
    obtain rfl : n = k := e
    have hk4 : k ≤ 4 := by
      simp only [fewB8t, h1, not_true, decide_false, Bool.false_or, Bool.or_eq_true, Bool.and_eq_true, decide_eq_true_eq] at h0
      omega
    have h16 := few16 hk4 (chkT_lt hk h1)
    have hfl := form_len k t
    refine ei _ (ai form_ok (ei ((k, t)) (ei [] (ai (ai rfl (ai rfl (ai rfl (ai rfl (ai (fun _ => Or.inl rfl) (ai (by first | exact nof | exact (fun _ => ai rfl rfl)) (by first | exact Or.inl rfl | exact Or.inr rfl))))))) (ai (by (repeat' (first | with_reducible rfl | exact trivial | refine ai ?_ ?_ | (show (_ : Int) = _; first | with_reducible rfl | exact wr1 (by omega) | (simp only [zz, reduceCtorEq] <;> first | done | rfl | omega) | omega | rfl) | exact rfl | exact (fun _ => rfl) | exact (fun _ _ => rfl) | exact nof))) (ai trivial (ai (⟨hk, h1, h16⟩) ?_)))))))
    have c2 := fnS_at rform_ok (k, t) ⟨hk, h1, h16⟩ (r := .tup [csP (formL k t), iP 0]) (by show PV.tup [csP (rformL k t), iP 0] = _; rw [form_same h16])
    refine ei _ (ai c2 (ei (()) (ei [] (ai (ai rfl (ai rfl (ai rfl (ai rfl (ai (fun _ => Or.inl rfl) (ai (by first | exact nof | exact (fun _ => ai rfl rfl)) (by first | exact Or.inl rfl | exact Or.inr rfl))))))) (ai (by (repeat' (first | with_reducible rfl | exact trivial | refine ai ?_ ?_ | (show (_ : Int) = _; first | with_reducible rfl | exact wr1 (by omega) | (simp only [zz, reduceCtorEq] <;> first | done | rfl | omega) | omega | rfl) | exact rfl | exact (fun _ => rfl) | exact (fun _ _ => rfl) | exact nof))) (ai trivial (ai (trivial) ?_)))))))
    refine ei _ (ai (same_self (formL k t) (by omega)) (ei (()) (ei [] (ai (ai rfl (ai rfl (ai rfl (ai rfl (ai (fun _ => Or.inl rfl) (ai (by first | exact nof | exact (fun _ => ai rfl rfl)) (by first | exact Or.inl rfl | exact Or.inr rfl))))))) (ai (by (repeat' (first | with_reducible rfl | exact trivial | refine ai ?_ ?_ | (show (_ : Int) = _; first | with_reducible rfl | exact wr1 (by omega) | (simp only [zz, reduceCtorEq] <;> first | done | rfl | omega) | omega | rfl) | exact rfl | exact (fun _ => rfl) | exact (fun _ _ => rfl) | exact nof))) (ai trivial (ai (trivial) ?_)))))))
    refine ei _ (ai awake8_ok (ei (()) (ei [] (ai (ai rfl (ai rfl (ai rfl (ai rfl (ai (fun _ => Or.inl rfl) (ai (by first | exact nof | exact (fun _ => ai rfl rfl)) (by first | exact Or.inl rfl | exact Or.inr rfl))))))) (ai (by (repeat' (first | with_reducible rfl | exact trivial | refine ai ?_ ?_ | (show (_ : Int) = _; first | with_reducible rfl | exact wr1 (by omega) | (simp only [zz, reduceCtorEq] <;> first | done | rfl | omega) | omega | rfl) | exact rfl | exact (fun _ => rfl) | exact (fun _ _ => rfl) | exact nof))) (ai trivial (ai (trivial) ?_)))))))
    refine ai (ai (fun _ => (by (repeat' (first | exact rfl | exact trivial | exact (fun _ => rfl) | exact (fun _ _ => rfl) | exact nof | refine ai ?_ ?_)))) ?_) trivial
    any_goals (repeat' (first | with_reducible rfl | exact trivial | refine ai ?_ ?_ | (show (_ : Int) = _; first | with_reducible rfl | exact wr1 (by omega) | (simp only [zz, reduceCtorEq] <;> first | done | rfl | omega) | omega | rfl) | exact rfl | exact (fun _ => rfl) | exact (fun _ _ => rfl) | exact nof))
  · skip
    refine ei _ (ai formE_ok (ei (⟨n, t⟩) (ei [] (ai (ai rfl (ai rfl (ai rfl (ai rfl (ai (fun _ => Or.inl rfl) (ai (by first | exact nof | exact (fun _ => ai rfl rfl)) (by first | exact Or.inl rfl | exact Or.inr rfl))))))) (ai (by (repeat' (first | with_reducible rfl | exact trivial | refine ai ?_ ?_ | (show (_ : Int) = _; first | with_reducible rfl | exact wr1 (by omega) | (simp only [zz, reduceCtorEq] <;> first | done | rfl | omega) | omega | rfl) | exact rfl | exact (fun _ => rfl) | exact (fun _ _ => rfl) | exact nof))) (ai trivial (ai (h1) ?_)))))))
    refine ei _ (ai rformE_ok (ei (⟨n, t⟩) (ei [] (ai (ai rfl (ai rfl (ai rfl (ai rfl (ai (fun _ => Or.inl rfl) (ai (by first | exact nof | exact (fun _ => ai rfl rfl)) (by first | exact Or.inl rfl | exact Or.inr rfl))))))) (ai (by (repeat' (first | with_reducible rfl | exact trivial | refine ai ?_ ?_ | (show (_ : Int) = _; first | with_reducible rfl | exact wr1 (by omega) | (simp only [zz, reduceCtorEq] <;> first | done | rfl | omega) | omega | rfl) | exact rfl | exact (fun _ => rfl) | exact (fun _ _ => rfl) | exact nof))) (ai trivial (ai (h1) ?_)))))))
    refine ei _ (ai (same_self [] (by decide)) (ei (()) (ei [] (ai (ai rfl (ai rfl (ai rfl (ai rfl (ai (fun _ => Or.inl rfl) (ai (by first | exact nof | exact (fun _ => ai rfl rfl)) (by first | exact Or.inl rfl | exact Or.inr rfl))))))) (ai (by (repeat' (first | with_reducible rfl | exact trivial | refine ai ?_ ?_ | (show (_ : Int) = _; first | with_reducible rfl | exact wr1 (by omega) | (simp only [zz, reduceCtorEq] <;> first | done | rfl | omega) | omega | rfl) | exact rfl | exact (fun _ => rfl) | exact (fun _ _ => rfl) | exact nof))) (ai trivial (ai (trivial) ?_)))))))
    refine bcase_b (b := true) (by (first | (simp only [beq_self_eq_true, Bool.and_true, Bool.and_self]; done) | (simp only [hz, Int.add_zero, wrap_z]; done) | (simp only [hz, Int.add_zero, wrap_z]; rfl) | decide | rfl | decide | (simp; done))) (fun _ => ?_) (fun h => absurd h (by decide))
    refine ei _ (ai awake8_ok (ei (()) (ei [] (ai (ai rfl (ai rfl (ai rfl (ai rfl (ai (fun _ => Or.inl rfl) (ai (by first | exact nof | exact (fun _ => ai rfl rfl)) (by first | exact Or.inl rfl | exact Or.inr rfl))))))) (ai (by (repeat' (first | with_reducible rfl | exact trivial | refine ai ?_ ?_ | (show (_ : Int) = _; first | with_reducible rfl | exact wr1 (by omega) | (simp only [zz, reduceCtorEq] <;> first | done | rfl | omega) | omega | rfl) | exact rfl | exact (fun _ => rfl) | exact (fun _ _ => rfl) | exact nof))) (ai trivial (ai (trivial) ?_)))))))
    refine ai (ai (fun _ => (by (repeat' (first | exact rfl | exact trivial | exact (fun _ => rfl) | exact (fun _ _ => rfl) | exact nof | refine ai ?_ ?_)))) ?_) trivial
    any_goals (repeat' (first | with_reducible rfl | exact trivial | refine ai ?_ ?_ | (show (_ : Int) = _; first | with_reducible rfl | exact wr1 (by omega) | (simp only [zz, reduceCtorEq] <;> first | done | rfl | omega) | omega | rfl) | exact rfl | exact (fun _ => rfl) | exact (fun _ _ => rfl) | exact nof))

end Go.Sx.Pn
