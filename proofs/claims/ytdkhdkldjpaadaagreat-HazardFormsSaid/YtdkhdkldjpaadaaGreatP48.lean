/- Contracts of chapter 8: hazards (the pairs and what is deleted of them run in place). -/
import Derived.Test.YtdkhdkldjpaadaaGreatP47
import Derived.Test.YtdkhdkldjpaadaaGreatSxF
set_option maxHeartbeats 1000000
set_option maxRecDepth 4000
set_option linter.unusedSimpArgs false
set_option linter.unusedVariables false
namespace Go.Sx.Pn
open Go Go.Proofs

/-- the first of some pairs that a question holds of, or -1 -/
def firstP (q : Nat × Nat → Bool) (l : List (Nat × Nat)) : Int := if l.any q then (l.findIdx q : Nat) else -1
theorem getP {l : List (Nat × Nat)} {j : Nat} (hj : j < l.length) : l.getD j (0, 0) = l[j] := by simp [List.getD_eq_getElem?_getD, hj]
theorem firstP_at {l : List (Nat × Nat)} {q : Nat × Nat → Bool} {k : Nat} (hk : k < l.length) (h : q (l.getD k (0, 0)) = true) (hall : ∀ j, j < k → q (l.getD j (0, 0)) = false) : firstP q l = (k : Int) := by
  have h1 : l.any q = true := List.any_eq_true.2 ⟨_, List.getElem_mem hk, by rw [← getP hk]; exact h⟩
  have h2 : l.findIdx q = k := (List.findIdx_eq hk).2 ⟨by rw [← getP hk]; exact h, fun j hj => by
    have := hall j hj
    rw [getP (by omega)] at this; simpa using this⟩
  rw [firstP, if_pos h1, h2]
theorem noneP {l : List (Nat × Nat)} {q : Nat × Nat → Bool} (hall : ∀ j, j < l.length → q (l.getD j (0, 0)) = false) : l.any q = false := by
  cases h : l.any q with
  | false => rfl
  | true =>
    obtain ⟨d, hd, hh⟩ := List.any_eq_true.1 h
    obtain ⟨j, hj, rfl⟩ := List.getElem_of_mem hd
    have := hall j hj
    rw [getP hj, hh] at this; cases this
def pqS (l : List Cu) (q : Nat × Nat → Bool) : Spec := { A := Nat × Nat, args := fun p => [ppA p, .own 0 0], objs := fun _ => [.cells 27 [csA l]], pre := fun _ => True, res := fun p => bP (q p), objs' := fun _ => [], fresh := true, ro := 1 }
def pIS (g : Nat) (l : List Cu) (q : Nat × Nat → Bool) : Spec := { A := List (Nat × Nat), args := fun L => [prsA L, .fn g [.own 0 0]], objs := fun _ => [.cells 27 [csA l]], pre := fun L => L.length ≤ 1000000, res := fun L => iP (firstP q L), objs' := fun _ => [], fresh := true, ro := 1 }
theorem pI_ok {g : Nat} {l : List Cu} {q : Nat × Nat → Bool} (hg : FnOk Tryz.prog g (pqS l q)) : FnOk Tryz.prog 140 (pIS g l q) := by
  refine fnOk (Tb := tab) mixed tab_ok Tryz.func140 rfl rfl ?_
  rintro (L : List (Nat × Nat)) hpre
  refine ai (ai rfl (ai rfl rfl)) ?_
  have hl : L.length ≤ 1000000 := hpre
  refine ei (LAnn.inv { X := Nat, up := fun k => [(8, .s (iA k))], uo := fun k => [], inv := fun k => k ≤ L.length ∧ (∀ j, j < k → q (L.getD j (0, 0)) = false), meas := fun k => L.length - k, x0 := 0 }) ?_
  refine ai (ai (ai (by (repeat' (first | exact rfl | exact trivial | exact (fun _ => rfl) | exact (fun _ _ => rfl) | exact nof | refine ai ?_ ?_))) (ai (by (repeat' (first | with_reducible rfl | exact trivial | refine ai ?_ ?_ | (show (_ : Int) = _; first | with_reducible rfl | exact wr1 (by omega) | (simp only [zz, reduceCtorEq] <;> first | done | rfl | omega) | omega | rfl) | exact rfl | exact (fun _ => rfl) | exact (fun _ _ => rfl) | exact nof))) (by (repeat' (first | with_reducible rfl | exact trivial | refine ai ?_ ?_ | (show (_ : Int) = _; first | with_reducible rfl | exact wr1 (by omega) | (simp only [zz, reduceCtorEq] <;> first | done | rfl | omega) | omega | rfl) | exact rfl | exact (fun _ => rfl) | exact (fun _ _ => rfl) | exact nof))))) rfl) (ai (ai (Nat.zero_le _) ?_) ?_)
  · exact fun j hj => absurd hj (Nat.not_lt_zero _)
  intro (k : Nat) ⟨hk, hno⟩
  refine bcase_p (p := k < L.length) (by first | (with_reducible refine bif_lt ?_; omega) | (with_reducible refine bif_le ?_; omega) | (with_reducible refine bif_eq ?_; omega) | (with_reducible refine bif_ne ?_; omega) | exact b8_eq rfl | exact b8_ne rfl | exact bif_lt (by omega) | exact bif_le (by omega) | exact bif_eq (by omega) | exact bif_ne (by omega) | exact Iff.rfl | (simp only [zz, reduceCtorEq] <;> first | done | omega | exact Iff.rfl) | (simp; done) | (simp; omega)) (fun h1 => ?_) (fun h1 => ?_)
  · refine ai (ai (Int.natCast_nonneg _) (by show (k : Int) < (L.length : Int); omega)) ?_
    refine ai rfl ?_
    refine ei _ (ai hg (ei (L.getD k (0, 0)) (ei [0] (ai (ai rfl (ai rfl (ai rfl (ai rfl (ai (by first | exact (fun _ => Or.inl rfl) | exact nof | exact (fun _ => Or.inr (by (repeat' (first | exact rfl | exact trivial | exact (fun _ => rfl) | exact (fun _ _ => rfl) | exact nof | refine ai ?_ ?_))))) (ai (by first | exact nof | exact (fun _ => ai rfl rfl)) (by first | exact Or.inl rfl | exact Or.inr rfl))))))) (ai (by (repeat' (first | with_reducible rfl | exact trivial | refine ai ?_ ?_ | (show (_ : Int) = _; first | with_reducible rfl | exact wr1 (by omega) | (simp only [zz, reduceCtorEq] <;> first | done | rfl | omega) | omega | rfl) | exact rfl | exact (fun _ => rfl) | exact (fun _ _ => rfl) | exact nof))) (ai (by (repeat' (first | with_reducible rfl | exact trivial | refine ai ?_ ?_ | (show (_ : Int) = _; first | with_reducible rfl | exact wr1 (by omega) | (simp only [zz, reduceCtorEq] <;> first | done | rfl | omega) | omega | rfl) | exact rfl | exact (fun _ => rfl) | exact (fun _ _ => rfl) | exact nof))) (ai (trivial) ?_)))))))
    refine bcase_b (b := q (L.getD k (0, 0))) (by first | exact rfl | (simp only [zz, reduceCtorEq] <;> first | done | exact rfl)) (fun h2 => ?_) (fun h2 => ?_)
    · refine ai (ai (fun _ => trivial) ?_) trivial
      show (k : Int) = firstP q L
      exact (firstP_at h1 h2 hno).symm
    · skip
      refine ei (k + 1) (ai (ai rfl rfl) (ai (ai ?_ rfl) (ai (ai (by show k + 1 ≤ L.length; omega) ?_) (by show L.length - (k + 1) < L.length - k; omega))))
      any_goals (repeat' (first | with_reducible rfl | exact trivial | refine ai ?_ ?_ | (show (_ : Int) = _; first | with_reducible rfl | exact wr1 (by omega) | (simp only [zz, reduceCtorEq] <;> first | done | rfl | omega) | omega | rfl) | exact rfl | exact (fun _ => rfl) | exact (fun _ _ => rfl) | exact nof))
      exact upto_succ hno h2
  · obtain rfl : k = L.length := by omega
    refine ai (ai (fun _ => trivial) ?_) trivial
    show (-1 : Int) = firstP q L
    rw [firstP, noneP hno]; rfl
theorem hhaz1_ok {l : List Cu} (hl : l.length ≤ 1000000) : FnOk Tryz.prog 105 (pqS l (togC l)) := by
  refine fnOk (Tb := tab) mixed tab_ok Tryz.func105 rfl rfl ?_
  rintro (p : Nat × Nat) hpre
  refine ai (ai rfl (ai rfl rfl)) ?_
  refine ei _ (ai htog_ok (ei ((l, p)) (ei [] (ai (ai rfl (ai rfl (ai rfl (ai rfl (ai (fun _ => Or.inl rfl) (ai (by first | exact nof | exact (fun _ => ai rfl rfl)) (by first | exact Or.inl rfl | exact Or.inr rfl))))))) (ai (by (repeat' (first | with_reducible rfl | exact trivial | refine ai ?_ ?_ | (show (_ : Int) = _; first | with_reducible rfl | exact wr1 (by omega) | (simp only [zz, reduceCtorEq] <;> first | done | rfl | omega) | omega | rfl) | exact rfl | exact (fun _ => rfl) | exact (fun _ _ => rfl) | exact nof))) (ai trivial (ai (hl) ?_)))))))
  refine ai (ai (fun _ => (by (repeat' (first | exact rfl | exact trivial | exact (fun _ => rfl) | exact (fun _ _ => rfl) | exact nof | refine ai ?_ ?_)))) ?_) trivial
  any_goals (repeat' (first | with_reducible rfl | exact trivial | refine ai ?_ ?_ | (show (_ : Int) = _; first | with_reducible rfl | exact wr1 (by omega) | (simp only [zz, reduceCtorEq] <;> first | done | rfl | omega) | omega | rfl) | exact rfl | exact (fun _ => rfl) | exact (fun _ _ => rfl) | exact nof))

theorem up_int {a i : Nat} (ha : a < 64) (hi : i < 6) : bits .or .i64 (a : Int) (IntKind.i64.wrap (1 * 2 ^ min (i : Int).toNat IntKind.i64.bits)) = ((up a i : Nat) : Int) := by
  have h2 : 2 ^ i ≤ 2 ^ 6 := Nat.pow_le_pow_right (by decide) (by omega)
  rw [pow6 (show i ≤ 6 by omega), i_or (by omega) (by omega)]; rfl

/-- a list while elements are taken out of it -/
def keptL (q : Nat × Nat → Bool) (L : List (Nat × Nat)) (j : Nat) : List (Nat × Nat) := (L.take j).filter fun p => !q p
def mixL (q : Nat × Nat → Bool) (L : List (Nat × Nat)) (j : Nat) : List (Nat × Nat) := keptL q L j ++ L.drop (keptL q L j).length
theorem kept_len (q : Nat × Nat → Bool) (L : List (Nat × Nat)) (j : Nat) : (keptL q L j).length ≤ j := by
  unfold keptL
  have h1 := List.length_filter_le (fun p => !q p) (L.take j)
  have h2 := List.length_take_le j L
  omega
theorem kept_len' (q : Nat × Nat → Bool) (L : List (Nat × Nat)) (j : Nat) : (keptL q L j).length ≤ L.length := by
  unfold keptL
  have h1 := List.length_filter_le (fun p => !q p) (L.take j)
  have h2 := List.length_take_le' j L
  omega
theorem kept_succ (q : Nat × Nat → Bool) {L : List (Nat × Nat)} {j : Nat} (hj : j < L.length) : keptL q L (j + 1) = keptL q L j ++ (if q (L.getD j (0, 0)) then [] else [L.getD j (0, 0)]) := by
  unfold keptL
  rw [List.take_add_one, List.getElem?_eq_getElem hj, List.filter_append, getP hj]
  cases h : q L[j] <;> simp [h]
theorem mix_get {q : Nat × Nat → Bool} {L : List (Nat × Nat)} {j k : Nat} : (mixL q L j).getD k (0, 0) = if k < (keptL q L j).length then (keptL q L j).getD k (0, 0) else L.getD k (0, 0) := by
  unfold mixL
  rw [List.getD_eq_getElem?_getD]
  by_cases h : k < (keptL q L j).length
  · rw [if_pos h, List.getElem?_append_left h, List.getD_eq_getElem?_getD]
  · rw [if_neg h, List.getElem?_append_right (by omega), List.getElem?_drop, show (keptL q L j).length + (k - (keptL q L j).length) = k by omega, List.getD_eq_getElem?_getD]
theorem kept_none {q : Nat × Nat → Bool} {L : List (Nat × Nat)} : ∀ {i : Nat}, i ≤ L.length → (∀ j, j < i → q (L.getD j (0, 0)) = false) → keptL q L i = L.take i := by
  intro i hi h
  unfold keptL
  rw [List.filter_eq_self]
  intro p hp
  obtain ⟨j, hj, rfl⟩ := List.getElem_of_mem hp
  rw [List.getElem_take]
  have hj2 : j < i := by rw [List.length_take] at hj; omega
  have := h j hj2
  rw [getP (by omega)] at this
  rw [this]; rfl
theorem kept_all {q : Nat × Nat → Bool} {L : List (Nat × Nat)} : keptL q L L.length = L.filter fun p => !q p := by
  unfold keptL; rw [List.take_length]
theorem first_spec {q : Nat × Nat → Bool} {L : List (Nat × Nat)} (h : ¬ firstP q L = -1) : ∃ i : Nat, firstP q L = (i : Int) ∧ i < L.length ∧ q (L.getD i (0, 0)) = true ∧ ∀ j, j < i → q (L.getD j (0, 0)) = false := by
  unfold firstP at h ⊢
  cases ha : L.any q with
  | false => rw [ha] at h; exact absurd rfl h
  | true =>
    have hlt : L.findIdx q < L.length := List.findIdx_lt_length.2 (by obtain ⟨c, hc, h⟩ := List.any_eq_true.1 ha; exact ⟨c, hc, h⟩)
    refine ⟨L.findIdx q, rfl, hlt, ?_, fun j hj => ?_⟩
    · rw [getP hlt]; exact List.findIdx_getElem (w := hlt)
    · rw [getP (by omega)]
      have := List.not_of_lt_findIdx hj
      simpa using this
theorem first_none {q : Nat × Nat → Bool} {L : List (Nat × Nat)} (h : firstP q L = -1) : L.filter (fun p => !q p) = L := by
  rw [List.filter_eq_self]
  intro p hp
  unfold firstP at h
  cases ha : L.any q with
  | true => rw [ha, if_pos rfl] at h; omega
  | false =>
    cases hq : q p with
    | false => rfl
    | true => rw [List.any_eq_true.2 ⟨p, hp, hq⟩] at ha; cases ha

theorem getD_last {α : Type} (A : List α) (x d : α) : (A ++ [x]).getD A.length d = x := by
  rw [List.getD_eq_getElem?_getD, List.getElem?_append_right (Nat.le_refl _), Nat.sub_self]; rfl
theorem getD_left {α : Type} {A B : List α} {k : Nat} (d : α) (h : k < A.length) : (A ++ B).getD k d = A.getD k d := by
  rw [List.getD_eq_getElem?_getD, List.getElem?_append_left h, List.getD_eq_getElem?_getD]
theorem mix_step {q : Nat × Nat → Bool} {L : List (Nat × Nat)} {j : Nat} (hj : j < L.length) (hq : q (L.getD j (0, 0)) = false) (v : Nat × Nat) (hv : v = L.getD j (0, 0)) (i : Nat) (hi : i = (keptL q L j).length) (k : Nat) :
    putEl (fun k => prCells ((mixL q L j).getD k (0, 0))) i 0 (prCells v) k = prCells ((mixL q L (j + 1)).getD k (0, 0)) := by
  subst hi hv
  have hs : keptL q L (j + 1) = keptL q L j ++ [L.getD j (0, 0)] := by rw [kept_succ q hj, hq]; rfl
  have hs1 : (keptL q L (j + 1)).length = (keptL q L j).length + 1 := by rw [hs]; simp
  rw [mix_get (j := j + 1), hs1]
  unfold putEl
  by_cases e : k = (keptL q L j).length
  · rw [if_pos e, if_pos (by omega), e, hs, getD_last]; rfl
  · rw [if_neg e]
    show prCells ((mixL q L j).getD k (0, 0)) = _
    rw [mix_get (j := j)]
    by_cases e2 : k < (keptL q L j).length
    · rw [if_pos e2, if_pos (by omega), hs, getD_left _ e2]
    · rw [if_neg e2, if_neg (by omega)]

def badS : Spec := fnS (fun x : Nat × List Cu => [iA x.1, csA x.2]) (fun x => x.1 ≤ 6 ∧ x.2.length ≤ 1000000) (fun x => prsP (badL x.1 x.2))
theorem hbad_ok : FnOk Tryz.prog 48 badS := by
  refine fnOk_inl [104, 103] ?_
  refine fnOk (Tb := tab) mixed tab_ok Tryz.func48 rfl rfl ?_
  rintro ⟨n, l⟩ hpre
  refine ai (ai rfl (ai rfl rfl)) ?_
  obtain ⟨hn, hl⟩ : n ≤ 6 ∧ l.length ≤ 1000000 := hpre
  have h64 := pow_le64 hn
  obtain ⟨b, hb⟩ : ∃ b, tabU l (2 ^ n) = b := ⟨_, rfl⟩
  have ht := fnS_at htable_ok (n, l) ⟨hn, hl⟩ (r := tP ⟨n, b⟩) (by show tP ⟨n, tabU l (2 ^ n)⟩ = _; rw [hb])
  refine ei _ (ai ht (ei (()) (ei [] (ai (ai rfl (ai rfl (ai rfl (ai rfl (ai (fun _ => Or.inl rfl) (ai (by first | exact nof | exact (fun _ => ai rfl rfl)) (by first | exact Or.inl rfl | exact Or.inr rfl))))))) (ai (by (repeat' (first | with_reducible rfl | exact trivial | refine ai ?_ ?_ | (show (_ : Int) = _; first | with_reducible rfl | exact wr1 (by omega) | (simp only [zz, reduceCtorEq] <;> first | done | rfl | omega) | omega | rfl) | exact rfl | exact (fun _ => rfl) | exact (fun _ _ => rfl) | exact nof))) (ai trivial (ai (trivial) ?_)))))))
  refine fnInl mixed tab_ok Tryz.func104 rfl rfl ?_
  refine ai rfl ?_
  repeat (refine ai (by first | exact Int.natCast_nonneg _ | omega | exact ai (Int.natCast_nonneg _) (by omega)) ?_)
  refine ei (LAnn.inv { X := Nat, up := fun a => [(10, .s (iA a)), (3, rowPr (pairsTo n b a))], uo := fun a => [], inv := fun a => a ≤ 2 ^ n ∧ (True), meas := fun a => 2 ^ n - a, x0 := 0 }) ?_
  refine ai (ai (ai (by (repeat' (first | exact rfl | exact trivial | exact (fun _ => rfl) | exact (fun _ _ => rfl) | exact nof | refine ai ?_ ?_))) (ai (by (repeat' (first | with_reducible rfl | exact trivial | refine ai ?_ ?_ | (show (_ : Int) = _; first | with_reducible rfl | exact wr1 (by omega) | (simp only [zz, reduceCtorEq] <;> first | done | rfl | omega) | omega | rfl) | exact rfl | exact (fun _ => rfl) | exact (fun _ _ => rfl) | exact nof))) (by (repeat' (first | with_reducible rfl | exact trivial | refine ai ?_ ?_ | (show (_ : Int) = _; first | with_reducible rfl | exact wr1 (by omega) | (simp only [zz, reduceCtorEq] <;> first | done | rfl | omega) | omega | rfl) | exact rfl | exact (fun _ => rfl) | exact (fun _ _ => rfl) | exact nof))))) rfl) (ai (ai (Nat.zero_le _) ?_) ?_)
  · trivial
  intro (a : Nat) ⟨ha, _⟩
  refine bcase_p (p := a < 2 ^ n) (by show decide ((a : Int) < IntKind.i64.wrap (1 * 2 ^ min (n : Int).toNat IntKind.i64.bits)) = true ↔ _; rw [pow6 hn, decide_eq_true_iff]; omega) (fun h1 => ?_) (fun h1 => ?_)
  · have hp1 := pairsTo_len n b a
    have hmul : a * n ≤ 64 * 6 := Nat.mul_le_mul (by omega) hn
    refine ei (LAnn.inv { X := Nat, up := fun i => [(15, .s (iA i)), (3, rowPr (pairsTo n b a ++ rowTo b a i))], uo := fun i => [], inv := fun i => i ≤ n ∧ (True), meas := fun i => n - i, x0 := 0 }) ?_
    refine ai (ai (ai (by (repeat' (first | exact rfl | exact trivial | exact (fun _ => rfl) | exact (fun _ _ => rfl) | exact nof | refine ai ?_ ?_))) (ai ?_ ?_)) rfl) (ai (ai (Nat.zero_le _) ?_) ?_)
    · skip
      (repeat' (first | exact rfl | exact trivial | exact (fun _ => rfl) | exact (fun _ _ => rfl) | exact nof | refine ai ?_ ?_))
      · exact congrArg List.length (List.append_nil (pairsTo n b a)).symm
      · exact row_same prCells (0, 0) (List.append_nil (pairsTo n b a)).symm
    · skip
      (repeat' (first | exact rfl | exact trivial | exact (fun _ => rfl) | exact (fun _ _ => rfl) | exact nof | refine ai ?_ ?_))
    · trivial
    intro (i : Nat) ⟨hi, _⟩
    refine bcase_p (p := i < n) (by first | (with_reducible refine bif_lt ?_; omega) | (with_reducible refine bif_le ?_; omega) | (with_reducible refine bif_eq ?_; omega) | (with_reducible refine bif_ne ?_; omega) | exact b8_eq rfl | exact b8_ne rfl | exact bif_lt (by omega) | exact bif_le (by omega) | exact bif_eq (by omega) | exact bif_ne (by omega) | exact Iff.rfl | (simp only [zz, reduceCtorEq] <;> first | done | omega | exact Iff.rfl) | (simp; done) | (simp; omega)) (fun h2 => ?_) (fun h2 => ?_)
    · skip
      repeat (refine ai (by first | exact Int.natCast_nonneg _ | omega | exact ai (Int.natCast_nonneg _) (by omega)) ?_)
      have hu := up_int (show a < 64 by omega) (show i < 6 by omega)
      have hlen : (pairsTo n b a ++ rowTo b a i).length ≤ 400 := by
        have := rowTo_len b a i
        rw [List.length_append]; omega
      have no : ¬ (up a i ≠ a ∧ b.getLsbD a = true ∧ b.getLsbD (up a i) = true) → pairsTo n b a ++ rowTo b a i = pairsTo n b a ++ rowTo b a (i + 1) := fun h => by
        rw [rowTo_succ, pairAt, if_neg h]; simp
      have yes : (up a i ≠ a ∧ b.getLsbD a = true ∧ b.getLsbD (up a i) = true) → pairsTo n b a ++ rowTo b a (i + 1) = (pairsTo n b a ++ rowTo b a i) ++ [(a, up a i)] := fun h => by
        rw [rowTo_succ, pairAt, if_pos h]; simp
      refine bcase_p (p := up a i ≠ a) (by show (bits .or .i64 (a : Int) (IntKind.i64.wrap (1 * 2 ^ min (i : Int).toNat IntKind.i64.bits)) != (a : Int)) = true ↔ _; rw [hu, bne_iff_ne]; exact not_congr (by omega)) (fun h3 => ?_) (fun h3 => ?_)
      · skip
        refine ei _ (ai hvalue_ok (ei ((⟨n, b⟩, a)) (ei [] (ai (ai rfl (ai rfl (ai rfl (ai rfl (ai (fun _ => Or.inl rfl) (ai (by first | exact nof | exact (fun _ => ai rfl rfl)) (by first | exact Or.inl rfl | exact Or.inr rfl))))))) (ai (by (repeat' (first | with_reducible rfl | exact trivial | refine ai ?_ ?_ | (show (_ : Int) = _; first | with_reducible rfl | exact wr1 (by omega) | (simp only [zz, reduceCtorEq] <;> first | done | rfl | omega) | omega | rfl) | exact rfl | exact (fun _ => rfl) | exact (fun _ _ => rfl) | exact nof))) (ai trivial (ai (trivial) ?_)))))))
        refine bcase_b (b := b.getLsbD a) (by first | exact rfl | (simp only [zz, reduceCtorEq] <;> first | done | exact rfl)) (fun h4 => ?_) (fun h4 => ?_)
        · skip
          refine ei _ (ai hvalue_ok (ei ((⟨n, b⟩, up a i)) (ei [] (ai (ai rfl (ai rfl (ai rfl (ai rfl (ai (fun _ => Or.inl rfl) (ai (by first | exact nof | exact (fun _ => ai rfl rfl)) (by first | exact Or.inl rfl | exact Or.inr rfl))))))) (ai ?_ (ai trivial (ai ?_ ?_)))))))
          · skip
            (repeat' (first | exact rfl | exact trivial | exact (fun _ => rfl) | exact (fun _ _ => rfl) | exact nof | refine ai ?_ ?_))
            exact hu
          · trivial
          refine bcase_b (b := b.getLsbD (up a i)) (by first | exact rfl | (simp only [zz, reduceCtorEq] <;> first | done | exact rfl)) (fun h5 => ?_) (fun h5 => ?_)
          · skip
            refine ai (ai (by show (pairsTo n b a ++ rowTo b a i).length + 1 ≤ maxLen; unfold maxLen; omega) (by show ((pairsTo n b a ++ rowTo b a i).length + 1) * 16 ≤ 140737488355328; omega)) ?_
            refine ai (fun k hk => by
              have hk : k < 1 := hk
              obtain rfl : k = 0 := by omega
              rfl) ?_
            refine ei (i + 1) (ai (ai rfl rfl) (ai (ai ?_ rfl) (ai (ai (by show i + 1 ≤ n; omega) ?_) (by show n - (i + 1) < n - i; omega))))
            any_goals (repeat' (first | with_reducible rfl | exact trivial | refine ai ?_ ?_ | (show (_ : Int) = _; first | with_reducible rfl | exact wr1 (by omega) | (simp only [zz, reduceCtorEq] <;> first | done | rfl | omega) | omega | rfl) | exact rfl | exact (fun _ => rfl) | exact (fun _ _ => rfl) | exact nof))
            · exact app_len (yes ⟨h3, h4, h5⟩)
            · refine join_app prCells (0, 0) (yes ⟨h3, h4, h5⟩) _ ?_
              exact congrArg (fun z : Int => [iP (a : Int), iP z]) hu
          · skip
            refine ei (i + 1) (ai (ai rfl rfl) (ai (ai ?_ rfl) (ai (ai (by show i + 1 ≤ n; omega) ?_) (by show n - (i + 1) < n - i; omega))))
            any_goals (repeat' (first | with_reducible rfl | exact trivial | refine ai ?_ ?_ | (show (_ : Int) = _; first | with_reducible rfl | exact wr1 (by omega) | (simp only [zz, reduceCtorEq] <;> first | done | rfl | omega) | omega | rfl) | exact rfl | exact (fun _ => rfl) | exact (fun _ _ => rfl) | exact nof))
            · exact congrArg List.length (no (fun h => by rw [h5] at h; exact absurd h.2.2 (by decide)))
            · exact row_same prCells (0, 0) (no (fun h => by rw [h5] at h; exact absurd h.2.2 (by decide)))
        · skip
          refine ei (i + 1) (ai (ai rfl rfl) (ai (ai ?_ rfl) (ai (ai (by show i + 1 ≤ n; omega) ?_) (by show n - (i + 1) < n - i; omega))))
          any_goals (repeat' (first | with_reducible rfl | exact trivial | refine ai ?_ ?_ | (show (_ : Int) = _; first | with_reducible rfl | exact wr1 (by omega) | (simp only [zz, reduceCtorEq] <;> first | done | rfl | omega) | omega | rfl) | exact rfl | exact (fun _ => rfl) | exact (fun _ _ => rfl) | exact nof))
          · exact congrArg List.length (no (fun h => by rw [h4] at h; exact absurd h.2.1 (by decide)))
          · exact row_same prCells (0, 0) (no (fun h => by rw [h4] at h; exact absurd h.2.1 (by decide)))
      · skip
        refine ei (i + 1) (ai (ai rfl rfl) (ai (ai ?_ rfl) (ai (ai (by show i + 1 ≤ n; omega) ?_) (by show n - (i + 1) < n - i; omega))))
        any_goals (repeat' (first | with_reducible rfl | exact trivial | refine ai ?_ ?_ | (show (_ : Int) = _; first | with_reducible rfl | exact wr1 (by omega) | (simp only [zz, reduceCtorEq] <;> first | done | rfl | omega) | omega | rfl) | exact rfl | exact (fun _ => rfl) | exact (fun _ _ => rfl) | exact nof))
        · exact congrArg List.length (no (fun h => h3 h.1))
        · exact row_same prCells (0, 0) (no (fun h => h3 h.1))
    · obtain rfl : n = i := by omega
      refine ei (a + 1) (ai (ai rfl rfl) (ai (ai ?_ rfl) (ai (ai (by show a + 1 ≤ 2 ^ n; omega) ?_) (by show 2 ^ n - (a + 1) < 2 ^ n - a; omega))))
      any_goals (repeat' (first | with_reducible rfl | exact trivial | refine ai ?_ ?_ | (show (_ : Int) = _; first | with_reducible rfl | exact wr1 (by omega) | (simp only [zz, reduceCtorEq] <;> first | done | rfl | omega) | omega | rfl) | exact rfl | exact (fun _ => rfl) | exact (fun _ _ => rfl) | exact nof))
      · exact congrArg List.length (pairsTo_succ n b a).symm
      · exact row_same prCells (0, 0) (pairsTo_succ n b a).symm
  · obtain rfl : a = 2 ^ n := by omega
    have hp1 := pairsTo_len n b (2 ^ n)
    have hmul : 2 ^ n * n ≤ 64 * 6 := Nat.mul_le_mul h64 hn
    obtain ⟨q, hq⟩ : ∃ q, togC l = q := ⟨_, rfl⟩
    have hbad : badL n l = (pairsTo n b (2 ^ n)).filter fun p => !q p := by rw [← hq, ← hb]; rfl
    have hg := hhaz1_ok hl
    rw [hq] at hg
    refine fnInl mixed tab_ok Tryz.func103 rfl rfl ?_
    refine ai rfl ?_
    refine ei _ (ai (pI_ok hg) (ei (pairsTo n b (2 ^ n)) (ei [0] (ai (ai rfl (ai rfl (ai rfl (ai rfl (ai (by first | exact (fun _ => Or.inl rfl) | exact nof | exact (fun _ => Or.inr (by (repeat' (first | exact rfl | exact trivial | exact (fun _ => rfl) | exact (fun _ _ => rfl) | exact nof | refine ai ?_ ?_))))) (ai (by first | exact nof | exact (fun _ => ai rfl rfl)) (by first | exact Or.inl rfl | exact Or.inr rfl))))))) (ai (by (repeat' (first | with_reducible rfl | exact trivial | refine ai ?_ ?_ | (show (_ : Int) = _; first | with_reducible rfl | exact wr1 (by omega) | (simp only [zz, reduceCtorEq] <;> first | done | rfl | omega) | omega | rfl) | exact rfl | exact (fun _ => rfl) | exact (fun _ _ => rfl) | exact nof))) (ai (by (repeat' (first | with_reducible rfl | exact trivial | refine ai ?_ ?_ | (show (_ : Int) = _; first | with_reducible rfl | exact wr1 (by omega) | (simp only [zz, reduceCtorEq] <;> first | done | rfl | omega) | omega | rfl) | exact rfl | exact (fun _ => rfl) | exact (fun _ _ => rfl) | exact nof))) (ai ((by show (pairsTo n b (2 ^ n)).length ≤ 1000000; omega)) ?_)))))))
    refine bcase_p (p := firstP q (pairsTo n b (2 ^ n)) = -1) (by first | (with_reducible refine bif_lt ?_; omega) | (with_reducible refine bif_le ?_; omega) | (with_reducible refine bif_eq ?_; omega) | (with_reducible refine bif_ne ?_; omega) | exact b8_eq rfl | exact b8_ne rfl | exact bif_lt (by omega) | exact bif_le (by omega) | exact bif_eq (by omega) | exact bif_ne (by omega) | exact Iff.rfl | (simp only [zz, reduceCtorEq] <;> first | done | omega | exact Iff.rfl) | (simp; done) | (simp; omega)) (fun h3 => ?_) (fun h3 => ?_)
    · skip
      refine ai (ai (fun _ => (by (repeat' (first | exact rfl | exact trivial | exact (fun _ => rfl) | exact (fun _ _ => rfl) | exact nof | refine ai ?_ ?_)))) ?_) trivial
      show ple _ (prsP (badL n l))
      rw [hbad, first_none h3]
      any_goals (repeat' (first | with_reducible rfl | exact trivial | refine ai ?_ ?_ | (show (_ : Int) = _; first | with_reducible rfl | exact wr1 (by omega) | (simp only [zz, reduceCtorEq] <;> first | done | rfl | omega) | omega | rfl) | exact rfl | exact (fun _ => rfl) | exact (fun _ _ => rfl) | exact nof))
    obtain ⟨i0, hi0, hlt, hqi, hno⟩ := first_spec h3
    have hk1 : (keptL q (pairsTo n b (2 ^ n)) (i0 + 1)).length = i0 := by
      rw [kept_succ q hlt, hqi, kept_none (by omega) hno]; simp; omega
    refine ei (LAnn.inv { X := Nat, up := fun j => [(5, .s (iA (keptL q (pairsTo n b (2 ^ n)) j).length)), (6, .s (iA j)), (0, .rw 83 2 (pairsTo n b (2 ^ n)).length (fun k => prCells ((mixL q (pairsTo n b (2 ^ n)) j).getD k (0, 0))))], uo := fun _ => [], inv := fun j => i0 < j ∧ j ≤ (pairsTo n b (2 ^ n)).length, meas := fun j => (pairsTo n b (2 ^ n)).length - j, x0 := i0 + 1 }) ?_
    refine ai (ai (ai (by (repeat' (first | exact rfl | exact trivial | exact (fun _ => rfl) | exact (fun _ _ => rfl) | exact nof | refine ai ?_ ?_))) (ai ?_ ?_)) ?_) (ai ?_ ?_)
    · skip
      (repeat' (first | exact rfl | exact trivial | exact (fun _ => rfl) | exact (fun _ _ => rfl) | exact nof | refine ai ?_ ?_))
      · show firstP q (pairsTo n b (2 ^ n)) = ((keptL q (pairsTo n b (2 ^ n)) (i0 + 1)).length : Int)
        rw [hi0, hk1]
      · show IntKind.i64.wrap (firstP q (pairsTo n b (2 ^ n)) + 1) = ((i0 + 1 : Nat) : Int)
        rw [hi0]; exact wr1 (by omega)
      · intro k hk
        show prCells _ = prCells _
        rw [mix_get, hk1]
        split
        · rename_i hki
          rw [kept_succ q hlt, hqi, kept_none (by omega) hno]
          simp [List.getD_eq_getElem?_getD, List.getElem?_take, hki]
        · rfl
    · skip
      (repeat' (first | exact rfl | exact trivial | exact (fun _ => rfl) | exact (fun _ _ => rfl) | exact nof | refine ai ?_ ?_))
    · rfl
    · exact ⟨Nat.lt_succ_self _, hlt⟩
    intro (j : Nat) ⟨hj0, hj⟩
    have hkj := kept_len q (pairsTo n b (2 ^ n)) j
    refine bcase_p (p := j < (pairsTo n b (2 ^ n)).length) (by first | (with_reducible refine bif_lt ?_; omega) | (with_reducible refine bif_le ?_; omega) | (with_reducible refine bif_eq ?_; omega) | (with_reducible refine bif_ne ?_; omega) | exact b8_eq rfl | exact b8_ne rfl | exact bif_lt (by omega) | exact bif_le (by omega) | exact bif_eq (by omega) | exact bif_ne (by omega) | exact Iff.rfl | (simp only [zz, reduceCtorEq] <;> first | done | omega | exact Iff.rfl) | (simp; done) | (simp; omega)) (fun h4 => ?_) (fun h4 => ?_)
    · refine ai (ai (Int.natCast_nonneg _) (by show (j : Int) < ((pairsTo n b (2 ^ n)).length : Int); omega)) ?_
      refine ai (show j < _ from h4) ?_
      have hm : (mixL q (pairsTo n b (2 ^ n)) j).getD j (0, 0) = (pairsTo n b (2 ^ n)).getD j (0, 0) := by
        rw [mix_get, if_neg (by omega)]
      refine ei _ (ai hg (ei ((mixL q (pairsTo n b (2 ^ n)) j).getD j (0, 0)) (ei [0] (ai (ai rfl (ai rfl (ai rfl (ai rfl (ai (by first | exact (fun _ => Or.inl rfl) | exact nof | exact (fun _ => Or.inr (by (repeat' (first | exact rfl | exact trivial | exact (fun _ => rfl) | exact (fun _ _ => rfl) | exact nof | refine ai ?_ ?_))))) (ai (by first | exact nof | exact (fun _ => ai rfl rfl)) (by first | exact Or.inl rfl | exact Or.inr rfl))))))) (ai (by (repeat' (first | with_reducible rfl | exact trivial | refine ai ?_ ?_ | (show (_ : Int) = _; first | with_reducible rfl | exact wr1 (by omega) | (simp only [zz, reduceCtorEq] <;> first | done | rfl | omega) | omega | rfl) | exact rfl | exact (fun _ => rfl) | exact (fun _ _ => rfl) | exact nof))) (ai (by (repeat' (first | with_reducible rfl | exact trivial | refine ai ?_ ?_ | (show (_ : Int) = _; first | with_reducible rfl | exact wr1 (by omega) | (simp only [zz, reduceCtorEq] <;> first | done | rfl | omega) | omega | rfl) | exact rfl | exact (fun _ => rfl) | exact (fun _ _ => rfl) | exact nof))) (ai (trivial) ?_)))))))
      refine bcase_b (b := !q ((mixL q (pairsTo n b (2 ^ n)) j).getD j (0, 0))) (by first | exact rfl | (simp only [zz, reduceCtorEq] <;> first | done | exact rfl)) (fun h5 => ?_) (fun h5 => ?_)
      · have h5 : q ((pairsTo n b (2 ^ n)).getD j (0, 0)) = false := by rw [hm] at h5; simpa using h5
        have hs := kept_succ q h4
        rw [h5] at hs
        have hs1 : (keptL q (pairsTo n b (2 ^ n)) (j + 1)).length = (keptL q (pairsTo n b (2 ^ n)) j).length + 1 := by rw [hs]; simp
        refine ai (ai (Int.natCast_nonneg _) (by show ((keptL q (pairsTo n b (2 ^ n)) j).length : Int) < ((pairsTo n b (2 ^ n)).length : Int); omega)) ?_
        refine ai (ai (by show (keptL q (pairsTo n b (2 ^ n)) j).length < _; omega) (Nat.le_refl 2)) ?_
        refine ei (j + 1) (ai (ai rfl rfl) (ai (ai ?_ rfl) (ai ?_ ?_)))
        · skip
          (repeat' (first | exact rfl | exact trivial | exact (fun _ => rfl) | exact (fun _ _ => rfl) | exact nof | refine ai ?_ ?_))
          · exact (wr1 (by omega)).trans (by rw [hs1])
          · exact wr1 (by omega)
          · exact fun k hk => mix_step h4 h5 _ hm _ rfl k
        · exact ⟨by omega, h4⟩
        · show (pairsTo n b (2 ^ n)).length - (j + 1) < (pairsTo n b (2 ^ n)).length - j; omega
      · have h5 : q ((pairsTo n b (2 ^ n)).getD j (0, 0)) = true := by rw [hm] at h5; simpa using h5
        have hs : keptL q (pairsTo n b (2 ^ n)) (j + 1) = keptL q (pairsTo n b (2 ^ n)) j := by rw [kept_succ q h4, h5]; simp
        refine ei (j + 1) (ai (ai rfl rfl) (ai (ai ?_ rfl) (ai ?_ ?_)))
        · skip
          (repeat' (first | exact rfl | exact trivial | exact (fun _ => rfl) | exact (fun _ _ => rfl) | exact nof | refine ai ?_ ?_))
          · exact congrArg (fun x : List (Nat × Nat) => ((x.length : Nat) : Int)) hs.symm
          · exact wr1 (by omega)
          · intro k hk
            show prCells _ = prCells _
            rw [mix_get, mix_get, hs]
        · exact ⟨by omega, h4⟩
        · show (pairsTo n b (2 ^ n)).length - (j + 1) < (pairsTo n b (2 ^ n)).length - j; omega
    · obtain rfl : j = (pairsTo n b (2 ^ n)).length := by omega
      have hlen : (badL n l).length = (keptL q (pairsTo n b (2 ^ n)) (pairsTo n b (2 ^ n)).length).length := by rw [hbad, kept_all]
      refine ai (ai (Int.natCast_nonneg _) (ai (by show ((keptL q (pairsTo n b (2 ^ n)) (pairsTo n b (2 ^ n)).length).length : Int) ≤ ((pairsTo n b (2 ^ n)).length : Int); omega) (ai (Int.le_refl _) (by omega)))) ?_
      refine ai (ai (Int.le_refl _) (ai (Int.natCast_nonneg _) (ai (by show ((keptL q (pairsTo n b (2 ^ n)) (pairsTo n b (2 ^ n)).length).length : Int) ≤ ((pairsTo n b (2 ^ n)).length : Int); omega) (by omega)))) ?_
      have key : ∀ k, k < (keptL q (pairsTo n b (2 ^ n)) (pairsTo n b (2 ^ n)).length).length → clrF (fun k => prCells ((mixL q (pairsTo n b (2 ^ n)) (pairsTo n b (2 ^ n)).length).getD k (0, 0))) (keptL q (pairsTo n b (2 ^ n)) (pairsTo n b (2 ^ n)).length).length ((pairsTo n b (2 ^ n)).length - (keptL q (pairsTo n b (2 ^ n)) (pairsTo n b (2 ^ n)).length).length) [iP 0, iP 0] (0 + k) = prCells ((badL n l).getD k (0, 0)) := by
        intro k hk
        unfold clrF
        rw [if_neg (by omega), Nat.zero_add, hbad, ← kept_all]
        show prCells _ = prCells _
        rw [mix_get, if_pos hk]
      refine ai (ai (fun _ => ?_) ?_) trivial
      · intro k hk
        exact (congrArg (fun d => allVal d = true) (key k hk)).mpr rfl
      · refine ai hlen.symm fun k hk => ?_
        exact key k hk

end Go.Sx.Pn
