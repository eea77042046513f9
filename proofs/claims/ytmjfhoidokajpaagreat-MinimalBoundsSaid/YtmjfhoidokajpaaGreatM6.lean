/- Contracts of chapter 7: the search for the best cover. -/
import Derived.Test.YtmjfhoidokajpaaGreatM5
set_option maxHeartbeats 1000000
set_option maxRecDepth 4000
set_option linter.unusedSimpArgs false
set_option linter.unusedVariables false
set_option linter.unusedSectionVars false
namespace Go.Sx.Pn
open Go Go.Proofs

abbrev Bst := Option (List Nat)
def litW (L : List Cu) (l : List Nat) : Nat := litL (wchL L l)
def ordW (L : List Cu) (l b : List Nat) : Int := if cmpI (litW L l : Nat) (litW L b : Nat) = 0 then cmpN l b else cmpI (litW L l : Nat) (litW L b : Nat)
def betQ (L : List Cu) (l : List Nat) : Bst → Bool
  | none => true
  | some b => decide (ordW L l b < 0)
def updQ (L : List Cu) (l : List Nat) (b : Bst) : Bst := if betQ L l b then some l else b
def foundB (b : Bst) : Ob := .cells 4 [bA b.isSome]
def goodI (L : List Cu) (l : List Nat) : Prop := l.length ≤ 1000 ∧ ∀ i ∈ l, i < L.length
theorem wch_ok_n {n : Nat} {L : List Cu} (h : ∀ c ∈ L, c.Ok n) {l : List Nat} (hl : goodI L l) : ∀ c ∈ wchL L l, c.Ok n := by
  intro c hc
  unfold wchL at hc
  obtain ⟨i, hi, rfl⟩ := List.mem_map.1 hc
  exact h _ (getC_mem (hl.2 i hi))
theorem wch_len (L : List Cu) (l : List Nat) : (wchL L l).length = l.length := by unfold wchL; simp

structure BetA where
  x : Tk
  n : Nat
  L : List Cu
  l : List Nat
  b : Bst
def btrS : Spec := { A := BetA, args := fun y => [nsA y.l, .own 0 0, .own 1 0, .own 2 0], objs := fun y => [foundB y.b, taskB y.x y.L, listB (y.b.getD [])], pre := fun y => y.n ≤ 6 ∧ y.L.length ≤ 1000 ∧ (∀ c ∈ y.L, c.Ok y.n) ∧ goodI y.L y.l ∧ goodI y.L (y.b.getD []), res := fun y => bP (betQ y.L y.l y.b), objs' := fun _ => [], fresh := true, ro := 3 }
theorem btr_ok : FnOk Tryz.prog 100 btrS := by
  refine fnOk (Tb := tab) mixed tab_ok Tryz.func100 rfl rfl ?_
  rintro ⟨x, n, L, l, b⟩ hpre
  refine ai (ai rfl (ai rfl rfl)) ?_
  obtain ⟨hn, hL, hC, hl, hb⟩ : n ≤ 6 ∧ L.length ≤ 1000 ∧ (∀ c ∈ L, c.Ok n) ∧ goodI L l ∧ goodI L (b.getD []) := hpre
  have ok1 := wch_ok_n hC hl
  have ok2 := wch_ok_n hC hb
  have ln1 := wch_len L l
  have ln2 := wch_len L (b.getD [])
  refine ei (.seq [0, 1, 2, 3, 4, 7, 8, 12, 13, 5, 6, 9, 10, 11, 14, 15, 16, 17, 18, 19]) (ai (by kernel_rfl) ?_)
  refine bcase_b (b := !b.isSome) (by first | exact rfl | (simp only [zz, reduceCtorEq] <;> first | done | exact rfl)) (fun h1 => ?_) (fun h1 => ?_)
  · cases b with
    | some b => cases h1
    | none =>
      refine ai (ai (fun _ => (by (repeat' (first | exact rfl | exact trivial | exact (fun _ => rfl) | exact (fun _ _ => rfl) | exact nof | refine ai ?_ ?_)))) ?_) trivial
      any_goals (repeat' (first | with_reducible rfl | exact trivial | refine ai ?_ ?_ | (show (_ : Int) = _; first | with_reducible rfl | exact wr1 (by omega) | (simp only [zz, reduceCtorEq] <;> first | done | rfl | omega) | omega | rfl) | exact rfl | exact (fun _ => rfl) | exact (fun _ _ => rfl) | exact nof))
  cases b with
  | none => cases h1
  | some b =>
    refine ei _ (ai wch_ok (ei ((x, L, l)) (ei [] (ai (ai rfl (ai rfl (ai rfl (ai rfl (ai (fun _ => Or.inl rfl) (ai (by first | exact nof | exact (fun _ => ai rfl rfl)) (by first | exact Or.inl rfl | exact Or.inr rfl))))))) (ai (by (repeat' (first | with_reducible rfl | exact trivial | refine ai ?_ ?_ | (show (_ : Int) = _; first | with_reducible rfl | exact wr1 (by omega) | (simp only [zz, reduceCtorEq] <;> first | done | rfl | omega) | omega | rfl) | exact rfl | exact (fun _ => rfl) | exact (fun _ _ => rfl) | exact nof))) (ai trivial (ai (⟨by show L.length ≤ 1000000; omega, by have := hl.1; show l.length ≤ 1000000; omega, hl.2⟩) ?_)))))))
    refine ei _ (ai hlit_ok (ei ((n, wchL L l)) (ei [] (ai (ai rfl (ai rfl (ai rfl (ai rfl (ai (fun _ => Or.inl rfl) (ai (by first | exact nof | exact (fun _ => ai rfl rfl)) (by first | exact Or.inl rfl | exact Or.inr rfl))))))) (ai (by (repeat' (first | with_reducible rfl | exact trivial | refine ai ?_ ?_ | (show (_ : Int) = _; first | with_reducible rfl | exact wr1 (by omega) | (simp only [zz, reduceCtorEq] <;> first | done | rfl | omega) | omega | rfl) | exact rfl | exact (fun _ => rfl) | exact (fun _ _ => rfl) | exact nof))) (ai trivial (ai (⟨hn, by have := hl.1; show (wchL L l).length ≤ 1000000; omega, ok1⟩) ?_)))))))
    refine ei _ (ai wch_ok (ei ((x, L, b)) (ei [] (ai (ai rfl (ai rfl (ai rfl (ai rfl (ai (fun _ => Or.inl rfl) (ai (by first | exact nof | exact (fun _ => ai rfl rfl)) (by first | exact Or.inl rfl | exact Or.inr rfl))))))) (ai (by (repeat' (first | with_reducible rfl | exact trivial | refine ai ?_ ?_ | (show (_ : Int) = _; first | with_reducible rfl | exact wr1 (by omega) | (simp only [zz, reduceCtorEq] <;> first | done | rfl | omega) | omega | rfl) | exact rfl | exact (fun _ => rfl) | exact (fun _ _ => rfl) | exact nof))) (ai trivial (ai (⟨by show L.length ≤ 1000000; omega, by have := hb.1; show b.length ≤ 1000000; exact Nat.le_trans this (by decide), hb.2⟩) ?_)))))))
    refine ei _ (ai hlit_ok (ei ((n, wchL L b)) (ei [] (ai (ai rfl (ai rfl (ai rfl (ai rfl (ai (fun _ => Or.inl rfl) (ai (by first | exact nof | exact (fun _ => ai rfl rfl)) (by first | exact Or.inl rfl | exact Or.inr rfl))))))) (ai (by (repeat' (first | with_reducible rfl | exact trivial | refine ai ?_ ?_ | (show (_ : Int) = _; first | with_reducible rfl | exact wr1 (by omega) | (simp only [zz, reduceCtorEq] <;> first | done | rfl | omega) | omega | rfl) | exact rfl | exact (fun _ => rfl) | exact (fun _ _ => rfl) | exact nof))) (ai trivial (ai (⟨hn, by show (wchL L b).length ≤ 1000000; rw [wch_len]; exact Nat.le_trans hb.1 (by decide), ok2⟩) ?_)))))))
    refine ei _ (ai cmpI_ok (ei (((litW L l : Int), (litW L b : Int))) (ei [] (ai (ai rfl (ai rfl (ai rfl (ai rfl (ai (fun _ => Or.inl rfl) (ai (by first | exact nof | exact (fun _ => ai rfl rfl)) (by first | exact Or.inl rfl | exact Or.inr rfl))))))) (ai (by (repeat' (first | with_reducible rfl | exact trivial | refine ai ?_ ?_ | (show (_ : Int) = _; first | with_reducible rfl | exact wr1 (by omega) | (simp only [zz, reduceCtorEq] <;> first | done | rfl | omega) | omega | rfl) | exact rfl | exact (fun _ => rfl) | exact (fun _ _ => rfl) | exact nof))) (ai trivial (ai (trivial) ?_)))))))
    refine ei _ (ai cmpN_ok (ei ((l, b)) (ei [] (ai (ai rfl (ai rfl (ai rfl (ai rfl (ai (fun _ => Or.inl rfl) (ai (by first | exact nof | exact (fun _ => ai rfl rfl)) (by first | exact Or.inl rfl | exact Or.inr rfl))))))) (ai (by (repeat' (first | with_reducible rfl | exact trivial | refine ai ?_ ?_ | (show (_ : Int) = _; first | with_reducible rfl | exact wr1 (by omega) | (simp only [zz, reduceCtorEq] <;> first | done | rfl | omega) | omega | rfl) | exact rfl | exact (fun _ => rfl) | exact (fun _ _ => rfl) | exact nof))) (ai trivial (ai (⟨by have := hl.1; show l.length ≤ 1000000; omega, by have := hb.1; show b.length ≤ 1000000; exact Nat.le_trans this (by decide)⟩) ?_)))))))
    refine ei _ (ai or_ok (ei ((cmpI (litW L l : Int) (litW L b : Int), cmpN l b)) (ei [] (ai (ai rfl (ai rfl (ai rfl (ai rfl (ai (fun _ => Or.inl rfl) (ai (by first | exact nof | exact (fun _ => ai rfl rfl)) (by first | exact Or.inl rfl | exact Or.inr rfl))))))) (ai ?_ (ai trivial (ai ?_ ?_)))))))
    · skip
      (repeat' (first | exact rfl | exact trivial | exact (fun _ => rfl) | exact (fun _ _ => rfl) | exact nof | refine ai ?_ ?_))
      · intro k hk
        match k, hk with | 0, _ => rfl | 1, _ => rfl
    · trivial
    refine ai (ai (fun _ => (by (repeat' (first | exact rfl | exact trivial | exact (fun _ => rfl) | exact (fun _ _ => rfl) | exact nof | refine ai ?_ ?_)))) ?_) trivial
    show decide ((if cmpI (litW L l : Int) (litW L b : Int) = 0 then cmpN l b else cmpI (litW L l : Int) (litW L b : Int)) < 0) = betQ L l (some b)
    rfl

/- the search -/
def covG (x : Tk) (n : Nat) (L : List Cu) (wid : Nat) : Nat → (Nat → Nat) → List Nat → Bst → Bst
  | 0, f, l, b => if opL x n f = [] then updQ L (sortN l) b else b
  | m + 1, f, l, b => if opL x n f = [] then updQ L (sortN l) b else if (m + 1) * wid < (opL x n f).length then b else
      (ownL L ((opL x n f).getD 0 0 : Nat)).foldl (fun b i => covG x n L wid m (wiF f (L.getD i ⟨0, 0⟩) (2 ^ n)) (l ++ [i]) b) b
def covStep (x : Tk) (n : Nat) (L : List Cu) (wid m : Nat) (f : Nat → Nat) (l : List Nat) (b : Bst) (i : Nat) : Bst := covG x n L wid m (wiF f (L.getD i ⟨0, 0⟩) (2 ^ n)) (l ++ [i]) b
theorem own_lt {L : List Cu} {p : Int} {i : Nat} (h : i ∈ ownL L p) : i < L.length := List.mem_range.1 (List.mem_filter.1 h).1
theorem own_has {L : List Cu} {p : Int} {i : Nat} (h : i ∈ ownL L p) : hasC (L.getD i ⟨0, 0⟩) p = true := (List.mem_filter.1 h).2
theorem goodI_snoc {L : List Cu} {l : List Nat} {i : Nat} (h : ∀ j ∈ l, j < L.length) (hi : i < L.length) : ∀ j ∈ l ++ [i], j < L.length := fun j hj => by
  rcases List.mem_append.1 hj with h1 | h1
  · exact h j h1
  · obtain rfl : j = i := by simpa using h1
    exact hi
theorem updQ_good {L : List Cu} {l : List Nat} (h : goodI L l) {b : Bst} (hb : goodI L (b.getD [])) : goodI L ((updQ L (sortN l) b).getD []) := by
  unfold updQ
  split
  · exact ⟨by show (sortN l).length ≤ 1000; rw [sortN_len]; exact h.1, fun i hi => h.2 i ((sortN_perm l).mem_iff.1 hi)⟩
  · exact hb
theorem covG_good (x : Tk) (n : Nat) (L : List Cu) (wid : Nat) : ∀ (m : Nat) (f : Nat → Nat) (l : List Nat) (b : Bst), l.length + m ≤ 1000 → (∀ i ∈ l, i < L.length) → goodI L (b.getD []) → goodI L ((covG x n L wid m f l b).getD [])
  | 0, f, l, b, h1, h2, h3 => by
    rw [covG]
    split
    · exact updQ_good ⟨by omega, h2⟩ h3
    · exact h3
  | m + 1, f, l, b, h1, h2, h3 => by
    rw [covG]
    split
    · exact updQ_good ⟨by omega, h2⟩ h3
    · split
      · exact h3
      · have key : ∀ (os : List Nat) (b : Bst), (∀ i ∈ os, i < L.length) → goodI L (b.getD []) → goodI L ((os.foldl (covStep x n L wid m f l) b).getD []) := by
          intro os
          induction os with
          | nil => exact fun b _ h => h
          | cons i os ih =>
            intro b ho hb
            exact ih _ (fun j hj => ho j (List.mem_cons_of_mem _ hj)) (covG_good x n L wid m _ _ _ (by rw [List.length_append]; simp; omega) (goodI_snoc h2 (ho i (List.mem_cons_self ..))) hb)
        exact key _ _ (fun i hi => own_lt hi) h3

structure CvA where
  x : Tk
  n : Nat
  L : List Cu
  most : Nat
  wid : Nat
  f : Nat → Nat
  l : List Nat
  b : Bst
def betFn : SV := .fn 100 [.own 6 0, .own 0 0, .own 5 0]
def cvFn : SV := .fn 104 [.own 0 0, .own 1 0, .own 5 0, .own 6 0, .own 2 0, .own 3 0, .own 4 0]
def cvO (y : CvA) : List Ob := [taskB y.x y.L, .cells 138 [betFn], intB y.most, intB y.wid, .cells 139 [cvFn], listB (y.b.getD []), foundB y.b]
def cvS (m : Nat) : Spec := { A := CvA, args := fun y => [cntA y.f, nsA y.l, .own 0 0, .own 1 0, .own 5 0, .own 6 0, .own 2 0, .own 3 0, .own 4 0], objs := cvO, pre := fun y => (y.l.length + m = y.most ∧ y.most ≤ 1000 ∧ y.wid ≤ 64) ∧ (y.n ≤ 6 ∧ y.x.on.n = y.n ∧ y.L.length ≤ 1000 ∧ ∀ c ∈ y.L, c.Ok y.n) ∧ (∀ p, y.f p ≤ y.l.length) ∧ (∀ i ∈ y.l, i < y.L.length) ∧ goodI y.L (y.b.getD []), res := fun _ => .tup [], objs' := fun y => [listB ((covG y.x y.n y.L y.wid m y.f y.l y.b).getD []), foundB (covG y.x y.n y.L y.wid m y.f y.l y.b)], fresh := true, ro := 5 }
theorem nil_len {l : List Nat} : l.length = 0 ↔ l = [] := List.length_eq_zero_iff
theorem own_len (L : List Cu) (p : Int) : (ownL L p).length ≤ L.length := filt_len _ _
theorem cv_step {m : Nat} (ih : ∀ k, k < m → FnOk Tryz.prog 104 (cvS k)) : FnOk Tryz.prog 104 (cvS m) := by
  refine fnOk (Tb := tab) mixed tab_ok Tryz.func104 rfl rfl ?_
  rintro ⟨⟨⟨N, bits⟩, fr⟩, n, L, most, wid, f, l, b⟩ hpre
  refine ai (ai rfl (ai rfl rfl)) ?_
  obtain ⟨⟨hm, hmost, hwid⟩, ⟨hn, hN, hL, hC⟩, hf, hl, hb⟩ : (l.length + m = most ∧ most ≤ 1000 ∧ wid ≤ 64) ∧ (n ≤ 6 ∧ N = n ∧ L.length ≤ 1000 ∧ ∀ c ∈ L, c.Ok n) ∧ (∀ p, f p ≤ l.length) ∧ (∀ i ∈ l, i < L.length) ∧ goodI L (b.getD []) := hpre
  subst hN
  have h64 := pow_le64 hn
  obtain ⟨x, hx⟩ : ∃ x : Tk, x = ⟨⟨n, bits⟩, fr⟩ := ⟨_, rfl⟩
  obtain ⟨G, hG⟩ : ∃ G, covG ⟨⟨n, bits⟩, fr⟩ n L wid m f l b = G := ⟨_, rfl⟩
  have hop := op_len ⟨⟨n, bits⟩, fr⟩ n f
  refine ei _ (ai wop_ok (ei ((n, ⟨⟨n, bits⟩, fr⟩, L, f)) (ei [] (ai (ai rfl (ai rfl (ai rfl (ai rfl (ai (fun _ => Or.inl rfl) (ai (by first | exact nof | exact (fun _ => ai rfl rfl)) (by first | exact Or.inl rfl | exact Or.inr rfl))))))) (ai (by (repeat' (first | with_reducible rfl | exact trivial | refine ai ?_ ?_ | (show (_ : Int) = _; first | with_reducible rfl | exact wr1 (by omega) | (simp only [zz, reduceCtorEq] <;> first | done | rfl | omega) | omega | rfl) | exact rfl | exact (fun _ => rfl) | exact (fun _ _ => rfl) | exact nof))) (ai trivial (ai (⟨hn, rfl⟩) ?_)))))))
  refine bcase_p (p := opL ⟨⟨n, bits⟩, fr⟩ n f = []) (by show (((opL ⟨⟨n, bits⟩, fr⟩ n f).length : Int) == 0) = true ↔ _; rw [beq_iff_eq, ← nil_len]; omega) (fun h1 => ?_) (fun h1 => ?_)
  · have hG1 : updQ L (sortN l) b = G := by
      rw [← hG]
      cases m with
      | zero => rw [covG, if_pos h1]
      | succ m => rw [covG, if_pos h1]
    have hsl : goodI L (sortN l) := ⟨by rw [sortN_len]; omega, fun i hi => hl i ((sortN_perm l).mem_iff.1 hi)⟩
    refine ei _ (ai values_ok (ei (l) (ei [] (ai (ai rfl (ai rfl (ai rfl (ai rfl (ai (fun _ => Or.inl rfl) (ai (by first | exact nof | exact (fun _ => ai rfl rfl)) (by first | exact Or.inl rfl | exact Or.inr rfl))))))) (ai (by (repeat' (first | with_reducible rfl | exact trivial | refine ai ?_ ?_ | (show (_ : Int) = _; first | with_reducible rfl | exact wr1 (by omega) | (simp only [zz, reduceCtorEq] <;> first | done | rfl | omega) | omega | rfl) | exact rfl | exact (fun _ => rfl) | exact (fun _ _ => rfl) | exact nof))) (ai trivial (ai (trivial) ?_)))))))
    refine ei _ (ai sorted_ok (ei (l) (ei [] (ai (ai rfl (ai rfl (ai rfl (ai rfl (ai (fun _ => Or.inl rfl) (ai (by first | exact nof | exact (fun _ => ai rfl rfl)) (by first | exact Or.inl rfl | exact Or.inr rfl))))))) (ai (by (repeat' (first | with_reducible rfl | exact trivial | refine ai ?_ ?_ | (show (_ : Int) = _; first | with_reducible rfl | exact wr1 (by omega) | (simp only [zz, reduceCtorEq] <;> first | done | rfl | omega) | omega | rfl) | exact rfl | exact (fun _ => rfl) | exact (fun _ _ => rfl) | exact nof))) (ai trivial (ai ((by show l.length ≤ 1000000; omega)) ?_)))))))
    refine ei _ (ai btr_ok (ei ((⟨⟨⟨n, bits⟩, fr⟩, n, L, sortN l, b⟩ : BetA)) (ei [6, 0, 5] (ai (ai rfl (ai rfl (ai rfl (ai rfl (ai (by first | exact (fun _ => Or.inl rfl) | exact nof | exact (fun _ => Or.inr (by (repeat' (first | exact rfl | exact trivial | exact (fun _ => rfl) | exact (fun _ _ => rfl) | exact nof | refine ai ?_ ?_))))) (ai (by first | exact nof | exact (fun _ => ai rfl rfl)) (by first | exact Or.inl rfl | exact Or.inr rfl))))))) (ai (by (repeat' (first | with_reducible rfl | exact trivial | refine ai ?_ ?_ | (show (_ : Int) = _; first | with_reducible rfl | exact wr1 (by omega) | (simp only [zz, reduceCtorEq] <;> first | done | rfl | omega) | omega | rfl) | exact rfl | exact (fun _ => rfl) | exact (fun _ _ => rfl) | exact nof))) (ai (by (repeat' (first | with_reducible rfl | exact trivial | refine ai ?_ ?_ | (show (_ : Int) = _; first | with_reducible rfl | exact wr1 (by omega) | (simp only [zz, reduceCtorEq] <;> first | done | rfl | omega) | omega | rfl) | exact rfl | exact (fun _ => rfl) | exact (fun _ _ => rfl) | exact nof))) (ai (⟨hn, hL, hC, hsl, hb⟩) ?_)))))))
    refine bcase_b (b := betQ L (sortN l) b) (by first | exact rfl | (simp only [zz, reduceCtorEq] <;> first | done | exact rfl)) (fun h2 => ?_) (fun h2 => ?_)
    · have hG2 : some (sortN l) = G := by rw [← hG1, updQ, if_pos h2]
      refine ai (ai (fun _ => trivial) trivial) ?_
      show _ ∧ _
      rw [hG, ← hG2]
      refine ai ?_ ?_
      · skip
        (repeat' (first | exact rfl | exact trivial | exact (fun _ => rfl) | exact (fun _ _ => rfl) | exact nof | refine ai ?_ ?_))
      · skip
        (repeat' (first | exact rfl | exact trivial | exact (fun _ => rfl) | exact (fun _ _ => rfl) | exact nof | refine ai ?_ ?_))
    · have hG2 : b = G := by rw [← hG1, updQ, h2]; rfl
      refine ai (ai (fun _ => trivial) trivial) ?_
      show _ ∧ _
      rw [hG, ← hG2]
      refine ai ?_ ?_
      · skip
        (repeat' (first | exact rfl | exact trivial | exact (fun _ => rfl) | exact (fun _ _ => rfl) | exact nof | refine ai ?_ ?_))
      · skip
        (repeat' (first | exact rfl | exact trivial | exact (fun _ => rfl) | exact (fun _ _ => rfl) | exact nof | refine ai ?_ ?_))
  have hlen : 0 < (opL ⟨⟨n, bits⟩, fr⟩ n f).length := List.length_pos_iff.2 h1
  have e1 : IntKind.i64.wrap (IntKind.i64.wrap ((most : Int) - (l.length : Int)) * (wid : Int)) = ((m * wid : Nat) : Int) := by
    have hmw : m * wid ≤ 1000 * 64 := Nat.mul_le_mul (by omega) hwid
    have : (most : Int) - (l.length : Int) = (m : Int) := by omega
    rw [this, wrap_in (x := (m : Int)) (by omega) (by omega), ← Int.natCast_mul, wrap_in (by omega) (by omega)]
  refine bcase_p (p := m * wid < (opL ⟨⟨n, bits⟩, fr⟩ n f).length) (by show decide (IntKind.i64.wrap (IntKind.i64.wrap ((most : Int) - (l.length : Int)) * (wid : Int)) < ((opL ⟨⟨n, bits⟩, fr⟩ n f).length : Int)) = true ↔ _; rw [e1, decide_eq_true_iff]; omega) (fun h2 => ?_) (fun h2 => ?_)
  · have hG2 : b = G := by
      rw [← hG]
      cases m with
      | zero => rw [covG, if_neg h1]
      | succ m => rw [covG, if_neg h1, if_pos h2]
    refine ai (ai (fun _ => trivial) trivial) ?_
    show _ ∧ _
    rw [hG, ← hG2]
    refine ai ?_ ?_
    · skip
      (repeat' (first | exact rfl | exact trivial | exact (fun _ => rfl) | exact (fun _ _ => rfl) | exact nof | refine ai ?_ ?_))
    · skip
      (repeat' (first | exact rfl | exact trivial | exact (fun _ => rfl) | exact (fun _ _ => rfl) | exact nof | refine ai ?_ ?_))
  cases m with
  | zero => exact absurd (by rw [Nat.zero_mul]; exact hlen) h2
  | succ m =>
    rw [covG, if_neg h1, if_neg h2] at hG
    obtain ⟨p, hp⟩ : ∃ p, (opL ⟨⟨n, bits⟩, fr⟩ n f).getD 0 0 = p := ⟨_, rfl⟩
    rw [hp] at hG
    obtain ⟨O, hO⟩ : ∃ O, ownL L (p : Nat) = O := ⟨_, rfl⟩
    rw [hO] at hG
    have hOl : O.length ≤ 1000 := by have := own_len L (p : Nat); rw [hO] at this; omega
    have hOi : ∀ i ∈ O, i < L.length := fun i hi => by rw [← hO] at hi; exact own_lt hi
    have hfold : O.foldl (covStep ⟨⟨n, bits⟩, fr⟩ n L wid m f l) b = G := hG
    refine ei (.seq [0, 1, 2, 3, 6, 4, 5]) (ai (by kernel_rfl) ?_)
    refine ai (ai (by decide) (by show (0 : Int) < ((opL ⟨⟨n, bits⟩, fr⟩ n f).length : Int); omega)) ?_
    refine ai rfl ?_
    have c1 := fnS_at wown_ok (⟨⟨n, bits⟩, fr⟩, L, ((opL ⟨⟨n, bits⟩, fr⟩ n f).getD 0 0 : Int)) (by show L.length ≤ 1000000; omega) (r := nsP O) (by show nsP (ownL L ((opL ⟨⟨n, bits⟩, fr⟩ n f).getD 0 0 : Nat)) = _; rw [hp, hO])
    refine ei _ (ai c1 (ei (()) (ei [] (ai (ai rfl (ai rfl (ai rfl (ai rfl (ai (fun _ => Or.inl rfl) (ai (by first | exact nof | exact (fun _ => ai rfl rfl)) (by first | exact Or.inl rfl | exact Or.inr rfl))))))) (ai (by (repeat' (first | with_reducible rfl | exact trivial | refine ai ?_ ?_ | (show (_ : Int) = _; first | with_reducible rfl | exact wr1 (by omega) | (simp only [zz, reduceCtorEq] <;> first | done | rfl | omega) | omega | rfl) | exact rfl | exact (fun _ => rfl) | exact (fun _ _ => rfl) | exact nof))) (ai trivial (ai (trivial) ?_)))))))
    refine ei (LAnn.inv { X := Nat × Bst, up := fun y => [(43, .s (iA y.1))], uo := fun y => [⟨5, 36, [.s (nsA (y.2.getD []))]⟩, ⟨6, 4, [.s (bA y.2.isSome)]⟩], inv := fun y => (y.1 ≤ O.length ∧ goodI L (y.2.getD [])) ∧ (O.drop y.1).foldl (covStep ⟨⟨n, bits⟩, fr⟩ n L wid m f l) y.2 = G, meas := fun y => O.length - y.1, x0 := (0, b) }) ?_
    refine ai (ai (ai (by (repeat' (first | exact rfl | exact trivial | exact (fun _ => rfl) | exact (fun _ _ => rfl) | exact nof | refine ai ?_ ?_))) (ai ?_ ?_)) ?_) (ai ?_ ?_)
    · skip
      (repeat' (first | exact rfl | exact trivial | exact (fun _ => rfl) | exact (fun _ _ => rfl) | exact nof | refine ai ?_ ?_))
    · skip
      (repeat' (first | exact rfl | exact trivial | exact (fun _ => rfl) | exact (fun _ _ => rfl) | exact nof | refine ai ?_ ?_))
    · rfl
    · exact ⟨⟨Nat.zero_le _, hb⟩, hfold⟩
    rintro ⟨k, b'⟩ ⟨⟨hk, hb'⟩, hfo⟩
    have hk : k ≤ O.length := hk
    have hb' : goodI L (b'.getD []) := hb'
    have hfo : (O.drop k).foldl (covStep ⟨⟨n, bits⟩, fr⟩ n L wid m f l) b' = G := hfo
    refine bcase_p (p := k < O.length) (by first | (with_reducible refine bif_lt ?_; omega) | (with_reducible refine bif_le ?_; omega) | (with_reducible refine bif_eq ?_; omega) | (with_reducible refine bif_ne ?_; omega) | exact b8_eq rfl | exact b8_ne rfl | exact bif_lt (by omega) | exact bif_le (by omega) | exact bif_eq (by omega) | exact bif_ne (by omega) | exact Iff.rfl | (simp only [zz, reduceCtorEq] <;> first | done | omega | exact Iff.rfl) | (simp; done) | (simp; omega)) (fun h3 => ?_) (fun h3 => ?_)
    · rw [drop_getD h3, List.foldl_cons] at hfo
      have hi : O.getD k 0 < L.length := hOi _ (by rw [List.getD_eq_getElem?_getD, List.getElem?_eq_getElem h3]; exact List.getElem_mem h3)
      obtain ⟨i, hie⟩ : ∃ i, O.getD k 0 = i := ⟨_, rfl⟩
      have hgo := covG_good ⟨⟨n, bits⟩, fr⟩ n L wid m (wiF f (L.getD (O.getD k 0) ⟨0, 0⟩) (2 ^ n)) (l ++ [O.getD k 0]) b' (by rw [List.length_append]; simp; omega) (goodI_snoc hl hi) hb'
      refine ai (ai (Int.natCast_nonneg _) (by show (k : Int) < (O.length : Int); omega)) ?_
      refine ai rfl ?_
      refine ei (.one 1 (.one 2 (.one 3 (.one 4 (.one 5 (.one 6 (.one 7 (.one 8 (.one 9 (.one 11 (.one 12 (.one 13 (.one 14 (.one 15 (.one 16 (.one 17 (.alt 0 (.alt 10 (.one 18 (.one 19 (.wr 20 .done))) (.alt 18 (.one 10 (.one 19 (.wr 20 .done))) .stop)) (.alt 10 (.alt 0 (.one 18 (.one 19 (.wr 20 .done))) (.alt 18 (.alt 0 (.one 19 (.wr 20 .done)) (.alt 19 (.one 0 (.wr 20 .done)) .stop)) .stop)) (.alt 18 (.alt 0 (.one 10 (.one 19 (.wr 20 .done))) (.alt 10 (.alt 0 (.one 19 (.wr 20 .done)) (.alt 19 (.one 0 (.wr 20 .done)) .stop)) .stop)) .stop))))))))))))))))))) (ai (by kernel_rfl) ?_)
      refine ai (ai (Int.natCast_nonneg _) (by show ((O.getD k 0 : Nat) : Int) < (L.length : Int); omega)) ?_
      refine ai rfl ?_
      refine ai (ai (Int.le_refl _) (ai (Int.natCast_nonneg _) (ai rfl (Int.le_refl _)))) ?_
      refine ai (fun k hk => rfl) ?_
      refine ai ?_ (ai ?_ (ai ?_ trivial))
      · refine ai ?_ (ai ?_ trivial)
        · skip
          refine ei _ (ai wi_ok (ei ((n, ⟨⟨n, bits⟩, fr⟩, L, f, L.getD (O.getD k 0) ⟨0, 0⟩)) (ei [] (ai (ai rfl (ai rfl (ai rfl (ai rfl (ai (fun _ => Or.inl rfl) (ai (by first | exact nof | exact (fun _ => ai rfl rfl)) (by first | exact Or.inl rfl | exact Or.inr rfl))))))) (ai (by (repeat' (first | with_reducible rfl | exact trivial | refine ai ?_ ?_ | (show (_ : Int) = _; first | with_reducible rfl | exact wr1 (by omega) | (simp only [zz, reduceCtorEq] <;> first | done | rfl | omega) | omega | rfl) | exact rfl | exact (fun _ => rfl) | exact (fun _ _ => rfl) | exact nof))) (ai trivial (ai (⟨hn, rfl, fun p => Nat.le_trans (hf p) (by omega)⟩) ?_)))))))
          refine ai (ai Nat.zero_lt_one (ai (by show l.length - 0 + 1 ≤ maxLen; unfold maxLen; omega) (by show (l.length - 0 + 1) * 8 ≤ 140737488355328; omega))) ?_
          refine ai (fun k hk => rfl) (ai (fun k hk => by
            have hk : k < 1 := hk
            obtain rfl : k = 0 := by omega
            rfl) ?_)
          refine ei _ (ai (ih m (Nat.lt_succ_self m)) (ei ((⟨⟨⟨n, bits⟩, fr⟩, n, L, most, wid, wiF f (L.getD (O.getD k 0) ⟨0, 0⟩) (2 ^ n), l ++ [O.getD k 0], b'⟩ : CvA)) (ei [0, 1, 2, 3, 4, 5, 6] (ai (ai rfl (ai rfl (ai rfl (ai rfl (ai (by first | exact (fun _ => Or.inl rfl) | exact nof | exact (fun _ => Or.inr (by (repeat' (first | exact rfl | exact trivial | exact (fun _ => rfl) | exact (fun _ _ => rfl) | exact nof | refine ai ?_ ?_))))) (ai (by first | exact nof | exact (fun _ => ai rfl rfl)) (by first | exact Or.inl rfl | exact Or.inr rfl))))))) (ai ?_ (ai (by (repeat' (first | with_reducible rfl | exact trivial | refine ai ?_ ?_ | (show (_ : Int) = _; first | with_reducible rfl | exact wr1 (by omega) | (simp only [zz, reduceCtorEq] <;> first | done | rfl | omega) | omega | rfl) | exact rfl | exact (fun _ => rfl) | exact (fun _ _ => rfl) | exact nof))) (ai (⟨⟨by show (l ++ [O.getD k 0]).length + m = most; rw [List.length_append]; show l.length + 1 + m = most; omega, hmost, hwid⟩, ⟨hn, rfl, hL, hC⟩, fun p => by show _ ≤ (l ++ [O.getD k 0]).length; rw [List.length_append]; exact wiF_le hf _ p, goodI_snoc hl hi, hb'⟩) ?_)))))))
          · skip
            (repeat' (first | with_reducible rfl | exact trivial | refine ai ?_ ?_ | (show (_ : Int) = _; first | with_reducible rfl | exact wr1 (by omega) | (simp only [zz, reduceCtorEq] <;> first | done | rfl | omega) | omega | rfl) | exact rfl | exact (fun _ => rfl) | exact (fun _ _ => rfl) | exact nof))
            · show l.length - 0 + 1 = (l ++ [O.getD k 0]).length
              rw [List.length_append]; rfl
            · exact full_app (x := O.getD k 0) rfl _ rfl
          refine ei ((k + 1, covG ⟨⟨n, bits⟩, fr⟩ n L wid m (wiF f (L.getD (O.getD k 0) ⟨0, 0⟩) (2 ^ n)) (l ++ [O.getD k 0]) b')) (ai (ai rfl rfl) (ai (ai ?_ rfl) (ai ?_ ?_)))
          · skip
            (repeat' (first | with_reducible rfl | exact trivial | refine ai ?_ ?_ | (show (_ : Int) = _; first | with_reducible rfl | exact wr1 (by omega) | (simp only [zz, reduceCtorEq] <;> first | done | rfl | omega) | omega | rfl) | exact rfl | exact (fun _ => rfl) | exact (fun _ _ => rfl) | exact nof))
          · exact ⟨⟨by show k + 1 ≤ O.length; omega, hgo⟩, hfo⟩
          · show O.length - (k + 1) < O.length - k; omega
        · skip
          refine ei _ (ai wi_ok (ei ((n, ⟨⟨n, bits⟩, fr⟩, L, f, L.getD (O.getD k 0) ⟨0, 0⟩)) (ei [] (ai (ai rfl (ai rfl (ai rfl (ai rfl (ai (fun _ => Or.inl rfl) (ai (by first | exact nof | exact (fun _ => ai rfl rfl)) (by first | exact Or.inl rfl | exact Or.inr rfl))))))) (ai (by (repeat' (first | with_reducible rfl | exact trivial | refine ai ?_ ?_ | (show (_ : Int) = _; first | with_reducible rfl | exact wr1 (by omega) | (simp only [zz, reduceCtorEq] <;> first | done | rfl | omega) | omega | rfl) | exact rfl | exact (fun _ => rfl) | exact (fun _ _ => rfl) | exact nof))) (ai trivial (ai (⟨hn, rfl, fun p => Nat.le_trans (hf p) (by omega)⟩) ?_)))))))
          refine ai (ai Nat.zero_lt_one (ai (by show l.length - 0 + 1 ≤ maxLen; unfold maxLen; omega) (by show (l.length - 0 + 1) * 8 ≤ 140737488355328; omega))) ?_
          refine ai (fun k hk => rfl) (ai (fun k hk => by
            have hk : k < 1 := hk
            obtain rfl : k = 0 := by omega
            rfl) ?_)
          refine ei _ (ai (ih m (Nat.lt_succ_self m)) (ei ((⟨⟨⟨n, bits⟩, fr⟩, n, L, most, wid, wiF f (L.getD (O.getD k 0) ⟨0, 0⟩) (2 ^ n), l ++ [O.getD k 0], b'⟩ : CvA)) (ei [0, 1, 2, 3, 4, 5, 6] (ai (ai rfl (ai rfl (ai rfl (ai rfl (ai (by first | exact (fun _ => Or.inl rfl) | exact nof | exact (fun _ => Or.inr (by (repeat' (first | exact rfl | exact trivial | exact (fun _ => rfl) | exact (fun _ _ => rfl) | exact nof | refine ai ?_ ?_))))) (ai (by first | exact nof | exact (fun _ => ai rfl rfl)) (by first | exact Or.inl rfl | exact Or.inr rfl))))))) (ai ?_ (ai (by (repeat' (first | with_reducible rfl | exact trivial | refine ai ?_ ?_ | (show (_ : Int) = _; first | with_reducible rfl | exact wr1 (by omega) | (simp only [zz, reduceCtorEq] <;> first | done | rfl | omega) | omega | rfl) | exact rfl | exact (fun _ => rfl) | exact (fun _ _ => rfl) | exact nof))) (ai (⟨⟨by show (l ++ [O.getD k 0]).length + m = most; rw [List.length_append]; show l.length + 1 + m = most; omega, hmost, hwid⟩, ⟨hn, rfl, hL, hC⟩, fun p => by show _ ≤ (l ++ [O.getD k 0]).length; rw [List.length_append]; exact wiF_le hf _ p, goodI_snoc hl hi, hb'⟩) ?_)))))))
          · skip
            (repeat' (first | with_reducible rfl | exact trivial | refine ai ?_ ?_ | (show (_ : Int) = _; first | with_reducible rfl | exact wr1 (by omega) | (simp only [zz, reduceCtorEq] <;> first | done | rfl | omega) | omega | rfl) | exact rfl | exact (fun _ => rfl) | exact (fun _ _ => rfl) | exact nof))
            · show l.length - 0 + 1 = (l ++ [O.getD k 0]).length
              rw [List.length_append]; rfl
            · exact full_app (x := O.getD k 0) rfl _ rfl
          refine ei ((k + 1, covG ⟨⟨n, bits⟩, fr⟩ n L wid m (wiF f (L.getD (O.getD k 0) ⟨0, 0⟩) (2 ^ n)) (l ++ [O.getD k 0]) b')) (ai (ai rfl rfl) (ai (ai ?_ rfl) (ai ?_ ?_)))
          · skip
            (repeat' (first | with_reducible rfl | exact trivial | refine ai ?_ ?_ | (show (_ : Int) = _; first | with_reducible rfl | exact wr1 (by omega) | (simp only [zz, reduceCtorEq] <;> first | done | rfl | omega) | omega | rfl) | exact rfl | exact (fun _ => rfl) | exact (fun _ _ => rfl) | exact nof))
          · exact ⟨⟨by show k + 1 ≤ O.length; omega, hgo⟩, hfo⟩
          · show O.length - (k + 1) < O.length - k; omega
      · skip
        refine ei _ (ai wi_ok (ei ((n, ⟨⟨n, bits⟩, fr⟩, L, f, L.getD (O.getD k 0) ⟨0, 0⟩)) (ei [] (ai (ai rfl (ai rfl (ai rfl (ai rfl (ai (fun _ => Or.inl rfl) (ai (by first | exact nof | exact (fun _ => ai rfl rfl)) (by first | exact Or.inl rfl | exact Or.inr rfl))))))) (ai (by (repeat' (first | with_reducible rfl | exact trivial | refine ai ?_ ?_ | (show (_ : Int) = _; first | with_reducible rfl | exact wr1 (by omega) | (simp only [zz, reduceCtorEq] <;> first | done | rfl | omega) | omega | rfl) | exact rfl | exact (fun _ => rfl) | exact (fun _ _ => rfl) | exact nof))) (ai trivial (ai (⟨hn, rfl, fun p => Nat.le_trans (hf p) (by omega)⟩) ?_)))))))
        refine ai ?_ (ai ?_ trivial)
        · skip
          refine ai (ai Nat.zero_lt_one (ai (by show l.length - 0 + 1 ≤ maxLen; unfold maxLen; omega) (by show (l.length - 0 + 1) * 8 ≤ 140737488355328; omega))) ?_
          refine ai (fun k hk => rfl) (ai (fun k hk => by
            have hk : k < 1 := hk
            obtain rfl : k = 0 := by omega
            rfl) ?_)
          refine ei _ (ai (ih m (Nat.lt_succ_self m)) (ei ((⟨⟨⟨n, bits⟩, fr⟩, n, L, most, wid, wiF f (L.getD (O.getD k 0) ⟨0, 0⟩) (2 ^ n), l ++ [O.getD k 0], b'⟩ : CvA)) (ei [0, 1, 2, 3, 4, 5, 6] (ai (ai rfl (ai rfl (ai rfl (ai rfl (ai (by first | exact (fun _ => Or.inl rfl) | exact nof | exact (fun _ => Or.inr (by (repeat' (first | exact rfl | exact trivial | exact (fun _ => rfl) | exact (fun _ _ => rfl) | exact nof | refine ai ?_ ?_))))) (ai (by first | exact nof | exact (fun _ => ai rfl rfl)) (by first | exact Or.inl rfl | exact Or.inr rfl))))))) (ai ?_ (ai (by (repeat' (first | with_reducible rfl | exact trivial | refine ai ?_ ?_ | (show (_ : Int) = _; first | with_reducible rfl | exact wr1 (by omega) | (simp only [zz, reduceCtorEq] <;> first | done | rfl | omega) | omega | rfl) | exact rfl | exact (fun _ => rfl) | exact (fun _ _ => rfl) | exact nof))) (ai (⟨⟨by show (l ++ [O.getD k 0]).length + m = most; rw [List.length_append]; show l.length + 1 + m = most; omega, hmost, hwid⟩, ⟨hn, rfl, hL, hC⟩, fun p => by show _ ≤ (l ++ [O.getD k 0]).length; rw [List.length_append]; exact wiF_le hf _ p, goodI_snoc hl hi, hb'⟩) ?_)))))))
          · skip
            (repeat' (first | with_reducible rfl | exact trivial | refine ai ?_ ?_ | (show (_ : Int) = _; first | with_reducible rfl | exact wr1 (by omega) | (simp only [zz, reduceCtorEq] <;> first | done | rfl | omega) | omega | rfl) | exact rfl | exact (fun _ => rfl) | exact (fun _ _ => rfl) | exact nof))
            · show l.length - 0 + 1 = (l ++ [O.getD k 0]).length
              rw [List.length_append]; rfl
            · exact full_app (x := O.getD k 0) rfl _ rfl
          refine ei ((k + 1, covG ⟨⟨n, bits⟩, fr⟩ n L wid m (wiF f (L.getD (O.getD k 0) ⟨0, 0⟩) (2 ^ n)) (l ++ [O.getD k 0]) b')) (ai (ai rfl rfl) (ai (ai ?_ rfl) (ai ?_ ?_)))
          · skip
            (repeat' (first | with_reducible rfl | exact trivial | refine ai ?_ ?_ | (show (_ : Int) = _; first | with_reducible rfl | exact wr1 (by omega) | (simp only [zz, reduceCtorEq] <;> first | done | rfl | omega) | omega | rfl) | exact rfl | exact (fun _ => rfl) | exact (fun _ _ => rfl) | exact nof))
          · exact ⟨⟨by show k + 1 ≤ O.length; omega, hgo⟩, hfo⟩
          · show O.length - (k + 1) < O.length - k; omega
        · refine ai ?_ (ai ?_ trivial)
          · skip
            refine ai (ai Nat.zero_lt_one (ai (by show l.length - 0 + 1 ≤ maxLen; unfold maxLen; omega) (by show (l.length - 0 + 1) * 8 ≤ 140737488355328; omega))) ?_
            refine ai (fun k hk => rfl) (ai (fun k hk => by
              have hk : k < 1 := hk
              obtain rfl : k = 0 := by omega
              rfl) ?_)
            refine ei _ (ai (ih m (Nat.lt_succ_self m)) (ei ((⟨⟨⟨n, bits⟩, fr⟩, n, L, most, wid, wiF f (L.getD (O.getD k 0) ⟨0, 0⟩) (2 ^ n), l ++ [O.getD k 0], b'⟩ : CvA)) (ei [0, 1, 2, 3, 4, 5, 6] (ai (ai rfl (ai rfl (ai rfl (ai rfl (ai (by first | exact (fun _ => Or.inl rfl) | exact nof | exact (fun _ => Or.inr (by (repeat' (first | exact rfl | exact trivial | exact (fun _ => rfl) | exact (fun _ _ => rfl) | exact nof | refine ai ?_ ?_))))) (ai (by first | exact nof | exact (fun _ => ai rfl rfl)) (by first | exact Or.inl rfl | exact Or.inr rfl))))))) (ai ?_ (ai (by (repeat' (first | with_reducible rfl | exact trivial | refine ai ?_ ?_ | (show (_ : Int) = _; first | with_reducible rfl | exact wr1 (by omega) | (simp only [zz, reduceCtorEq] <;> first | done | rfl | omega) | omega | rfl) | exact rfl | exact (fun _ => rfl) | exact (fun _ _ => rfl) | exact nof))) (ai (⟨⟨by show (l ++ [O.getD k 0]).length + m = most; rw [List.length_append]; show l.length + 1 + m = most; omega, hmost, hwid⟩, ⟨hn, rfl, hL, hC⟩, fun p => by show _ ≤ (l ++ [O.getD k 0]).length; rw [List.length_append]; exact wiF_le hf _ p, goodI_snoc hl hi, hb'⟩) ?_)))))))
            · skip
              (repeat' (first | with_reducible rfl | exact trivial | refine ai ?_ ?_ | (show (_ : Int) = _; first | with_reducible rfl | exact wr1 (by omega) | (simp only [zz, reduceCtorEq] <;> first | done | rfl | omega) | omega | rfl) | exact rfl | exact (fun _ => rfl) | exact (fun _ _ => rfl) | exact nof))
              · show l.length - 0 + 1 = (l ++ [O.getD k 0]).length
                rw [List.length_append]; rfl
              · exact full_app (x := O.getD k 0) rfl _ rfl
            refine ei ((k + 1, covG ⟨⟨n, bits⟩, fr⟩ n L wid m (wiF f (L.getD (O.getD k 0) ⟨0, 0⟩) (2 ^ n)) (l ++ [O.getD k 0]) b')) (ai (ai rfl rfl) (ai (ai ?_ rfl) (ai ?_ ?_)))
            · skip
              (repeat' (first | with_reducible rfl | exact trivial | refine ai ?_ ?_ | (show (_ : Int) = _; first | with_reducible rfl | exact wr1 (by omega) | (simp only [zz, reduceCtorEq] <;> first | done | rfl | omega) | omega | rfl) | exact rfl | exact (fun _ => rfl) | exact (fun _ _ => rfl) | exact nof))
            · exact ⟨⟨by show k + 1 ≤ O.length; omega, hgo⟩, hfo⟩
            · show O.length - (k + 1) < O.length - k; omega
          · skip
            refine ai (ai Nat.zero_lt_one (ai (by show l.length - 0 + 1 ≤ maxLen; unfold maxLen; omega) (by show (l.length - 0 + 1) * 8 ≤ 140737488355328; omega))) ?_
            refine ai (fun k hk => rfl) (ai (fun k hk => by
              have hk : k < 1 := hk
              obtain rfl : k = 0 := by omega
              rfl) ?_)
            refine ei _ (ai (ih m (Nat.lt_succ_self m)) (ei ((⟨⟨⟨n, bits⟩, fr⟩, n, L, most, wid, wiF f (L.getD (O.getD k 0) ⟨0, 0⟩) (2 ^ n), l ++ [O.getD k 0], b'⟩ : CvA)) (ei [0, 1, 2, 3, 4, 5, 6] (ai (ai rfl (ai rfl (ai rfl (ai rfl (ai (by first | exact (fun _ => Or.inl rfl) | exact nof | exact (fun _ => Or.inr (by (repeat' (first | exact rfl | exact trivial | exact (fun _ => rfl) | exact (fun _ _ => rfl) | exact nof | refine ai ?_ ?_))))) (ai (by first | exact nof | exact (fun _ => ai rfl rfl)) (by first | exact Or.inl rfl | exact Or.inr rfl))))))) (ai ?_ (ai (by (repeat' (first | with_reducible rfl | exact trivial | refine ai ?_ ?_ | (show (_ : Int) = _; first | with_reducible rfl | exact wr1 (by omega) | (simp only [zz, reduceCtorEq] <;> first | done | rfl | omega) | omega | rfl) | exact rfl | exact (fun _ => rfl) | exact (fun _ _ => rfl) | exact nof))) (ai (⟨⟨by show (l ++ [O.getD k 0]).length + m = most; rw [List.length_append]; show l.length + 1 + m = most; omega, hmost, hwid⟩, ⟨hn, rfl, hL, hC⟩, fun p => by show _ ≤ (l ++ [O.getD k 0]).length; rw [List.length_append]; exact wiF_le hf _ p, goodI_snoc hl hi, hb'⟩) ?_)))))))
            · skip
              (repeat' (first | with_reducible rfl | exact trivial | refine ai ?_ ?_ | (show (_ : Int) = _; first | with_reducible rfl | exact wr1 (by omega) | (simp only [zz, reduceCtorEq] <;> first | done | rfl | omega) | omega | rfl) | exact rfl | exact (fun _ => rfl) | exact (fun _ _ => rfl) | exact nof))
              · show l.length - 0 + 1 = (l ++ [O.getD k 0]).length
                rw [List.length_append]; rfl
              · exact full_app (x := O.getD k 0) rfl _ rfl
            refine ei ((k + 1, covG ⟨⟨n, bits⟩, fr⟩ n L wid m (wiF f (L.getD (O.getD k 0) ⟨0, 0⟩) (2 ^ n)) (l ++ [O.getD k 0]) b')) (ai (ai rfl rfl) (ai (ai ?_ rfl) (ai ?_ ?_)))
            · skip
              (repeat' (first | with_reducible rfl | exact trivial | refine ai ?_ ?_ | (show (_ : Int) = _; first | with_reducible rfl | exact wr1 (by omega) | (simp only [zz, reduceCtorEq] <;> first | done | rfl | omega) | omega | rfl) | exact rfl | exact (fun _ => rfl) | exact (fun _ _ => rfl) | exact nof))
            · exact ⟨⟨by show k + 1 ≤ O.length; omega, hgo⟩, hfo⟩
            · show O.length - (k + 1) < O.length - k; omega
      · refine ai ?_ (ai ?_ trivial)
        · skip
          refine ei _ (ai wi_ok (ei ((n, ⟨⟨n, bits⟩, fr⟩, L, f, L.getD (O.getD k 0) ⟨0, 0⟩)) (ei [] (ai (ai rfl (ai rfl (ai rfl (ai rfl (ai (fun _ => Or.inl rfl) (ai (by first | exact nof | exact (fun _ => ai rfl rfl)) (by first | exact Or.inl rfl | exact Or.inr rfl))))))) (ai (by (repeat' (first | with_reducible rfl | exact trivial | refine ai ?_ ?_ | (show (_ : Int) = _; first | with_reducible rfl | exact wr1 (by omega) | (simp only [zz, reduceCtorEq] <;> first | done | rfl | omega) | omega | rfl) | exact rfl | exact (fun _ => rfl) | exact (fun _ _ => rfl) | exact nof))) (ai trivial (ai (⟨hn, rfl, fun p => Nat.le_trans (hf p) (by omega)⟩) ?_)))))))
          refine ai (ai Nat.zero_lt_one (ai (by show l.length - 0 + 1 ≤ maxLen; unfold maxLen; omega) (by show (l.length - 0 + 1) * 8 ≤ 140737488355328; omega))) ?_
          refine ai (fun k hk => rfl) (ai (fun k hk => by
            have hk : k < 1 := hk
            obtain rfl : k = 0 := by omega
            rfl) ?_)
          refine ei _ (ai (ih m (Nat.lt_succ_self m)) (ei ((⟨⟨⟨n, bits⟩, fr⟩, n, L, most, wid, wiF f (L.getD (O.getD k 0) ⟨0, 0⟩) (2 ^ n), l ++ [O.getD k 0], b'⟩ : CvA)) (ei [0, 1, 2, 3, 4, 5, 6] (ai (ai rfl (ai rfl (ai rfl (ai rfl (ai (by first | exact (fun _ => Or.inl rfl) | exact nof | exact (fun _ => Or.inr (by (repeat' (first | exact rfl | exact trivial | exact (fun _ => rfl) | exact (fun _ _ => rfl) | exact nof | refine ai ?_ ?_))))) (ai (by first | exact nof | exact (fun _ => ai rfl rfl)) (by first | exact Or.inl rfl | exact Or.inr rfl))))))) (ai ?_ (ai (by (repeat' (first | with_reducible rfl | exact trivial | refine ai ?_ ?_ | (show (_ : Int) = _; first | with_reducible rfl | exact wr1 (by omega) | (simp only [zz, reduceCtorEq] <;> first | done | rfl | omega) | omega | rfl) | exact rfl | exact (fun _ => rfl) | exact (fun _ _ => rfl) | exact nof))) (ai (⟨⟨by show (l ++ [O.getD k 0]).length + m = most; rw [List.length_append]; show l.length + 1 + m = most; omega, hmost, hwid⟩, ⟨hn, rfl, hL, hC⟩, fun p => by show _ ≤ (l ++ [O.getD k 0]).length; rw [List.length_append]; exact wiF_le hf _ p, goodI_snoc hl hi, hb'⟩) ?_)))))))
          · skip
            (repeat' (first | with_reducible rfl | exact trivial | refine ai ?_ ?_ | (show (_ : Int) = _; first | with_reducible rfl | exact wr1 (by omega) | (simp only [zz, reduceCtorEq] <;> first | done | rfl | omega) | omega | rfl) | exact rfl | exact (fun _ => rfl) | exact (fun _ _ => rfl) | exact nof))
            · show l.length - 0 + 1 = (l ++ [O.getD k 0]).length
              rw [List.length_append]; rfl
            · exact full_app (x := O.getD k 0) rfl _ rfl
          refine ei ((k + 1, covG ⟨⟨n, bits⟩, fr⟩ n L wid m (wiF f (L.getD (O.getD k 0) ⟨0, 0⟩) (2 ^ n)) (l ++ [O.getD k 0]) b')) (ai (ai rfl rfl) (ai (ai ?_ rfl) (ai ?_ ?_)))
          · skip
            (repeat' (first | with_reducible rfl | exact trivial | refine ai ?_ ?_ | (show (_ : Int) = _; first | with_reducible rfl | exact wr1 (by omega) | (simp only [zz, reduceCtorEq] <;> first | done | rfl | omega) | omega | rfl) | exact rfl | exact (fun _ => rfl) | exact (fun _ _ => rfl) | exact nof))
          · exact ⟨⟨by show k + 1 ≤ O.length; omega, hgo⟩, hfo⟩
          · show O.length - (k + 1) < O.length - k; omega
        · skip
          refine ei _ (ai wi_ok (ei ((n, ⟨⟨n, bits⟩, fr⟩, L, f, L.getD (O.getD k 0) ⟨0, 0⟩)) (ei [] (ai (ai rfl (ai rfl (ai rfl (ai rfl (ai (fun _ => Or.inl rfl) (ai (by first | exact nof | exact (fun _ => ai rfl rfl)) (by first | exact Or.inl rfl | exact Or.inr rfl))))))) (ai (by (repeat' (first | with_reducible rfl | exact trivial | refine ai ?_ ?_ | (show (_ : Int) = _; first | with_reducible rfl | exact wr1 (by omega) | (simp only [zz, reduceCtorEq] <;> first | done | rfl | omega) | omega | rfl) | exact rfl | exact (fun _ => rfl) | exact (fun _ _ => rfl) | exact nof))) (ai trivial (ai (⟨hn, rfl, fun p => Nat.le_trans (hf p) (by omega)⟩) ?_)))))))
          refine ai ?_ (ai ?_ trivial)
          · skip
            refine ai (ai Nat.zero_lt_one (ai (by show l.length - 0 + 1 ≤ maxLen; unfold maxLen; omega) (by show (l.length - 0 + 1) * 8 ≤ 140737488355328; omega))) ?_
            refine ai (fun k hk => rfl) (ai (fun k hk => by
              have hk : k < 1 := hk
              obtain rfl : k = 0 := by omega
              rfl) ?_)
            refine ei _ (ai (ih m (Nat.lt_succ_self m)) (ei ((⟨⟨⟨n, bits⟩, fr⟩, n, L, most, wid, wiF f (L.getD (O.getD k 0) ⟨0, 0⟩) (2 ^ n), l ++ [O.getD k 0], b'⟩ : CvA)) (ei [0, 1, 2, 3, 4, 5, 6] (ai (ai rfl (ai rfl (ai rfl (ai rfl (ai (by first | exact (fun _ => Or.inl rfl) | exact nof | exact (fun _ => Or.inr (by (repeat' (first | exact rfl | exact trivial | exact (fun _ => rfl) | exact (fun _ _ => rfl) | exact nof | refine ai ?_ ?_))))) (ai (by first | exact nof | exact (fun _ => ai rfl rfl)) (by first | exact Or.inl rfl | exact Or.inr rfl))))))) (ai ?_ (ai (by (repeat' (first | with_reducible rfl | exact trivial | refine ai ?_ ?_ | (show (_ : Int) = _; first | with_reducible rfl | exact wr1 (by omega) | (simp only [zz, reduceCtorEq] <;> first | done | rfl | omega) | omega | rfl) | exact rfl | exact (fun _ => rfl) | exact (fun _ _ => rfl) | exact nof))) (ai (⟨⟨by show (l ++ [O.getD k 0]).length + m = most; rw [List.length_append]; show l.length + 1 + m = most; omega, hmost, hwid⟩, ⟨hn, rfl, hL, hC⟩, fun p => by show _ ≤ (l ++ [O.getD k 0]).length; rw [List.length_append]; exact wiF_le hf _ p, goodI_snoc hl hi, hb'⟩) ?_)))))))
            · skip
              (repeat' (first | with_reducible rfl | exact trivial | refine ai ?_ ?_ | (show (_ : Int) = _; first | with_reducible rfl | exact wr1 (by omega) | (simp only [zz, reduceCtorEq] <;> first | done | rfl | omega) | omega | rfl) | exact rfl | exact (fun _ => rfl) | exact (fun _ _ => rfl) | exact nof))
              · show l.length - 0 + 1 = (l ++ [O.getD k 0]).length
                rw [List.length_append]; rfl
              · exact full_app (x := O.getD k 0) rfl _ rfl
            refine ei ((k + 1, covG ⟨⟨n, bits⟩, fr⟩ n L wid m (wiF f (L.getD (O.getD k 0) ⟨0, 0⟩) (2 ^ n)) (l ++ [O.getD k 0]) b')) (ai (ai rfl rfl) (ai (ai ?_ rfl) (ai ?_ ?_)))
            · skip
              (repeat' (first | with_reducible rfl | exact trivial | refine ai ?_ ?_ | (show (_ : Int) = _; first | with_reducible rfl | exact wr1 (by omega) | (simp only [zz, reduceCtorEq] <;> first | done | rfl | omega) | omega | rfl) | exact rfl | exact (fun _ => rfl) | exact (fun _ _ => rfl) | exact nof))
            · exact ⟨⟨by show k + 1 ≤ O.length; omega, hgo⟩, hfo⟩
            · show O.length - (k + 1) < O.length - k; omega
          · skip
            refine ai (ai Nat.zero_lt_one (ai (by show l.length - 0 + 1 ≤ maxLen; unfold maxLen; omega) (by show (l.length - 0 + 1) * 8 ≤ 140737488355328; omega))) ?_
            refine ai (fun k hk => rfl) (ai (fun k hk => by
              have hk : k < 1 := hk
              obtain rfl : k = 0 := by omega
              rfl) ?_)
            refine ei _ (ai (ih m (Nat.lt_succ_self m)) (ei ((⟨⟨⟨n, bits⟩, fr⟩, n, L, most, wid, wiF f (L.getD (O.getD k 0) ⟨0, 0⟩) (2 ^ n), l ++ [O.getD k 0], b'⟩ : CvA)) (ei [0, 1, 2, 3, 4, 5, 6] (ai (ai rfl (ai rfl (ai rfl (ai rfl (ai (by first | exact (fun _ => Or.inl rfl) | exact nof | exact (fun _ => Or.inr (by (repeat' (first | exact rfl | exact trivial | exact (fun _ => rfl) | exact (fun _ _ => rfl) | exact nof | refine ai ?_ ?_))))) (ai (by first | exact nof | exact (fun _ => ai rfl rfl)) (by first | exact Or.inl rfl | exact Or.inr rfl))))))) (ai ?_ (ai (by (repeat' (first | with_reducible rfl | exact trivial | refine ai ?_ ?_ | (show (_ : Int) = _; first | with_reducible rfl | exact wr1 (by omega) | (simp only [zz, reduceCtorEq] <;> first | done | rfl | omega) | omega | rfl) | exact rfl | exact (fun _ => rfl) | exact (fun _ _ => rfl) | exact nof))) (ai (⟨⟨by show (l ++ [O.getD k 0]).length + m = most; rw [List.length_append]; show l.length + 1 + m = most; omega, hmost, hwid⟩, ⟨hn, rfl, hL, hC⟩, fun p => by show _ ≤ (l ++ [O.getD k 0]).length; rw [List.length_append]; exact wiF_le hf _ p, goodI_snoc hl hi, hb'⟩) ?_)))))))
            · skip
              (repeat' (first | with_reducible rfl | exact trivial | refine ai ?_ ?_ | (show (_ : Int) = _; first | with_reducible rfl | exact wr1 (by omega) | (simp only [zz, reduceCtorEq] <;> first | done | rfl | omega) | omega | rfl) | exact rfl | exact (fun _ => rfl) | exact (fun _ _ => rfl) | exact nof))
              · show l.length - 0 + 1 = (l ++ [O.getD k 0]).length
                rw [List.length_append]; rfl
              · exact full_app (x := O.getD k 0) rfl _ rfl
            refine ei ((k + 1, covG ⟨⟨n, bits⟩, fr⟩ n L wid m (wiF f (L.getD (O.getD k 0) ⟨0, 0⟩) (2 ^ n)) (l ++ [O.getD k 0]) b')) (ai (ai rfl rfl) (ai (ai ?_ rfl) (ai ?_ ?_)))
            · skip
              (repeat' (first | with_reducible rfl | exact trivial | refine ai ?_ ?_ | (show (_ : Int) = _; first | with_reducible rfl | exact wr1 (by omega) | (simp only [zz, reduceCtorEq] <;> first | done | rfl | omega) | omega | rfl) | exact rfl | exact (fun _ => rfl) | exact (fun _ _ => rfl) | exact nof))
            · exact ⟨⟨by show k + 1 ≤ O.length; omega, hgo⟩, hfo⟩
            · show O.length - (k + 1) < O.length - k; omega
    · rw [List.drop_eq_nil_of_le (by omega), List.foldl_nil] at hfo
      refine ai (ai (fun _ => trivial) ?_) ?_
      · skip
        (repeat' (first | exact rfl | exact trivial | exact (fun _ => rfl) | exact (fun _ _ => rfl) | exact nof | refine ai ?_ ?_))
      · show _ ∧ _
        rw [show covG ⟨⟨n, bits⟩, fr⟩ n L wid (m + 1) f l b = b' by rw [covG, if_neg h1, if_neg h2, hp, hO, hG, hfo]]
        refine ai ?_ ?_
        · skip
          (repeat' (first | exact rfl | exact trivial | exact (fun _ => rfl) | exact (fun _ _ => rfl) | exact nof | refine ai ?_ ?_))
        · skip
          (repeat' (first | exact rfl | exact trivial | exact (fun _ => rfl) | exact (fun _ _ => rfl) | exact nof | refine ai ?_ ?_))
theorem cv_ok (m : Nat) : FnOk Tryz.prog 104 (cvS m) := Nat.strongRecOn m fun _ ih => cv_step ih

end Go.Sx.Pn
