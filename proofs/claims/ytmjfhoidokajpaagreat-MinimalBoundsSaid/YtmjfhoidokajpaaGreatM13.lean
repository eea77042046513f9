/- Contracts of chapter 7: Verify; MinimalLeast, walked. -/
import Derived.Test.YtmjfhoidokajpaaGreatM12
set_option maxHeartbeats 1000000
set_option maxRecDepth 4000
set_option linter.unusedSimpArgs false
set_option linter.unusedVariables false
set_option linter.unusedSectionVars false
namespace Go.Sx.Pn
open Go Go.Proofs

/-- how often each point is covered by some cubes -/
def cntC (n : Nat) (l : List Cu) : Nat → Nat → Nat
  | 0 => fun _ => 0
  | k + 1 => wiF (cntC n l k) (l.getD k ⟨0, 0⟩) (2 ^ n)
theorem cntC_le (n : Nat) (l : List Cu) : ∀ k p, cntC n l k p ≤ k
  | 0, _ => Nat.le_refl _
  | k + 1, p => by rw [cntC]; exact wiF_le (cntC_le n l k) _ p
theorem cntC_zero {n : Nat} {l : List Cu} {p : Nat} (hp : p < 2 ^ n) : ∀ k, cntC n l k p = 0 ↔ ∀ j, j < k → hasC (l.getD j ⟨0, 0⟩) (p : Int) = false
  | 0 => ⟨fun _ j hj => absurd hj (Nat.not_lt_zero _), fun _ => rfl⟩
  | k + 1 => by
    rw [cntC]
    unfold wiF
    constructor
    · intro h
      by_cases hc : hasC (l.getD k ⟨0, 0⟩) (p : Int) = true
      · rw [if_pos ⟨hp, hc⟩] at h; omega
      · rw [if_neg fun e => hc e.2] at h
        exact upto_succ ((cntC_zero hp k).1 h) (Bool.eq_false_iff.2 hc)
    · intro h
      have hc := h k (Nat.lt_succ_self k)
      rw [if_neg fun e => by rw [hc] at e; cases e.2]
      exact (cntC_zero hp k).2 fun j hj => h j (by omega)
def covW (x : Tk) (n : Nat) (l : List Cu) : Bool := decide (opL x n (cntC n l l.length) = [])
/-- all points of On are in some of the cubes -/
def CovC (x : Tk) (n : Nat) (l : List Cu) : Prop := ∀ k : Nat, k < 2 ^ n → onW x n k = true → ∃ c ∈ l, hasC c (k : Int) = true
theorem covW_iff {x : Tk} {n : Nat} {l : List Cu} : covW x n l = true ↔ CovC x n l := by
  unfold covW
  rw [decide_eq_true_iff, List.eq_nil_iff_forall_not_mem]
  constructor
  · intro h k hk hon
    refine Classical.byContradiction fun hno => h k (mem_op.2 ⟨hk, hon, (cntC_zero hk _).2 fun j hj => ?_⟩)
    exact Bool.eq_false_iff.2 fun hc => hno ⟨_, getC_mem hj, hc⟩
  · intro h k hk
    obtain ⟨h1, h2, h3⟩ := mem_op.1 hk
    obtain ⟨c, hc, h4⟩ := h k h1 h2
    obtain ⟨j, hj⟩ := List.getElem?_of_mem hc
    have := (cntC_zero h1 _).1 h3 j (List.getElem?_eq_some_iff.1 hj).1
    rw [List.getD_eq_getElem?_getD, hj, show (some c).getD ⟨0, 0⟩ = c from rfl, h4] at this; cases this
def covWS : Spec := fnS (fun y : Nat × Tk × List Cu × List Cu => [wA y.2.1 y.2.2.1, csA y.2.2.2]) (fun y => y.1 ≤ 6 ∧ y.2.1.on.n = y.1 ∧ y.2.2.2.length ≤ 1000000) (fun y => bP (covW y.2.1 y.1 y.2.2.2))
theorem covW_ok : FnOk Tryz.prog 53 covWS := by
  refine fnOk (Tb := tab) mixed tab_ok Tryz.func53 rfl rfl ?_
  rintro ⟨n, x, L, l⟩ hpre
  refine ai (ai rfl (ai rfl rfl)) ?_
  obtain ⟨hn, hx, hl⟩ : n ≤ 6 ∧ x.on.n = n ∧ l.length ≤ 1000000 := hpre
  refine ei (LAnn.inv { X := Nat, up := fun k => [(10, .s (iA k))], uo := fun k => [⟨0, 81, cntV (cntC n l k)⟩], inv := fun k => k ≤ l.length ∧ (True), meas := fun k => l.length - k, x0 := 0 }) ?_
  refine ai (ai (ai (by (repeat' (first | exact rfl | exact trivial | exact (fun _ => rfl) | exact (fun _ _ => rfl) | exact nof | refine ai ?_ ?_))) (ai ?_ ?_)) rfl) (ai (ai (Nat.zero_le _) ?_) ?_)
  · skip
    (repeat' (first | exact rfl | exact trivial | exact (fun _ => rfl) | exact (fun _ _ => rfl) | exact nof | refine ai ?_ ?_))
  · skip
    (repeat' (first | exact rfl | exact trivial | exact (fun _ => rfl) | exact (fun _ _ => rfl) | exact nof | refine ai ?_ ?_))
  · trivial
  intro (k : Nat) ⟨hk, _⟩
  refine bcase_p (p := k < l.length) (by first | (with_reducible refine bif_lt ?_; omega) | (with_reducible refine bif_le ?_; omega) | (with_reducible refine bif_eq ?_; omega) | (with_reducible refine bif_ne ?_; omega) | exact b8_eq rfl | exact b8_ne rfl | exact bif_lt (by omega) | exact bif_le (by omega) | exact bif_eq (by omega) | exact bif_ne (by omega) | exact Iff.rfl | (simp only [zz, reduceCtorEq] <;> first | done | omega | exact Iff.rfl) | (simp; done) | (simp; omega)) (fun h1 => ?_) (fun h1 => ?_)
  · refine ai (ai (Int.natCast_nonneg _) (by show (k : Int) < (l.length : Int); omega)) ?_
    refine ai rfl ?_
    refine ei _ (ai wi_ok (ei ((n, x, L, cntC n l k, l.getD k ⟨0, 0⟩)) (ei [] (ai (ai rfl (ai rfl (ai rfl (ai rfl (ai (fun _ => Or.inl rfl) (ai (by first | exact nof | exact (fun _ => ai rfl rfl)) (by first | exact Or.inl rfl | exact Or.inr rfl))))))) (ai (by (repeat' (first | with_reducible rfl | exact trivial | refine ai ?_ ?_ | (show (_ : Int) = _; first | with_reducible rfl | exact wr1 (by omega) | (simp only [zz, reduceCtorEq] <;> first | done | rfl | omega) | omega | rfl) | exact rfl | exact (fun _ => rfl) | exact (fun _ _ => rfl) | exact nof))) (ai trivial (ai (⟨hn, hx, fun p => Nat.le_trans (cntC_le n l k p) (by show k ≤ 1000000; omega)⟩) ?_)))))))
    refine ei (k + 1) (ai (ai rfl rfl) (ai (ai ?_ rfl) (ai (ai (by show k + 1 ≤ l.length; omega) trivial) (by show l.length - (k + 1) < l.length - k; omega))))
    (repeat' (first | with_reducible rfl | exact trivial | refine ai ?_ ?_ | (show (_ : Int) = _; first | with_reducible rfl | exact wr1 (by omega) | (simp only [zz, reduceCtorEq] <;> first | done | rfl | omega) | omega | rfl) | exact rfl | exact (fun _ => rfl) | exact (fun _ _ => rfl) | exact nof))
  · obtain rfl : k = l.length := by omega
    refine ei _ (ai wop_ok (ei ((n, x, L, cntC n l l.length)) (ei [] (ai (ai rfl (ai rfl (ai rfl (ai rfl (ai (fun _ => Or.inl rfl) (ai (by first | exact nof | exact (fun _ => ai rfl rfl)) (by first | exact Or.inl rfl | exact Or.inr rfl))))))) (ai (by (repeat' (first | with_reducible rfl | exact trivial | refine ai ?_ ?_ | (show (_ : Int) = _; first | with_reducible rfl | exact wr1 (by omega) | (simp only [zz, reduceCtorEq] <;> first | done | rfl | omega) | omega | rfl) | exact rfl | exact (fun _ => rfl) | exact (fun _ _ => rfl) | exact nof))) (ai trivial (ai (⟨hn, hx⟩) ?_)))))))
    refine ai (ai (fun _ => trivial) ?_) trivial
    show (((opL x n (cntC n l l.length)).length : Int) == 0) = covW x n l
    rw [covW, Bool.eq_iff_iff, beq_iff_eq, decide_eq_true_iff, ← nil_len]; omega

/-- the error of a form -/
def verE (x : Tk) (l : List Cu) : Int :=
  if chkK x = 0 then (if chkL x.on.n l = 0 then (if l.all (impliesU x.on.n.toNat x) && covW x x.on.n.toNat l then 0 else 15) else chkL x.on.n l) else chkK x
def verP (x : Tk) (l : List Cu) : PV := if verE x l = 0 then wP x (primesL x.on.n.toNat x) else .val (.pointer none)
def verS : Spec := fnSF (fun y : Tk × List Cu => [kA y.1, csA y.2]) (fun y => y.2.length ≤ 1000000) (fun y => .tup [verP y.1 y.2, iP (verE y.1 y.2)])
theorem chkL_ok {n : Nat} (hn : n ≤ 6) {l : List Cu} (h : chkL (n : Int) l = 0) : l.length ≤ 256 ∧ ∀ c ∈ l, c.Ok n := by
  have e : chkN (n : Int) l = 0 := by rw [chkN, if_neg (by omega), if_neg (by omega)]; exact h
  obtain ⟨k, hk, e2, h1, h2⟩ := chkN_zero e
  obtain rfl : n = k := by omega
  exact ⟨h1, h2⟩
theorem mimp_at {n : Nat} {z : Int} (hz : z = 0) {x : Tk} {c : Cu} (h : chkK x = 0) (hx : x.on.n = n) (hc : chkC (n : Int) c = 0) {b : Bool} (hi : impliesU n x c = b) : FnOk Tryz.prog 79 (fnS (fun _ : Unit => ImpliesS.args (x, c)) (fun _ => True) (fun _ => .tup [bP b, iP z])) :=
  fnS_at Implies_ok (x, c) trivial (by
    show PV.tup [bP (if chkK x = 0 then (if chkC x.on.n c = 0 then impliesU x.on.n.toNat x c else false) else false), iP (if chkK x = 0 then chkC x.on.n c else chkK x)] = _
    rw [hz, if_pos h, if_pos h, hx, if_pos hc, hc, Int.toNat_natCast, hi])
theorem not_zero15 : ¬ ((15 : Int) = 0) := by decide
theorem ver_ok : FnOk Tryz.prog 45 verS := by
  refine fnOk (Tb := tab) mixed tab_ok Tryz.func45 rfl rfl ?_
  rintro ⟨x, l⟩ hpre
  refine ai (ai rfl (ai rfl rfl)) ?_
  have hl : l.length ≤ 1000000 := hpre
  by_cases h : chkK x = 0
  · obtain ⟨n, hn, hx, _⟩ := chkT_zero (chkK_zero h).1
    have hnn : x.on.n.toNat = n := by rw [hx]; rfl
    have hlen := primesL_len hn x
    obtain ⟨z, hz⟩ : ∃ z : Int, z = 0 := ⟨0, rfl⟩
    have c1 := fnSF_at wof_ok x trivial (r := .tup [wP x (primesL n x), iP 0]) (by show PV.tup [wofP x, iP (chkK x)] = _; rw [wofP, if_pos h, h, hnn])
    refine ei _ (ai c1 (ei (()) (ei [] (ai (ai rfl (ai rfl (ai rfl (ai rfl (ai (fun _ => Or.inl rfl) (ai (by first | exact nof | exact (fun _ => ai rfl rfl)) (by first | exact Or.inl rfl | exact Or.inr rfl))))))) (ai (by (repeat' (first | with_reducible rfl | exact trivial | refine ai ?_ ?_ | (show (_ : Int) = _; first | with_reducible rfl | exact wr1 (by omega) | (simp only [zz, reduceCtorEq] <;> first | done | rfl | omega) | omega | rfl) | exact rfl | exact (fun _ => rfl) | exact (fun _ _ => rfl) | exact nof))) (ai trivial (ai (trivial) ?_)))))))
    refine ei _ (ai hchkL_ok (ei ((x.on.n, l)) (ei [] (ai (ai rfl (ai rfl (ai rfl (ai rfl (ai (fun _ => Or.inl rfl) (ai (by first | exact nof | exact (fun _ => ai rfl rfl)) (by first | exact Or.inl rfl | exact Or.inr rfl))))))) (ai (by (repeat' (first | with_reducible rfl | exact trivial | refine ai ?_ ?_ | (show (_ : Int) = _; first | with_reducible rfl | exact wr1 (by omega) | (simp only [zz, reduceCtorEq] <;> first | done | rfl | omega) | omega | rfl) | exact rfl | exact (fun _ => rfl) | exact (fun _ _ => rfl) | exact nof))) (ai trivial (ai (hl) ?_)))))))
    refine bcase_n (p := chkL x.on.n l = 0) (by first | (with_reducible refine bif_lt ?_; omega) | (with_reducible refine bif_le ?_; omega) | (with_reducible refine bif_eq ?_; omega) | (with_reducible refine bif_ne ?_; omega) | exact b8_eq rfl | exact b8_ne rfl | exact bif_lt (by omega) | exact bif_le (by omega) | exact bif_eq (by omega) | exact bif_ne (by omega) | exact Iff.rfl | (simp only [zz, reduceCtorEq] <;> first | done | omega | exact Iff.rfl) | (simp; done) | (simp; omega)) (fun h1 => ?_) (fun h1 => ?_)
    · have e : verE x l = chkL x.on.n l := by rw [verE, if_pos h, if_neg h1]
      refine ai (ai (fun h => absurd (show false = true from h) (by decide)) ?_) trivial
      show ple _ (.tup [verP x l, iP (verE x l)])
      rw [verP, e, if_neg h1]
      any_goals (repeat' (first | with_reducible rfl | exact trivial | refine ai ?_ ?_ | (show (_ : Int) = _; first | with_reducible rfl | exact wr1 (by omega) | (simp only [zz, reduceCtorEq] <;> first | done | rfl | omega) | omega | rfl) | exact rfl | exact (fun _ => rfl) | exact (fun _ _ => rfl) | exact nof))
    have hc := chkL_ok hn (by rw [← hx]; exact h1)
    have f15 : ¬ (l.all (impliesU n x) = true ∧ covW x n l = true) → verE x l = 15 := fun h2 => by
      rw [verE, if_pos h, if_pos h1, hnn, if_neg (by rw [Bool.and_eq_true]; exact h2)]
    refine ei (LAnn.inv { X := Nat, up := fun k => [(31, .s (iA k))], uo := fun k => [], inv := fun k => k ≤ l.length ∧ (∀ j, j < k → impliesU n x (l.getD j ⟨0, 0⟩) = true), meas := fun k => l.length - k, x0 := 0 }) ?_
    refine ai (ai (ai (by (repeat' (first | exact rfl | exact trivial | exact (fun _ => rfl) | exact (fun _ _ => rfl) | exact nof | refine ai ?_ ?_))) (ai (by (repeat' (first | with_reducible rfl | exact trivial | refine ai ?_ ?_ | (show (_ : Int) = _; first | with_reducible rfl | exact wr1 (by omega) | (simp only [zz, reduceCtorEq] <;> first | done | rfl | omega) | omega | rfl) | exact rfl | exact (fun _ => rfl) | exact (fun _ _ => rfl) | exact nof))) (by (repeat' (first | with_reducible rfl | exact trivial | refine ai ?_ ?_ | (show (_ : Int) = _; first | with_reducible rfl | exact wr1 (by omega) | (simp only [zz, reduceCtorEq] <;> first | done | rfl | omega) | omega | rfl) | exact rfl | exact (fun _ => rfl) | exact (fun _ _ => rfl) | exact nof))))) rfl) (ai (ai (Nat.zero_le _) ?_) ?_)
    · exact fun j hj => absurd hj (Nat.not_lt_zero _)
    intro (k : Nat) ⟨hk, hall⟩
    refine bcase_p (p := k < l.length) (by first | (with_reducible refine bif_lt ?_; omega) | (with_reducible refine bif_le ?_; omega) | (with_reducible refine bif_eq ?_; omega) | (with_reducible refine bif_ne ?_; omega) | exact b8_eq rfl | exact b8_ne rfl | exact bif_lt (by omega) | exact bif_le (by omega) | exact bif_eq (by omega) | exact bif_ne (by omega) | exact Iff.rfl | (simp only [zz, reduceCtorEq] <;> first | done | omega | exact Iff.rfl) | (simp; done) | (simp; omega)) (fun h2 => ?_) (fun h2 => ?_)
    · refine ai (ai (Int.natCast_nonneg _) (by show (k : Int) < (l.length : Int); omega)) ?_
      refine ai rfl ?_
      obtain ⟨b, hb⟩ : ∃ b, impliesU n x (l.getD k ⟨0, 0⟩) = b := ⟨_, rfl⟩
      have c2 := mimp_at hz h hx (ok_chk hn (hc.2 _ (getC_mem h2))) hb
      refine ei _ (ai c2 (ei (()) (ei [] (ai (ai rfl (ai rfl (ai rfl (ai rfl (ai (fun _ => Or.inl rfl) (ai (by first | exact nof | exact (fun _ => ai rfl rfl)) (by first | exact Or.inl rfl | exact Or.inr rfl))))))) (ai (by (repeat' (first | with_reducible rfl | exact trivial | refine ai ?_ ?_ | (show (_ : Int) = _; first | with_reducible rfl | exact wr1 (by omega) | (simp only [zz, reduceCtorEq] <;> first | done | rfl | omega) | omega | rfl) | exact rfl | exact (fun _ => rfl) | exact (fun _ _ => rfl) | exact nof))) (ai trivial (ai (trivial) ?_)))))))
      refine bcase_b (b := false) (by (first | (simp only [beq_self_eq_true, Bool.and_true, Bool.and_self]; done) | (simp only [hz, Int.add_zero, wrap_z]; done) | (simp only [hz, Int.add_zero, wrap_z]; rfl) | decide | rfl | decide | (simp; done))) (fun h => absurd h (by decide)) (fun _ => ?_)
      refine bcase_b (b := !b) (by first | exact rfl | (simp only [zz, reduceCtorEq] <;> first | done | exact rfl)) (fun h3 => ?_) (fun h3 => ?_)
      · have h3 : b = false := by simpa using h3
        have e := f15 fun h4 => by
          have := List.all_eq_true.1 h4.1 _ (getC_mem h2)
          rw [hb, h3] at this; cases this
        refine ai (ai (fun h => absurd (show false = true from h) (by decide)) ?_) trivial
        show ple _ (.tup [verP x l, iP (verE x l)])
        rw [verP, e, if_neg not_zero15]
        any_goals (repeat' (first | with_reducible rfl | exact trivial | refine ai ?_ ?_ | (show (_ : Int) = _; first | with_reducible rfl | exact wr1 (by omega) | (simp only [zz, reduceCtorEq] <;> first | done | rfl | omega) | omega | rfl) | exact rfl | exact (fun _ => rfl) | exact (fun _ _ => rfl) | exact nof))
      · have h3 : b = true := by simpa using h3
        refine ei (k + 1) (ai (ai rfl rfl) (ai (ai ?_ rfl) (ai (ai (by show k + 1 ≤ l.length; omega) ?_) (by show l.length - (k + 1) < l.length - k; omega))))
        any_goals (repeat' (first | with_reducible rfl | exact trivial | refine ai ?_ ?_ | (show (_ : Int) = _; first | with_reducible rfl | exact wr1 (by omega) | (simp only [zz, reduceCtorEq] <;> first | done | rfl | omega) | omega | rfl) | exact rfl | exact (fun _ => rfl) | exact (fun _ _ => rfl) | exact nof))
        exact upto_succ hall (by rw [hb, h3])
    · obtain rfl : k = l.length := by omega
      have ha : l.all (impliesU n x) = true := by
        rw [List.all_eq_true]
        intro c hc
        obtain ⟨j, hj⟩ := List.getElem?_of_mem hc
        have := hall j (List.getElem?_eq_some_iff.1 hj).1
        rw [List.getD_eq_getElem?_getD, hj] at this; exact this
      refine ei _ (ai covW_ok (ei ((n, x, primesL n x, l)) (ei [] (ai (ai rfl (ai rfl (ai rfl (ai rfl (ai (fun _ => Or.inl rfl) (ai (by first | exact nof | exact (fun _ => ai rfl rfl)) (by first | exact Or.inl rfl | exact Or.inr rfl))))))) (ai (by (repeat' (first | with_reducible rfl | exact trivial | refine ai ?_ ?_ | (show (_ : Int) = _; first | with_reducible rfl | exact wr1 (by omega) | (simp only [zz, reduceCtorEq] <;> first | done | rfl | omega) | omega | rfl) | exact rfl | exact (fun _ => rfl) | exact (fun _ _ => rfl) | exact nof))) (ai trivial (ai (⟨hn, hx, hl⟩) ?_)))))))
      refine bcase_b (b := !covW x n l) (by first | exact rfl | (simp only [zz, reduceCtorEq] <;> first | done | exact rfl)) (fun h3 => ?_) (fun h3 => ?_)
      · have h3 : covW x n l = false := by simpa using h3
        have e := f15 fun h4 => by rw [h3] at h4; cases h4.2
        refine ai (ai (fun h => absurd (show false = true from h) (by decide)) ?_) trivial
        show ple _ (.tup [verP x l, iP (verE x l)])
        rw [verP, e, if_neg not_zero15]
        any_goals (repeat' (first | with_reducible rfl | exact trivial | refine ai ?_ ?_ | (show (_ : Int) = _; first | with_reducible rfl | exact wr1 (by omega) | (simp only [zz, reduceCtorEq] <;> first | done | rfl | omega) | omega | rfl) | exact rfl | exact (fun _ => rfl) | exact (fun _ _ => rfl) | exact nof))
      · have h3 : covW x n l = true := by simpa using h3
        have e : verE x l = 0 := by rw [verE, if_pos h, if_pos h1, hnn, ha, h3]; rfl
        refine ai (ai (fun h => absurd (show false = true from h) (by decide)) ?_) trivial
        show ple _ (.tup [verP x l, iP (verE x l)])
        rw [verP, e, if_pos rfl, hnn]
        any_goals (repeat' (first | with_reducible rfl | exact trivial | refine ai ?_ ?_ | (show (_ : Int) = _; first | with_reducible rfl | exact wr1 (by omega) | (simp only [zz, reduceCtorEq] <;> first | done | rfl | omega) | omega | rfl) | exact rfl | exact (fun _ => rfl) | exact (fun _ _ => rfl) | exact nof))
  · have e : verE x l = chkK x := by rw [verE, if_neg h]
    have c1 := fnSF_at wof_ok x trivial (r := .tup [.val (.pointer none), iP (chkK x)]) (by show PV.tup [wofP x, iP (chkK x)] = _; rw [wofP, if_neg h])
    refine ei _ (ai c1 (ei (()) (ei [] (ai (ai rfl (ai rfl (ai rfl (ai rfl (ai (fun _ => Or.inl rfl) (ai (by first | exact nof | exact (fun _ => ai rfl rfl)) (by first | exact Or.inl rfl | exact Or.inr rfl))))))) (ai (by (repeat' (first | with_reducible rfl | exact trivial | refine ai ?_ ?_ | (show (_ : Int) = _; first | with_reducible rfl | exact wr1 (by omega) | (simp only [zz, reduceCtorEq] <;> first | done | rfl | omega) | omega | rfl) | exact rfl | exact (fun _ => rfl) | exact (fun _ _ => rfl) | exact nof))) (ai trivial (ai (trivial) ?_)))))))
    refine bcase_n (p := chkK x = 0) (by first | (with_reducible refine bif_lt ?_; omega) | (with_reducible refine bif_le ?_; omega) | (with_reducible refine bif_eq ?_; omega) | (with_reducible refine bif_ne ?_; omega) | exact b8_eq rfl | exact b8_ne rfl | exact bif_lt (by omega) | exact bif_le (by omega) | exact bif_eq (by omega) | exact bif_ne (by omega) | exact Iff.rfl | (simp only [zz, reduceCtorEq] <;> first | done | omega | exact Iff.rfl) | (simp; done) | (simp; omega)) (fun h1 => ?_) (fun h1 => ?_)
    · skip
      refine ai (ai (fun h => absurd (show false = true from h) (by decide)) ?_) trivial
      show ple _ (.tup [verP x l, iP (verE x l)])
      rw [verP, e, if_neg h1]
      any_goals (repeat' (first | with_reducible rfl | exact trivial | refine ai ?_ ?_ | (show (_ : Int) = _; first | with_reducible rfl | exact wr1 (by omega) | (simp only [zz, reduceCtorEq] <;> first | done | rfl | omega) | omega | rfl) | exact rfl | exact (fun _ => rfl) | exact (fun _ _ => rfl) | exact nof))
    · exact absurd h1 h
def VerifyS : Spec := fnS (fun y : Tk × List Cu => [kA y.1, csA y.2]) (fun y => y.2.length ≤ 1000000) (fun y => iP (verE y.1 y.2))
theorem Verify_ok : FnOk Tryz.prog 20 VerifyS := by
  refine fnOk (Tb := tab) mixed tab_ok Tryz.func20 rfl rfl ?_
  rintro ⟨x, l⟩ hpre
  refine ai (ai rfl (ai rfl rfl)) ?_
  by_cases h : verE x l = 0
  · have c1 := fnSF_at ver_ok (x, l) hpre (r := .tup [wP x (primesL x.on.n.toNat x), iP (verE x l)]) (by show PV.tup [verP x l, iP (verE x l)] = _; rw [verP, if_pos h])
    refine ei _ (ai c1 (ei (()) (ei [] (ai (ai rfl (ai rfl (ai rfl (ai rfl (ai (fun _ => Or.inl rfl) (ai (by first | exact nof | exact (fun _ => ai rfl rfl)) (by first | exact Or.inl rfl | exact Or.inr rfl))))))) (ai (by (repeat' (first | with_reducible rfl | exact trivial | refine ai ?_ ?_ | (show (_ : Int) = _; first | with_reducible rfl | exact wr1 (by omega) | (simp only [zz, reduceCtorEq] <;> first | done | rfl | omega) | omega | rfl) | exact rfl | exact (fun _ => rfl) | exact (fun _ _ => rfl) | exact nof))) (ai trivial (ai (trivial) ?_)))))))
    refine ai (ai (fun _ => (by (repeat' (first | exact rfl | exact trivial | exact (fun _ => rfl) | exact (fun _ _ => rfl) | exact nof | refine ai ?_ ?_)))) ?_) trivial
    any_goals (repeat' (first | with_reducible rfl | exact trivial | refine ai ?_ ?_ | (show (_ : Int) = _; first | with_reducible rfl | exact wr1 (by omega) | (simp only [zz, reduceCtorEq] <;> first | done | rfl | omega) | omega | rfl) | exact rfl | exact (fun _ => rfl) | exact (fun _ _ => rfl) | exact nof))
  · have c1 := fnSF_at ver_ok (x, l) hpre (r := .tup [.val (.pointer none), iP (verE x l)]) (by show PV.tup [verP x l, iP (verE x l)] = _; rw [verP, if_neg h])
    refine ei _ (ai c1 (ei (()) (ei [] (ai (ai rfl (ai rfl (ai rfl (ai rfl (ai (fun _ => Or.inl rfl) (ai (by first | exact nof | exact (fun _ => ai rfl rfl)) (by first | exact Or.inl rfl | exact Or.inr rfl))))))) (ai (by (repeat' (first | with_reducible rfl | exact trivial | refine ai ?_ ?_ | (show (_ : Int) = _; first | with_reducible rfl | exact wr1 (by omega) | (simp only [zz, reduceCtorEq] <;> first | done | rfl | omega) | omega | rfl) | exact rfl | exact (fun _ => rfl) | exact (fun _ _ => rfl) | exact nof))) (ai trivial (ai (trivial) ?_)))))))
    refine ai (ai (fun _ => (by (repeat' (first | exact rfl | exact trivial | exact (fun _ => rfl) | exact (fun _ _ => rfl) | exact nof | refine ai ?_ ?_)))) ?_) trivial
    any_goals (repeat' (first | with_reducible rfl | exact trivial | refine ai ?_ ?_ | (show (_ : Int) = _; first | with_reducible rfl | exact wr1 (by omega) | (simp only [zz, reduceCtorEq] <;> first | done | rfl | omega) | omega | rfl) | exact rfl | exact (fun _ => rfl) | exact (fun _ _ => rfl) | exact nof))

/- the least form is the least -/
theorem litTo_cons (c : Cu) (l : List Cu) : ∀ k, litTo (c :: l) (k + 1) = popU c.care + litTo l k
  | 0 => by simp [litTo]
  | k + 1 => by
    rw [litTo, litTo_cons c l k, litTo]
    show _ + popU (l.getD k ⟨0, 0⟩).care = _
    omega
theorem litL_cons (c : Cu) (l : List Cu) : litL (c :: l) = popU c.care + litL l := litTo_cons c l l.length
theorem litL_nil : litL [] = 0 := rfl
theorem litL_perm {l m : List Cu} (h : l.Perm m) : litL l = litL m := by
  induction h with
  | nil => rfl
  | cons c _ ih => rw [litL_cons, litL_cons, ih]
  | swap a b l => rw [litL_cons, litL_cons, litL_cons, litL_cons]; omega
  | trans _ _ h1 h2 => exact h1.trans h2
theorem wch_perm (L : List Cu) {a b : List Nat} (h : a.Perm b) : (wchL L a).Perm (wchL L b) := h.map _
theorem litW_sort (L : List Cu) (S : List Nat) : litW L (sortN S) = litW L S := litL_perm (wch_perm L (sortN_perm S))
def dd : List Nat → List Nat
  | [] => []
  | a :: l => if (dd l).contains a then dd l else a :: dd l
theorem mem_dd : ∀ {l : List Nat} {i : Nat}, i ∈ dd l ↔ i ∈ l
  | [], i => Iff.rfl
  | a :: l, i => by
    rw [dd]
    split
    · rename_i h
      rw [List.contains_iff_mem] at h
      rw [mem_dd, List.mem_cons]
      constructor
      · exact .inr
      · rintro (rfl | h1)
        · exact mem_dd.1 h
        · exact h1
    · rw [List.mem_cons, List.mem_cons, mem_dd]
theorem dd_nodup : ∀ l : List Nat, (dd l).Nodup
  | [] => .nil
  | a :: l => by
    rw [dd]
    split
    · exact dd_nodup l
    · rename_i h
      exact List.nodup_cons.2 ⟨fun h1 => h (List.contains_iff_mem.2 h1), dd_nodup l⟩
theorem dd_le (L : List Cu) : ∀ l : List Nat, (dd l).length ≤ l.length ∧ litW L (dd l) ≤ litW L l
  | [] => ⟨Nat.le_refl _, Nat.le_refl _⟩
  | a :: l => by
    obtain ⟨h1, h2⟩ := dd_le L l
    have e : ∀ m : List Nat, litW L (a :: m) = popU (L.getD a ⟨0, 0⟩).care + litW L m := fun m => litL_cons _ _
    rw [dd]
    split
    · rw [e, List.length_cons]
      exact ⟨by omega, by omega⟩
    · rw [e, e, List.length_cons, List.length_cons]
      exact ⟨by omega, by omega⟩
theorem pop_mono6 : ∀ a, a < 64 → ∀ b, b < 64 → a &&& b = a → Lib.onesCount a ≤ Lib.onesCount b := by decide +kernel
theorem pop_mono {a b : U} (ha : a.toNat < 64) (hb : b.toNat < 64) (h : a &&& b = a) : popU a ≤ popU b := by
  unfold popU
  refine pop_mono6 _ ha _ hb ?_
  rw [← BitVec.toNat_and, h]
/-- an implicant with a point of On is in a prime one, with no more literals -/
theorem over_prime {n : Nat} (hn : n ≤ 6) {x : Tk} {c : Cu} (hc : c.Ok n) (himp : impliesU n x c = true) {k : Nat} (hk : k < 2 ^ n) (hon : onW x n k = true) (hh : hasC c (k : Int) = true) :
    ∃ i, i < (primesL n x).length ∧ (∀ j : Nat, hasC c (j : Int) = true → hasC ((primesL n x).getD i ⟨0, 0⟩) (j : Int) = true) ∧ popU ((primesL n x).getD i ⟨0, 0⟩).care ≤ popU c.care := by
  rw [onW_bit hk] at hon
  obtain ⟨p, hp, _, h2⟩ := prime_over hn x hk hon _ c (Nat.lt_succ_self _) hc hh himp
  obtain ⟨i, hi⟩ := List.getElem?_of_mem hp
  have hil := (List.getElem?_eq_some_iff.1 hi).1
  have e : (primesL n x).getD i ⟨0, 0⟩ = p := by rw [List.getD_eq_getElem?_getD, hi]; rfl
  rw [← e] at h2
  have hpo := (prime_at hn x hil).1
  refine ⟨i, hil, h2, pop_mono (ok_care hn hpo) (ok_care hn hc) ?_⟩
  have hin : insideC c ((primesL n x).getD i ⟨0, 0⟩) = true := by
    rw [inside_pts hn hc hpo, beq_iff_eq]
    exact (pts_sub hn _ _).2 fun k _ h => h2 k h
  simp only [insideC, Bool.and_eq_true, beq_iff_eq] at hin
  apply BitVec.eq_of_getLsbD_eq
  intro j hj
  have := congrArg (fun u : U => u.getLsbD j) hin.1
  simp only [BitVec.getLsbD_and, BitVec.getLsbD_not, BitVec.getLsbD_zero, hj, decide_true, Bool.true_and] at this
  rw [BitVec.getLsbD_and]
  cases h3 : ((primesL n x).getD i ⟨0, 0⟩).care.getLsbD j <;> cases h4 : c.care.getLsbD j <;> simp_all
open Classical in
/-- of some implicants the prime ones over them -/
noncomputable def overI (n : Nat) (x : Tk) (c : Cu) : Option Nat :=
  if h : ∃ i, i < (primesL n x).length ∧ (∀ j : Nat, hasC c (j : Int) = true → hasC ((primesL n x).getD i ⟨0, 0⟩) (j : Int) = true) ∧ popU ((primesL n x).getD i ⟨0, 0⟩).care ≤ popU c.care then some h.choose else none
noncomputable def overL (n : Nat) (x : Tk) (l : List Cu) : List Nat := l.filterMap (overI n x)
theorem over_spec {n : Nat} {x : Tk} {c : Cu} {i : Nat} (h : overI n x c = some i) : i < (primesL n x).length ∧ (∀ j : Nat, hasC c (j : Int) = true → hasC ((primesL n x).getD i ⟨0, 0⟩) (j : Int) = true) ∧ popU ((primesL n x).getD i ⟨0, 0⟩).care ≤ popU c.care := by
  unfold overI at h
  split at h
  · rename_i hh
    cases h
    exact hh.choose_spec
  · cases h
theorem over_le (n : Nat) (x : Tk) : ∀ l : List Cu, (overL n x l).length ≤ l.length ∧ litW (primesL n x) (overL n x l) ≤ litL l
  | [] => ⟨Nat.le_refl _, Nat.le_refl _⟩
  | c :: l => by
    obtain ⟨h1, h2⟩ := over_le n x l
    rw [litL_cons, List.length_cons]
    unfold overL at h1 h2 ⊢
    rw [List.filterMap_cons]
    cases h : overI n x c with
    | none => exact ⟨by show (l.filterMap (overI n x)).length ≤ _; omega, by show litW (primesL n x) (l.filterMap (overI n x)) ≤ _; omega⟩
    | some i =>
      have h3 := (over_spec h).2.2
      have e : litW (primesL n x) (i :: l.filterMap (overI n x)) = popU ((primesL n x).getD i ⟨0, 0⟩).care + litW (primesL n x) (l.filterMap (overI n x)) := litL_cons _ _
      exact ⟨by show (i :: l.filterMap (overI n x)).length ≤ _; rw [List.length_cons]; omega, by show litW (primesL n x) (i :: l.filterMap (overI n x)) ≤ _; rw [e]; omega⟩
/-- no form is less than the least one -/
theorem least_form {n : Nat} (hn : n ≤ 4) {x : Tk} {l : List Cu} (hok : ∀ c ∈ l, c.Ok n) (himp : ∀ c ∈ l, impliesU n x c = true) (hcov : CovC x n l) :
    (leaL x n (primesL n x)).length < l.length ∨ (leaL x n (primesL n x)).length = l.length ∧ litW (primesL n x) (leaL x n (primesL n x)) ≤ litL l := by
  have hB := lea_best4 hn x
  obtain ⟨S, hS⟩ : ∃ S, dd (overL n x l) = S := ⟨_, rfl⟩
  obtain ⟨a1, a2⟩ := dd_le (primesL n x) (overL n x l)
  obtain ⟨b1, b2⟩ := over_le n x l
  rw [hS] at a1 a2
  have hSn : S.Nodup := by rw [← hS]; exact dd_nodup _
  have hSi : ∀ i ∈ S, i < (primesL n x).length := fun i hi => by
    rw [← hS] at hi
    obtain ⟨c, _, h⟩ := List.mem_filterMap.1 (mem_dd.1 hi)
    exact (over_spec h).1
  have hSc : Cov x n (primesL n x) S := fun k hk hon => by
    obtain ⟨c, hc, h⟩ := hcov k hk hon
    have hex := over_prime (show n ≤ 6 by omega) (hok c hc) (himp c hc) hk hon h
    cases ho : overI n x c with
    | none =>
      unfold overI at ho
      rw [dif_pos hex] at ho; cases ho
    | some i => exact ⟨i, by rw [← hS]; exact mem_dd.2 (List.mem_filterMap.2 ⟨c, hc, ho⟩), (over_spec ho).2.1 k h⟩
  have hl := hB.least S hSn hSi hSc
  have key : ¬ bt (primesL n x) (sortN S) (leaL x n (primesL n x)) → litW (primesL n x) (leaL x n (primesL n x)) ≤ litW (primesL n x) S := fun h => by
    refine Classical.byContradiction fun h2 => h (.inl ?_)
    rw [litW_sort]; omega
  rcases hl with h | ⟨h, h2⟩
  · exact .inl (by omega)
  · have := key h2
    by_cases e : (leaL x n (primesL n x)).length < l.length
    · exact .inl e
    · exact .inr ⟨by omega, by omega⟩
theorem wch_cov {x : Tk} {n : Nat} {L : List Cu} {S : List Nat} (h : Cov x n L S) : CovC x n (wchL L S) := fun k hk hon => by
  obtain ⟨i, hi, hc⟩ := h k hk hon
  exact ⟨_, List.mem_map.2 ⟨i, hi, rfl⟩, hc⟩
/-- a right task with at most 4 variables -/
theorem right_parts {x : Tk} (h : chkK x = 0) (h4 : x.on.n ≤ 4) : wfewE x = 0 ∧ ∃ n : Nat, n ≤ 4 ∧ x.on.n = n ∧ mformR x = wchL (primesL n x) (leaL x n (primesL n x)) := by
  have hf : wfewE x = 0 := by rw [wfewE, if_pos h, if_neg (by omega)]
  obtain ⟨_, n, hn, hx⟩ := few_zero hf
  exact ⟨hf, n, hn, hx, by rw [mformR, if_pos hf, hx]; rfl⟩
theorem form_small {n : Nat} (hn : n ≤ 4) (x : Tk) : (leaL x n (primesL n x)).length ≤ 256 := by
  -- a cover of points alone has no more than 16 cubes
  have h := least_form hn (x := x) (l := ((List.range (2 ^ n)).filter fun k : Nat => onW x n k).map fun k => ⟨allU n, uN k⟩)
    (fun c hc => by obtain ⟨k, hk, rfl⟩ := List.mem_map.1 hc; exact (minterm_ok (by omega) (List.mem_range.1 (List.mem_filter.1 hk).1)).1)
    (fun c hc => by
      obtain ⟨k, hk, rfl⟩ := List.mem_map.1 hc
      obtain ⟨h1, h2⟩ := List.mem_filter.1 hk
      have hk := List.mem_range.1 h1
      rw [implies_iff (by omega)]
      intro j hj hh
      obtain rfl := (minterm_ok (show n ≤ 6 by omega) hk).2.2 j hj hh
      rw [onW_bit hk] at h2
      rw [BitVec.getLsbD_or, h2]; rfl)
    (fun k hk hon => ⟨_, List.mem_map.2 ⟨k, List.mem_filter.2 ⟨List.mem_range.2 hk, hon⟩, rfl⟩, (minterm_ok (by omega) hk).2.1⟩)
  rw [List.length_map] at h
  have h1 : ((List.range (2 ^ n)).filter fun k : Nat => onW x n k).length ≤ 2 ^ n := filt_len _ _
  have h2 : 2 ^ n ≤ 2 ^ 4 := Nat.pow_le_pow_right (by decide) hn
  rcases h with h | h <;> omega
theorem chkL_of {n : Nat} (hn : n ≤ 6) {l : List Cu} (hl : l.length ≤ 256) (h : ∀ c ∈ l, c.Ok n) : chkL (n : Int) l = 0 := by
  rw [chkL, if_neg (by omega)]
  have : ∀ m, m ≤ l.length → firstE (n : Int) l m = 0 := by
    intro m
    induction m with
    | zero => intro _; rfl
    | succ m ih =>
      intro hm
      rw [firstE, if_pos (ih (by omega))]
      exact ok_chk hn (h _ (getC_mem (by omega)))
  exact this _ (Nat.le_refl _)
theorem form_ver {x : Tk} (h : chkK x = 0) (h4 : x.on.n ≤ 4) : verE x (mformR x) = 0 ∧ (mformR x).length ≤ 256 ∧ chkL x.on.n (mformR x) = 0 := by
  obtain ⟨hf, n, hn, hx, hm⟩ := right_parts h h4
  have hnn : x.on.n.toNat = n := by rw [hx]; rfl
  have hB := lea_best4 hn x
  have hs := form_small hn x
  have hlen := primesL_len (show n ≤ 6 by omega) x
  have hg : goodI (primesL n x) (leaL x n (primesL n x)) := ⟨by omega, hB.idx⟩
  have hok : ∀ c ∈ mformR x, c.Ok n := by
    rw [hm]; exact wch_ok_n (fun c hc => ((mem_primes (by omega)).1 hc).1) hg
  have hl : (mformR x).length ≤ 256 := by rw [hm, wch_len]; exact hs
  have hc : chkL x.on.n (mformR x) = 0 := by rw [hx]; exact chkL_of (by omega) hl hok
  refine ⟨?_, hl, hc⟩
  rw [verE, if_pos h, if_pos hc, hnn]
  have hi : (mformR x).all (impliesU n x) = true := by
    rw [List.all_eq_true, hm]
    intro c hc
    obtain ⟨i, hi, rfl⟩ := List.mem_map.1 hc
    exact (prime_parts (prime_at (show n ≤ 6 by omega) x (hB.idx i hi)).2).2.1
  have hcv : covW x n (mformR x) = true := by rw [hm]; exact covW_iff.2 (wch_cov hB.cov)
  rw [hi, hcv]; rfl
theorem ver_parts {x : Tk} {l : List Cu} (h : verE x l = 0) : chkK x = 0 ∧ ∃ n : Nat, n ≤ 6 ∧ x.on.n = n ∧ chkL (n : Int) l = 0 ∧ (∀ c ∈ l, impliesU n x c = true) ∧ CovC x n l := by
  unfold verE at h
  split at h
  · rename_i h0
    split at h
    · rename_i h1
      split at h
      · rename_i h2
        obtain ⟨n, hn, hx, _⟩ := chkT_zero (chkK_zero h0).1
        have hnn : x.on.n.toNat = n := by rw [hx]; rfl
        rw [hnn, Bool.and_eq_true] at h2
        exact ⟨h0, n, hn, hx, by rw [← hx]; exact h1, List.all_eq_true.1 h2.1, covW_iff.1 h2.2⟩
      · cases h
    · rename_i h1; exact absurd h h1
  · rename_i h0; exact absurd h h0

end Go.Sx.Pn
