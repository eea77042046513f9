/- Contracts of chapter 7: Apart, and the reference's. -/
import Derived.Test.YtmjfhoidokajpaaGreatM2
set_option maxHeartbeats 1000000
set_option maxRecDepth 4000
set_option linter.unusedSimpArgs false
set_option linter.unusedVariables false
set_option linter.unusedSectionVars false
namespace Go.Sx.Pn
open Go Go.Proofs

def wapS : Spec := fnSF (fun y : Tk × List Cu × List Nat => [wA y.1 y.2.1, nsA y.2.2]) (fun y => y.2.1.length ≤ 1000000 ∧ y.2.2.length ≤ 1000) (fun y => nsP (growL y.2.1 y.2.2 [] []))
theorem wap_ok : FnOk Tryz.prog 39 wapS := by
  refine fnOk (Tb := tab) mixed tab_ok Tryz.func39 rfl rfl ?_
  rintro ⟨x, L, pts⟩ hpre
  refine ai (ai rfl (ai rfl rfl)) ?_
  obtain ⟨hL, hp⟩ : L.length ≤ 1000000 ∧ pts.length ≤ 1000 := hpre
  refine ei _ (ai (gr_ok pts.length) (ei ((⟨x, L, pts, [], 0, []⟩ : GrA)) (ei [1, 0, 3, 2] (ai (ai rfl (ai rfl (ai rfl (ai rfl (ai (by first | exact (fun _ => Or.inl rfl) | exact nof | exact (fun _ => Or.inr (by (repeat' (first | exact rfl | exact trivial | exact (fun _ => rfl) | exact (fun _ _ => rfl) | exact nof | refine ai ?_ ?_))))) (ai (by first | exact nof | exact (fun _ => ai rfl rfl)) (by first | exact Or.inl rfl | exact Or.inr rfl))))))) (ai ?_ (ai (by (repeat' (first | with_reducible rfl | exact trivial | refine ai ?_ ?_ | (show (_ : Int) = _; first | with_reducible rfl | exact wr1 (by omega) | (simp only [zz, reduceCtorEq] <;> first | done | rfl | omega) | omega | rfl) | exact rfl | exact (fun _ => rfl) | exact (fun _ _ => rfl) | exact nof))) (ai (⟨Nat.sub_le _ _, hL, hp, Nat.le_refl _, Nat.zero_le _⟩) ?_)))))))
  · skip
    (repeat' (first | with_reducible rfl | exact trivial | refine ai ?_ ?_ | (show (_ : Int) = _; first | with_reducible rfl | exact wr1 (by omega) | (simp only [zz, reduceCtorEq] <;> first | done | rfl | omega) | omega | rfl) | exact rfl | exact (fun _ => rfl) | exact (fun _ _ => rfl) | exact nof))
  refine ai (ai (fun h => absurd (show false = true from h) (by decide)) ?_) trivial
  show ple _ (nsP (growL L pts [] []))
  rw [show growL L (pts.drop 0) [] [] = growL L pts [] [] from rfl]
  any_goals (repeat' (first | with_reducible rfl | exact trivial | refine ai ?_ ?_ | (show (_ : Int) = _; first | with_reducible rfl | exact wr1 (by omega) | (simp only [zz, reduceCtorEq] <;> first | done | rfl | omega) | omega | rfl) | exact rfl | exact (fun _ => rfl) | exact (fun _ _ => rfl) | exact nof))

theorem few_zero {x : Tk} (h : wfewE x = 0) : chkK x = 0 ∧ ∃ n : Nat, n ≤ 4 ∧ x.on.n = n := by
  unfold wfewE at h
  split at h
  · rename_i h0
    split at h
    · cases h
    · obtain ⟨n, hn, hx, _⟩ := chkT_zero (chkK_zero h0).1
      exact ⟨h0, n, by omega, hx⟩
  · rename_i h0; exact absurd h h0
theorem op_len (x : Tk) (n : Nat) (f : Nat → Nat) : (opL x n f).length ≤ 2 ^ n := filt_len _ _
def apR (x : Tk) : List Nat := if wfewE x = 0 then growL (primesL x.on.n.toNat x) (opL x x.on.n.toNat fun _ => 0) [] [] else []
def wApS : Spec := fnSF (fun x : Tk => [kA x]) (fun _ => True) (fun x => .tup [nsP (apR x), iP (wfewE x)])
theorem wAp_ok : FnOk Tryz.prog 13 wApS := by
  refine fnOk (Tb := tab) mixed tab_ok Tryz.func13 rfl rfl ?_
  rintro (x : Tk) hpre
  refine ai (ai rfl (ai rfl rfl)) ?_
  by_cases h : wfewE x = 0
  · obtain ⟨h0, n, hn, hx⟩ := few_zero h
    have hnn : x.on.n.toNat = n := by rw [hx]; rfl
    have h64 := pow_le64 (show n ≤ 6 by omega)
    have hlen := primesL_len (show n ≤ 6 by omega) x
    have hol := op_len x n fun _ => 0
    have hp := fnSF_at wfew_ok x trivial (r := .tup [wP x (primesL n x), iP 0]) (by show PV.tup [wfewP x, iP (wfewE x)] = _; rw [wfewP, if_pos h, h, hnn])
    refine ei _ (ai hp (ei (()) (ei [] (ai (ai rfl (ai rfl (ai rfl (ai rfl (ai (fun _ => Or.inl rfl) (ai (by first | exact nof | exact (fun _ => ai rfl rfl)) (by first | exact Or.inl rfl | exact Or.inr rfl))))))) (ai (by (repeat' (first | with_reducible rfl | exact trivial | refine ai ?_ ?_ | (show (_ : Int) = _; first | with_reducible rfl | exact wr1 (by omega) | (simp only [zz, reduceCtorEq] <;> first | done | rfl | omega) | omega | rfl) | exact rfl | exact (fun _ => rfl) | exact (fun _ _ => rfl) | exact nof))) (ai trivial (ai (trivial) ?_)))))))
    refine ei _ (ai wop_ok (ei ((n, x, primesL n x, fun _ => 0)) (ei [] (ai (ai rfl (ai rfl (ai rfl (ai rfl (ai (fun _ => Or.inl rfl) (ai (by first | exact nof | exact (fun _ => ai rfl rfl)) (by first | exact Or.inl rfl | exact Or.inr rfl))))))) (ai (by (repeat' (first | with_reducible rfl | exact trivial | refine ai ?_ ?_ | (show (_ : Int) = _; first | with_reducible rfl | exact wr1 (by omega) | (simp only [zz, reduceCtorEq] <;> first | done | rfl | omega) | omega | rfl) | exact rfl | exact (fun _ => rfl) | exact (fun _ _ => rfl) | exact nof))) (ai trivial (ai (⟨by show n ≤ 6; omega, hx⟩) ?_)))))))
    refine ei _ (ai wap_ok (ei ((x, primesL n x, opL x n fun _ => 0)) (ei [] (ai (ai rfl (ai rfl (ai rfl (ai rfl (ai (fun _ => Or.inl rfl) (ai (by first | exact nof | exact (fun _ => ai rfl rfl)) (by first | exact Or.inl rfl | exact Or.inr rfl))))))) (ai (by (repeat' (first | with_reducible rfl | exact trivial | refine ai ?_ ?_ | (show (_ : Int) = _; first | with_reducible rfl | exact wr1 (by omega) | (simp only [zz, reduceCtorEq] <;> first | done | rfl | omega) | omega | rfl) | exact rfl | exact (fun _ => rfl) | exact (fun _ _ => rfl) | exact nof))) (ai trivial (ai (⟨by show (primesL n x).length ≤ 1000000; omega, by show (opL x n fun _ => 0).length ≤ 1000; omega⟩) ?_)))))))
    refine ai (ai (fun h => absurd (show false = true from h) (by decide)) ?_) trivial
    show ple _ (.tup [nsP (apR x), iP (wfewE x)])
    rw [apR, if_pos h, h, hnn]
    any_goals (repeat' (first | with_reducible rfl | exact trivial | refine ai ?_ ?_ | (show (_ : Int) = _; first | with_reducible rfl | exact wr1 (by omega) | (simp only [zz, reduceCtorEq] <;> first | done | rfl | omega) | omega | rfl) | exact rfl | exact (fun _ => rfl) | exact (fun _ _ => rfl) | exact nof))
  · have hp := fnSF_at wfew_ok x trivial (r := .tup [.val (.pointer none), iP (wfewE x)]) (by show PV.tup [wfewP x, iP (wfewE x)] = _; rw [wfewP, if_neg h])
    refine ei _ (ai hp (ei (()) (ei [] (ai (ai rfl (ai rfl (ai rfl (ai rfl (ai (fun _ => Or.inl rfl) (ai (by first | exact nof | exact (fun _ => ai rfl rfl)) (by first | exact Or.inl rfl | exact Or.inr rfl))))))) (ai (by (repeat' (first | with_reducible rfl | exact trivial | refine ai ?_ ?_ | (show (_ : Int) = _; first | with_reducible rfl | exact wr1 (by omega) | (simp only [zz, reduceCtorEq] <;> first | done | rfl | omega) | omega | rfl) | exact rfl | exact (fun _ => rfl) | exact (fun _ _ => rfl) | exact nof))) (ai trivial (ai (trivial) ?_)))))))
    refine bcase_n (p := wfewE x = 0) (by first | (with_reducible refine bif_lt ?_; omega) | (with_reducible refine bif_le ?_; omega) | (with_reducible refine bif_eq ?_; omega) | (with_reducible refine bif_ne ?_; omega) | exact b8_eq rfl | exact b8_ne rfl | exact bif_lt (by omega) | exact bif_le (by omega) | exact bif_eq (by omega) | exact bif_ne (by omega) | exact Iff.rfl | (simp only [zz, reduceCtorEq] <;> first | done | omega | exact Iff.rfl) | (simp; done) | (simp; omega)) (fun h1 => ?_) (fun h1 => ?_)
    · skip
      refine ai (ai (fun h => absurd (show false = true from h) (by decide)) ?_) trivial
      show ple _ (.tup [nsP (apR x), iP (wfewE x)])
      rw [apR, if_neg h1]
      any_goals (repeat' (first | with_reducible rfl | exact trivial | refine ai ?_ ?_ | (show (_ : Int) = _; first | with_reducible rfl | exact wr1 (by omega) | (simp only [zz, reduceCtorEq] <;> first | done | rfl | omega) | omega | rfl) | exact rfl | exact (fun _ => rfl) | exact (fun _ _ => rfl) | exact nof))
    · exact absurd h1 h

/- the reference -/
def rdP (L : List Cu) (p q : Nat) : Bool := decide (q ≠ p) && L.all fun c => !(hasC c p && hasC c q)
def rdI (x : Tk) (n : Nat) (L : List Cu) (pts : List Nat) (i : Nat) : Bool := onW x n (pts.getD i 0 : Nat) && (List.range i).all fun k => rdP L (pts.getD i 0) (pts.getD k 0)
def rdvB (x : Tk) (n : Nat) (L : List Cu) (pts : List Nat) : Bool := (List.range pts.length).all (rdI x n L pts)
theorem all_no {q : Nat → Bool} {m i : Nat} (hi : i < m) (h : q i = false) : (List.range m).all q = false := by
  rw [Bool.eq_false_iff]
  intro ha
  rw [List.all_eq_true] at ha
  rw [ha i (List.mem_range.2 hi)] at h; cases h
theorem all_yes {q : Nat → Bool} {m : Nat} (h : ∀ i, i < m → q i = true) : (List.range m).all q = true :=
  List.all_eq_true.2 fun i hi => h i (List.mem_range.1 hi)
theorem allC_no {q : Cu → Bool} {L : List Cu} {j : Nat} (hj : j < L.length) (h : q (L.getD j ⟨0, 0⟩) = false) : L.all q = false := by
  rw [Bool.eq_false_iff]
  intro ha
  rw [List.all_eq_true] at ha
  rw [ha _ (getC_mem hj)] at h; cases h
theorem allC_yes {q : Cu → Bool} {L : List Cu} (h : ∀ j, j < L.length → q (L.getD j ⟨0, 0⟩) = true) : L.all q = true := by
  rw [List.all_eq_true]
  intro c hc
  obtain ⟨j, hj⟩ := List.getElem?_of_mem hc
  have := h j (List.getElem?_eq_some_iff.1 hj).1
  rwa [List.getD_eq_getElem?_getD, hj] at this
def rdvS : Spec := fnS (fun y : Nat × Tk × List Cu × List Nat => [kA y.2.1, csA y.2.2.1, nsA y.2.2.2]) (fun y => y.1 ≤ 6 ∧ y.2.1.on.n = y.1 ∧ y.2.2.1.length ≤ 1000000 ∧ y.2.2.2.length ≤ 1000000) (fun y => bP (rdvB y.2.1 y.1 y.2.2.1 y.2.2.2))
theorem rdv_ok : FnOk Tryz.prog 75 rdvS := by
  refine fnOk (Tb := tab) mixed tab_ok Tryz.func75 rfl rfl ?_
  rintro ⟨n, ⟨⟨N, b⟩, fr⟩, L, pts⟩ hpre
  refine ai (ai rfl (ai rfl rfl)) ?_
  obtain ⟨hn, hN, hL, hp⟩ : n ≤ 6 ∧ N = n ∧ L.length ≤ 1000000 ∧ pts.length ≤ 1000000 := hpre
  subst hN
  have h64 := pow_le64 hn
  obtain ⟨X, hX⟩ : ∃ X : Tk, X = ⟨⟨n, b⟩, fr⟩ := ⟨_, rfl⟩
  refine ei (LAnn.inv { X := Nat, up := fun i => [(7, .s (iA i))], uo := fun i => [], inv := fun i => i ≤ pts.length ∧ (∀ t, t < i → rdI ⟨⟨n, b⟩, fr⟩ n L pts t = true), meas := fun i => pts.length - i, x0 := 0 }) ?_
  refine ai (ai (ai (by (repeat' (first | exact rfl | exact trivial | exact (fun _ => rfl) | exact (fun _ _ => rfl) | exact nof | refine ai ?_ ?_))) (ai (by (repeat' (first | with_reducible rfl | exact trivial | refine ai ?_ ?_ | (show (_ : Int) = _; first | with_reducible rfl | exact wr1 (by omega) | (simp only [zz, reduceCtorEq] <;> first | done | rfl | omega) | omega | rfl) | exact rfl | exact (fun _ => rfl) | exact (fun _ _ => rfl) | exact nof))) (by (repeat' (first | with_reducible rfl | exact trivial | refine ai ?_ ?_ | (show (_ : Int) = _; first | with_reducible rfl | exact wr1 (by omega) | (simp only [zz, reduceCtorEq] <;> first | done | rfl | omega) | omega | rfl) | exact rfl | exact (fun _ => rfl) | exact (fun _ _ => rfl) | exact nof))))) rfl) (ai (ai (Nat.zero_le _) ?_) ?_)
  · exact fun t ht => absurd ht (Nat.not_lt_zero _)
  intro (i : Nat) ⟨hi, hall⟩
  refine bcase_p (p := i < pts.length) (by first | (with_reducible refine bif_lt ?_; omega) | (with_reducible refine bif_le ?_; omega) | (with_reducible refine bif_eq ?_; omega) | (with_reducible refine bif_ne ?_; omega) | exact b8_eq rfl | exact b8_ne rfl | exact bif_lt (by omega) | exact bif_le (by omega) | exact bif_eq (by omega) | exact bif_ne (by omega) | exact Iff.rfl | (simp only [zz, reduceCtorEq] <;> first | done | omega | exact Iff.rfl) | (simp; done) | (simp; omega)) (fun h2 => ?_) (fun h2 => ?_)
  · have stop : rdI ⟨⟨n, b⟩, fr⟩ n L pts i = false → rdvB ⟨⟨n, b⟩, fr⟩ n L pts = false := fun h => all_no h2 h
    have off : onW ⟨⟨n, b⟩, fr⟩ n (pts.getD i 0 : Nat) = false → rdI ⟨⟨n, b⟩, fr⟩ n L pts i = false := fun h => by rw [rdI, h]; rfl
    refine ei (.seq [0, 1, 2, 3, 4, 5, 6, 7, 8, 9, 10, 11, 12, 13, 14, 15, 16, 17, 18, 19, 20, 21, 22, 23, 24, 25]) (ai (by kernel_rfl) ?_)
    refine ai (ai (Int.natCast_nonneg _) (by show (i : Int) < (pts.length : Int); omega)) ?_
    refine ai rfl ?_
    refine ai (ai (Int.natCast_nonneg _) (by show (i : Int) < (pts.length : Int); omega)) ?_
    refine ai rfl ?_
    refine ei _ (ai size_ok (ei (n) (ei [] (ai (ai rfl (ai rfl (ai rfl (ai rfl (ai (fun _ => Or.inl rfl) (ai (by first | exact nof | exact (fun _ => ai rfl rfl)) (by first | exact Or.inl rfl | exact Or.inr rfl))))))) (ai (by (repeat' (first | with_reducible rfl | exact trivial | refine ai ?_ ?_ | (show (_ : Int) = _; first | with_reducible rfl | exact wr1 (by omega) | (simp only [zz, reduceCtorEq] <;> first | done | rfl | omega) | omega | rfl) | exact rfl | exact (fun _ => rfl) | exact (fun _ _ => rfl) | exact nof))) (ai trivial (ai (hn) ?_)))))))
    refine bcase_p (p := 2 ^ n ≤ pts.getD i 0) (by show decide (((2 ^ n : Nat) : Int) ≤ ((pts.getD i 0 : Nat) : Int)) = true ↔ _; rw [decide_eq_true_iff]; exact Int.ofNat_le) (fun h4 => ?_) (fun h4 => ?_)
    · skip
      refine ai (ai (fun _ => (by (repeat' (first | exact rfl | exact trivial | exact (fun _ => rfl) | exact (fun _ _ => rfl) | exact nof | refine ai ?_ ?_)))) ?_) trivial
      show ple _ (bP (rdvB ⟨⟨n, b⟩, fr⟩ n L pts))
      rw [stop (off (by rw [onW, decide_eq_false (show ¬ ((pts.getD i 0 : Nat) : Int) < (2 ^ n : Nat) by omega)]; simp))]
      any_goals (repeat' (first | with_reducible rfl | exact trivial | refine ai ?_ ?_ | (show (_ : Int) = _; first | with_reducible rfl | exact wr1 (by omega) | (simp only [zz, reduceCtorEq] <;> first | done | rfl | omega) | omega | rfl) | exact rfl | exact (fun _ => rfl) | exact (fun _ _ => rfl) | exact nof))
    refine ai (ai (Int.natCast_nonneg _) (by show (i : Int) < (pts.length : Int); omega)) ?_
    refine ai rfl ?_
    refine ei _ (ai at_ok (ei ((⟨n, b⟩, pts.getD i 0)) (ei [] (ai (ai rfl (ai rfl (ai rfl (ai rfl (ai (fun _ => Or.inl rfl) (ai (by first | exact nof | exact (fun _ => ai rfl rfl)) (by first | exact Or.inl rfl | exact Or.inr rfl))))))) (ai (by (repeat' (first | with_reducible rfl | exact trivial | refine ai ?_ ?_ | (show (_ : Int) = _; first | with_reducible rfl | exact wr1 (by omega) | (simp only [zz, reduceCtorEq] <;> first | done | rfl | omega) | omega | rfl) | exact rfl | exact (fun _ => rfl) | exact (fun _ _ => rfl) | exact nof))) (ai trivial (ai (trivial) ?_)))))))
    refine bcase_b (b := !b.getLsbD (pts.getD i 0)) (by first | exact rfl | (simp only [zz, reduceCtorEq] <;> first | done | exact rfl)) (fun h5 => ?_) (fun h5 => ?_)
    · have h5 : b.getLsbD (pts.getD i 0) = false := by simpa using h5
      refine ai (ai (fun _ => (by (repeat' (first | exact rfl | exact trivial | exact (fun _ => rfl) | exact (fun _ _ => rfl) | exact nof | refine ai ?_ ?_)))) ?_) trivial
      show ple _ (bP (rdvB ⟨⟨n, b⟩, fr⟩ n L pts))
      rw [stop (off (by show (decide ((0 : Int) ≤ (pts.getD i 0 : Nat)) && decide (((pts.getD i 0 : Nat) : Int) < (2 ^ n : Nat)) && b.getLsbD (pts.getD i 0)) = false; rw [h5, Bool.and_false]))]
      any_goals (repeat' (first | with_reducible rfl | exact trivial | refine ai ?_ ?_ | (show (_ : Int) = _; first | with_reducible rfl | exact wr1 (by omega) | (simp only [zz, reduceCtorEq] <;> first | done | rfl | omega) | omega | rfl) | exact rfl | exact (fun _ => rfl) | exact (fun _ _ => rfl) | exact nof))
    have h5 : b.getLsbD (pts.getD i 0) = true := by simpa using h5
    have hon : onW ⟨⟨n, b⟩, fr⟩ n (pts.getD i 0 : Nat) = true := by
      show (decide ((0 : Int) ≤ (pts.getD i 0 : Nat)) && decide (((pts.getD i 0 : Nat) : Int) < (2 ^ n : Nat)) && b.getLsbD (pts.getD i 0)) = true
      rw [h5, decide_eq_true (show (0 : Int) ≤ (pts.getD i 0 : Nat) by omega), decide_eq_true (show ((pts.getD i 0 : Nat) : Int) < (2 ^ n : Nat) by omega)]; rfl
    refine ei (LAnn.inv { X := Nat, up := fun k => [(8, .s (iA k))], uo := fun k => [], inv := fun k => k ≤ i ∧ (∀ t, t < k → rdP L (pts.getD i 0) (pts.getD t 0) = true), meas := fun k => i - k, x0 := 0 }) ?_
    refine ai (ai (ai (by (repeat' (first | exact rfl | exact trivial | exact (fun _ => rfl) | exact (fun _ _ => rfl) | exact nof | refine ai ?_ ?_))) (ai (by (repeat' (first | with_reducible rfl | exact trivial | refine ai ?_ ?_ | (show (_ : Int) = _; first | with_reducible rfl | exact wr1 (by omega) | (simp only [zz, reduceCtorEq] <;> first | done | rfl | omega) | omega | rfl) | exact rfl | exact (fun _ => rfl) | exact (fun _ _ => rfl) | exact nof))) (by (repeat' (first | with_reducible rfl | exact trivial | refine ai ?_ ?_ | (show (_ : Int) = _; first | with_reducible rfl | exact wr1 (by omega) | (simp only [zz, reduceCtorEq] <;> first | done | rfl | omega) | omega | rfl) | exact rfl | exact (fun _ => rfl) | exact (fun _ _ => rfl) | exact nof))))) rfl) (ai (ai (Nat.zero_le _) ?_) ?_)
    · exact fun t ht => absurd ht (Nat.not_lt_zero _)
    intro (k : Nat) ⟨hk, hkall⟩
    refine bcase_p (p := k < i) (by first | (with_reducible refine bif_lt ?_; omega) | (with_reducible refine bif_le ?_; omega) | (with_reducible refine bif_eq ?_; omega) | (with_reducible refine bif_ne ?_; omega) | exact b8_eq rfl | exact b8_ne rfl | exact bif_lt (by omega) | exact bif_le (by omega) | exact bif_eq (by omega) | exact bif_ne (by omega) | exact Iff.rfl | (simp only [zz, reduceCtorEq] <;> first | done | omega | exact Iff.rfl) | (simp; done) | (simp; omega)) (fun h6 => ?_) (fun h6 => ?_)
    · have stopk : rdP L (pts.getD i 0) (pts.getD k 0) = false → rdvB ⟨⟨n, b⟩, fr⟩ n L pts = false := fun h => stop (by rw [rdI, hon, Bool.true_and]; exact all_no h6 h)
      refine ei (.seq [0, 1, 2, 3, 4, 5, 6, 7, 8]) (ai (by kernel_rfl) ?_)
      refine ai (ai (Int.natCast_nonneg _) (by show (k : Int) < (pts.length : Int); omega)) ?_
      refine ai rfl ?_
      refine ai (ai (Int.natCast_nonneg _) (by show (i : Int) < (pts.length : Int); omega)) ?_
      refine ai rfl ?_
      refine bcase_p (p := pts.getD k 0 = pts.getD i 0) (by show (((pts.getD k 0 : Nat) : Int) == ((pts.getD i 0 : Nat) : Int)) = true ↔ _; rw [beq_iff_eq]; omega) (fun h7 => ?_) (fun h7 => ?_)
      · skip
        refine ai (ai (fun _ => (by (repeat' (first | exact rfl | exact trivial | exact (fun _ => rfl) | exact (fun _ _ => rfl) | exact nof | refine ai ?_ ?_)))) ?_) trivial
        show ple _ (bP (rdvB ⟨⟨n, b⟩, fr⟩ n L pts))
        rw [stopk (by rw [rdP, h7]; simp)]
        any_goals (repeat' (first | with_reducible rfl | exact trivial | refine ai ?_ ?_ | (show (_ : Int) = _; first | with_reducible rfl | exact wr1 (by omega) | (simp only [zz, reduceCtorEq] <;> first | done | rfl | omega) | omega | rfl) | exact rfl | exact (fun _ => rfl) | exact (fun _ _ => rfl) | exact nof))
      have hne : decide (pts.getD k 0 ≠ pts.getD i 0) = true := decide_eq_true h7
      refine ei (LAnn.inv { X := Nat, up := fun j => [(9, .s (iA j))], uo := fun j => [], inv := fun j => j ≤ L.length ∧ (∀ t, t < j → (!(hasC (L.getD t ⟨0, 0⟩) (pts.getD i 0 : Nat) && hasC (L.getD t ⟨0, 0⟩) (pts.getD k 0 : Nat))) = true), meas := fun j => L.length - j, x0 := 0 }) ?_
      refine ai (ai (ai (by (repeat' (first | exact rfl | exact trivial | exact (fun _ => rfl) | exact (fun _ _ => rfl) | exact nof | refine ai ?_ ?_))) (ai (by (repeat' (first | with_reducible rfl | exact trivial | refine ai ?_ ?_ | (show (_ : Int) = _; first | with_reducible rfl | exact wr1 (by omega) | (simp only [zz, reduceCtorEq] <;> first | done | rfl | omega) | omega | rfl) | exact rfl | exact (fun _ => rfl) | exact (fun _ _ => rfl) | exact nof))) (by (repeat' (first | with_reducible rfl | exact trivial | refine ai ?_ ?_ | (show (_ : Int) = _; first | with_reducible rfl | exact wr1 (by omega) | (simp only [zz, reduceCtorEq] <;> first | done | rfl | omega) | omega | rfl) | exact rfl | exact (fun _ => rfl) | exact (fun _ _ => rfl) | exact nof))))) rfl) (ai (ai (Nat.zero_le _) ?_) ?_)
      · exact fun t ht => absurd ht (Nat.not_lt_zero _)
      intro (j : Nat) ⟨hj, hjall⟩
      refine bcase_p (p := j < L.length) (by first | (with_reducible refine bif_lt ?_; omega) | (with_reducible refine bif_le ?_; omega) | (with_reducible refine bif_eq ?_; omega) | (with_reducible refine bif_ne ?_; omega) | exact b8_eq rfl | exact b8_ne rfl | exact bif_lt (by omega) | exact bif_le (by omega) | exact bif_eq (by omega) | exact bif_ne (by omega) | exact Iff.rfl | (simp only [zz, reduceCtorEq] <;> first | done | omega | exact Iff.rfl) | (simp; done) | (simp; omega)) (fun h8 => ?_) (fun h8 => ?_)
      · skip
        refine ei (.seq [0, 1, 2, 3, 4, 5, 6, 7, 8, 9, 10, 11, 12, 13, 14, 15, 16, 17, 18, 19]) (ai (by kernel_rfl) ?_)
        refine ai (ai (Int.natCast_nonneg _) (by show (j : Int) < (L.length : Int); omega)) ?_
        refine ai rfl ?_
        refine ai (ai (Int.natCast_nonneg _) (by show (i : Int) < (pts.length : Int); omega)) ?_
        refine ai rfl ?_
        refine ei _ (ai in_ok (ei ((L.getD j ⟨0, 0⟩, ((pts.getD i 0 : Nat) : Int))) (ei [] (ai (ai rfl (ai rfl (ai rfl (ai rfl (ai (fun _ => Or.inl rfl) (ai (by first | exact nof | exact (fun _ => ai rfl rfl)) (by first | exact Or.inl rfl | exact Or.inr rfl))))))) (ai (by (repeat' (first | with_reducible rfl | exact trivial | refine ai ?_ ?_ | (show (_ : Int) = _; first | with_reducible rfl | exact wr1 (by omega) | (simp only [zz, reduceCtorEq] <;> first | done | rfl | omega) | omega | rfl) | exact rfl | exact (fun _ => rfl) | exact (fun _ _ => rfl) | exact nof))) (ai trivial (ai (trivial) ?_)))))))
        refine bcase_b (b := hasC (L.getD j ⟨0, 0⟩) ((pts.getD i 0 : Nat) : Int)) (by first | exact rfl | (simp only [zz, reduceCtorEq] <;> first | done | exact rfl)) (fun h9 => ?_) (fun h9 => ?_)
        · skip
          refine ai (ai (Int.natCast_nonneg _) (by show (j : Int) < (L.length : Int); omega)) ?_
          refine ai rfl ?_
          refine ai (ai (Int.natCast_nonneg _) (by show (k : Int) < (pts.length : Int); omega)) ?_
          refine ai rfl ?_
          refine ei _ (ai in_ok (ei ((L.getD j ⟨0, 0⟩, ((pts.getD k 0 : Nat) : Int))) (ei [] (ai (ai rfl (ai rfl (ai rfl (ai rfl (ai (fun _ => Or.inl rfl) (ai (by first | exact nof | exact (fun _ => ai rfl rfl)) (by first | exact Or.inl rfl | exact Or.inr rfl))))))) (ai (by (repeat' (first | with_reducible rfl | exact trivial | refine ai ?_ ?_ | (show (_ : Int) = _; first | with_reducible rfl | exact wr1 (by omega) | (simp only [zz, reduceCtorEq] <;> first | done | rfl | omega) | omega | rfl) | exact rfl | exact (fun _ => rfl) | exact (fun _ _ => rfl) | exact nof))) (ai trivial (ai (trivial) ?_)))))))
          refine bcase_b (b := hasC (L.getD j ⟨0, 0⟩) ((pts.getD k 0 : Nat) : Int)) (by first | exact rfl | (simp only [zz, reduceCtorEq] <;> first | done | exact rfl)) (fun h10 => ?_) (fun h10 => ?_)
          · skip
            refine ai (ai (fun _ => (by (repeat' (first | exact rfl | exact trivial | exact (fun _ => rfl) | exact (fun _ _ => rfl) | exact nof | refine ai ?_ ?_)))) ?_) trivial
            show ple _ (bP (rdvB ⟨⟨n, b⟩, fr⟩ n L pts))
            rw [stopk (by rw [rdP, allC_no (q := fun c => !(hasC c (pts.getD i 0 : Nat) && hasC c (pts.getD k 0 : Nat))) h8 (by show (!(hasC (L.getD j ⟨0, 0⟩) (pts.getD i 0 : Nat) && hasC (L.getD j ⟨0, 0⟩) (pts.getD k 0 : Nat))) = false; rw [h9, h10]; rfl), Bool.and_false])]
            any_goals (repeat' (first | with_reducible rfl | exact trivial | refine ai ?_ ?_ | (show (_ : Int) = _; first | with_reducible rfl | exact wr1 (by omega) | (simp only [zz, reduceCtorEq] <;> first | done | rfl | omega) | omega | rfl) | exact rfl | exact (fun _ => rfl) | exact (fun _ _ => rfl) | exact nof))
          · skip
            refine ei (j + 1) (ai (ai rfl rfl) (ai (ai ?_ rfl) (ai (ai (by show j + 1 ≤ L.length; omega) ?_) (by show L.length - (j + 1) < L.length - j; omega))))
            any_goals (repeat' (first | with_reducible rfl | exact trivial | refine ai ?_ ?_ | (show (_ : Int) = _; first | with_reducible rfl | exact wr1 (by omega) | (simp only [zz, reduceCtorEq] <;> first | done | rfl | omega) | omega | rfl) | exact rfl | exact (fun _ => rfl) | exact (fun _ _ => rfl) | exact nof))
            exact upto_succ hjall (by rw [h10, Bool.and_false]; rfl)
        · skip
          refine ei (j + 1) (ai (ai rfl rfl) (ai (ai ?_ rfl) (ai (ai (by show j + 1 ≤ L.length; omega) ?_) (by show L.length - (j + 1) < L.length - j; omega))))
          any_goals (repeat' (first | with_reducible rfl | exact trivial | refine ai ?_ ?_ | (show (_ : Int) = _; first | with_reducible rfl | exact wr1 (by omega) | (simp only [zz, reduceCtorEq] <;> first | done | rfl | omega) | omega | rfl) | exact rfl | exact (fun _ => rfl) | exact (fun _ _ => rfl) | exact nof))
          exact upto_succ hjall (by rw [h9]; rfl)
      · obtain rfl : j = L.length := by omega
        refine ei (k + 1) (ai (ai rfl rfl) (ai (ai ?_ rfl) (ai (ai (by show k + 1 ≤ i; omega) ?_) (by show i - (k + 1) < i - k; omega))))
        any_goals (repeat' (first | with_reducible rfl | exact trivial | refine ai ?_ ?_ | (show (_ : Int) = _; first | with_reducible rfl | exact wr1 (by omega) | (simp only [zz, reduceCtorEq] <;> first | done | rfl | omega) | omega | rfl) | exact rfl | exact (fun _ => rfl) | exact (fun _ _ => rfl) | exact nof))
        exact upto_succ hkall (by rw [rdP, hne, Bool.true_and]; exact allC_yes hjall)
    · obtain rfl : i = k := by omega
      refine ei (i + 1) (ai (ai rfl rfl) (ai (ai ?_ rfl) (ai (ai (by show i + 1 ≤ pts.length; omega) ?_) (by show pts.length - (i + 1) < pts.length - i; omega))))
      any_goals (repeat' (first | with_reducible rfl | exact trivial | refine ai ?_ ?_ | (show (_ : Int) = _; first | with_reducible rfl | exact wr1 (by omega) | (simp only [zz, reduceCtorEq] <;> first | done | rfl | omega) | omega | rfl) | exact rfl | exact (fun _ => rfl) | exact (fun _ _ => rfl) | exact nof))
      exact upto_succ hall (by rw [rdI, hon, Bool.true_and]; exact all_yes hkall)
  · obtain rfl : i = pts.length := by omega
    refine ai (ai (fun _ => (by (repeat' (first | exact rfl | exact trivial | exact (fun _ => rfl) | exact (fun _ _ => rfl) | exact nof | refine ai ?_ ?_)))) ?_) trivial
    show ple _ (bP (rdvB ⟨⟨n, b⟩, fr⟩ n L pts))
    rw [show rdvB ⟨⟨n, b⟩, fr⟩ n L pts = true from all_yes hall]
    any_goals (repeat' (first | with_reducible rfl | exact trivial | refine ai ?_ ?_ | (show (_ : Int) = _; first | with_reducible rfl | exact wr1 (by omega) | (simp only [zz, reduceCtorEq] <;> first | done | rfl | omega) | omega | rfl) | exact rfl | exact (fun _ => rfl) | exact (fun _ _ => rfl) | exact nof))

end Go.Sx.Pn
