/- Contracts of chapter 7: proofs of points alone. -/
import Derived.Test.YtmjfhoidokajpaaGreatM7
set_option maxHeartbeats 1000000
set_option maxRecDepth 4000
set_option linter.unusedSimpArgs false
set_option linter.unusedVariables false
set_option linter.unusedSectionVars false
namespace Go.Sx.Pn
open Go Go.Proofs

/-- a proof that has points alone -/
def prfP (pts : List Nat) : PV := .agg [nsP pts, .seq 0 (fun _ => [])]
def prfA (pts : List Nat) : SV := .p false (prfP pts)
def lightS : Spec := fnS (fun pts : List Nat => [prfA pts]) (fun _ => True) (fun _ => bP true)
theorem light_ok : FnOk Tryz.prog 59 lightS := by
  refine fnOk_inl [88] ?_
  refine fnOk (Tb := tab) mixed tab_ok Tryz.func59 rfl rfl ?_
  rintro (pts : List Nat) hpre
  refine ai (ai rfl (ai rfl rfl)) ?_
  refine fnInl mixed tab_ok Tryz.func88 rfl rfl ?_
  refine ai rfl ?_
  refine ei (LAnn.unroll 1) ?_
  refine ai (ai (fun _ => (by (repeat' (first | exact rfl | exact trivial | exact (fun _ => rfl) | exact (fun _ _ => rfl) | exact nof | refine ai ?_ ?_)))) ?_) trivial
  any_goals (repeat' (first | with_reducible rfl | exact trivial | refine ai ?_ ?_ | (show (_ : Int) = _; first | with_reducible rfl | exact wr1 (by omega) | (simp only [zz, reduceCtorEq] <;> first | done | rfl | omega) | omega | rfl) | exact rfl | exact (fun _ => rfl) | exact (fun _ _ => rfl) | exact nof))

/-- the points are open, and no two of them are in one prime implicant -/
def apI (x : Tk) (n : Nat) (L : List Cu) (f : Nat → Nat) (pts : List Nat) (i : Nat) : Bool := onW x n (pts.getD i 0 : Nat) && decide (f (pts.getD i 0) = 0) && dvB L (pts.take i) (pts.getD i 0 : Nat)
def shB (x : Tk) (n : Nat) (L : List Cu) (f : Nat → Nat) (most : Int) (pts : List Nat) : Bool :=
  (List.range pts.length).all (apI x n L f pts) && (decide (most < pts.length) || (decide (pts.length = 1) && decide (1 ≤ most) && decide (ownL L (pts.getD 0 0 : Nat) = [])))
structure ShA where
  x : Tk
  n : Nat
  L : List Cu
  f : Nat → Nat
  most : Int
  pts : List Nat
def shS : Spec := fnS (fun y : ShA => [wA y.x y.L, cntA y.f, iA y.most, prfA y.pts]) (fun y => y.n ≤ 6 ∧ y.x.on.n = y.n ∧ y.L.length ≤ 1000 ∧ y.pts.length ≤ 1000) (fun y => bP (shB y.x y.n y.L y.f y.most y.pts))
theorem onW_lt {x : Tk} {n : Nat} {k : Nat} (h : onW x n k = true) : k < 2 ^ n := by
  simp only [onW, Bool.and_eq_true, decide_eq_true_eq] at h; omega
theorem sh_ok : FnOk Tryz.prog 60 shS := by
  refine fnOk (Tb := tab) mixed tab_ok Tryz.func60 rfl rfl ?_
  rintro ⟨⟨⟨N, bits⟩, fr⟩, n, L, f, most, pts⟩ hpre
  refine ai (ai rfl (ai rfl rfl)) ?_
  obtain ⟨hn, hN, hL, hp⟩ : n ≤ 6 ∧ N = n ∧ L.length ≤ 1000 ∧ pts.length ≤ 1000 := hpre
  subst hN
  have h64 := pow_le64 hn
  refine ei (LAnn.inv { X := Nat, up := fun k => [(17, .s (iA k))], uo := fun k => [], inv := fun k => k ≤ pts.length ∧ (∀ i, i < k → apI ⟨⟨n, bits⟩, fr⟩ n L f pts i = true), meas := fun k => pts.length - k, x0 := 0 }) ?_
  refine ai (ai (ai (by (repeat' (first | exact rfl | exact trivial | exact (fun _ => rfl) | exact (fun _ _ => rfl) | exact nof | refine ai ?_ ?_))) (ai (by (repeat' (first | with_reducible rfl | exact trivial | refine ai ?_ ?_ | (show (_ : Int) = _; first | with_reducible rfl | exact wr1 (by omega) | (simp only [zz, reduceCtorEq] <;> first | done | rfl | omega) | omega | rfl) | exact rfl | exact (fun _ => rfl) | exact (fun _ _ => rfl) | exact nof))) (by (repeat' (first | with_reducible rfl | exact trivial | refine ai ?_ ?_ | (show (_ : Int) = _; first | with_reducible rfl | exact wr1 (by omega) | (simp only [zz, reduceCtorEq] <;> first | done | rfl | omega) | omega | rfl) | exact rfl | exact (fun _ => rfl) | exact (fun _ _ => rfl) | exact nof))))) rfl) (ai (ai (Nat.zero_le _) ?_) ?_)
  · exact fun j hj => absurd hj (Nat.not_lt_zero _)
  intro (k : Nat) ⟨hk, hall⟩
  refine bcase_p (p := k < pts.length) (by first | (with_reducible refine bif_lt ?_; omega) | (with_reducible refine bif_le ?_; omega) | (with_reducible refine bif_eq ?_; omega) | (with_reducible refine bif_ne ?_; omega) | exact b8_eq rfl | exact b8_ne rfl | exact bif_lt (by omega) | exact bif_le (by omega) | exact bif_eq (by omega) | exact bif_ne (by omega) | exact Iff.rfl | (simp only [zz, reduceCtorEq] <;> first | done | omega | exact Iff.rfl) | (simp; done) | (simp; omega)) (fun h1 => ?_) (fun h1 => ?_)
  · refine ai (ai (Int.natCast_nonneg _) (by show (k : Int) < (pts.length : Int); omega)) ?_
    refine ai rfl ?_
    refine ei _ (ai won_ok (ei ((n, ⟨⟨n, bits⟩, fr⟩, L, ((pts.getD k 0 : Nat) : Int))) (ei [] (ai (ai rfl (ai rfl (ai rfl (ai rfl (ai (fun _ => Or.inl rfl) (ai (by first | exact nof | exact (fun _ => ai rfl rfl)) (by first | exact Or.inl rfl | exact Or.inr rfl))))))) (ai (by (repeat' (first | with_reducible rfl | exact trivial | refine ai ?_ ?_ | (show (_ : Int) = _; first | with_reducible rfl | exact wr1 (by omega) | (simp only [zz, reduceCtorEq] <;> first | done | rfl | omega) | omega | rfl) | exact rfl | exact (fun _ => rfl) | exact (fun _ _ => rfl) | exact nof))) (ai trivial (ai (⟨hn, rfl⟩) ?_)))))))
    refine bcase_b (b := !onW ⟨⟨n, bits⟩, fr⟩ n (pts.getD k 0 : Nat)) (by first | exact rfl | (simp only [zz, reduceCtorEq] <;> first | done | exact rfl)) (fun h2 => ?_) (fun h2 => ?_)
    · have h2 : onW ⟨⟨n, bits⟩, fr⟩ n (pts.getD k 0 : Nat) = false := by simpa using h2
      refine ai (ai (fun _ => (by (repeat' (first | exact rfl | exact trivial | exact (fun _ => rfl) | exact (fun _ _ => rfl) | exact nof | refine ai ?_ ?_)))) ?_) trivial
      show ple _ (bP (shB ⟨⟨n, bits⟩, fr⟩ n L f most pts))
      rw [show shB ⟨⟨n, bits⟩, fr⟩ n L f most pts = false by rw [shB, all_no h1 (by rw [apI, h2]; rfl), Bool.false_and]]
      any_goals (repeat' (first | with_reducible rfl | exact trivial | refine ai ?_ ?_ | (show (_ : Int) = _; first | with_reducible rfl | exact wr1 (by omega) | (simp only [zz, reduceCtorEq] <;> first | done | rfl | omega) | omega | rfl) | exact rfl | exact (fun _ => rfl) | exact (fun _ _ => rfl) | exact nof))
    have h2 : onW ⟨⟨n, bits⟩, fr⟩ n (pts.getD k 0 : Nat) = true := by simpa using h2
    have hlt := onW_lt h2
    refine ai (ai (Int.natCast_nonneg _) (by show ((pts.getD k 0 : Nat) : Int) < (64 : Nat); omega)) ?_
    refine rdStep (s := iA (f (pts.getD k 0) : Nat)) (cntRd (k := pts.getD k 0) (show pts.getD k 0 < 64 by omega)) ?_
    refine bcase_p (p := 0 < f (pts.getD k 0)) (by first | (with_reducible refine bif_lt ?_; omega) | (with_reducible refine bif_le ?_; omega) | (with_reducible refine bif_eq ?_; omega) | (with_reducible refine bif_ne ?_; omega) | exact b8_eq rfl | exact b8_ne rfl | exact bif_lt (by omega) | exact bif_le (by omega) | exact bif_eq (by omega) | exact bif_ne (by omega) | exact Iff.rfl | (simp only [zz, reduceCtorEq] <;> first | done | omega | exact Iff.rfl) | (simp; done) | (simp; omega)) (fun h3 => ?_) (fun h3 => ?_)
    · skip
      refine ai (ai (fun _ => (by (repeat' (first | exact rfl | exact trivial | exact (fun _ => rfl) | exact (fun _ _ => rfl) | exact nof | refine ai ?_ ?_)))) ?_) trivial
      show ple _ (bP (shB ⟨⟨n, bits⟩, fr⟩ n L f most pts))
      rw [show shB ⟨⟨n, bits⟩, fr⟩ n L f most pts = false by rw [shB, all_no h1 (by rw [apI, h2, decide_eq_false (by omega)]; rfl), Bool.false_and]]
      any_goals (repeat' (first | with_reducible rfl | exact trivial | refine ai ?_ ?_ | (show (_ : Int) = _; first | with_reducible rfl | exact wr1 (by omega) | (simp only [zz, reduceCtorEq] <;> first | done | rfl | omega) | omega | rfl) | exact rfl | exact (fun _ => rfl) | exact (fun _ _ => rfl) | exact nof))
    refine ai (ai (Int.le_refl _) (ai (Int.natCast_nonneg _) (by show (k : Int) ≤ (pts.length : Int); omega))) ?_
    refine ai (fun k hk => rfl) ?_
    refine ei _ (ai dv_ok (ei ((⟨⟨n, bits⟩, fr⟩, L, pts.take k, ((pts.getD k 0 : Nat) : Int))) (ei [] (ai (ai rfl (ai rfl (ai rfl (ai rfl (ai (by first | exact (fun _ => Or.inl rfl) | exact nof | exact (fun _ => Or.inr (by (repeat' (first | exact rfl | exact trivial | exact (fun _ => rfl) | exact (fun _ _ => rfl) | exact nof | refine ai ?_ ?_))))) (ai (by first | exact nof | exact (fun _ => ai rfl rfl)) (by first | exact Or.inl rfl | exact Or.inr rfl))))))) (ai ?_ (ai (by (repeat' (first | with_reducible rfl | exact trivial | refine ai ?_ ?_ | (show (_ : Int) = _; first | with_reducible rfl | exact wr1 (by omega) | (simp only [zz, reduceCtorEq] <;> first | done | rfl | omega) | omega | rfl) | exact rfl | exact (fun _ => rfl) | exact (fun _ _ => rfl) | exact nof))) (ai (⟨by show L.length ≤ 1000000; omega, by show (pts.take k).length ≤ 1000000; rw [List.length_take]; omega⟩) ?_)))))))
    · skip
      (repeat' (first | with_reducible rfl | exact trivial | refine ai ?_ ?_ | (show (_ : Int) = _; first | with_reducible rfl | exact wr1 (by omega) | (simp only [zz, reduceCtorEq] <;> first | done | rfl | omega) | omega | rfl) | exact rfl | exact (fun _ => rfl) | exact (fun _ _ => rfl) | exact nof))
      · show k - 0 = (pts.take k).length
        rw [List.length_take]; omega
      · intro j hj
        have hj : j < k - 0 := hj
        show [iP (pts.getD (0 + j) 0 : Nat)] = [iP ((pts.take k).getD j 0 : Nat)]
        rw [Nat.zero_add, List.getD_eq_getElem?_getD, List.getD_eq_getElem?_getD, List.getElem?_take, if_pos (by omega)]
    refine bcase_b (b := !dvB L (pts.take k) (pts.getD k 0 : Nat)) (by first | exact rfl | (simp only [zz, reduceCtorEq] <;> first | done | exact rfl)) (fun h4 => ?_) (fun h4 => ?_)
    · have h4 : dvB L (pts.take k) (pts.getD k 0 : Nat) = false := by simpa using h4
      refine ai (ai (fun _ => (by (repeat' (first | exact rfl | exact trivial | exact (fun _ => rfl) | exact (fun _ _ => rfl) | exact nof | refine ai ?_ ?_)))) ?_) trivial
      show ple _ (bP (shB ⟨⟨n, bits⟩, fr⟩ n L f most pts))
      rw [show shB ⟨⟨n, bits⟩, fr⟩ n L f most pts = false by rw [shB, all_no h1 (by rw [apI, h4, Bool.and_false]), Bool.false_and]]
      any_goals (repeat' (first | with_reducible rfl | exact trivial | refine ai ?_ ?_ | (show (_ : Int) = _; first | with_reducible rfl | exact wr1 (by omega) | (simp only [zz, reduceCtorEq] <;> first | done | rfl | omega) | omega | rfl) | exact rfl | exact (fun _ => rfl) | exact (fun _ _ => rfl) | exact nof))
    have h4 : dvB L (pts.take k) (pts.getD k 0 : Nat) = true := by simpa using h4
    refine ei (k + 1) (ai (ai rfl rfl) (ai (ai ?_ rfl) (ai (ai (by show k + 1 ≤ pts.length; omega) ?_) (by show pts.length - (k + 1) < pts.length - k; omega))))
    any_goals (repeat' (first | with_reducible rfl | exact trivial | refine ai ?_ ?_ | (show (_ : Int) = _; first | with_reducible rfl | exact wr1 (by omega) | (simp only [zz, reduceCtorEq] <;> first | done | rfl | omega) | omega | rfl) | exact rfl | exact (fun _ => rfl) | exact (fun _ _ => rfl) | exact nof))
    exact upto_succ hall (by rw [apI, h2, h4, decide_eq_true (by omega)]; rfl)
  · obtain rfl : k = pts.length := by omega
    have ha : (List.range pts.length).all (apI ⟨⟨n, bits⟩, fr⟩ n L f pts) = true := all_yes hall
    refine bcase_p (p := most < pts.length) (by first | (with_reducible refine bif_lt ?_; omega) | (with_reducible refine bif_le ?_; omega) | (with_reducible refine bif_eq ?_; omega) | (with_reducible refine bif_ne ?_; omega) | exact b8_eq rfl | exact b8_ne rfl | exact bif_lt (by omega) | exact bif_le (by omega) | exact bif_eq (by omega) | exact bif_ne (by omega) | exact Iff.rfl | (simp only [zz, reduceCtorEq] <;> first | done | omega | exact Iff.rfl) | (simp; done) | (simp; omega)) (fun h2 => ?_) (fun h2 => ?_)
    · skip
      refine ai (ai (fun _ => (by (repeat' (first | exact rfl | exact trivial | exact (fun _ => rfl) | exact (fun _ _ => rfl) | exact nof | refine ai ?_ ?_)))) ?_) trivial
      show ple _ (bP (shB ⟨⟨n, bits⟩, fr⟩ n L f most pts))
      rw [show shB ⟨⟨n, bits⟩, fr⟩ n L f most pts = true by rw [shB, ha, decide_eq_true h2]; rfl]
      any_goals (repeat' (first | with_reducible rfl | exact trivial | refine ai ?_ ?_ | (show (_ : Int) = _; first | with_reducible rfl | exact wr1 (by omega) | (simp only [zz, reduceCtorEq] <;> first | done | rfl | omega) | omega | rfl) | exact rfl | exact (fun _ => rfl) | exact (fun _ _ => rfl) | exact nof))
    have f0 : ¬ (pts.length = 1 ∧ (1 ≤ most ∧ ownL L (pts.getD 0 0 : Nat) = [])) → shB ⟨⟨n, bits⟩, fr⟩ n L f most pts = false := fun h => by
      rw [shB, ha, decide_eq_false h2]
      simp only [Bool.true_and, Bool.false_or, Bool.and_eq_false_imp, Bool.and_eq_true, decide_eq_true_eq, decide_eq_false_iff_not]
      exact fun h1 h3 => h ⟨h1.1, h1.2, h3⟩
    refine bcase_n (p := pts.length = 1) (by show ((pts.length : Int) != 1) = true ↔ _; rw [bne_iff_ne]; exact not_congr (by omega)) (fun h3 => ?_) (fun h3 => ?_)
    · skip
      refine ai (ai (fun _ => (by (repeat' (first | exact rfl | exact trivial | exact (fun _ => rfl) | exact (fun _ _ => rfl) | exact nof | refine ai ?_ ?_)))) ?_) trivial
      show ple _ (bP (shB ⟨⟨n, bits⟩, fr⟩ n L f most pts))
      rw [f0 (fun h => h3 h.1)]
      any_goals (repeat' (first | with_reducible rfl | exact trivial | refine ai ?_ ?_ | (show (_ : Int) = _; first | with_reducible rfl | exact wr1 (by omega) | (simp only [zz, reduceCtorEq] <;> first | done | rfl | omega) | omega | rfl) | exact rfl | exact (fun _ => rfl) | exact (fun _ _ => rfl) | exact nof))
    refine bcase_p (p := most < 1) (by first | (with_reducible refine bif_lt ?_; omega) | (with_reducible refine bif_le ?_; omega) | (with_reducible refine bif_eq ?_; omega) | (with_reducible refine bif_ne ?_; omega) | exact b8_eq rfl | exact b8_ne rfl | exact bif_lt (by omega) | exact bif_le (by omega) | exact bif_eq (by omega) | exact bif_ne (by omega) | exact Iff.rfl | (simp only [zz, reduceCtorEq] <;> first | done | omega | exact Iff.rfl) | (simp; done) | (simp; omega)) (fun h4 => ?_) (fun h4 => ?_)
    · skip
      refine ai (ai (fun _ => (by (repeat' (first | exact rfl | exact trivial | exact (fun _ => rfl) | exact (fun _ _ => rfl) | exact nof | refine ai ?_ ?_)))) ?_) trivial
      show ple _ (bP (shB ⟨⟨n, bits⟩, fr⟩ n L f most pts))
      rw [f0 (fun h => by omega)]
      any_goals (repeat' (first | with_reducible rfl | exact trivial | refine ai ?_ ?_ | (show (_ : Int) = _; first | with_reducible rfl | exact wr1 (by omega) | (simp only [zz, reduceCtorEq] <;> first | done | rfl | omega) | omega | rfl) | exact rfl | exact (fun _ => rfl) | exact (fun _ _ => rfl) | exact nof))
    refine ai (ai (Int.le_refl _) (by show (0 : Int) < (pts.length : Int); omega)) ?_
    refine ai rfl ?_
    refine ei _ (ai wown_ok (ei ((⟨⟨n, bits⟩, fr⟩, L, ((pts.getD 0 0 : Nat) : Int))) (ei [] (ai (ai rfl (ai rfl (ai rfl (ai rfl (ai (fun _ => Or.inl rfl) (ai (by first | exact nof | exact (fun _ => ai rfl rfl)) (by first | exact Or.inl rfl | exact Or.inr rfl))))))) (ai (by (repeat' (first | with_reducible rfl | exact trivial | refine ai ?_ ?_ | (show (_ : Int) = _; first | with_reducible rfl | exact wr1 (by omega) | (simp only [zz, reduceCtorEq] <;> first | done | rfl | omega) | omega | rfl) | exact rfl | exact (fun _ => rfl) | exact (fun _ _ => rfl) | exact nof))) (ai trivial (ai ((by show L.length ≤ 1000000; omega)) ?_)))))))
    refine bcase_n (p := ownL L (pts.getD 0 0 : Nat) = []) (by show (((ownL L (pts.getD 0 0 : Nat)).length : Int) != 0) = true ↔ _; rw [bne_iff_ne]; exact not_congr (by rw [← nil_len]; omega)) (fun h5 => ?_) (fun h5 => ?_)
    · skip
      refine ai (ai (fun _ => (by (repeat' (first | exact rfl | exact trivial | exact (fun _ => rfl) | exact (fun _ _ => rfl) | exact nof | refine ai ?_ ?_)))) ?_) trivial
      show ple _ (bP (shB ⟨⟨n, bits⟩, fr⟩ n L f most pts))
      rw [f0 (fun h => h5 h.2.2)]
      any_goals (repeat' (first | with_reducible rfl | exact trivial | refine ai ?_ ?_ | (show (_ : Int) = _; first | with_reducible rfl | exact wr1 (by omega) | (simp only [zz, reduceCtorEq] <;> first | done | rfl | omega) | omega | rfl) | exact rfl | exact (fun _ => rfl) | exact (fun _ _ => rfl) | exact nof))
    refine ei (LAnn.unroll 1) ?_
    refine ai (ai (fun _ => (by (repeat' (first | exact rfl | exact trivial | exact (fun _ => rfl) | exact (fun _ _ => rfl) | exact nof | refine ai ?_ ?_)))) ?_) trivial
    show ple _ (bP (shB ⟨⟨n, bits⟩, fr⟩ n L f most pts))
    rw [show shB ⟨⟨n, bits⟩, fr⟩ n L f most pts = true by rw [shB, ha, decide_eq_true h3, decide_eq_true h5, decide_eq_true (show 1 ≤ most by omega)]; simp]
    any_goals (repeat' (first | with_reducible rfl | exact trivial | refine ai ?_ ?_ | (show (_ : Int) = _; first | with_reducible rfl | exact wr1 (by omega) | (simp only [zz, reduceCtorEq] <;> first | done | rfl | omega) | omega | rfl) | exact rfl | exact (fun _ => rfl) | exact (fun _ _ => rfl) | exact nof))

def refE (x : Tk) (most : Int) (pts : List Nat) : Int :=
  if chkK x = 0 then (if most < 0 ∨ 256 < most then 2 else if shB x x.on.n.toNat (primesL x.on.n.toNat x) (fun _ => 0) most pts then 0 else 15) else chkK x
def refS : Spec := fnS (fun y : Tk × Int × List Nat => [kA y.1, iA y.2.1, prfA y.2.2]) (fun y => y.2.2.length ≤ 1000) (fun y => iP (refE y.1 y.2.1 y.2.2))
theorem ref_ok : FnOk Tryz.prog 28 refS := by
  refine fnOk (Tb := tab) mixed tab_ok Tryz.func28 rfl rfl ?_
  rintro ⟨x, most, pts⟩ hpre
  refine ai (ai rfl (ai rfl rfl)) ?_
  have hp : pts.length ≤ 1000 := hpre
  by_cases h : chkK x = 0
  · obtain ⟨n, hn, hx, _⟩ := chkT_zero (chkK_zero h).1
    have hnn : x.on.n.toNat = n := by rw [hx]; rfl
    have hlen := primesL_len hn x
    have c1 := fnSF_at wof_ok x trivial (r := .tup [wP x (primesL n x), iP 0]) (by show PV.tup [wofP x, iP (chkK x)] = _; rw [wofP, if_pos h, h, hnn])
    refine ei _ (ai c1 (ei (()) (ei [] (ai (ai rfl (ai rfl (ai rfl (ai rfl (ai (fun _ => Or.inl rfl) (ai (by first | exact nof | exact (fun _ => ai rfl rfl)) (by first | exact Or.inl rfl | exact Or.inr rfl))))))) (ai (by (repeat' (first | with_reducible rfl | exact trivial | refine ai ?_ ?_ | (show (_ : Int) = _; first | with_reducible rfl | exact wr1 (by omega) | (simp only [zz, reduceCtorEq] <;> first | done | rfl | omega) | omega | rfl) | exact rfl | exact (fun _ => rfl) | exact (fun _ _ => rfl) | exact nof))) (ai trivial (ai (trivial) ?_)))))))
    refine bcase_p (p := most < 0) (by first | (with_reducible refine bif_lt ?_; omega) | (with_reducible refine bif_le ?_; omega) | (with_reducible refine bif_eq ?_; omega) | (with_reducible refine bif_ne ?_; omega) | exact b8_eq rfl | exact b8_ne rfl | exact bif_lt (by omega) | exact bif_le (by omega) | exact bif_eq (by omega) | exact bif_ne (by omega) | exact Iff.rfl | (simp only [zz, reduceCtorEq] <;> first | done | omega | exact Iff.rfl) | (simp; done) | (simp; omega)) (fun h1 => ?_) (fun h1 => ?_)
    · skip
      refine ai (ai (fun _ => (by (repeat' (first | exact rfl | exact trivial | exact (fun _ => rfl) | exact (fun _ _ => rfl) | exact nof | refine ai ?_ ?_)))) ?_) trivial
      show ple _ (iP (refE x most pts))
      rw [refE, if_pos h, if_pos (Or.inl h1)]
      any_goals (repeat' (first | with_reducible rfl | exact trivial | refine ai ?_ ?_ | (show (_ : Int) = _; first | with_reducible rfl | exact wr1 (by omega) | (simp only [zz, reduceCtorEq] <;> first | done | rfl | omega) | omega | rfl) | exact rfl | exact (fun _ => rfl) | exact (fun _ _ => rfl) | exact nof))
    refine bcase_p (p := 256 < most) (by first | (with_reducible refine bif_lt ?_; omega) | (with_reducible refine bif_le ?_; omega) | (with_reducible refine bif_eq ?_; omega) | (with_reducible refine bif_ne ?_; omega) | exact b8_eq rfl | exact b8_ne rfl | exact bif_lt (by omega) | exact bif_le (by omega) | exact bif_eq (by omega) | exact bif_ne (by omega) | exact Iff.rfl | (simp only [zz, reduceCtorEq] <;> first | done | omega | exact Iff.rfl) | (simp; done) | (simp; omega)) (fun h2 => ?_) (fun h2 => ?_)
    · skip
      refine ai (ai (fun _ => (by (repeat' (first | exact rfl | exact trivial | exact (fun _ => rfl) | exact (fun _ _ => rfl) | exact nof | refine ai ?_ ?_)))) ?_) trivial
      show ple _ (iP (refE x most pts))
      rw [refE, if_pos h, if_pos (Or.inr h2)]
      any_goals (repeat' (first | with_reducible rfl | exact trivial | refine ai ?_ ?_ | (show (_ : Int) = _; first | with_reducible rfl | exact wr1 (by omega) | (simp only [zz, reduceCtorEq] <;> first | done | rfl | omega) | omega | rfl) | exact rfl | exact (fun _ => rfl) | exact (fun _ _ => rfl) | exact nof))
    have h3 : ¬ (most < 0 ∨ 256 < most) := fun h => h.elim h1 h2
    refine ei _ (ai light_ok (ei (pts) (ei [] (ai (ai rfl (ai rfl (ai rfl (ai rfl (ai (fun _ => Or.inl rfl) (ai (by first | exact nof | exact (fun _ => ai rfl rfl)) (by first | exact Or.inl rfl | exact Or.inr rfl))))))) (ai (by (repeat' (first | with_reducible rfl | exact trivial | refine ai ?_ ?_ | (show (_ : Int) = _; first | with_reducible rfl | exact wr1 (by omega) | (simp only [zz, reduceCtorEq] <;> first | done | rfl | omega) | omega | rfl) | exact rfl | exact (fun _ => rfl) | exact (fun _ _ => rfl) | exact nof))) (ai trivial (ai (trivial) ?_)))))))
    refine ei _ (ai sh_ok (ei ((⟨x, n, primesL n x, fun _ => 0, most, pts⟩ : ShA)) (ei [] (ai (ai rfl (ai rfl (ai rfl (ai rfl (ai (fun _ => Or.inl rfl) (ai (by first | exact nof | exact (fun _ => ai rfl rfl)) (by first | exact Or.inl rfl | exact Or.inr rfl))))))) (ai (by (repeat' (first | with_reducible rfl | exact trivial | refine ai ?_ ?_ | (show (_ : Int) = _; first | with_reducible rfl | exact wr1 (by omega) | (simp only [zz, reduceCtorEq] <;> first | done | rfl | omega) | omega | rfl) | exact rfl | exact (fun _ => rfl) | exact (fun _ _ => rfl) | exact nof))) (ai trivial (ai (⟨hn, hx, by show (primesL n x).length ≤ 1000; omega, hp⟩) ?_)))))))
    refine bcase_b (b := !shB x n (primesL n x) (fun _ => 0) most pts) (by first | exact rfl | (simp only [zz, reduceCtorEq] <;> first | done | exact rfl)) (fun h4 => ?_) (fun h4 => ?_)
    · skip
      refine ai (ai (fun _ => (by (repeat' (first | exact rfl | exact trivial | exact (fun _ => rfl) | exact (fun _ _ => rfl) | exact nof | refine ai ?_ ?_)))) ?_) trivial
      show ple _ (iP (refE x most pts))
      rw [refE, if_pos h, if_neg h3, hnn, if_neg (by simpa using h4)]
      any_goals (repeat' (first | with_reducible rfl | exact trivial | refine ai ?_ ?_ | (show (_ : Int) = _; first | with_reducible rfl | exact wr1 (by omega) | (simp only [zz, reduceCtorEq] <;> first | done | rfl | omega) | omega | rfl) | exact rfl | exact (fun _ => rfl) | exact (fun _ _ => rfl) | exact nof))
    · skip
      refine ai (ai (fun _ => (by (repeat' (first | exact rfl | exact trivial | exact (fun _ => rfl) | exact (fun _ _ => rfl) | exact nof | refine ai ?_ ?_)))) ?_) trivial
      show ple _ (iP (refE x most pts))
      rw [refE, if_pos h, if_neg h3, hnn, if_pos (by simpa using h4)]
      any_goals (repeat' (first | with_reducible rfl | exact trivial | refine ai ?_ ?_ | (show (_ : Int) = _; first | with_reducible rfl | exact wr1 (by omega) | (simp only [zz, reduceCtorEq] <;> first | done | rfl | omega) | omega | rfl) | exact rfl | exact (fun _ => rfl) | exact (fun _ _ => rfl) | exact nof))
  · have c1 := fnSF_at wof_ok x trivial (r := .tup [.val (.pointer none), iP (chkK x)]) (by show PV.tup [wofP x, iP (chkK x)] = _; rw [wofP, if_neg h])
    refine ei _ (ai c1 (ei (()) (ei [] (ai (ai rfl (ai rfl (ai rfl (ai rfl (ai (fun _ => Or.inl rfl) (ai (by first | exact nof | exact (fun _ => ai rfl rfl)) (by first | exact Or.inl rfl | exact Or.inr rfl))))))) (ai (by (repeat' (first | with_reducible rfl | exact trivial | refine ai ?_ ?_ | (show (_ : Int) = _; first | with_reducible rfl | exact wr1 (by omega) | (simp only [zz, reduceCtorEq] <;> first | done | rfl | omega) | omega | rfl) | exact rfl | exact (fun _ => rfl) | exact (fun _ _ => rfl) | exact nof))) (ai trivial (ai (trivial) ?_)))))))
    refine bcase_n (p := chkK x = 0) (by first | (with_reducible refine bif_lt ?_; omega) | (with_reducible refine bif_le ?_; omega) | (with_reducible refine bif_eq ?_; omega) | (with_reducible refine bif_ne ?_; omega) | exact b8_eq rfl | exact b8_ne rfl | exact bif_lt (by omega) | exact bif_le (by omega) | exact bif_eq (by omega) | exact bif_ne (by omega) | exact Iff.rfl | (simp only [zz, reduceCtorEq] <;> first | done | omega | exact Iff.rfl) | (simp; done) | (simp; omega)) (fun h1 => ?_) (fun h1 => ?_)
    · skip
      refine ai (ai (fun _ => (by (repeat' (first | exact rfl | exact trivial | exact (fun _ => rfl) | exact (fun _ _ => rfl) | exact nof | refine ai ?_ ?_)))) ?_) trivial
      show ple _ (iP (refE x most pts))
      rw [refE, if_neg h]
      any_goals (repeat' (first | with_reducible rfl | exact trivial | refine ai ?_ ?_ | (show (_ : Int) = _; first | with_reducible rfl | exact wr1 (by omega) | (simp only [zz, reduceCtorEq] <;> first | done | rfl | omega) | omega | rfl) | exact rfl | exact (fun _ => rfl) | exact (fun _ _ => rfl) | exact nof))
    · exact absurd h1 h

end Go.Sx.Pn
