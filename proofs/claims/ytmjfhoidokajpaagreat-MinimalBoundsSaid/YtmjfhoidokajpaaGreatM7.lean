/- Contracts of chapter 7: the least form. -/
import Derived.Test.YtmjfhoidokajpaaGreatM6
set_option maxHeartbeats 1000000
set_option maxRecDepth 4000
set_option linter.unusedSimpArgs false
set_option linter.unusedVariables false
set_option linter.unusedSectionVars false
namespace Go.Sx.Pn
open Go Go.Proofs

theorem ones_le : ∀ n, n ≤ 6 → ∀ m, m < 2 ^ n → Lib.onesCount m ≤ n := by decide +kernel
theorem pop_le {n : Nat} (hn : n ≤ 6) {c : Cu} (hc : c.Ok n) : popU c.care ≤ n := by
  unfold popU
  exact ones_le n hn _ (care_lt hn hc)
def widTo (n : Nat) (L : List Cu) : Nat → Nat
  | 0 => 1
  | k + 1 => max (widTo n L k) (2 ^ (n - popU (L.getD k ⟨0, 0⟩).care))
def widL (n : Nat) (L : List Cu) : Nat := widTo n L L.length
theorem widTo_le {n : Nat} (hn : n ≤ 6) (L : List Cu) : ∀ k, widTo n L k ≤ 64
  | 0 => by rw [widTo]; omega
  | k + 1 => by
    rw [widTo]
    have h1 := widTo_le hn L k
    have h2 : 2 ^ (n - popU (L.getD k ⟨0, 0⟩).care) ≤ 2 ^ 6 := Nat.pow_le_pow_right (by decide) (by omega)
    omega
def covB (x : Tk) (n : Nat) (L : List Cu) (most : Nat) : Bst := covG x n L (widL n L) most (fun _ => 0) [] none
theorem covB_good (x : Tk) (n : Nat) (L : List Cu) {most : Nat} (h : most ≤ 1000) : goodI L ((covB x n L most).getD []) :=
  covG_good x n L _ most _ [] none (by show 0 + most ≤ 1000; omega) (fun i hi => by cases hi) ⟨Nat.zero_le _, fun i hi => by cases hi⟩
theorem nil_lt (L : List Cu) : ∀ i ∈ ([] : List Nat), i < L.length := fun i hi => by cases hi
theorem nil_good (L : List Cu) : goodI L [] := ⟨Nat.zero_le _, nil_lt L⟩
structure CoA where
  x : Tk
  n : Nat
  L : List Cu
  most : Nat
def covS : Spec := fnSF (fun y : CoA => [wA y.x y.L, iA y.most]) (fun y => y.n ≤ 6 ∧ y.x.on.n = y.n ∧ y.L.length ≤ 1000 ∧ (∀ c ∈ y.L, c.Ok y.n) ∧ y.most ≤ 1000) (fun y => .tup [nsP ((covB y.x y.n y.L y.most).getD []), bP (covB y.x y.n y.L y.most).isSome])
theorem cov_ok : FnOk Tryz.prog 76 covS := by
  refine fnOk (Tb := tab) mixed tab_ok Tryz.func76 rfl rfl ?_
  rintro ⟨⟨⟨N, bits⟩, fr⟩, n, L, most⟩ hpre
  refine ai (ai rfl (ai rfl rfl)) ?_
  obtain ⟨hn, hN, hL, hC, hm⟩ : n ≤ 6 ∧ N = n ∧ L.length ≤ 1000 ∧ (∀ c ∈ L, c.Ok n) ∧ most ≤ 1000 := hpre
  subst hN
  refine ei (LAnn.inv { X := Nat, up := fun k => [(19, .s (iA k))], uo := fun k => [⟨5, 3, [.s (iA (widTo n L k))]⟩], inv := fun k => k ≤ L.length ∧ (True), meas := fun k => L.length - k, x0 := 0 }) ?_
  refine ai (ai (ai (by (repeat' (first | exact rfl | exact trivial | exact (fun _ => rfl) | exact (fun _ _ => rfl) | exact nof | refine ai ?_ ?_))) (ai ?_ ?_)) rfl) (ai (ai (Nat.zero_le _) ?_) ?_)
  · skip
    (repeat' (first | exact rfl | exact trivial | exact (fun _ => rfl) | exact (fun _ _ => rfl) | exact nof | refine ai ?_ ?_))
  · skip
    (repeat' (first | exact rfl | exact trivial | exact (fun _ => rfl) | exact (fun _ _ => rfl) | exact nof | refine ai ?_ ?_))
  · trivial
  intro (k : Nat) ⟨hk, _⟩
  refine bcase_p (p := k < L.length) (by first | (with_reducible refine bif_lt ?_; omega) | (with_reducible refine bif_le ?_; omega) | (with_reducible refine bif_eq ?_; omega) | (with_reducible refine bif_ne ?_; omega) | exact b8_eq rfl | exact b8_ne rfl | exact bif_lt (by omega) | exact bif_le (by omega) | exact bif_eq (by omega) | exact bif_ne (by omega) | exact Iff.rfl | (simp only [zz, reduceCtorEq] <;> first | done | omega | exact Iff.rfl) | (simp; done) | (simp; omega)) (fun h1 => ?_) (fun h1 => ?_)
  · have hok : (L.getD k ⟨0, 0⟩).Ok n := hC _ (getC_mem h1)
    have hpl := pop_le hn hok
    have hwl := widTo_le hn L k
    have e1 : IntKind.i64.wrap ((n : Int) - (popU (L.getD k ⟨0, 0⟩).care : Int)) = ((n - popU (L.getD k ⟨0, 0⟩).care : Nat) : Int) := by
      rw [wrap_in (by omega) (by omega)]; omega
    have e2 : IntKind.i64.wrap (1 * 2 ^ min (IntKind.i64.wrap ((n : Int) - (popU (L.getD k ⟨0, 0⟩).care : Int))).toNat IntKind.i64.bits) = ((2 ^ (n - popU (L.getD k ⟨0, 0⟩).care) : Nat) : Int) := by
      rw [e1]; exact pow6 (by omega)
    refine ai (ai (Int.natCast_nonneg _) (by show (k : Int) < (L.length : Int); omega)) ?_
    refine ai rfl ?_
    refine ei (.seq [0, 1, 2, 3, 4, 5, 6, 7, 8, 9, 10, 11, 12, 13]) (ai (by kernel_rfl) ?_)
    refine ei _ (ai ones_ok (ei ((L.getD k ⟨0, 0⟩).care) (ei [] (ai (ai rfl (ai rfl (ai rfl (ai rfl (ai (fun _ => Or.inl rfl) (ai (by first | exact nof | exact (fun _ => ai rfl rfl)) (by first | exact Or.inl rfl | exact Or.inr rfl))))))) (ai (by (repeat' (first | with_reducible rfl | exact trivial | refine ai ?_ ?_ | (show (_ : Int) = _; first | with_reducible rfl | exact wr1 (by omega) | (simp only [zz, reduceCtorEq] <;> first | done | rfl | omega) | omega | rfl) | exact rfl | exact (fun _ => rfl) | exact (fun _ _ => rfl) | exact nof))) (ai trivial (ai (ok_care hn hok) ?_)))))))
    refine ai (by show (0 : Int) ≤ IntKind.i64.wrap ((n : Int) - (popU (L.getD k ⟨0, 0⟩).care : Int)); rw [e1]; exact Int.natCast_nonneg _) ?_
    refine ei (k + 1) (ai (ai rfl rfl) (ai (ai ?_ rfl) (ai (ai (by show k + 1 ≤ L.length; omega) trivial) (by show L.length - (k + 1) < L.length - k; omega))))
    (repeat' (first | with_reducible rfl | exact trivial | refine ai ?_ ?_ | (show (_ : Int) = _; first | with_reducible rfl | exact wr1 (by omega) | (simp only [zz, reduceCtorEq] <;> first | done | rfl | omega) | omega | rfl) | exact rfl | exact (fun _ => rfl) | exact (fun _ _ => rfl) | exact nof))
    · show (if IntKind.i64.wrap (1 * 2 ^ min (IntKind.i64.wrap ((n : Int) - (popU (L.getD k ⟨0, 0⟩).care : Int))).toNat IntKind.i64.bits) > (widTo n L k : Int) then IntKind.i64.wrap (1 * 2 ^ min (IntKind.i64.wrap ((n : Int) - (popU (L.getD k ⟨0, 0⟩).care : Int))).toNat IntKind.i64.bits) else (widTo n L k : Int)) = ((widTo n L (k + 1) : Nat) : Int)
      rw [e2, widTo]
      split <;> omega
  · obtain rfl : k = L.length := by omega
    refine ei _ (ai (cv_ok most) (ei ((⟨⟨⟨n, bits⟩, fr⟩, n, L, most, widTo n L L.length, fun _ => 0, [], none⟩ : CvA)) (ei [0, 4, 1, 5, 6, 2, 3] (ai (ai rfl (ai rfl (ai rfl (ai rfl (ai (by first | exact (fun _ => Or.inl rfl) | exact nof | exact (fun _ => Or.inr (by (repeat' (first | exact rfl | exact trivial | exact (fun _ => rfl) | exact (fun _ _ => rfl) | exact nof | refine ai ?_ ?_))))) (ai (by first | exact nof | exact (fun _ => ai rfl rfl)) (by first | exact Or.inl rfl | exact Or.inr rfl))))))) (ai ?_ (ai (by (repeat' (first | with_reducible rfl | exact trivial | refine ai ?_ ?_ | (show (_ : Int) = _; first | with_reducible rfl | exact wr1 (by omega) | (simp only [zz, reduceCtorEq] <;> first | done | rfl | omega) | omega | rfl) | exact rfl | exact (fun _ => rfl) | exact (fun _ _ => rfl) | exact nof))) (ai (⟨⟨Nat.zero_add _, hm, widTo_le hn L _⟩, ⟨hn, rfl, hL, hC⟩, fun _ => Nat.zero_le _, nil_lt L, nil_good L⟩) ?_)))))))
    · skip
      (repeat' (first | with_reducible rfl | exact trivial | refine ai ?_ ?_ | (show (_ : Int) = _; first | with_reducible rfl | exact wr1 (by omega) | (simp only [zz, reduceCtorEq] <;> first | done | rfl | omega) | omega | rfl) | exact rfl | exact (fun _ => rfl) | exact (fun _ _ => rfl) | exact nof))
    refine ei (.seq [0, 1, 2, 3]) (ai (by kernel_rfl) ?_)
    refine ai (ai nof ?_) trivial
    (repeat' (first | with_reducible rfl | exact trivial | refine ai ?_ ?_ | (show (_ : Int) = _; first | with_reducible rfl | exact wr1 (by omega) | (simp only [zz, reduceCtorEq] <;> first | done | rfl | omega) | omega | rfl) | exact rfl | exact (fun _ => rfl) | exact (fun _ _ => rfl) | exact nof))

def leaL (x : Tk) (n : Nat) (L : List Cu) : List Nat := ((List.range (L.length + 1)).findSome? fun m => covB x n L m).getD []
theorem find_range {α : Type} {f : Nat → Option α} : ∀ {m k : Nat} {a : α}, k < m → f k = some a → (∀ j, j < k → f j = none) → (List.range m).findSome? f = some a
  | 0, k, a, h, _, _ => absurd h (Nat.not_lt_zero _)
  | m + 1, k, a, h, ha, hn => by
    rw [List.range_succ, List.findSome?_append]
    by_cases e : k < m
    · rw [find_range e ha hn]; rfl
    · obtain rfl : k = m := by omega
      rw [List.findSome?_eq_none_iff.2 fun j hj => hn j (List.mem_range.1 hj)]
      simp [ha]
def leaS : Spec := fnSF (fun y : Nat × Tk × List Cu => [wA y.2.1 y.2.2]) (fun y => y.1 ≤ 6 ∧ y.2.1.on.n = y.1 ∧ y.2.2.length ≤ 999 ∧ ∀ c ∈ y.2.2, c.Ok y.1) (fun y => nsP (leaL y.2.1 y.1 y.2.2))
theorem lea_ok : FnOk Tryz.prog 43 leaS := by
  refine fnOk (Tb := tab) mixed tab_ok Tryz.func43 rfl rfl ?_
  rintro ⟨n, x, L⟩ hpre
  refine ai (ai rfl (ai rfl rfl)) ?_
  obtain ⟨hn, hN, hL, hC⟩ : n ≤ 6 ∧ x.on.n = n ∧ L.length ≤ 999 ∧ ∀ c ∈ L, c.Ok n := hpre
  refine ei (LAnn.inv { X := Nat, up := fun k => [(3, .s (iA k))], uo := fun k => [], inv := fun k => k ≤ L.length + 1 ∧ (∀ j, j < k → covB x n L j = none), meas := fun k => L.length + 1 - k, x0 := 0 }) ?_
  refine ai (ai (ai (by (repeat' (first | exact rfl | exact trivial | exact (fun _ => rfl) | exact (fun _ _ => rfl) | exact nof | refine ai ?_ ?_))) (ai (by (repeat' (first | with_reducible rfl | exact trivial | refine ai ?_ ?_ | (show (_ : Int) = _; first | with_reducible rfl | exact wr1 (by omega) | (simp only [zz, reduceCtorEq] <;> first | done | rfl | omega) | omega | rfl) | exact rfl | exact (fun _ => rfl) | exact (fun _ _ => rfl) | exact nof))) (by (repeat' (first | with_reducible rfl | exact trivial | refine ai ?_ ?_ | (show (_ : Int) = _; first | with_reducible rfl | exact wr1 (by omega) | (simp only [zz, reduceCtorEq] <;> first | done | rfl | omega) | omega | rfl) | exact rfl | exact (fun _ => rfl) | exact (fun _ _ => rfl) | exact nof))))) rfl) (ai (ai (Nat.zero_le _) ?_) ?_)
  · exact fun j hj => absurd hj (Nat.not_lt_zero _)
  intro (k : Nat) ⟨hk, hno⟩
  refine bcase_p (p := k ≤ L.length) (by first | (with_reducible refine bif_lt ?_; omega) | (with_reducible refine bif_le ?_; omega) | (with_reducible refine bif_eq ?_; omega) | (with_reducible refine bif_ne ?_; omega) | exact b8_eq rfl | exact b8_ne rfl | exact bif_lt (by omega) | exact bif_le (by omega) | exact bif_eq (by omega) | exact bif_ne (by omega) | exact Iff.rfl | (simp only [zz, reduceCtorEq] <;> first | done | omega | exact Iff.rfl) | (simp; done) | (simp; omega)) (fun h1 => ?_) (fun h1 => ?_)
  · obtain ⟨b, hb⟩ : ∃ b, covB x n L k = b := ⟨_, rfl⟩
    have c1 := fnSF_at cov_ok (⟨x, n, L, k⟩ : CoA) ⟨hn, hN, by show L.length ≤ 1000; omega, hC, by show k ≤ 1000; omega⟩ (r := .tup [nsP (b.getD []), bP b.isSome]) (by show PV.tup [nsP ((covB x n L k).getD []), bP (covB x n L k).isSome] = _; rw [hb])
    refine ei _ (ai c1 (ei (()) (ei [] (ai (ai rfl (ai rfl (ai rfl (ai rfl (ai (fun _ => Or.inl rfl) (ai (by first | exact nof | exact (fun _ => ai rfl rfl)) (by first | exact Or.inl rfl | exact Or.inr rfl))))))) (ai (by (repeat' (first | with_reducible rfl | exact trivial | refine ai ?_ ?_ | (show (_ : Int) = _; first | with_reducible rfl | exact wr1 (by omega) | (simp only [zz, reduceCtorEq] <;> first | done | rfl | omega) | omega | rfl) | exact rfl | exact (fun _ => rfl) | exact (fun _ _ => rfl) | exact nof))) (ai trivial (ai (trivial) ?_)))))))
    refine bcase_b (b := b.isSome) (by first | exact rfl | (simp only [zz, reduceCtorEq] <;> first | done | exact rfl)) (fun h2 => ?_) (fun h2 => ?_)
    · cases b with
      | none => cases h2
      | some l =>
        refine ai (ai (fun h => absurd (show false = true from h) (by decide)) ?_) trivial
        show ple _ (nsP (leaL x n L))
        rw [show leaL x n L = l by rw [leaL, find_range (show k < L.length + 1 by omega) hb hno]; rfl]
        any_goals (repeat' (first | with_reducible rfl | exact trivial | refine ai ?_ ?_ | (show (_ : Int) = _; first | with_reducible rfl | exact wr1 (by omega) | (simp only [zz, reduceCtorEq] <;> first | done | rfl | omega) | omega | rfl) | exact rfl | exact (fun _ => rfl) | exact (fun _ _ => rfl) | exact nof))
    · cases b with
      | some l => cases h2
      | none =>
        refine ei (k + 1) (ai (ai rfl rfl) (ai (ai ?_ rfl) (ai (ai (by show k + 1 ≤ L.length + 1; omega) ?_) (by show L.length + 1 - (k + 1) < L.length + 1 - k; omega))))
        any_goals (repeat' (first | with_reducible rfl | exact trivial | refine ai ?_ ?_ | (show (_ : Int) = _; first | with_reducible rfl | exact wr1 (by omega) | (simp only [zz, reduceCtorEq] <;> first | done | rfl | omega) | omega | rfl) | exact rfl | exact (fun _ => rfl) | exact (fun _ _ => rfl) | exact nof))
        exact upto_succ hno hb
  · have hk2 : k = L.length + 1 := by omega
    refine ai (ai (fun h => absurd (show false = true from h) (by decide)) ?_) trivial
    show ple _ (nsP (leaL x n L))
    rw [show leaL x n L = [] by rw [leaL, List.findSome?_eq_none_iff.2 (fun j hj => hno j (by rw [hk2]; exact List.mem_range.1 hj))]; rfl]
    any_goals (repeat' (first | with_reducible rfl | exact trivial | refine ai ?_ ?_ | (show (_ : Int) = _; first | with_reducible rfl | exact wr1 (by omega) | (simp only [zz, reduceCtorEq] <;> first | done | rfl | omega) | omega | rfl) | exact rfl | exact (fun _ => rfl) | exact (fun _ _ => rfl) | exact nof))
theorem lea_good (x : Tk) (n : Nat) {L : List Cu} (hL : L.length ≤ 999) : goodI L (leaL x n L) := by
  unfold leaL
  cases h : (List.range (L.length + 1)).findSome? fun m => covB x n L m with
  | none => exact ⟨Nat.zero_le _, fun i hi => by cases hi⟩
  | some l =>
    obtain ⟨m, hm, e⟩ := List.exists_of_findSome?_eq_some h
    have := covB_good x n L (most := m) (by have := List.mem_range.1 hm; omega)
    rw [e] at this; exact this

def mformR (x : Tk) : List Cu := if wfewE x = 0 then wchL (primesL x.on.n.toNat x) (leaL x x.on.n.toNat (primesL x.on.n.toNat x)) else []
def mformS : Spec := fnSF (fun x : Tk => [kA x]) (fun _ => True) (fun x => .tup [csP (mformR x), iP (wfewE x)])
theorem mform_ok : FnOk Tryz.prog 16 mformS := by
  refine fnOk (Tb := tab) mixed tab_ok Tryz.func16 rfl rfl ?_
  rintro (x : Tk) hpre
  refine ai (ai rfl (ai rfl rfl)) ?_
  by_cases h : wfewE x = 0
  · obtain ⟨h0, n, hn, hx⟩ := few_zero h
    have hnn : x.on.n.toNat = n := by rw [hx]; rfl
    have hlen := primesL_len (show n ≤ 6 by omega) x
    have hgood := lea_good x n (show (primesL n x).length ≤ 999 by omega)
    have hp := fnSF_at wfew_ok x trivial (r := .tup [wP x (primesL n x), iP 0]) (by show PV.tup [wfewP x, iP (wfewE x)] = _; rw [wfewP, if_pos h, h, hnn])
    refine ei _ (ai hp (ei (()) (ei [] (ai (ai rfl (ai rfl (ai rfl (ai rfl (ai (fun _ => Or.inl rfl) (ai (by first | exact nof | exact (fun _ => ai rfl rfl)) (by first | exact Or.inl rfl | exact Or.inr rfl))))))) (ai (by (repeat' (first | with_reducible rfl | exact trivial | refine ai ?_ ?_ | (show (_ : Int) = _; first | with_reducible rfl | exact wr1 (by omega) | (simp only [zz, reduceCtorEq] <;> first | done | rfl | omega) | omega | rfl) | exact rfl | exact (fun _ => rfl) | exact (fun _ _ => rfl) | exact nof))) (ai trivial (ai (trivial) ?_)))))))
    refine ei _ (ai lea_ok (ei ((n, x, primesL n x)) (ei [] (ai (ai rfl (ai rfl (ai rfl (ai rfl (ai (fun _ => Or.inl rfl) (ai (by first | exact nof | exact (fun _ => ai rfl rfl)) (by first | exact Or.inl rfl | exact Or.inr rfl))))))) (ai (by (repeat' (first | with_reducible rfl | exact trivial | refine ai ?_ ?_ | (show (_ : Int) = _; first | with_reducible rfl | exact wr1 (by omega) | (simp only [zz, reduceCtorEq] <;> first | done | rfl | omega) | omega | rfl) | exact rfl | exact (fun _ => rfl) | exact (fun _ _ => rfl) | exact nof))) (ai trivial (ai (⟨by show n ≤ 6; omega, hx, by show (primesL n x).length ≤ 999; omega, fun c hc => ((mem_primes (show n ≤ 6 by omega)).1 hc).1⟩) ?_)))))))
    refine ei _ (ai wch_ok (ei ((x, primesL n x, leaL x n (primesL n x))) (ei [] (ai (ai rfl (ai rfl (ai rfl (ai rfl (ai (fun _ => Or.inl rfl) (ai (by first | exact nof | exact (fun _ => ai rfl rfl)) (by first | exact Or.inl rfl | exact Or.inr rfl))))))) (ai (by (repeat' (first | with_reducible rfl | exact trivial | refine ai ?_ ?_ | (show (_ : Int) = _; first | with_reducible rfl | exact wr1 (by omega) | (simp only [zz, reduceCtorEq] <;> first | done | rfl | omega) | omega | rfl) | exact rfl | exact (fun _ => rfl) | exact (fun _ _ => rfl) | exact nof))) (ai trivial (ai (⟨by show (primesL n x).length ≤ 1000000; omega, Nat.le_trans hgood.1 (by decide), hgood.2⟩) ?_)))))))
    refine ai (ai (fun h => absurd (show false = true from h) (by decide)) ?_) trivial
    show ple _ (.tup [csP (mformR x), iP (wfewE x)])
    rw [mformR, if_pos h, h, hnn]
    any_goals (repeat' (first | with_reducible rfl | exact trivial | refine ai ?_ ?_ | (show (_ : Int) = _; first | with_reducible rfl | exact wr1 (by omega) | (simp only [zz, reduceCtorEq] <;> first | done | rfl | omega) | omega | rfl) | exact rfl | exact (fun _ => rfl) | exact (fun _ _ => rfl) | exact nof))
  · have hp := fnSF_at wfew_ok x trivial (r := .tup [.val (.pointer none), iP (wfewE x)]) (by show PV.tup [wfewP x, iP (wfewE x)] = _; rw [wfewP, if_neg h])
    refine ei _ (ai hp (ei (()) (ei [] (ai (ai rfl (ai rfl (ai rfl (ai rfl (ai (fun _ => Or.inl rfl) (ai (by first | exact nof | exact (fun _ => ai rfl rfl)) (by first | exact Or.inl rfl | exact Or.inr rfl))))))) (ai (by (repeat' (first | with_reducible rfl | exact trivial | refine ai ?_ ?_ | (show (_ : Int) = _; first | with_reducible rfl | exact wr1 (by omega) | (simp only [zz, reduceCtorEq] <;> first | done | rfl | omega) | omega | rfl) | exact rfl | exact (fun _ => rfl) | exact (fun _ _ => rfl) | exact nof))) (ai trivial (ai (trivial) ?_)))))))
    refine bcase_n (p := wfewE x = 0) (by first | (with_reducible refine bif_lt ?_; omega) | (with_reducible refine bif_le ?_; omega) | (with_reducible refine bif_eq ?_; omega) | (with_reducible refine bif_ne ?_; omega) | exact b8_eq rfl | exact b8_ne rfl | exact bif_lt (by omega) | exact bif_le (by omega) | exact bif_eq (by omega) | exact bif_ne (by omega) | exact Iff.rfl | (simp only [zz, reduceCtorEq] <;> first | done | omega | exact Iff.rfl) | (simp; done) | (simp; omega)) (fun h1 => ?_) (fun h1 => ?_)
    · skip
      refine ai (ai (fun h => absurd (show false = true from h) (by decide)) ?_) trivial
      show ple _ (.tup [csP (mformR x), iP (wfewE x)])
      rw [mformR, if_neg h1]
      any_goals (repeat' (first | with_reducible rfl | exact trivial | refine ai ?_ ?_ | (show (_ : Int) = _; first | with_reducible rfl | exact wr1 (by omega) | (simp only [zz, reduceCtorEq] <;> first | done | rfl | omega) | omega | rfl) | exact rfl | exact (fun _ => rfl) | exact (fun _ _ => rfl) | exact nof))
    · exact absurd h1 h

end Go.Sx.Pn
