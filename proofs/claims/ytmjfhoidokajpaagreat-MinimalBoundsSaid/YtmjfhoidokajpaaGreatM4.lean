/- Contracts of chapter 7: the reference's Apart, and that both are the same. -/
import Derived.Test.YtmjfhoidokajpaaGreatM3
set_option maxHeartbeats 1000000
set_option maxRecDepth 4000
set_option linter.unusedSimpArgs false
set_option linter.unusedVariables false
set_option linter.unusedSectionVars false
namespace Go.Sx.Pn
open Go Go.Proofs

def okN (x : Tk) (n : Nat) (L : List Cu) (l : List Nat) (k : Nat) : Bool := onW x n k && rdvB x n L (l ++ [k])
def loopM (x : Tk) (n : Nat) (L : List Cu) : List Nat → List Nat → List Nat → List Nat
  | [], _, best => best
  | k :: rest, l, best => loopM x n L rest l (if okN x n L l k then lonL (loopM x n L rest (l ++ [k]) (l ++ [k])) best else best)
def moreL (x : Tk) (n : Nat) (L : List Cu) (l : List Nat) (i : Nat) : List Nat := loopM x n L ((List.range (2 ^ n)).drop i) l l
theorem loopM_len (x : Tk) (n : Nat) (L : List Cu) (B : Nat) : ∀ (rest l best : List Nat), l.length + rest.length ≤ B → best.length ≤ B → (loopM x n L rest l best).length ≤ B
  | [], _, _, _, h => h
  | k :: rest, l, best, h1, h2 => by
    rw [loopM]
    refine loopM_len x n L B rest l _ (by rw [List.length_cons] at h1; omega) ?_
    split
    · unfold lonL
      split
      · exact loopM_len x n L B rest _ _ (by rw [List.length_append, List.length_cons] at *; simp; omega) (by rw [List.length_append]; rw [List.length_cons] at h1; simp; omega)
      · exact h2
    · exact h2
theorem range_drop {m k : Nat} (hk : k < m) : (List.range m).drop k = k :: (List.range m).drop (k + 1) := by
  rw [List.drop_eq_getElem_cons (by simpa using hk)]; simp
structure MoA where
  x : Tk
  n : Nat
  L : List Cu
  l : List Nat
  i : Nat
def moS (m : Nat) : Spec := { A := MoA, args := fun y => [kA y.x, csA y.L, nsA y.l, iA y.i], objs := fun _ => [], pre := fun y => 2 ^ y.n - y.i ≤ m ∧ y.n ≤ 6 ∧ y.x.on.n = y.n ∧ y.L.length ≤ 1000000 ∧ y.l.length ≤ y.i ∧ y.i ≤ 2 ^ y.n, res := fun y => nsP (moreL y.x y.n y.L y.l y.i), objs' := fun _ => [], fresh := false, ro := 0 }
theorem app_two {l : List Nat} {x n : Nat} (hn : n = l.length) (f : Nat → List PV) (g : Nat → List PV) (hf : ∀ k, k < l.length → f k = [iP (l.getD k 0 : Nat)]) (hg : g 0 = [iP (x : Nat)]) : ∀ k, k < n + 1 → joinF n f g k = [iP ((l ++ [x]).getD k 0 : Nat)] := by
  subst hn
  intro k hk
  by_cases h : k < l.length
  · rw [joinF_lt _ _ h, hf k h]
    simp only [List.getD_eq_getElem?_getD, List.getElem?_append_left h]
  · have e : k = l.length := by omega
    subst e
    rw [joinF_ge _ _ (Nat.le_refl _), Nat.sub_self, hg]
    simp [List.getD_eq_getElem?_getD]
theorem mo_step {m : Nat} (ih : ∀ k, k < m → FnOk Tryz.prog 41 (moS k)) : FnOk Tryz.prog 41 (moS m) := by
  refine fnOk_inl [1000011] ?_
  refine fnOk (Tb := tab) mixed tab_ok Tryz.func41 rfl rfl ?_
  rintro ⟨⟨⟨N, b⟩, fr⟩, n, L, l, i⟩ hpre
  refine ai (ai rfl (ai rfl rfl)) ?_
  obtain ⟨hm, hn, hN, hL, hl, hi⟩ : 2 ^ n - i ≤ m ∧ n ≤ 6 ∧ N = n ∧ L.length ≤ 1000000 ∧ l.length ≤ i ∧ i ≤ 2 ^ n := hpre
  subst hN
  have h64 := pow_le64 hn
  refine ei (LAnn.inv { X := Nat × List Nat, up := fun y => [(10, .s (iA y.1)), (9, .s (nsA y.2))], uo := fun _ => [], inv := fun y => i ≤ y.1 ∧ y.1 ≤ 2 ^ n ∧ y.2.length ≤ 64 ∧ loopM ⟨⟨n, b⟩, fr⟩ n L ((List.range (2 ^ n)).drop y.1) l y.2 = moreL ⟨⟨n, b⟩, fr⟩ n L l i, meas := fun y => 2 ^ n - y.1, x0 := (i, l) }) ?_
  refine ai (ai (ai (by (repeat' (first | exact rfl | exact trivial | exact (fun _ => rfl) | exact (fun _ _ => rfl) | exact nof | refine ai ?_ ?_))) (ai ?_ ?_)) ?_) (ai ?_ ?_)
  · skip
    (repeat' (first | exact rfl | exact trivial | exact (fun _ => rfl) | exact (fun _ _ => rfl) | exact nof | refine ai ?_ ?_))
  · skip
    (repeat' (first | exact rfl | exact trivial | exact (fun _ => rfl) | exact (fun _ _ => rfl) | exact nof | refine ai ?_ ?_))
  · rfl
  · exact ⟨Nat.le_refl _, hi, by show l.length ≤ 64; omega, rfl⟩
  rintro ⟨k, best⟩ ⟨hk, hk2, hbl, hb⟩
  have hk : i ≤ k := hk
  have hk2 : k ≤ 2 ^ n := hk2
  have hbl : best.length ≤ 64 := hbl
  have hb : loopM ⟨⟨n, b⟩, fr⟩ n L ((List.range (2 ^ n)).drop k) l best = moreL ⟨⟨n, b⟩, fr⟩ n L l i := hb
  refine ei _ (ai size_ok (ei (n) (ei [] (ai (ai rfl (ai rfl (ai rfl (ai rfl (ai (fun _ => Or.inl rfl) (ai (by first | exact nof | exact (fun _ => ai rfl rfl)) (by first | exact Or.inl rfl | exact Or.inr rfl))))))) (ai (by (repeat' (first | with_reducible rfl | exact trivial | refine ai ?_ ?_ | (show (_ : Int) = _; first | with_reducible rfl | exact wr1 (by omega) | (simp only [zz, reduceCtorEq] <;> first | done | rfl | omega) | omega | rfl) | exact rfl | exact (fun _ => rfl) | exact (fun _ _ => rfl) | exact nof))) (ai trivial (ai (hn) ?_)))))))
  refine bcase_p (p := k < 2 ^ n) (by first | (with_reducible refine bif_lt ?_; omega) | (with_reducible refine bif_le ?_; omega) | (with_reducible refine bif_eq ?_; omega) | (with_reducible refine bif_ne ?_; omega) | exact b8_eq rfl | exact b8_ne rfl | exact bif_lt (by omega) | exact bif_le (by omega) | exact bif_eq (by omega) | exact bif_ne (by omega) | exact Iff.rfl | (simp only [zz, reduceCtorEq] <;> first | done | omega | exact Iff.rfl) | (simp; done) | (simp; omega)) (fun h1 => ?_) (fun h1 => ?_)
  · rw [range_drop h1, loopM] at hb
    have hon : onW ⟨⟨n, b⟩, fr⟩ n k = b.getLsbD k := by
      show (decide ((0 : Int) ≤ (k : Nat)) && decide (((k : Nat) : Int) < (2 ^ n : Nat)) && b.getLsbD k) = _
      rw [decide_eq_true (show (0 : Int) ≤ (k : Nat) by omega), decide_eq_true (show ((k : Nat) : Int) < (2 ^ n : Nat) by omega)]; rfl
    refine ai (ai (by show 0 + l.length ≤ maxLen; unfold maxLen; omega) (by show (0 + l.length) * 8 ≤ 140737488355328; omega)) ?_
    refine ai (fun k hk => rfl) ?_
    refine ai (ai (by show 0 + l.length + 1 ≤ maxLen; unfold maxLen; omega) (by show (0 + l.length + 1) * 8 ≤ 140737488355328; omega)) ?_
    refine ai (fun k hk => by
      have hk : k < 1 := hk
      obtain rfl : k = 0 := by omega
      rfl) ?_
    refine ei _ (ai at_ok (ei ((⟨n, b⟩, k)) (ei [] (ai (ai rfl (ai rfl (ai rfl (ai rfl (ai (fun _ => Or.inl rfl) (ai (by first | exact nof | exact (fun _ => ai rfl rfl)) (by first | exact Or.inl rfl | exact Or.inr rfl))))))) (ai (by (repeat' (first | with_reducible rfl | exact trivial | refine ai ?_ ?_ | (show (_ : Int) = _; first | with_reducible rfl | exact wr1 (by omega) | (simp only [zz, reduceCtorEq] <;> first | done | rfl | omega) | omega | rfl) | exact rfl | exact (fun _ => rfl) | exact (fun _ _ => rfl) | exact nof))) (ai trivial (ai (trivial) ?_)))))))
    refine bcase_b (b := !b.getLsbD k) (by first | exact rfl | (simp only [zz, reduceCtorEq] <;> first | done | exact rfl)) (fun h2 => ?_) (fun h2 => ?_)
    · have h2 : b.getLsbD k = false := by simpa using h2
      refine ei ((k + 1, best)) (ai (ai rfl rfl) (ai (ai ?_ rfl) (ai ?_ ?_)))
      · skip
        (repeat' (first | with_reducible rfl | exact trivial | refine ai ?_ ?_ | (show (_ : Int) = _; first | with_reducible rfl | exact wr1 (by omega) | (simp only [zz, reduceCtorEq] <;> first | done | rfl | omega) | omega | rfl) | exact rfl | exact (fun _ => rfl) | exact (fun _ _ => rfl) | exact nof))
      · exact ⟨by show i ≤ k + 1; omega, by show k + 1 ≤ 2 ^ n; omega, hbl, by rw [← hb, show okN ⟨⟨n, b⟩, fr⟩ n L l k = false from (by rw [okN, hon, h2]; rfl), if_neg (by decide)]⟩
      · show 2 ^ n - (k + 1) < 2 ^ n - k; omega
    have h2 : b.getLsbD k = true := by simpa using h2
    refine ei _ (ai rdv_ok (ei ((n, ⟨⟨n, b⟩, fr⟩, L, l ++ [k])) (ei [] (ai (ai rfl (ai rfl (ai rfl (ai rfl (ai (by first | exact (fun _ => Or.inl rfl) | exact nof | exact (fun _ => Or.inr (by (repeat' (first | exact rfl | exact trivial | exact (fun _ => rfl) | exact (fun _ _ => rfl) | exact nof | refine ai ?_ ?_))))) (ai (by first | exact nof | exact (fun _ => ai rfl rfl)) (by first | exact Or.inl rfl | exact Or.inr rfl))))))) (ai ?_ (ai (by (repeat' (first | with_reducible rfl | exact trivial | refine ai ?_ ?_ | (show (_ : Int) = _; first | with_reducible rfl | exact wr1 (by omega) | (simp only [zz, reduceCtorEq] <;> first | done | rfl | omega) | omega | rfl) | exact rfl | exact (fun _ => rfl) | exact (fun _ _ => rfl) | exact nof))) (ai (⟨hn, rfl, hL, by show (l ++ [k]).length ≤ 1000000; rw [List.length_append]; show l.length + 1 ≤ 1000000; omega⟩) ?_)))))))
    · skip
      (repeat' (first | with_reducible rfl | exact trivial | refine ai ?_ ?_ | (show (_ : Int) = _; first | with_reducible rfl | exact wr1 (by omega) | (simp only [zz, reduceCtorEq] <;> first | done | rfl | omega) | omega | rfl) | exact rfl | exact (fun _ => rfl) | exact (fun _ _ => rfl) | exact nof))
      · show 0 + l.length + 1 = (l ++ [k]).length
        rw [List.length_append, Nat.zero_add]; rfl
      · exact app_two (Nat.zero_add _) _ _ (fun k hk => rfl) rfl
    refine bcase_b (b := !rdvB ⟨⟨n, b⟩, fr⟩ n L (l ++ [k])) (by first | exact rfl | (simp only [zz, reduceCtorEq] <;> first | done | exact rfl)) (fun h3 => ?_) (fun h3 => ?_)
    · have h3 : rdvB ⟨⟨n, b⟩, fr⟩ n L (l ++ [k]) = false := by simpa using h3
      refine ei ((k + 1, best)) (ai (ai rfl rfl) (ai (ai ?_ rfl) (ai ?_ ?_)))
      · skip
        (repeat' (first | with_reducible rfl | exact trivial | refine ai ?_ ?_ | (show (_ : Int) = _; first | with_reducible rfl | exact wr1 (by omega) | (simp only [zz, reduceCtorEq] <;> first | done | rfl | omega) | omega | rfl) | exact rfl | exact (fun _ => rfl) | exact (fun _ _ => rfl) | exact nof))
      · exact ⟨by show i ≤ k + 1; omega, by show k + 1 ≤ 2 ^ n; omega, hbl, by rw [← hb, show okN ⟨⟨n, b⟩, fr⟩ n L l k = false from (by rw [okN, h3, Bool.and_false]), if_neg (by decide)]⟩
      · show 2 ^ n - (k + 1) < 2 ^ n - k; omega
    have h3 : rdvB ⟨⟨n, b⟩, fr⟩ n L (l ++ [k]) = true := by simpa using h3
    have hok : okN ⟨⟨n, b⟩, fr⟩ n L l k = true := by rw [okN, hon, h2, h3]; rfl
    rw [if_pos hok] at hb
    have hmr : moreL ⟨⟨n, b⟩, fr⟩ n L (l ++ [k]) (k + 1) = loopM ⟨⟨n, b⟩, fr⟩ n L ((List.range (2 ^ n)).drop (k + 1)) (l ++ [k]) (l ++ [k]) := rfl
    have hml : (moreL ⟨⟨n, b⟩, fr⟩ n L (l ++ [k]) (k + 1)).length ≤ 64 := by
      rw [hmr]
      exact loopM_len _ _ _ 64 _ _ _ (by rw [List.length_drop, List.length_range, List.length_append]; show l.length + 1 + (2 ^ n - (k + 1)) ≤ 64; omega) (by rw [List.length_append]; show l.length + 1 ≤ 64; omega)
    refine ei _ (ai (ih (m - 1) (by omega)) (ei ((⟨⟨⟨n, b⟩, fr⟩, n, L, l ++ [k], k + 1⟩ : MoA)) (ei [] (ai (ai rfl (ai rfl (ai rfl (ai rfl (ai (by first | exact (fun _ => Or.inl rfl) | exact nof | exact (fun _ => Or.inr (by (repeat' (first | exact rfl | exact trivial | exact (fun _ => rfl) | exact (fun _ _ => rfl) | exact nof | refine ai ?_ ?_))))) (ai (by first | exact nof | exact (fun _ => ai rfl rfl)) (by first | exact Or.inl rfl | exact Or.inr rfl))))))) (ai ?_ (ai (by (repeat' (first | with_reducible rfl | exact trivial | refine ai ?_ ?_ | (show (_ : Int) = _; first | with_reducible rfl | exact wr1 (by omega) | (simp only [zz, reduceCtorEq] <;> first | done | rfl | omega) | omega | rfl) | exact rfl | exact (fun _ => rfl) | exact (fun _ _ => rfl) | exact nof))) (ai ((by show 2 ^ n - (k + 1) ≤ m - 1 ∧ n ≤ 6 ∧ (n : Int) = n ∧ L.length ≤ 1000000 ∧ (l ++ [k]).length ≤ k + 1 ∧ k + 1 ≤ 2 ^ n; rw [List.length_append]; exact ⟨by omega, hn, rfl, hL, by show l.length + 1 ≤ k + 1; omega, h1⟩)) ?_)))))))
    · skip
      (repeat' (first | with_reducible rfl | exact trivial | refine ai ?_ ?_ | (show (_ : Int) = _; first | with_reducible rfl | exact wr1 (by omega) | (simp only [zz, reduceCtorEq] <;> first | done | rfl | omega) | omega | rfl) | exact rfl | exact (fun _ => rfl) | exact (fun _ _ => rfl) | exact nof))
      · show 0 + l.length + 1 = (l ++ [k]).length
        rw [List.length_append, Nat.zero_add]; rfl
      · exact app_two (Nat.zero_add _) _ _ (fun k hk => rfl) rfl
    rw [← hmr] at hb
    refine bcase_p (p := best.length < (moreL ⟨⟨n, b⟩, fr⟩ n L (l ++ [k]) (k + 1)).length) (by first | (with_reducible refine bif_lt ?_; omega) | (with_reducible refine bif_le ?_; omega) | (with_reducible refine bif_eq ?_; omega) | (with_reducible refine bif_ne ?_; omega) | exact b8_eq rfl | exact b8_ne rfl | exact bif_lt (by omega) | exact bif_le (by omega) | exact bif_eq (by omega) | exact bif_ne (by omega) | exact Iff.rfl | (simp only [zz, reduceCtorEq] <;> first | done | omega | exact Iff.rfl) | (simp; done) | (simp; omega)) (fun h4 => ?_) (fun h4 => ?_)
    · skip
      refine ei ((k + 1, moreL ⟨⟨n, b⟩, fr⟩ n L (l ++ [k]) (k + 1))) (ai (ai rfl rfl) (ai (ai ?_ rfl) (ai ?_ ?_)))
      · skip
        (repeat' (first | with_reducible rfl | exact trivial | refine ai ?_ ?_ | (show (_ : Int) = _; first | with_reducible rfl | exact wr1 (by omega) | (simp only [zz, reduceCtorEq] <;> first | done | rfl | omega) | omega | rfl) | exact rfl | exact (fun _ => rfl) | exact (fun _ _ => rfl) | exact nof))
      · exact ⟨by show i ≤ k + 1; omega, by show k + 1 ≤ 2 ^ n; omega, hml, by rw [← hb, lonL, if_pos h4]⟩
      · show 2 ^ n - (k + 1) < 2 ^ n - k; omega
    · skip
      refine ei ((k + 1, best)) (ai (ai rfl rfl) (ai (ai ?_ rfl) (ai ?_ ?_)))
      · skip
        (repeat' (first | with_reducible rfl | exact trivial | refine ai ?_ ?_ | (show (_ : Int) = _; first | with_reducible rfl | exact wr1 (by omega) | (simp only [zz, reduceCtorEq] <;> first | done | rfl | omega) | omega | rfl) | exact rfl | exact (fun _ => rfl) | exact (fun _ _ => rfl) | exact nof))
      · exact ⟨by show i ≤ k + 1; omega, by show k + 1 ≤ 2 ^ n; omega, hbl, by rw [← hb, lonL, if_neg h4]⟩
      · show 2 ^ n - (k + 1) < 2 ^ n - k; omega
  · obtain rfl : k = 2 ^ n := by omega
    rw [List.drop_eq_nil_of_le (by rw [List.length_range]; exact Nat.le_refl _), loopM] at hb
    refine ai (ai (fun h => absurd (show false = true from h) (by decide)) ?_) trivial
    show ple _ (nsP (moreL ⟨⟨n, b⟩, fr⟩ n L l i))
    rw [← hb]
    any_goals (repeat' (first | with_reducible rfl | exact trivial | refine ai ?_ ?_ | (show (_ : Int) = _; first | with_reducible rfl | exact wr1 (by omega) | (simp only [zz, reduceCtorEq] <;> first | done | rfl | omega) | omega | rfl) | exact rfl | exact (fun _ => rfl) | exact (fun _ _ => rfl) | exact nof))
theorem mo_ok (m : Nat) : FnOk Tryz.prog 41 (moS m) := Nat.strongRecOn m fun _ ih => mo_step ih

/-- the reference's answer -/
def rapR (x : Tk) : List Nat := if chkK x = 0 then moreL x x.on.n.toNat (primesL x.on.n.toNat x) [] 0 else []
def rApS : Spec := fnSF (fun x : Tk => [kA x]) (fun _ => True) (fun x => .tup [nsP (rapR x), iP (chkK x)])
theorem rAp_ok : FnOk Tryz.prog 14 rApS := by
  refine fnOk (Tb := tab) mixed tab_ok Tryz.func14 rfl rfl ?_
  rintro (x : Tk) hpre
  refine ai (ai rfl (ai rfl rfl)) ?_
  refine ei _ (ai rCheckTask_ok (ei (x) (ei [] (ai (ai rfl (ai rfl (ai rfl (ai rfl (ai (fun _ => Or.inl rfl) (ai (by first | exact nof | exact (fun _ => ai rfl rfl)) (by first | exact Or.inl rfl | exact Or.inr rfl))))))) (ai (by (repeat' (first | with_reducible rfl | exact trivial | refine ai ?_ ?_ | (show (_ : Int) = _; first | with_reducible rfl | exact wr1 (by omega) | (simp only [zz, reduceCtorEq] <;> first | done | rfl | omega) | omega | rfl) | exact rfl | exact (fun _ => rfl) | exact (fun _ _ => rfl) | exact nof))) (ai trivial (ai (trivial) ?_)))))))
  refine bcase_n (p := chkK x = 0) (by first | (with_reducible refine bif_lt ?_; omega) | (with_reducible refine bif_le ?_; omega) | (with_reducible refine bif_eq ?_; omega) | (with_reducible refine bif_ne ?_; omega) | exact b8_eq rfl | exact b8_ne rfl | exact bif_lt (by omega) | exact bif_le (by omega) | exact bif_eq (by omega) | exact bif_ne (by omega) | exact Iff.rfl | (simp only [zz, reduceCtorEq] <;> first | done | omega | exact Iff.rfl) | (simp; done) | (simp; omega)) (fun h1 => ?_) (fun h1 => ?_)
  · skip
    refine ai (ai (fun h => absurd (show false = true from h) (by decide)) ?_) trivial
    show ple _ (.tup [nsP (rapR x), iP (chkK x)])
    rw [rapR, if_neg h1]
    any_goals (repeat' (first | with_reducible rfl | exact trivial | refine ai ?_ ?_ | (show (_ : Int) = _; first | with_reducible rfl | exact wr1 (by omega) | (simp only [zz, reduceCtorEq] <;> first | done | rfl | omega) | omega | rfl) | exact rfl | exact (fun _ => rfl) | exact (fun _ _ => rfl) | exact nof))
  obtain ⟨n, hn, hx, _⟩ := chkT_zero (chkK_zero h1).1
  have hnn : x.on.n.toNat = n := by rw [hx]; rfl
  have hlen := primesL_len hn x
  refine ei (.seq [0, 1, 2, 3, 4, 5]) (ai (by kernel_rfl) ?_)
  refine ei _ (ai all_ok' (ei ((n, x)) (ei [] (ai (ai rfl (ai rfl (ai rfl (ai rfl (ai (fun _ => Or.inl rfl) (ai (by first | exact nof | exact (fun _ => ai rfl rfl)) (by first | exact Or.inl rfl | exact Or.inr rfl))))))) (ai (by (repeat' (first | with_reducible rfl | exact trivial | refine ai ?_ ?_ | (show (_ : Int) = _; first | with_reducible rfl | exact wr1 (by omega) | (simp only [zz, reduceCtorEq] <;> first | done | rfl | omega) | omega | rfl) | exact rfl | exact (fun _ => rfl) | exact (fun _ _ => rfl) | exact nof))) (ai trivial (ai (⟨hn, hx⟩) ?_)))))))
  refine ei _ (ai (mo_ok (2 ^ n)) (ei ((⟨x, n, primesL n x, [], 0⟩ : MoA)) (ei [] (ai (ai rfl (ai rfl (ai rfl (ai rfl (ai (fun _ => Or.inl rfl) (ai (by first | exact nof | exact (fun _ => ai rfl rfl)) (by first | exact Or.inl rfl | exact Or.inr rfl))))))) (ai (by (repeat' (first | with_reducible rfl | exact trivial | refine ai ?_ ?_ | (show (_ : Int) = _; first | with_reducible rfl | exact wr1 (by omega) | (simp only [zz, reduceCtorEq] <;> first | done | rfl | omega) | omega | rfl) | exact rfl | exact (fun _ => rfl) | exact (fun _ _ => rfl) | exact nof))) (ai trivial (ai (⟨Nat.sub_le _ _, hn, hx, by show (primesL n x).length ≤ 1000000; omega, Nat.le_refl _, Nat.zero_le _⟩) ?_)))))))
  refine ai (ai (fun h => absurd (show false = true from h) (by decide)) ?_) trivial
  show ple _ (.tup [nsP (rapR x), iP (chkK x)])
  rw [rapR, if_pos h1, h1, hnn]
  any_goals (repeat' (first | with_reducible rfl | exact trivial | refine ai ?_ ?_ | (show (_ : Int) = _; first | with_reducible rfl | exact wr1 (by omega) | (simp only [zz, reduceCtorEq] <;> first | done | rfl | omega) | omega | rfl) | exact rfl | exact (fun _ => rfl) | exact (fun _ _ => rfl) | exact nof))

/- both are the same -/
theorem lonL_assoc (m c b : List Nat) : lonL m (lonL c b) = lonL (lonL m c) b := by
  unfold lonL
  by_cases h1 : b.length < c.length <;> by_cases h2 : c.length < m.length <;> by_cases h3 : b.length < m.length <;> simp [h1, h2, h3] <;> omega
/-- a list of points that are apart, all below a point -/
theorem rdv_snoc (x : Tk) (n : Nat) (L : List Cu) (l : List Nat) (k : Nat) (hl : rdvB x n L l = true) (hb : ∀ q ∈ l, q < k) : okN x n L l k = (onW x n k && dvB L l k) := by
  have hget : ∀ i, i < l.length → (l ++ [k]).getD i 0 = l.getD i 0 := fun i hi => by
    simp only [List.getD_eq_getElem?_getD, List.getElem?_append_left hi]
  have hlast : (l ++ [k]).getD l.length 0 = k := by simp [List.getD_eq_getElem?_getD]
  have hmem : ∀ i, i < l.length → l.getD i 0 ∈ l := fun i hi => by
    rw [List.getD_eq_getElem?_getD, List.getElem?_eq_getElem hi]; exact List.getElem_mem hi
  have hsame : ∀ i, i < l.length → rdI x n L (l ++ [k]) i = rdI x n L l i := fun i hi => by
    unfold rdI
    rw [hget i hi]
    congr 1
    rw [Bool.eq_iff_iff, List.all_eq_true, List.all_eq_true]
    constructor
    · intro h t ht
      have := h t ht
      rwa [hget t (by have := List.mem_range.1 ht; omega)] at this
    · intro h t ht
      have := h t ht
      rwa [hget t (by have := List.mem_range.1 ht; omega)]
  have hall : rdvB x n L (l ++ [k]) = rdI x n L (l ++ [k]) l.length := by
    unfold rdvB at hl ⊢
    rw [List.length_append]
    show (List.range (l.length + 1)).all _ = _
    rw [List.range_succ, List.all_append]
    rw [show (List.range l.length).all (rdI x n L (l ++ [k])) = true from all_yes fun i hi => by
      rw [hsame i hi]; exact List.all_eq_true.1 hl i (List.mem_range.2 hi)]
    simp
  have hdv : ((List.range l.length).all fun t => rdP L ((l ++ [k]).getD l.length 0) ((l ++ [k]).getD t 0)) = dvB L l k := by
    rw [hlast]
    unfold dvB dvQ
    rw [Bool.eq_iff_iff, List.all_eq_true, Bool.not_eq_true', Bool.eq_false_iff]
    constructor
    · intro h ha
      obtain ⟨c, hc, h1⟩ := List.any_eq_true.1 ha
      simp only [Bool.and_eq_true] at h1
      obtain ⟨q, hq, h2⟩ := List.any_eq_true.1 h1.2
      obtain ⟨t, ht⟩ := List.getElem?_of_mem hq
      have htl := (List.getElem?_eq_some_iff.1 ht).1
      have h3 := h t (List.mem_range.2 htl)
      rw [hget t htl, List.getD_eq_getElem?_getD, ht] at h3
      simp only [rdP, Bool.and_eq_true, List.all_eq_true] at h3
      have h4 := h3.2 c hc
      rw [show (some q).getD 0 = q from rfl, h1.1, h2] at h4; cases h4
    · intro h t ht
      have htl := List.mem_range.1 ht
      rw [hget t htl]
      have hq := hmem t htl
      unfold rdP
      rw [decide_eq_true (show l.getD t 0 ≠ k from fun e => by have := hb _ hq; omega), Bool.true_and, List.all_eq_true]
      intro c hc
      cases h1 : hasC c (k : Int) <;> cases h2 : hasC c ((l.getD t 0 : Nat) : Int) <;> try rfl
      exact absurd (List.any_eq_true.2 ⟨c, hc, by rw [h1, Bool.true_and]; exact List.any_eq_true.2 ⟨_, hq, h2⟩⟩) h
  unfold okN
  rw [hall]
  unfold rdI
  rw [hlast] at *
  rw [hdv]
  cases onW x n k <;> simp
theorem loop_same (x : Tk) (n : Nat) (L : List Cu) (f : Nat → Nat) (hf : ∀ p, f p = 0) : ∀ (rest l c b : List Nat), rest.Pairwise (· < ·) → rdvB x n L l = true → (∀ q ∈ l, ∀ r ∈ rest, q < r) →
    loopG L (rest.filter (opQ x n f)) l (lonL c b) = lonL (loopM x n L rest l c) b
  | [], l, c, b, _, _, _ => rfl
  | k :: rest, l, c, b, hp, hl, hq => by
    obtain ⟨hp1, hp2⟩ := List.pairwise_cons.1 hp
    have hq2 : ∀ q ∈ l, ∀ r ∈ rest, q < r := fun q hql r hr => hq q hql r (List.mem_cons_of_mem _ hr)
    have hs := rdv_snoc x n L l k hl fun q hql => hq q hql k (List.mem_cons_self ..)
    have hop : opQ x n f k = onW x n k := by unfold opQ; rw [hf k]; simp
    rw [loopM, hs]
    cases hon : onW x n k with
    | false =>
      rw [List.filter_cons, hop, hon]
      simp only [Bool.false_and, if_neg (show ¬ (false = true) by decide)]
      exact loop_same x n L f hf rest l c b hp2 hl hq2
    | true =>
      rw [List.filter_cons, hop, hon]
      simp only [Bool.true_and, if_true]
      rw [loopG]
      cases hd : dvB L l k with
      | false =>
        simp only [if_neg (show ¬ (false = true) by decide)]
        exact loop_same x n L f hf rest l c b hp2 hl hq2
      | true =>
        simp only [if_true]
        have hok : okN x n L l k = true := by rw [hs, hon, hd]; rfl
        have hl2 : rdvB x n L (l ++ [k]) = true := by
          unfold okN at hok; rw [hon] at hok; simpa using hok
        have hq3 : ∀ q ∈ l ++ [k], ∀ r ∈ rest, q < r := fun q hqm r hr => by
          rcases List.mem_append.1 hqm with h | h
          · exact hq2 q h r hr
          · obtain rfl : q = k := by simpa using h
            exact hp1 r hr
        rw [loop_same x n L f hf rest (l ++ [k]) (l ++ [k]) (lonL c b) hp2 hl2 hq3, lonL_assoc]
        exact loop_same x n L f hf rest l _ b hp2 hl hq2
theorem apart_same {x : Tk} (h : wfewE x = 0) : apR x = rapR x := by
  obtain ⟨h0, n, hn, hx⟩ := few_zero h
  rw [apR, if_pos h, rapR, if_pos h0]
  have := loop_same x x.on.n.toNat (primesL x.on.n.toNat x) (fun _ => 0) (fun _ => rfl) (List.range (2 ^ x.on.n.toNat)) [] [] [] List.pairwise_lt_range rfl (fun q hq => by cases hq)
  have e : lonL [] [] = [] := rfl
  rw [growL, moreL]
  rw [show lonL ([] : List Nat) [] = [] from rfl] at this ⊢
  rw [opL, opTo, List.drop_zero, this, lonL]
  split
  · rfl
  · rename_i h
    exact (List.eq_nil_of_length_eq_zero (by simpa using h)).symm

end Go.Sx.Pn
