/- Contracts of chapter 8: primes, mending. -/
import Derived.Test.YtdkhdkldjpaadaaGreatP49
import Derived.Test.YtdkhdkldjpaadaaGreatPG
set_option maxHeartbeats 1000000
set_option maxRecDepth 4000
set_option linter.unusedSimpArgs false
set_option linter.unusedVariables false
namespace Go.Sx.Pn
open Go Go.Proofs

/-- a contract at one argument -/
theorem spec_at {P : Program} {f : Nat} {S : Spec} (h : FnOk P f S) (a : S.A) (hp : S.pre a) {r : PV} (e : S.res a = r) :
    FnOk P f { A := Unit, args := fun _ => S.args a, objs := fun _ => S.objs a, pre := fun _ => True, res := fun _ => r, objs' := fun _ => S.objs' a, fresh := S.fresh, ro := S.ro, gl := S.gl } := by
  subst e
  exact ⟨h.1, fun _ _ => h.2 a hp⟩

def tk (n : Nat) (b : U) : Tk := ⟨⟨n, b⟩, ⟨n, 0#64⟩⟩
def prL (n : Nat) (b : U) : List Cu := primesL n (tk n b)
theorem chkK_tk {n : Nat} (hn : n ≤ 6) {b : U} (h : chkT ⟨n, b⟩ = 0) : chkK (tk n b) = 0 := by
  have h0 : chkT ⟨n, 0#64⟩ = 0 := chkT_of hn fun k _ _ => by simp
  simp [chkK, tk, h, h0]
theorem chk_tab {n : Nat} (hn : n ≤ 6) (l : List Cu) : chkT ⟨n, tabU l (2 ^ n)⟩ = 0 := chkT_of hn fun k hk h64 => by
  rw [tab_bit l _ (pow_le64 hn)]; simp; omega
def hprS : Spec := fnS (fun x : Nat × U => [tA ⟨x.1, x.2⟩]) (fun x => x.1 ≤ 6 ∧ chkT ⟨x.1, x.2⟩ = 0) (fun x => .tup [csP (prL x.1 x.2), iP 0])
theorem hpr_ok : FnOk Tryz.prog 44 hprS := by
  refine fnOk (Tb := tab) mixed tab_ok Tryz.func44 rfl rfl ?_
  rintro ⟨n, b⟩ hpre
  refine ai (ai rfl (ai rfl rfl)) ?_
  obtain ⟨hn, hb⟩ : n ≤ 6 ∧ chkT ⟨n, b⟩ = 0 := hpre
  obtain ⟨z, hz⟩ : ∃ z : Int, z = 0 := ⟨0, rfl⟩
  refine ei _ (ai (const_at hz hn) (ei (()) (ei [] (ai (ai rfl (ai rfl (ai rfl (ai rfl (ai (fun _ => Or.inl rfl) (ai (by first | exact nof | exact (fun _ => ai rfl rfl)) (by first | exact Or.inl rfl | exact Or.inr rfl))))))) (ai (by (repeat' (first | with_reducible rfl | exact trivial | refine ai ?_ ?_ | (show (_ : Int) = _; first | with_reducible rfl | exact wr1 (by omega) | (simp only [zz, reduceCtorEq] <;> first | done | rfl | omega) | omega | rfl) | exact rfl | exact (fun _ => rfl) | exact (fun _ _ => rfl) | exact nof))) (ai trivial (ai (trivial) ?_)))))))
  refine bcase_b (b := false) (by (first | (simp only [beq_self_eq_true, Bool.and_true, Bool.and_self]; done) | (simp only [hz, Int.add_zero, wrap_z]; done) | (simp only [hz, Int.add_zero, wrap_z]; rfl) | decide | rfl | decide | (simp; done))) (fun h => absurd h (by decide)) (fun _ => ?_)
  refine ei _ (ai (primes_at hz (chkK_tk hn hb) (x := tk n b) rfl) (ei (()) (ei [] (ai (ai rfl (ai rfl (ai rfl (ai rfl (ai (fun _ => Or.inl rfl) (ai (by first | exact nof | exact (fun _ => ai rfl rfl)) (by first | exact Or.inl rfl | exact Or.inr rfl))))))) (ai (by (repeat' (first | with_reducible rfl | exact trivial | refine ai ?_ ?_ | (show (_ : Int) = _; first | with_reducible rfl | exact wr1 (by omega) | (simp only [zz, reduceCtorEq] <;> first | done | rfl | omega) | omega | rfl) | exact rfl | exact (fun _ => rfl) | exact (fun _ _ => rfl) | exact nof))) (ai trivial (ai (trivial) ?_)))))))
  refine ai (ai (fun _ => (by (repeat' (first | exact rfl | exact trivial | exact (fun _ => rfl) | exact (fun _ _ => rfl) | exact nof | refine ai ?_ ?_)))) ?_) trivial
  show ple _ (.tup [csP (prL n b), iP 0])
  rw [← hz]
  any_goals (repeat' (first | with_reducible rfl | exact trivial | refine ai ?_ ?_ | (show (_ : Int) = _; first | with_reducible rfl | exact wr1 (by omega) | (simp only [zz, reduceCtorEq] <;> first | done | rfl | omega) | omega | rfl) | exact rfl | exact (fun _ => rfl) | exact (fun _ _ => rfl) | exact nof))
def rprS : Spec := fnS (fun x : Nat × U => [tA ⟨x.1, x.2⟩]) (fun x => x.1 ≤ 6) (fun x => csP (prL x.1 x.2))
theorem rpr_ok : FnOk Tryz.prog 36 rprS := by
  refine fnOk (Tb := tab) mixed tab_ok Tryz.func36 rfl rfl ?_
  rintro ⟨n, b⟩ hpre
  refine ai (ai rfl (ai rfl rfl)) ?_
  refine ei _ (ai all_ok' (ei ((n, tk n b)) (ei [] (ai (ai rfl (ai rfl (ai rfl (ai rfl (ai (fun _ => Or.inl rfl) (ai (by first | exact nof | exact (fun _ => ai rfl rfl)) (by first | exact Or.inl rfl | exact Or.inr rfl))))))) (ai (by (repeat' (first | with_reducible rfl | exact trivial | refine ai ?_ ?_ | (show (_ : Int) = _; first | with_reducible rfl | exact wr1 (by omega) | (simp only [zz, reduceCtorEq] <;> first | done | rfl | omega) | omega | rfl) | exact rfl | exact (fun _ => rfl) | exact (fun _ _ => rfl) | exact nof))) (ai trivial (ai (⟨hpre, rfl⟩) ?_)))))))
  refine ai (ai (fun _ => (by (repeat' (first | exact rfl | exact trivial | exact (fun _ => rfl) | exact (fun _ _ => rfl) | exact nof | refine ai ?_ ?_)))) ?_) trivial
  any_goals (repeat' (first | with_reducible rfl | exact trivial | refine ai ?_ ?_ | (show (_ : Int) = _; first | with_reducible rfl | exact wr1 (by omega) | (simp only [zz, reduceCtorEq] <;> first | done | rfl | omega) | omega | rfl) | exact rfl | exact (fun _ => rfl) | exact (fun _ _ => rfl) | exact nof))
theorem prL_len {n : Nat} (hn : n ≤ 6) (b : U) : (prL n b).length ≤ 729 := primesL_len hn _

theorem one_seq (c : Cu) (k : Nat) (hk : k < 1) : elemsAt 2 [.val (.int .u64 c.care.toNat), .val (.int .u64 c.value.toNat)] k = (([c] : List Cu).getD k ⟨0, 0⟩).cells := by
  obtain rfl : k = 0 := by omega
  rfl
theorem hmend1_ok (i j : Nat) : FnOk Tryz.prog 92 (qS2 83 i j (fun c => togC [c] (i, j))) := by
  refine fnOk (Tb := tab) mixed tab_ok Tryz.func92 rfl rfl ?_
  rintro (c : Cu) hpre
  refine ai (ai rfl (ai rfl rfl)) ?_
  refine ei _ (ai htog_ok (ei (([c], (i, j))) (ei [] (ai (ai rfl (ai rfl (ai rfl (ai rfl (ai (fun _ => Or.inl rfl) (ai (by first | exact nof | exact (fun _ => ai rfl rfl)) (by first | exact Or.inl rfl | exact Or.inr rfl))))))) (ai ?_ (ai trivial (ai ?_ ?_)))))))
  · skip
    (repeat' (first | exact rfl | exact trivial | exact (fun _ => rfl) | exact (fun _ _ => rfl) | exact nof | refine ai ?_ ?_))
    exact one_seq c
  · show 1 ≤ 1000000; omega
  refine ai (ai (fun _ => (by (repeat' (first | exact rfl | exact trivial | exact (fun _ => rfl) | exact (fun _ _ => rfl) | exact nof | refine ai ?_ ?_)))) ?_) trivial
  any_goals (repeat' (first | with_reducible rfl | exact trivial | refine ai ?_ ?_ | (show (_ : Int) = _; first | with_reducible rfl | exact wr1 (by omega) | (simp only [zz, reduceCtorEq] <;> first | done | rfl | omega) | omega | rfl) | exact rfl | exact (fun _ => rfl) | exact (fun _ _ => rfl) | exact nof))

def mendL (n : Nat) (l : List Cu) : List Cu := mendTo (prL n (tabU l (2 ^ n))) (badL n l) (badL n l).length
def menL (n : Int) (l : List Cu) : List Cu := if chkN n l = 0 then mendL n.toNat l else []
def mendSp : Spec := fnS (fun x : Int × List Cu => [iA x.1, csA x.2]) (fun x => x.2.length ≤ 1000000) (fun x => .tup [csP (menL x.1 x.2), iP (chkN x.1 x.2)])
theorem bad_len {n : Nat} (hn : n ≤ 6) (l : List Cu) : (badL n l).length ≤ 400 := by
  have h1 := List.length_filter_le (fun p => !togC l p) (pairsL n (tabU l (2 ^ n)))
  have h2 := pairsTo_len n (tabU l (2 ^ n)) (2 ^ n)
  have h3 : 2 ^ n * n ≤ 64 * 6 := Nat.mul_le_mul (pow_le64 hn) hn
  show (List.filter _ _).length ≤ 400
  have h4 : (pairsL n (tabU l (2 ^ n))).length ≤ 2 ^ n * n := h2
  omega
/-- each hazard is in a prime implicant -/
theorem bad_prime {n : Nat} (hn : n ≤ 6) (l : List Cu) : ∀ p ∈ badL n l, (prL n (tabU l (2 ^ n))).any (fun c => togC [c] p) = true := by
  intro p hp
  unfold badL at hp
  obtain ⟨a, i, ha, hi, h0, h1, h2, rfl⟩ := mem_pairs.1 (List.mem_filter.1 hp).1
  rw [up_flip h0] at h2 ⊢
  obtain ⟨c, hc, e1, e2⟩ := pair_prime hn (x := tk n (tabU l (2 ^ n))) ha hi h1 h2
  exact List.any_eq_true.2 ⟨c, hc, by rw [tog_one, e1, e2]; rfl⟩
theorem getP_mem {l : List (Nat × Nat)} {k : Nat} (hk : k < l.length) : l.getD k (0, 0) ∈ l := by rw [getP hk]; exact List.getElem_mem _
theorem firstQ_some {P : List Cu} {q : Cu → Bool} (h : P.any q = true) : ∃ i : Nat, firstQ q P = (i : Int) ∧ i = P.findIdx q ∧ i < P.length := by
  refine ⟨P.findIdx q, by rw [firstQ, if_pos h], rfl, List.findIdx_lt_length.2 (by obtain ⟨c, hc, h⟩ := List.any_eq_true.1 h; exact ⟨c, hc, h⟩)⟩

theorem mend_ok : FnOk Tryz.prog 40 mendSp := by
  refine fnOk (Tb := tab) mixed tab_ok Tryz.func40 rfl rfl ?_
  rintro ⟨n, l⟩ hpre
  refine ai (ai rfl (ai rfl rfl)) ?_
  have hl : l.length ≤ 1000000 := hpre
  refine ei _ (ai chkN_ok (ei ((n, l)) (ei [] (ai (ai rfl (ai rfl (ai rfl (ai rfl (ai (fun _ => Or.inl rfl) (ai (by first | exact nof | exact (fun _ => ai rfl rfl)) (by first | exact Or.inl rfl | exact Or.inr rfl))))))) (ai (by (repeat' (first | with_reducible rfl | exact trivial | refine ai ?_ ?_ | (show (_ : Int) = _; first | with_reducible rfl | exact wr1 (by omega) | (simp only [zz, reduceCtorEq] <;> first | done | rfl | omega) | omega | rfl) | exact rfl | exact (fun _ => rfl) | exact (fun _ _ => rfl) | exact nof))) (ai trivial (ai (hpre) ?_)))))))
  refine bcase_n (p := chkN n l = 0) (by first | (with_reducible refine bif_lt ?_; omega) | (with_reducible refine bif_le ?_; omega) | (with_reducible refine bif_eq ?_; omega) | (with_reducible refine bif_ne ?_; omega) | exact b8_eq rfl | exact b8_ne rfl | exact bif_lt (by omega) | exact bif_le (by omega) | exact bif_eq (by omega) | exact bif_ne (by omega) | exact Iff.rfl | (simp only [zz, reduceCtorEq] <;> first | done | omega | exact Iff.rfl) | (simp; done) | (simp; omega)) (fun h1 => ?_) (fun h1 => ?_)
  · skip
    refine ai (ai (fun _ => (by (repeat' (first | exact rfl | exact trivial | exact (fun _ => rfl) | exact (fun _ _ => rfl) | exact nof | refine ai ?_ ?_)))) ?_) trivial
    show ple _ (.tup [csP (menL n l), iP (chkN n l)])
    rw [show menL n l = [] by simp [menL, h1]]
    any_goals (repeat' (first | with_reducible rfl | exact trivial | refine ai ?_ ?_ | (show (_ : Int) = _; first | with_reducible rfl | exact wr1 (by omega) | (simp only [zz, reduceCtorEq] <;> first | done | rfl | omega) | omega | rfl) | exact rfl | exact (fun _ => rfl) | exact (fun _ _ => rfl) | exact nof))
  obtain ⟨n, hn, rfl, _, _⟩ := chkN_zero h1
  obtain ⟨z, hz⟩ : ∃ z : Int, z = 0 := ⟨0, rfl⟩
  have hb := chk_tab hn l
  refine ei _ (ai htable_ok (ei ((n, l)) (ei [] (ai (ai rfl (ai rfl (ai rfl (ai rfl (ai (fun _ => Or.inl rfl) (ai (by first | exact nof | exact (fun _ => ai rfl rfl)) (by first | exact Or.inl rfl | exact Or.inr rfl))))))) (ai (by (repeat' (first | with_reducible rfl | exact trivial | refine ai ?_ ?_ | (show (_ : Int) = _; first | with_reducible rfl | exact wr1 (by omega) | (simp only [zz, reduceCtorEq] <;> first | done | rfl | omega) | omega | rfl) | exact rfl | exact (fun _ => rfl) | exact (fun _ _ => rfl) | exact nof))) (ai trivial (ai (⟨hn, hpre⟩) ?_)))))))
  have hp := fnS_at hpr_ok (n, tabU l (2 ^ n)) ⟨hn, hb⟩ (r := .tup [csP (prL n (tabU l (2 ^ n))), iP z]) (by rw [hz])
  refine ei _ (ai hp (ei (()) (ei [] (ai (ai rfl (ai rfl (ai rfl (ai rfl (ai (fun _ => Or.inl rfl) (ai (by first | exact nof | exact (fun _ => ai rfl rfl)) (by first | exact Or.inl rfl | exact Or.inr rfl))))))) (ai (by (repeat' (first | with_reducible rfl | exact trivial | refine ai ?_ ?_ | (show (_ : Int) = _; first | with_reducible rfl | exact wr1 (by omega) | (simp only [zz, reduceCtorEq] <;> first | done | rfl | omega) | omega | rfl) | exact rfl | exact (fun _ => rfl) | exact (fun _ _ => rfl) | exact nof))) (ai trivial (ai (trivial) ?_)))))))
  refine bcase_b (b := false) (by (first | (simp only [beq_self_eq_true, Bool.and_true, Bool.and_self]; done) | (simp only [hz, Int.add_zero, wrap_z]; done) | (simp only [hz, Int.add_zero, wrap_z]; rfl) | decide | rfl | decide | (simp; done))) (fun h => absurd h (by decide)) (fun _ => ?_)
  refine ei _ (ai hbad_ok (ei ((n, l)) (ei [] (ai (ai rfl (ai rfl (ai rfl (ai rfl (ai (fun _ => Or.inl rfl) (ai (by first | exact nof | exact (fun _ => ai rfl rfl)) (by first | exact Or.inl rfl | exact Or.inr rfl))))))) (ai (by (repeat' (first | with_reducible rfl | exact trivial | refine ai ?_ ?_ | (show (_ : Int) = _; first | with_reducible rfl | exact wr1 (by omega) | (simp only [zz, reduceCtorEq] <;> first | done | rfl | omega) | omega | rfl) | exact rfl | exact (fun _ => rfl) | exact (fun _ _ => rfl) | exact nof))) (ai trivial (ai (⟨hn, hpre⟩) ?_)))))))
  obtain ⟨P, hP⟩ : ∃ P, prL n (tabU l (2 ^ n)) = P := ⟨_, rfl⟩
  have hbl := bad_len hn l
  have hpl := prL_len hn (tabU l (2 ^ n))
  have hex := bad_prime hn l
  refine ei (LAnn.inv { X := Nat, up := fun k => [(33, .s (iA k)), (9, rowC (mendTo (prL n (tabU l (2 ^ n))) (badL n l) k))], uo := fun k => [], inv := fun k => k ≤ (badL n l).length ∧ (True), meas := fun k => (badL n l).length - k, x0 := 0 }) ?_
  refine ai (ai (ai (by (repeat' (first | exact rfl | exact trivial | exact (fun _ => rfl) | exact (fun _ _ => rfl) | exact nof | refine ai ?_ ?_))) (ai (by (repeat' (first | with_reducible rfl | exact trivial | refine ai ?_ ?_ | (show (_ : Int) = _; first | with_reducible rfl | exact wr1 (by omega) | (simp only [zz, reduceCtorEq] <;> first | done | rfl | omega) | omega | rfl) | exact rfl | exact (fun _ => rfl) | exact (fun _ _ => rfl) | exact nof))) (by (repeat' (first | with_reducible rfl | exact trivial | refine ai ?_ ?_ | (show (_ : Int) = _; first | with_reducible rfl | exact wr1 (by omega) | (simp only [zz, reduceCtorEq] <;> first | done | rfl | omega) | omega | rfl) | exact rfl | exact (fun _ => rfl) | exact (fun _ _ => rfl) | exact nof))))) rfl) (ai (ai (Nat.zero_le _) ?_) ?_)
  · trivial
  intro (k : Nat) ⟨hk, _⟩
  refine bcase_p (p := k < (badL n l).length) (by first | (with_reducible refine bif_lt ?_; omega) | (with_reducible refine bif_le ?_; omega) | (with_reducible refine bif_eq ?_; omega) | (with_reducible refine bif_ne ?_; omega) | exact b8_eq rfl | exact b8_ne rfl | exact bif_lt (by omega) | exact bif_le (by omega) | exact bif_eq (by omega) | exact bif_ne (by omega) | exact Iff.rfl | (simp only [zz, reduceCtorEq] <;> first | done | omega | exact Iff.rfl) | (simp; done) | (simp; omega)) (fun h2 => ?_) (fun h2 => ?_)
  · refine ai (ai (Int.natCast_nonneg _) (by show (k : Int) < ((badL n l).length : Int); omega)) ?_
    refine ai rfl ?_
    have hml := mendTo_len (prL n (tabU l (2 ^ n))) (badL n l) k (by omega)
    have hst := mendTo_succ (prL n (tabU l (2 ^ n))) h2
    refine ei _ (ai htog_ok (ei ((mendTo (prL n (tabU l (2 ^ n))) (badL n l) k, (badL n l).getD k (0, 0))) (ei [] (ai (ai rfl (ai rfl (ai rfl (ai rfl (ai (fun _ => Or.inl rfl) (ai (by first | exact nof | exact (fun _ => ai rfl rfl)) (by first | exact Or.inl rfl | exact Or.inr rfl))))))) (ai (by (repeat' (first | with_reducible rfl | exact trivial | refine ai ?_ ?_ | (show (_ : Int) = _; first | with_reducible rfl | exact wr1 (by omega) | (simp only [zz, reduceCtorEq] <;> first | done | rfl | omega) | omega | rfl) | exact rfl | exact (fun _ => rfl) | exact (fun _ _ => rfl) | exact nof))) (ai trivial (ai ((by show (mendTo (prL n (tabU l (2 ^ n))) (badL n l) k).length ≤ 1000000; omega)) ?_)))))))
    refine bcase_b (b := togC (mendTo (prL n (tabU l (2 ^ n))) (badL n l) k) ((badL n l).getD k (0, 0))) (by first | exact rfl | (simp only [zz, reduceCtorEq] <;> first | done | exact rfl)) (fun h3 => ?_) (fun h3 => ?_)
    · rw [mendS, if_pos h3] at hst
      refine ei (k + 1) (ai (ai rfl rfl) (ai (ai ?_ rfl) (ai (ai (by show k + 1 ≤ (badL n l).length; omega) ?_) (by show (badL n l).length - (k + 1) < (badL n l).length - k; omega))))
      any_goals (repeat' (first | with_reducible rfl | exact trivial | refine ai ?_ ?_ | (show (_ : Int) = _; first | with_reducible rfl | exact wr1 (by omega) | (simp only [zz, reduceCtorEq] <;> first | done | rfl | omega) | omega | rfl) | exact rfl | exact (fun _ => rfl) | exact (fun _ _ => rfl) | exact nof))
      · exact congrArg List.length hst.symm
      · exact row_same Cu.cells ⟨0, 0⟩ hst.symm
    · have hany := hex _ (getP_mem h2)
      rw [mendS, h3, if_pos hany] at hst
      obtain ⟨i, hi, hif, hil⟩ := firstQ_some hany
      rw [← hif] at hst
      have hq : FnOk Tryz.prog 91 { A := Unit, args := fun _ => [csA (prL n (tabU l (2 ^ n))), .fn 92 [.own 0 0]], objs := fun _ => [.cells 83 [iA ((badL n l).getD k (0, 0)).1, iA ((badL n l).getD k (0, 0)).2]], pre := fun _ => True, res := fun _ => iP i, objs' := fun _ => [], fresh := true, ro := 1 } :=
        spec_at (qI2_ok (hmend1_ok ((badL n l).getD k (0, 0)).1 ((badL n l).getD k (0, 0)).2)) (prL n (tabU l (2 ^ n))) (by show (prL n (tabU l (2 ^ n))).length ≤ 1000000; omega) (congrArg iP hi)
      refine ei _ (ai hq (ei (()) (ei [1] (ai (ai rfl (ai rfl (ai rfl (ai rfl (ai (by first | exact (fun _ => Or.inl rfl) | exact nof | exact (fun _ => Or.inr (by (repeat' (first | exact rfl | exact trivial | exact (fun _ => rfl) | exact (fun _ _ => rfl) | exact nof | refine ai ?_ ?_))))) (ai (by first | exact nof | exact (fun _ => ai rfl rfl)) (by first | exact Or.inl rfl | exact Or.inr rfl))))))) (ai (by (repeat' (first | with_reducible rfl | exact trivial | refine ai ?_ ?_ | (show (_ : Int) = _; first | with_reducible rfl | exact wr1 (by omega) | (simp only [zz, reduceCtorEq] <;> first | done | rfl | omega) | omega | rfl) | exact rfl | exact (fun _ => rfl) | exact (fun _ _ => rfl) | exact nof))) (ai (by (repeat' (first | with_reducible rfl | exact trivial | refine ai ?_ ?_ | (show (_ : Int) = _; first | with_reducible rfl | exact wr1 (by omega) | (simp only [zz, reduceCtorEq] <;> first | done | rfl | omega) | omega | rfl) | exact rfl | exact (fun _ => rfl) | exact (fun _ _ => rfl) | exact nof))) (ai (trivial) ?_)))))))
      refine ai (ai (Int.natCast_nonneg _) (by show (i : Int) < ((prL n (tabU l (2 ^ n))).length : Int); omega)) ?_
      refine ai rfl ?_
      refine ai (ai (by show (mendTo (prL n (tabU l (2 ^ n))) (badL n l) k).length + 1 ≤ maxLen; unfold maxLen; omega) (by show ((mendTo (prL n (tabU l (2 ^ n))) (badL n l) k).length + 1) * 16 ≤ 140737488355328; omega)) ?_
      refine ai (fun k hk => by
        have hk : k < 1 := hk
        obtain rfl : k = 0 := by omega
        rfl) ?_
      refine ei (k + 1) (ai (ai rfl rfl) (ai (ai ?_ rfl) (ai (ai (by show k + 1 ≤ (badL n l).length; omega) ?_) (by show (badL n l).length - (k + 1) < (badL n l).length - k; omega))))
      any_goals (repeat' (first | with_reducible rfl | exact trivial | refine ai ?_ ?_ | (show (_ : Int) = _; first | with_reducible rfl | exact wr1 (by omega) | (simp only [zz, reduceCtorEq] <;> first | done | rfl | omega) | omega | rfl) | exact rfl | exact (fun _ => rfl) | exact (fun _ _ => rfl) | exact nof))
      · exact app_len hst
      · exact join_app Cu.cells ⟨0, 0⟩ hst _ rfl
  · obtain rfl : k = (badL n l).length := by omega
    refine ai (ai (fun _ => (by (repeat' (first | exact rfl | exact trivial | exact (fun _ => rfl) | exact (fun _ _ => rfl) | exact nof | refine ai ?_ ?_)))) ?_) trivial
    show ple _ (.tup [csP (menL n l), iP (chkN n l)])
    rw [show menL n l = mendL n l by simp [menL, h1], h1]
    any_goals (repeat' (first | with_reducible rfl | exact trivial | refine ai ?_ ?_ | (show (_ : Int) = _; first | with_reducible rfl | exact wr1 (by omega) | (simp only [zz, reduceCtorEq] <;> first | done | rfl | omega) | omega | rfl) | exact rfl | exact (fun _ => rfl) | exact (fun _ _ => rfl) | exact nof))

end Go.Sx.Pn
