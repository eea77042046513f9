/- Contracts of chapter 7: the reference's Verify and Spare; MinimalVerifies, walked. -/
import Derived.Test.YtmjfhoidokajpaaGreatM19
set_option maxHeartbeats 1000000
set_option maxRecDepth 4000
set_option linter.unusedSimpArgs false
set_option linter.unusedVariables false
set_option linter.unusedSectionVars false
namespace Go.Sx.Pn
open Go Go.Proofs

def fitB (x : Tk) (n : Nat) (l : List Cu) : Bool := l.all (impliesU n x) && covW x n l
def fitS : Spec := fnS (fun y : Nat × Tk × List Cu => [kA y.2.1, csA y.2.2]) (fun y => y.1 ≤ 6 ∧ y.2.1.on.n = y.1 ∧ y.2.2.length ≤ 1000000) (fun y => bP (fitB y.2.1 y.1 y.2.2))
theorem fit_ok : FnOk Tryz.prog 57 fitS := by
  refine fnOk (Tb := tab) mixed tab_ok Tryz.func57 rfl rfl ?_
  rintro ⟨n, x, l⟩ hpre
  refine ai (ai rfl (ai rfl rfl)) ?_
  obtain ⟨hn, hx, hl⟩ : n ≤ 6 ∧ x.on.n = n ∧ l.length ≤ 1000000 := hpre
  refine ei (LAnn.inv { X := Nat, up := fun k => [(5, .s (iA k))], uo := fun k => [], inv := fun k => k ≤ l.length ∧ (∀ j, j < k → impliesU n x (l.getD j ⟨0, 0⟩) = true), meas := fun k => l.length - k, x0 := 0 }) ?_
  refine ai (ai (ai (by (repeat' (first | exact rfl | exact trivial | exact (fun _ => rfl) | exact (fun _ _ => rfl) | exact nof | refine ai ?_ ?_))) (ai (by (repeat' (first | with_reducible rfl | exact trivial | refine ai ?_ ?_ | (show (_ : Int) = _; first | with_reducible rfl | exact wr1 (by omega) | (simp only [zz, reduceCtorEq] <;> first | done | rfl | omega) | omega | rfl) | exact rfl | exact (fun _ => rfl) | exact (fun _ _ => rfl) | exact nof))) (by (repeat' (first | with_reducible rfl | exact trivial | refine ai ?_ ?_ | (show (_ : Int) = _; first | with_reducible rfl | exact wr1 (by omega) | (simp only [zz, reduceCtorEq] <;> first | done | rfl | omega) | omega | rfl) | exact rfl | exact (fun _ => rfl) | exact (fun _ _ => rfl) | exact nof))))) rfl) (ai (ai (Nat.zero_le _) ?_) ?_)
  · exact fun j hj => absurd hj (Nat.not_lt_zero _)
  intro (k : Nat) ⟨hk, hall⟩
  refine bcase_p (p := k < l.length) (by first | (with_reducible refine bif_lt ?_; omega) | (with_reducible refine bif_le ?_; omega) | (with_reducible refine bif_eq ?_; omega) | (with_reducible refine bif_ne ?_; omega) | exact b8_eq rfl | exact b8_ne rfl | exact bif_lt (by omega) | exact bif_le (by omega) | exact bif_eq (by omega) | exact bif_ne (by omega) | exact Iff.rfl | (simp only [zz, reduceCtorEq] <;> first | done | omega | exact Iff.rfl) | (simp; done) | (simp; omega)) (fun h2 => ?_) (fun h2 => ?_)
  · skip
    refine ei (.seq [0, 1, 2, 3, 4, 5, 6]) (ai (by kernel_rfl) ?_)
    refine ai (ai (Int.natCast_nonneg _) (by show (k : Int) < (l.length : Int); omega)) ?_
    refine ai rfl ?_
    obtain ⟨b, hb⟩ : ∃ b, impliesU n x (l.getD k ⟨0, 0⟩) = b := ⟨_, rfl⟩
    have c1 := fnS_at good_ok (n, x, l.getD k ⟨0, 0⟩) ⟨hn, hx⟩ (r := bP b) (by show bP (goodC n x (l.getD k ⟨0, 0⟩)) = _; rw [← implies_good hn, hb])
    refine ei _ (ai c1 (ei (()) (ei [] (ai (ai rfl (ai rfl (ai rfl (ai rfl (ai (fun _ => Or.inl rfl) (ai (by first | exact nof | exact (fun _ => ai rfl rfl)) (by first | exact Or.inl rfl | exact Or.inr rfl))))))) (ai (by (repeat' (first | with_reducible rfl | exact trivial | refine ai ?_ ?_ | (show (_ : Int) = _; first | with_reducible rfl | exact wr1 (by omega) | (simp only [zz, reduceCtorEq] <;> first | done | rfl | omega) | omega | rfl) | exact rfl | exact (fun _ => rfl) | exact (fun _ _ => rfl) | exact nof))) (ai trivial (ai (trivial) ?_)))))))
    refine bcase_b (b := !b) (by first | exact rfl | (simp only [zz, reduceCtorEq] <;> first | done | exact rfl)) (fun h3 => ?_) (fun h3 => ?_)
    · have h3 : b = false := by simpa using h3
      have e : l.all (impliesU n x) = false := by
        rw [Bool.eq_false_iff]
        intro ha
        have := List.all_eq_true.1 ha _ (getC_mem h2)
        rw [hb, h3] at this; cases this
      refine ai (ai (fun _ => (by (repeat' (first | exact rfl | exact trivial | exact (fun _ => rfl) | exact (fun _ _ => rfl) | exact nof | refine ai ?_ ?_)))) ?_) trivial
      show ple _ (bP (fitB x n l))
      rw [show fitB x n l = false by rw [fitB, e]; rfl]
      any_goals (repeat' (first | with_reducible rfl | exact trivial | refine ai ?_ ?_ | (show (_ : Int) = _; first | with_reducible rfl | exact wr1 (by omega) | (simp only [zz, reduceCtorEq] <;> first | done | rfl | omega) | omega | rfl) | exact rfl | exact (fun _ => rfl) | exact (fun _ _ => rfl) | exact nof))
    · have h3 : b = true := by simpa using h3
      refine ei (k + 1) (ai (ai rfl rfl) (ai (ai ?_ rfl) (ai (ai (by show k + 1 ≤ l.length; omega) ?_) (by show l.length - (k + 1) < l.length - k; omega))))
      any_goals (repeat' (first | with_reducible rfl | exact trivial | refine ai ?_ ?_ | (show (_ : Int) = _; first | with_reducible rfl | exact wr1 (by omega) | (simp only [zz, reduceCtorEq] <;> first | done | rfl | omega) | omega | rfl) | exact rfl | exact (fun _ => rfl) | exact (fun _ _ => rfl) | exact nof))
      exact upto_succ hall (by rw [hb, h3])
  · obtain rfl : k = l.length := by omega
    have ha : l.all (impliesU n x) = true := by
      rw [List.all_eq_true]
      intro c hc
      obtain ⟨j, hj⟩ := List.getElem?_of_mem hc
      have := hall j (List.getElem?_eq_some_iff.1 hj).1
      rw [List.getD_eq_getElem?_getD, hj] at this; exact this
    refine ei _ (ai rcov_ok (ei ((n, x, l)) (ei [] (ai (ai rfl (ai rfl (ai rfl (ai rfl (ai (fun _ => Or.inl rfl) (ai (by first | exact nof | exact (fun _ => ai rfl rfl)) (by first | exact Or.inl rfl | exact Or.inr rfl))))))) (ai (by (repeat' (first | with_reducible rfl | exact trivial | refine ai ?_ ?_ | (show (_ : Int) = _; first | with_reducible rfl | exact wr1 (by omega) | (simp only [zz, reduceCtorEq] <;> first | done | rfl | omega) | omega | rfl) | exact rfl | exact (fun _ => rfl) | exact (fun _ _ => rfl) | exact nof))) (ai trivial (ai (⟨hn, hx, hl⟩) ?_)))))))
    refine ai (ai (fun _ => (by (repeat' (first | exact rfl | exact trivial | exact (fun _ => rfl) | exact (fun _ _ => rfl) | exact nof | refine ai ?_ ?_)))) ?_) trivial
    show ple _ (bP (fitB x n l))
    rw [show fitB x n l = covQ x n l by rw [fitB, ha, covWQ]; rfl]
    any_goals (repeat' (first | with_reducible rfl | exact trivial | refine ai ?_ ?_ | (show (_ : Int) = _; first | with_reducible rfl | exact wr1 (by omega) | (simp only [zz, reduceCtorEq] <;> first | done | rfl | omega) | omega | rfl) | exact rfl | exact (fun _ => rfl) | exact (fun _ _ => rfl) | exact nof))
theorem rVerify_ok : FnOk Tryz.prog 27 VerifyS := by
  refine fnOk (Tb := tab) mixed tab_ok Tryz.func27 rfl rfl ?_
  rintro ⟨x, l⟩ hpre
  refine ai (ai rfl (ai rfl rfl)) ?_
  have hl : l.length ≤ 1000000 := hpre
  refine ei _ (ai rCheckTask_ok (ei (x) (ei [] (ai (ai rfl (ai rfl (ai rfl (ai rfl (ai (fun _ => Or.inl rfl) (ai (by first | exact nof | exact (fun _ => ai rfl rfl)) (by first | exact Or.inl rfl | exact Or.inr rfl))))))) (ai (by (repeat' (first | with_reducible rfl | exact trivial | refine ai ?_ ?_ | (show (_ : Int) = _; first | with_reducible rfl | exact wr1 (by omega) | (simp only [zz, reduceCtorEq] <;> first | done | rfl | omega) | omega | rfl) | exact rfl | exact (fun _ => rfl) | exact (fun _ _ => rfl) | exact nof))) (ai trivial (ai (trivial) ?_)))))))
  refine bcase_n (p := chkK x = 0) (by first | (with_reducible refine bif_lt ?_; omega) | (with_reducible refine bif_le ?_; omega) | (with_reducible refine bif_eq ?_; omega) | (with_reducible refine bif_ne ?_; omega) | exact b8_eq rfl | exact b8_ne rfl | exact bif_lt (by omega) | exact bif_le (by omega) | exact bif_eq (by omega) | exact bif_ne (by omega) | exact Iff.rfl | (simp only [zz, reduceCtorEq] <;> first | done | omega | exact Iff.rfl) | (simp; done) | (simp; omega)) (fun h => ?_) (fun h => ?_)
  · skip
    refine ai (ai (fun _ => (by (repeat' (first | exact rfl | exact trivial | exact (fun _ => rfl) | exact (fun _ _ => rfl) | exact nof | refine ai ?_ ?_)))) ?_) trivial
    show ple _ (iP (verE x l))
    rw [verE, if_neg h]
    any_goals (repeat' (first | with_reducible rfl | exact trivial | refine ai ?_ ?_ | (show (_ : Int) = _; first | with_reducible rfl | exact wr1 (by omega) | (simp only [zz, reduceCtorEq] <;> first | done | rfl | omega) | omega | rfl) | exact rfl | exact (fun _ => rfl) | exact (fun _ _ => rfl) | exact nof))
  obtain ⟨n, hn, hx, _⟩ := chkT_zero (chkK_zero h).1
  have hnn : x.on.n.toNat = n := by rw [hx]; rfl
  refine ei _ (ai rcubeL_ok (ei ((x.on.n, l)) (ei [] (ai (ai rfl (ai rfl (ai rfl (ai rfl (ai (fun _ => Or.inl rfl) (ai (by first | exact nof | exact (fun _ => ai rfl rfl)) (by first | exact Or.inl rfl | exact Or.inr rfl))))))) (ai (by (repeat' (first | with_reducible rfl | exact trivial | refine ai ?_ ?_ | (show (_ : Int) = _; first | with_reducible rfl | exact wr1 (by omega) | (simp only [zz, reduceCtorEq] <;> first | done | rfl | omega) | omega | rfl) | exact rfl | exact (fun _ => rfl) | exact (fun _ _ => rfl) | exact nof))) (ai trivial (ai (hl) ?_)))))))
  refine bcase_n (p := chkL x.on.n l = 0) (by first | (with_reducible refine bif_lt ?_; omega) | (with_reducible refine bif_le ?_; omega) | (with_reducible refine bif_eq ?_; omega) | (with_reducible refine bif_ne ?_; omega) | exact b8_eq rfl | exact b8_ne rfl | exact bif_lt (by omega) | exact bif_le (by omega) | exact bif_eq (by omega) | exact bif_ne (by omega) | exact Iff.rfl | (simp only [zz, reduceCtorEq] <;> first | done | omega | exact Iff.rfl) | (simp; done) | (simp; omega)) (fun h1 => ?_) (fun h1 => ?_)
  · skip
    refine ai (ai (fun _ => (by (repeat' (first | exact rfl | exact trivial | exact (fun _ => rfl) | exact (fun _ _ => rfl) | exact nof | refine ai ?_ ?_)))) ?_) trivial
    show ple _ (iP (verE x l))
    rw [verE, if_pos h, if_neg h1]
    any_goals (repeat' (first | with_reducible rfl | exact trivial | refine ai ?_ ?_ | (show (_ : Int) = _; first | with_reducible rfl | exact wr1 (by omega) | (simp only [zz, reduceCtorEq] <;> first | done | rfl | omega) | omega | rfl) | exact rfl | exact (fun _ => rfl) | exact (fun _ _ => rfl) | exact nof))
  refine ei _ (ai fit_ok (ei ((n, x, l)) (ei [] (ai (ai rfl (ai rfl (ai rfl (ai rfl (ai (fun _ => Or.inl rfl) (ai (by first | exact nof | exact (fun _ => ai rfl rfl)) (by first | exact Or.inl rfl | exact Or.inr rfl))))))) (ai (by (repeat' (first | with_reducible rfl | exact trivial | refine ai ?_ ?_ | (show (_ : Int) = _; first | with_reducible rfl | exact wr1 (by omega) | (simp only [zz, reduceCtorEq] <;> first | done | rfl | omega) | omega | rfl) | exact rfl | exact (fun _ => rfl) | exact (fun _ _ => rfl) | exact nof))) (ai trivial (ai (⟨hn, hx, hl⟩) ?_)))))))
  have e : verE x l = if fitB x n l then 0 else 15 := by rw [verE, if_pos h, if_pos h1, hnn]; rfl
  refine bcase_b (b := !fitB x n l) (by first | exact rfl | (simp only [zz, reduceCtorEq] <;> first | done | exact rfl)) (fun h2 => ?_) (fun h2 => ?_)
  · have h2 : fitB x n l = false := by simpa using h2
    refine ai (ai (fun _ => (by (repeat' (first | exact rfl | exact trivial | exact (fun _ => rfl) | exact (fun _ _ => rfl) | exact nof | refine ai ?_ ?_)))) ?_) trivial
    show ple _ (iP (verE x l))
    rw [e, h2, if_neg (show ¬ (false = true) by decide)]
    any_goals (repeat' (first | with_reducible rfl | exact trivial | refine ai ?_ ?_ | (show (_ : Int) = _; first | with_reducible rfl | exact wr1 (by omega) | (simp only [zz, reduceCtorEq] <;> first | done | rfl | omega) | omega | rfl) | exact rfl | exact (fun _ => rfl) | exact (fun _ _ => rfl) | exact nof))
  · have h2 : fitB x n l = true := by simpa using h2
    refine ai (ai (fun _ => (by (repeat' (first | exact rfl | exact trivial | exact (fun _ => rfl) | exact (fun _ _ => rfl) | exact nof | refine ai ?_ ?_)))) ?_) trivial
    show ple _ (iP (verE x l))
    rw [e, h2, if_pos rfl]
    any_goals (repeat' (first | with_reducible rfl | exact trivial | refine ai ?_ ?_ | (show (_ : Int) = _; first | with_reducible rfl | exact wr1 (by omega) | (simp only [zz, reduceCtorEq] <;> first | done | rfl | omega) | omega | rfl) | exact rfl | exact (fun _ => rfl) | exact (fun _ _ => rfl) | exact nof))

def wthS : Spec := fnS (fun y : List Cu × Nat => [csA y.1, iA y.2]) (fun y => y.1.length ≤ 1000000 ∧ y.2 < y.1.length) (fun y => csP (y.1.eraseIdx y.2))
theorem wth_cells {r : List Cu} {i N lo z : Nat} (hN : N = i) (hlo : lo = i + 1) (hz : z = 0) (g : Nat → List PV) :
    ∀ k, joinF N (joinF 0 g fun k => (r.getD (z + k) ⟨0, 0⟩).cells) (fun k => (r.getD (lo + k) ⟨0, 0⟩).cells) k = ((r.eraseIdx i).getD k ⟨0, 0⟩).cells := by
  subst hN hlo hz
  intro k
  rw [erase_get]
  by_cases h : k < N
  · rw [joinF_lt _ _ h, if_pos h, join_zero, Nat.zero_add]
  · rw [joinF_ge _ _ (by omega), if_neg h, show N + 1 + (k - N) = k + 1 by omega]
theorem wth_ok : FnOk Tryz.prog 56 wthS := by
  refine fnOk (Tb := tab) mixed tab_ok Tryz.func56 rfl rfl ?_
  rintro ⟨l, i⟩ hpre
  refine ai (ai rfl (ai rfl rfl)) ?_
  obtain ⟨hl, hi⟩ : l.length ≤ 1000000 ∧ i < l.length := hpre
  have ew := wr1 (k := i) (by omega)
  refine ei (.seq [1, 2, 3, 5, 6, 7, 8, 0, 4, 9, 10]) (ai (by kernel_rfl) ?_)
  refine ai (ai (Int.le_refl _) (ai (Int.natCast_nonneg _) (by show (i : Int) ≤ (l.length : Int); omega))) ?_
  refine ai (fun k hk => rfl) ?_
  refine ai (ai (by show (0 : Int) ≤ IntKind.i64.wrap ((i : Int) + 1); rw [ew]; omega) (ai (by show IntKind.i64.wrap ((i : Int) + 1) ≤ (l.length : Int); rw [ew]; omega) (Int.le_refl _))) ?_
  refine ai (fun k hk => rfl) ?_
  refine ai (ai (by show 0 + (i - 0) ≤ maxLen; unfold maxLen; omega) (by show (0 + (i - 0)) * 16 ≤ 140737488355328; omega)) ?_
  refine ai (fun k hk => rfl) ?_
  have em : (l.length : Int).toNat - (IntKind.i64.wrap ((i : Int) + 1)).toNat = l.length - (i + 1) := by rw [ew, Int.toNat_natCast, Int.toNat_natCast]
  refine ai (ai (by show 0 + (i - 0) + ((l.length : Int).toNat - (IntKind.i64.wrap ((i : Int) + 1)).toNat) ≤ maxLen; rw [em]; unfold maxLen; omega) (by show (0 + (i - 0) + ((l.length : Int).toNat - (IntKind.i64.wrap ((i : Int) + 1)).toNat)) * 16 ≤ 140737488355328; rw [em]; omega)) ?_
  refine ai (fun k hk => rfl) ?_
  have key := wth_cells (r := l) (i := i) (N := 0 + ((i : Int).toNat - (0 : Int).toNat)) (lo := (IntKind.i64.wrap ((i : Int) + 1)).toNat) (z := (0 : Int).toNat) (by rw [Int.toNat_natCast, Nat.zero_add]; rfl) (by rw [ew, Int.toNat_natCast]) rfl (elemsAt (1 + 1) [])
  refine ai (ai (fun _ k hk => ?_) ?_) trivial
  · exact (congrArg (fun d => allVal d = true) (key k)).mpr rfl
  · refine ai ?_ ?_
    · show 0 + (i - 0) + ((l.length : Int).toNat - (IntKind.i64.wrap ((i : Int) + 1)).toNat) = (l.eraseIdx i).length
      rw [em, erase_len hi]; omega
    · exact fun k _ => key k

theorem rSpare_ok : FnOk Tryz.prog 26 SpareS := by
  refine fnOk_inl [1000008] ?_
  refine fnOk (Tb := tab) mixed tab_ok Tryz.func26 rfl rfl ?_
  rintro ⟨x, l⟩ hpre
  refine ai (ai rfl (ai rfl rfl)) ?_
  have hl : l.length ≤ 1000000 := hpre
  refine ei _ (ai rVerify_ok (ei ((x, l)) (ei [] (ai (ai rfl (ai rfl (ai rfl (ai rfl (ai (fun _ => Or.inl rfl) (ai (by first | exact nof | exact (fun _ => ai rfl rfl)) (by first | exact Or.inl rfl | exact Or.inr rfl))))))) (ai (by (repeat' (first | with_reducible rfl | exact trivial | refine ai ?_ ?_ | (show (_ : Int) = _; first | with_reducible rfl | exact wr1 (by omega) | (simp only [zz, reduceCtorEq] <;> first | done | rfl | omega) | omega | rfl) | exact rfl | exact (fun _ => rfl) | exact (fun _ _ => rfl) | exact nof))) (ai trivial (ai (hl) ?_)))))))
  refine bcase_n (p := verE x l = 0) (by first | (with_reducible refine bif_lt ?_; omega) | (with_reducible refine bif_le ?_; omega) | (with_reducible refine bif_eq ?_; omega) | (with_reducible refine bif_ne ?_; omega) | exact b8_eq rfl | exact b8_ne rfl | exact bif_lt (by omega) | exact bif_le (by omega) | exact bif_eq (by omega) | exact bif_ne (by omega) | exact Iff.rfl | (simp only [zz, reduceCtorEq] <;> first | done | omega | exact Iff.rfl) | (simp; done) | (simp; omega)) (fun h => ?_) (fun h => ?_)
  · skip
    refine ai (ai (fun _ => (by (repeat' (first | exact rfl | exact trivial | exact (fun _ => rfl) | exact (fun _ _ => rfl) | exact nof | refine ai ?_ ?_)))) ?_) trivial
    show ple _ (.tup [nsP (sparL x l), iP (verE x l)])
    rw [sparL, if_neg h]
    any_goals (repeat' (first | with_reducible rfl | exact trivial | refine ai ?_ ?_ | (show (_ : Int) = _; first | with_reducible rfl | exact wr1 (by omega) | (simp only [zz, reduceCtorEq] <;> first | done | rfl | omega) | omega | rfl) | exact rfl | exact (fun _ => rfl) | exact (fun _ _ => rfl) | exact nof))
  obtain ⟨h0, n, hn, hx, hc, _⟩ := ver_parts h
  have hnn : x.on.n.toNat = n := by rw [hx]; rfl
  have hsp : sparL x l = (spTo x n l l.length).2.reverse := by rw [sparL, if_pos h, hnn]
  refine ai (ai (by show 0 + l.length ≤ maxLen; unfold maxLen; omega) (by show (0 + l.length) * 16 ≤ 140737488355328; omega)) ?_
  refine ai (fun _ _ => rfl) ?_
  have e0 : ((l.length : Int) - 1 - ((l.length : Int) - 1)).toNat = 0 := by rw [Int.sub_self]; rfl
  refine ei (LAnn.inv { X := Int, up := fun v => [(9, .s (iA v)), (8, .s (csA (spTo x n l ((l.length : Int) - 1 - v).toNat).1)), (7, rowN (spTo x n l ((l.length : Int) - 1 - v).toNat).2.reverse)], uo := fun _ => [], inv := fun v => -1 ≤ v ∧ v < l.length, meas := fun v => (v + 1).toNat, x0 := ((l.length : Int) - 1) }) ?_
  refine ai (ai (ai (by (repeat' (first | exact rfl | exact trivial | exact (fun _ => rfl) | exact (fun _ _ => rfl) | exact nof | refine ai ?_ ?_))) (ai ?_ ?_)) ?_) (ai ?_ ?_)
  · skip
    (repeat' (first | exact rfl | exact trivial | exact (fun _ => rfl) | exact (fun _ _ => rfl) | exact nof | refine ai ?_ ?_))
    · exact wrap_i ((l.length : Int) - 1) (by omega) (by omega)
    · show 0 + l.length = (spTo x n l ((l.length : Int) - 1 - ((l.length : Int) - 1)).toNat).1.length
      rw [e0, Nat.zero_add]; rfl
    · intro k hk
      show joinF 0 _ _ k = ((spTo x n l ((l.length : Int) - 1 - ((l.length : Int) - 1)).toNat).1.getD k ⟨0, 0⟩).cells
      rw [e0, join_zero]; rfl
    · show (spTo x n l ((l.length : Int) - 1 - ((l.length : Int) - 1)).toNat).2.reverse.length = 0
      rw [e0]; rfl
  · skip
    (repeat' (first | exact rfl | exact trivial | exact (fun _ => rfl) | exact (fun _ _ => rfl) | exact nof | refine ai ?_ ?_))
  · rfl
  · exact ⟨by show -1 ≤ (l.length : Int) - 1; omega, by show (l.length : Int) - 1 < l.length; omega⟩
  intro (v : Int) ⟨hv1, hv2⟩
  refine bcase_p (p := 0 ≤ v) (by first | (with_reducible refine bif_lt ?_; omega) | (with_reducible refine bif_le ?_; omega) | (with_reducible refine bif_eq ?_; omega) | (with_reducible refine bif_ne ?_; omega) | exact b8_eq rfl | exact b8_ne rfl | exact bif_lt (by omega) | exact bif_le (by omega) | exact bif_eq (by omega) | exact bif_ne (by omega) | exact Iff.rfl | (simp only [zz, reduceCtorEq] <;> first | done | omega | exact Iff.rfl) | (simp; done) | (simp; omega)) (fun h1 => ?_) (fun h1 => ?_)
  · obtain ⟨q, rfl⟩ := Int.eq_ofNat_of_zero_le h1
    have hq : q < l.length := by omega
    have e : ((l.length : Int) - 1 - (q : Int)).toNat = l.length - 1 - q := by omega
    have e1 : ((l.length : Int) - 1 - ((q : Int) - 1)).toNat = l.length - 1 - q + 1 := by omega
    obtain ⟨s1, s2, s3⟩ := sp_len x n l (l.length - 1 - q) (by omega)
    have hst : spTo x n l (l.length - 1 - q + 1) = spSt x n q (spTo x n l (l.length - 1 - q)) := by
      rw [spTo, show l.length - 1 - (l.length - 1 - q) = q by omega]
    rw [← e1, ← e] at hst
    rw [← e] at s1 s2 s3
    generalize hA : spTo x n l ((l.length : Int) - 1 - (q : Int)).toNat = A at hst s1 s2 s3 ⊢
    have hqA : q < A.1.length := by omega
    have el := erase_len hqA
    refine ei (.seq [0, 1, 2, 3, 4]) (ai (by kernel_rfl) ?_)
    refine ei _ (ai wth_ok (ei ((A.1, q)) (ei [] (ai (ai rfl (ai rfl (ai rfl (ai rfl (ai (fun _ => Or.inl rfl) (ai (by first | exact nof | exact (fun _ => ai rfl rfl)) (by first | exact Or.inl rfl | exact Or.inr rfl))))))) (ai (by (repeat' (first | with_reducible rfl | exact trivial | refine ai ?_ ?_ | (show (_ : Int) = _; first | with_reducible rfl | exact wr1 (by omega) | (simp only [zz, reduceCtorEq] <;> first | done | rfl | omega) | omega | rfl) | exact rfl | exact (fun _ => rfl) | exact (fun _ _ => rfl) | exact nof))) (ai trivial (ai (⟨by show A.1.length ≤ 1000000; omega, hqA⟩) ?_)))))))
    refine ei _ (ai rcov_ok (ei ((n, x, A.1.eraseIdx q)) (ei [] (ai (ai rfl (ai rfl (ai rfl (ai rfl (ai (fun _ => Or.inl rfl) (ai (by first | exact nof | exact (fun _ => ai rfl rfl)) (by first | exact Or.inl rfl | exact Or.inr rfl))))))) (ai (by (repeat' (first | with_reducible rfl | exact trivial | refine ai ?_ ?_ | (show (_ : Int) = _; first | with_reducible rfl | exact wr1 (by omega) | (simp only [zz, reduceCtorEq] <;> first | done | rfl | omega) | omega | rfl) | exact rfl | exact (fun _ => rfl) | exact (fun _ _ => rfl) | exact nof))) (ai trivial (ai (⟨hn, hx, by show (A.1.eraseIdx q).length ≤ 1000000; omega⟩) ?_)))))))
    refine bcase_b (b := covQ x n (A.1.eraseIdx q)) (by first | exact rfl | (simp only [zz, reduceCtorEq] <;> first | done | exact rfl)) (fun h2 => ?_) (fun h2 => ?_)
    · rw [sp_yes h2] at hst
      refine ei _ (ai wth_ok (ei ((A.1, q)) (ei [] (ai (ai rfl (ai rfl (ai rfl (ai rfl (ai (fun _ => Or.inl rfl) (ai (by first | exact nof | exact (fun _ => ai rfl rfl)) (by first | exact Or.inl rfl | exact Or.inr rfl))))))) (ai (by (repeat' (first | with_reducible rfl | exact trivial | refine ai ?_ ?_ | (show (_ : Int) = _; first | with_reducible rfl | exact wr1 (by omega) | (simp only [zz, reduceCtorEq] <;> first | done | rfl | omega) | omega | rfl) | exact rfl | exact (fun _ => rfl) | exact (fun _ _ => rfl) | exact nof))) (ai trivial (ai (⟨by show A.1.length ≤ 1000000; omega, hqA⟩) ?_)))))))
      have hlr : A.2.reverse.length = A.2.length := List.length_reverse
      refine ai (ai (by show 1 + A.2.reverse.length ≤ maxLen; unfold maxLen; omega) (by show (1 + A.2.reverse.length) * 8 ≤ 140737488355328; omega)) ?_
      refine ai (fun _ _ => rfl) ?_
      refine ei (((q : Int) - 1)) (ai (ai rfl rfl) (ai (ai ?_ rfl) (ai ?_ ?_)))
      · skip
        (repeat' (first | exact rfl | exact trivial | exact (fun _ => rfl) | exact (fun _ _ => rfl) | exact nof | refine ai ?_ ?_))
        · exact wrap_i _ (by omega) (by omega)
        · show (A.1.eraseIdx q).length = (spTo x n l ((l.length : Int) - 1 - ((q : Int) - 1)).toNat).1.length
          rw [hst]
        · intro k hk
          show ((A.1.eraseIdx q).getD k ⟨0, 0⟩).cells = ((spTo x n l ((l.length : Int) - 1 - ((q : Int) - 1)).toNat).1.getD k ⟨0, 0⟩).cells
          rw [hst]
        · show 1 + A.2.reverse.length = (spTo x n l ((l.length : Int) - 1 - ((q : Int) - 1)).toNat).2.reverse.length
          rw [hst, List.length_reverse, List.length_reverse, List.length_append]; show 1 + A.2.length = A.2.length + 1; omega
        · intro k hk
          show joinF 1 _ _ k = [iP ((spTo x n l ((l.length : Int) - 1 - ((q : Int) - 1)).toNat).2.reverse.getD k 0 : Nat)]
          rw [hst]
          show joinF 1 _ _ k = [iP ((A.2 ++ [q]).reverse.getD k 0 : Nat)]
          rw [List.reverse_append]
          show joinF 1 _ _ k = [iP ((q :: A.2.reverse).getD k 0 : Nat)]
          by_cases hk0 : k < 1
          · obtain rfl : k = 0 := by omega
            rfl
          · obtain ⟨j, rfl⟩ : ∃ j, k = j + 1 := ⟨k - 1, by omega⟩
            rw [joinF_ge _ _ (by omega), Nat.add_sub_cancel]; rfl
      · exact ⟨by show -1 ≤ (q : Int) - 1; omega, by show (q : Int) - 1 < l.length; omega⟩
      · show ((q : Int) - 1 + 1).toNat < ((q : Int) + 1).toNat; omega
    · rw [sp_no h2] at hst
      refine ei (((q : Int) - 1)) (ai (ai rfl rfl) (ai (ai ?_ rfl) (ai ?_ ?_)))
      · skip
        (repeat' (first | exact rfl | exact trivial | exact (fun _ => rfl) | exact (fun _ _ => rfl) | exact nof | refine ai ?_ ?_))
        · exact wrap_i _ (by omega) (by omega)
        · show A.1.length = (spTo x n l ((l.length : Int) - 1 - ((q : Int) - 1)).toNat).1.length
          rw [hst]
        · intro k hk
          show (A.1.getD k ⟨0, 0⟩).cells = ((spTo x n l ((l.length : Int) - 1 - ((q : Int) - 1)).toNat).1.getD k ⟨0, 0⟩).cells
          rw [hst]
        · show A.2.reverse.length = (spTo x n l ((l.length : Int) - 1 - ((q : Int) - 1)).toNat).2.reverse.length
          rw [hst]
        · intro k hk
          show [iP (A.2.reverse.getD k 0 : Nat)] = [iP ((spTo x n l ((l.length : Int) - 1 - ((q : Int) - 1)).toNat).2.reverse.getD k 0 : Nat)]
          rw [hst]
      · exact ⟨by show -1 ≤ (q : Int) - 1; omega, by show (q : Int) - 1 < l.length; omega⟩
      · show ((q : Int) - 1 + 1).toNat < ((q : Int) + 1).toNat; omega
  · have e : ((l.length : Int) - 1 - v).toNat = l.length := by omega
    have hB : sparL x l = (spTo x n l ((l.length : Int) - 1 - v).toNat).2.reverse := by rw [hsp, e]
    refine ai (ai (fun _ => (by (repeat' (first | exact rfl | exact trivial | exact (fun _ => rfl) | exact (fun _ _ => rfl) | exact nof | refine ai ?_ ?_)))) ?_) trivial
    show ple _ (.tup [nsP (sparL x l), iP (verE x l)])
    rw [hB, h]
    any_goals (repeat' (first | with_reducible rfl | exact trivial | refine ai ?_ ?_ | (show (_ : Int) = _; first | with_reducible rfl | exact wr1 (by omega) | (simp only [zz, reduceCtorEq] <;> first | done | rfl | omega) | omega | rfl) | exact rfl | exact (fun _ => rfl) | exact (fun _ _ => rfl) | exact nof))

theorem sparL_len {x : Tk} {l : List Cu} (hl : l.length ≤ 1000000) : (sparL x l).length ≤ 1000000 := by
  unfold sparL
  split
  · rw [List.length_reverse]
    have := (sp_len x x.on.n.toNat l l.length (Nat.le_refl _)).2.2
    omega
  · exact Nat.zero_le _
def verifiesLaw : Spec := fnS (fun y : Tk × List Cu => [kA y.1, csA y.2]) (fun _ => True) (fun _ => bP true)
theorem verifies_law : FnOk Tryz.prog 7 verifiesLaw := by
  refine fnOk (Tb := tab) mixed tab_ok Tryz.func7 rfl rfl ?_
  rintro ⟨x, l⟩ hpre
  refine ai (ai rfl (ai rfl rfl)) ?_
  refine bcase_p (p := 512 < l.length) (by first | (with_reducible refine bif_lt ?_; omega) | (with_reducible refine bif_le ?_; omega) | (with_reducible refine bif_eq ?_; omega) | (with_reducible refine bif_ne ?_; omega) | exact b8_eq rfl | exact b8_ne rfl | exact bif_lt (by omega) | exact bif_le (by omega) | exact bif_eq (by omega) | exact bif_ne (by omega) | exact Iff.rfl | (simp only [zz, reduceCtorEq] <;> first | done | omega | exact Iff.rfl) | (simp; done) | (simp; omega)) (fun h1 => ?_) (fun h1 => ?_)
  · skip
    refine ei _ (ai awake7_ok (ei (()) (ei [] (ai (ai rfl (ai rfl (ai rfl (ai rfl (ai (fun _ => Or.inl rfl) (ai (by first | exact nof | exact (fun _ => ai rfl rfl)) (by first | exact Or.inl rfl | exact Or.inr rfl))))))) (ai (by (repeat' (first | with_reducible rfl | exact trivial | refine ai ?_ ?_ | (show (_ : Int) = _; first | with_reducible rfl | exact wr1 (by omega) | (simp only [zz, reduceCtorEq] <;> first | done | rfl | omega) | omega | rfl) | exact rfl | exact (fun _ => rfl) | exact (fun _ _ => rfl) | exact nof))) (ai trivial (ai (trivial) ?_)))))))
    refine ai (ai (fun _ => (by (repeat' (first | exact rfl | exact trivial | exact (fun _ => rfl) | exact (fun _ _ => rfl) | exact nof | refine ai ?_ ?_)))) ?_) trivial
    any_goals (repeat' (first | with_reducible rfl | exact trivial | refine ai ?_ ?_ | (show (_ : Int) = _; first | with_reducible rfl | exact wr1 (by omega) | (simp only [zz, reduceCtorEq] <;> first | done | rfl | omega) | omega | rfl) | exact rfl | exact (fun _ => rfl) | exact (fun _ _ => rfl) | exact nof))
  have hl : l.length ≤ 1000000 := by
    have h2 : ¬ 512 < l.length := h1
    omega
  refine ei _ (ai Spare_ok (ei ((x, l)) (ei [] (ai (ai rfl (ai rfl (ai rfl (ai rfl (ai (fun _ => Or.inl rfl) (ai (by first | exact nof | exact (fun _ => ai rfl rfl)) (by first | exact Or.inl rfl | exact Or.inr rfl))))))) (ai (by (repeat' (first | with_reducible rfl | exact trivial | refine ai ?_ ?_ | (show (_ : Int) = _; first | with_reducible rfl | exact wr1 (by omega) | (simp only [zz, reduceCtorEq] <;> first | done | rfl | omega) | omega | rfl) | exact rfl | exact (fun _ => rfl) | exact (fun _ _ => rfl) | exact nof))) (ai trivial (ai (hl) ?_)))))))
  refine ei _ (ai rSpare_ok (ei ((x, l)) (ei [] (ai (ai rfl (ai rfl (ai rfl (ai rfl (ai (fun _ => Or.inl rfl) (ai (by first | exact nof | exact (fun _ => ai rfl rfl)) (by first | exact Or.inl rfl | exact Or.inr rfl))))))) (ai (by (repeat' (first | with_reducible rfl | exact trivial | refine ai ?_ ?_ | (show (_ : Int) = _; first | with_reducible rfl | exact wr1 (by omega) | (simp only [zz, reduceCtorEq] <;> first | done | rfl | omega) | omega | rfl) | exact rfl | exact (fun _ => rfl) | exact (fun _ _ => rfl) | exact nof))) (ai trivial (ai (hl) ?_)))))))
  refine ei (.seq [0, 1, 3, 4, 2, 5, 6, 7, 8, 9, 10, 11, 12, 13, 14, 15, 16, 17, 18, 19, 20]) (ai (by kernel_rfl) ?_)
  refine ei _ (ai Verify_ok (ei ((x, l)) (ei [] (ai (ai rfl (ai rfl (ai rfl (ai rfl (ai (fun _ => Or.inl rfl) (ai (by first | exact nof | exact (fun _ => ai rfl rfl)) (by first | exact Or.inl rfl | exact Or.inr rfl))))))) (ai (by (repeat' (first | with_reducible rfl | exact trivial | refine ai ?_ ?_ | (show (_ : Int) = _; first | with_reducible rfl | exact wr1 (by omega) | (simp only [zz, reduceCtorEq] <;> first | done | rfl | omega) | omega | rfl) | exact rfl | exact (fun _ => rfl) | exact (fun _ _ => rfl) | exact nof))) (ai trivial (ai (hl) ?_)))))))
  refine ei _ (ai rVerify_ok (ei ((x, l)) (ei [] (ai (ai rfl (ai rfl (ai rfl (ai rfl (ai (fun _ => Or.inl rfl) (ai (by first | exact nof | exact (fun _ => ai rfl rfl)) (by first | exact Or.inl rfl | exact Or.inr rfl))))))) (ai (by (repeat' (first | with_reducible rfl | exact trivial | refine ai ?_ ?_ | (show (_ : Int) = _; first | with_reducible rfl | exact wr1 (by omega) | (simp only [zz, reduceCtorEq] <;> first | done | rfl | omega) | omega | rfl) | exact rfl | exact (fun _ => rfl) | exact (fun _ _ => rfl) | exact nof))) (ai trivial (ai (hl) ?_)))))))
  refine bcase_b (b := true) (by (first | (simp only [beq_self_eq_true, Bool.and_true, Bool.and_self]; done) | (simp only [hz, Int.add_zero, wrap_z]; done) | (simp only [hz, Int.add_zero, wrap_z]; rfl) | decide | rfl | decide | (simp; done))) (fun _ => ?_) (fun h => absurd h (by decide))
  refine ei _ (ai (eqn_self _ (sparL_len hl)) (ei (()) (ei [] (ai (ai rfl (ai rfl (ai rfl (ai rfl (ai (fun _ => Or.inl rfl) (ai (by first | exact nof | exact (fun _ => ai rfl rfl)) (by first | exact Or.inl rfl | exact Or.inr rfl))))))) (ai (by (repeat' (first | with_reducible rfl | exact trivial | refine ai ?_ ?_ | (show (_ : Int) = _; first | with_reducible rfl | exact wr1 (by omega) | (simp only [zz, reduceCtorEq] <;> first | done | rfl | omega) | omega | rfl) | exact rfl | exact (fun _ => rfl) | exact (fun _ _ => rfl) | exact nof))) (ai trivial (ai (trivial) ?_)))))))
  refine bcase_b (b := true) (by (first | (simp only [beq_self_eq_true, Bool.and_true, Bool.and_self]; done) | (simp only [hz, Int.add_zero, wrap_z]; done) | (simp only [hz, Int.add_zero, wrap_z]; rfl) | decide | rfl | decide | (simp; done))) (fun _ => ?_) (fun h => absurd h (by decide))
  refine ei _ (ai awake7_ok (ei (()) (ei [] (ai (ai rfl (ai rfl (ai rfl (ai rfl (ai (fun _ => Or.inl rfl) (ai (by first | exact nof | exact (fun _ => ai rfl rfl)) (by first | exact Or.inl rfl | exact Or.inr rfl))))))) (ai (by (repeat' (first | with_reducible rfl | exact trivial | refine ai ?_ ?_ | (show (_ : Int) = _; first | with_reducible rfl | exact wr1 (by omega) | (simp only [zz, reduceCtorEq] <;> first | done | rfl | omega) | omega | rfl) | exact rfl | exact (fun _ => rfl) | exact (fun _ _ => rfl) | exact nof))) (ai trivial (ai (trivial) ?_)))))))
  refine ai (ai (fun _ => (by (repeat' (first | exact rfl | exact trivial | exact (fun _ => rfl) | exact (fun _ _ => rfl) | exact nof | refine ai ?_ ?_)))) ?_) trivial
  any_goals (repeat' (first | with_reducible rfl | exact trivial | refine ai ?_ ?_ | (show (_ : Int) = _; first | with_reducible rfl | exact wr1 (by omega) | (simp only [zz, reduceCtorEq] <;> first | done | rfl | omega) | omega | rfl) | exact rfl | exact (fun _ => rfl) | exact (fun _ _ => rfl) | exact nof))

end Go.Sx.Pn
