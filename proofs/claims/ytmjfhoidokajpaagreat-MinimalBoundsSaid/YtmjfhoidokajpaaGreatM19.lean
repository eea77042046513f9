/- Contracts of chapter 7: Spare, walked. -/
import Derived.Test.YtmjfhoidokajpaaGreatM18
set_option maxHeartbeats 1000000
set_option maxRecDepth 4000
set_option linter.unusedSimpArgs false
set_option linter.unusedVariables false
set_option linter.unusedSectionVars false
namespace Go.Sx.Pn
open Go Go.Proofs

theorem join_zero (g f : Nat → List PV) (k : Nat) : joinF 0 g f k = f k := by simp [joinF]
theorem Spare_ok : FnOk Tryz.prog 25 SpareS := by
  refine fnOk_inl [50, 52, 1000022, 1000032] ?_
  refine fnOk (Tb := tab) mixed tab_ok Tryz.func25 rfl rfl ?_
  rintro ⟨x, l⟩ hpre
  refine ai (ai rfl (ai rfl rfl)) ?_
  have hl : l.length ≤ 1000000 := hpre
  by_cases h : verE x l = 0
  · obtain ⟨h0, n, hn, hx, hc, _⟩ := ver_parts h
    have hnn : x.on.n.toNat = n := by rw [hx]; rfl
    have hl2 : l.length ≤ 256 := (chkL_ok hn hc).1
    have hsp : sparL x l = (spTo x n l l.length).2.reverse := by rw [sparL, if_pos h, hnn]
    obtain ⟨P, hP⟩ : ∃ P, primesL n x = P := ⟨_, rfl⟩
    have c1 := fnSF_at ver_ok (x, l) hpre (r := .tup [wP x P, iP 0]) (by show PV.tup [verP x l, iP (verE x l)] = _; rw [verP, if_pos h, h, hnn, hP])
    refine ei _ (ai c1 (ei (()) (ei [] (ai (ai rfl (ai rfl (ai rfl (ai rfl (ai (fun _ => Or.inl rfl) (ai (by first | exact nof | exact (fun _ => ai rfl rfl)) (by first | exact Or.inl rfl | exact Or.inr rfl))))))) (ai (by (repeat' (first | with_reducible rfl | exact trivial | refine ai ?_ ?_ | (show (_ : Int) = _; first | with_reducible rfl | exact wr1 (by omega) | (simp only [zz, reduceCtorEq] <;> first | done | rfl | omega) | omega | rfl) | exact rfl | exact (fun _ => rfl) | exact (fun _ _ => rfl) | exact nof))) (ai trivial (ai (trivial) ?_)))))))
    refine fnInl mixed tab_ok Tryz.func50 rfl rfl ?_
    refine ai rfl ?_
    intro b hb
    cases b with
    | true =>
      have hlz : l.length = 0 := hb rfl
      refine ei _ (ai back_ok (ei (l) (ei [] (ai (ai rfl (ai rfl (ai rfl (ai rfl (ai (fun _ => Or.inl rfl) (ai (by first | exact nof | exact (fun _ => ai rfl rfl)) (by first | exact Or.inl rfl | exact Or.inr rfl))))))) (ai (by (repeat' (first | with_reducible rfl | exact trivial | refine ai ?_ ?_ | (show (_ : Int) = _; first | with_reducible rfl | exact wr1 (by omega) | (simp only [zz, reduceCtorEq] <;> first | done | rfl | omega) | omega | rfl) | exact rfl | exact (fun _ => rfl) | exact (fun _ _ => rfl) | exact nof))) (ai trivial (ai (trivial) ?_)))))))
      refine ai (ai rfl rfl) (ei backIt (ai backIt_ok (ei l (ai ?_ (ai hl (ai ?_ (ei { X := Nat, uo := fun k => [⟨2, 22, [.s (csA (spTo x n l k).1)]⟩, ⟨3, 36, [rowN (spTo x n l k).2]⟩], inv := fun k y => y = k ∧ k ≤ l.length, x0 := 0 } (ai ?_ (ai ?_ (ai ⟨rfl, Nat.zero_le _⟩ (ai ?_ ?_)))))))))))
      · skip
        (repeat' (first | exact rfl | exact trivial | exact (fun _ => rfl) | exact (fun _ _ => rfl) | exact nof | refine ai ?_ ?_))
      · intro v hv
        obtain ⟨k, _, rfl⟩ := List.mem_map.1 hv
        rfl
      · skip
        (repeat' (first | exact rfl | exact trivial | exact (fun _ => rfl) | exact (fun _ _ => rfl) | exact nof | refine ai ?_ ?_))
      · skip
        (repeat' (first | exact rfl | exact trivial | exact (fun _ => rfl) | exact (fun _ _ => rfl) | exact nof | refine ai ?_ ?_))
        all_goals exact hlz
      · intro (k : Nat) (y : Nat) vs ⟨(hy : y = k), _⟩ hvs
        subst hy
        have hvs : ((List.range l.length).map (backV l))[y]? = some vs := hvs
        have hy : y < l.length := by
          have := (List.getElem?_eq_some_iff.1 hvs).1
          simpa using this
        rw [List.getElem?_map, List.getElem?_range hy] at hvs
        simp only [Option.map_some, Option.some.injEq] at hvs
        subst hvs
        obtain ⟨s1, s2, s3⟩ := sp_len x n l y (by omega)
        have hst : spTo x n l (y + 1) = spSt x n (l.length - 1 - y) (spTo x n l y) := rfl
        have hir : l.length - 1 - y < (spTo x n l y).1.length := by omega
        have ew := wr1 (k := l.length - 1 - y) (by omega)
        refine fnInl mixed tab_ok Tryz.func50 rfl rfl ?_
        refine ai rfl ?_
        intro b2 hb2
        cases b2 with
        | true =>
          have hb3 : (spTo x n l y).1.length = 0 := hb2 rfl
          omega
        | false =>
          refine ai (ai (by show 0 + (spTo x n l y).1.length ≤ maxLen; unfold maxLen; omega) (by show (0 + (spTo x n l y).1.length) * 16 ≤ 140737488355328; omega)) ?_
          refine ai (fun _ _ => rfl) ?_
          refine fnInl mixed tab_ok Tryz.func52 rfl rfl ?_
          refine ai rfl ?_
          refine ai (ai (Int.natCast_nonneg _) (ai (by show ((l.length - 1 - y : Nat) : Int) ≤ IntKind.i64.wrap (((l.length - 1 - y : Nat) : Int) + 1); rw [ew]; omega) (ai (by show IntKind.i64.wrap (((l.length - 1 - y : Nat) : Int) + 1) ≤ ((0 + (spTo x n l y).1.length : Nat) : Int); rw [ew]; omega) (Int.le_refl _)))) ?_
          refine bcase_b (b := false) (by show (((l.length - 1 - y : Nat) : Int) == IntKind.i64.wrap (((l.length - 1 - y : Nat) : Int) + 1)) = false; rw [ew, beq_eq_false_iff_ne]; omega) (fun h => absurd h (by decide)) (fun _ => ?_)
          refine ei (.seq [0, 1, 2, 3, 4, 5, 6, 7]) (ai (by kernel_rfl) ?_)
          refine ai (ai (Int.le_refl _) (ai (Int.natCast_nonneg _) (ai (by show ((l.length - 1 - y : Nat) : Int) ≤ ((0 + (spTo x n l y).1.length : Nat) : Int); omega) (by show 0 < 0 + (spTo x n l y).1.length; omega)))) ?_
          refine ai (ai (by show (0 : Int) ≤ IntKind.i64.wrap (((l.length - 1 - y : Nat) : Int) + 1); rw [ew]; omega) (ai (by show IntKind.i64.wrap (((l.length - 1 - y : Nat) : Int) + 1) ≤ ((0 + (spTo x n l y).1.length : Nat) : Int); rw [ew]; omega) (ai (Int.le_refl _) (by show 0 < 0 + (spTo x n l y).1.length; omega)))) ?_
          have en : (((l.length - 1 - y : Nat) : Int).toNat - (0 : Int).toNat) = l.length - 1 - y := by rw [Int.toNat_natCast]; rfl
          have em : ((((0 + (spTo x n l y).1.length) : Nat) : Int).toNat - (IntKind.i64.wrap (((l.length - 1 - y : Nat) : Int) + 1)).toNat) = (spTo x n l y).1.length - (l.length - 1 - y + 1) := by rw [ew, Int.toNat_natCast, Int.toNat_natCast, Nat.zero_add]
          have el : (IntKind.i64.wrap (((l.length - 1 - y : Nat) : Int) + 1)).toNat = l.length - 1 - y + 1 := by rw [ew, Int.toNat_natCast]
          have ea : (((l.length - 1 - y : Nat) : Int).toNat - (0 : Int).toNat) + ((((0 + (spTo x n l y).1.length) : Nat) : Int).toNat - (IntKind.i64.wrap (((l.length - 1 - y : Nat) : Int) + 1)).toNat) = (spTo x n l y).1.length - 1 := by omega
          refine ai (ai (by show (((l.length - 1 - y : Nat) : Int).toNat - (0 : Int).toNat) + ((((0 + (spTo x n l y).1.length) : Nat) : Int).toNat - (IntKind.i64.wrap (((l.length - 1 - y : Nat) : Int) + 1)).toNat) ≤ (0 + (spTo x n l y).1.length); omega) (ai (by show (IntKind.i64.wrap (((l.length - 1 - y : Nat) : Int) + 1)).toNat + ((((0 + (spTo x n l y).1.length) : Nat) : Int).toNat - (IntKind.i64.wrap (((l.length - 1 - y : Nat) : Int) + 1)).toNat) ≤ (0 + (spTo x n l y).1.length); omega) (by show 0 < (0 + (spTo x n l y).1.length); omega))) ?_
          refine ai (ai (Int.natCast_nonneg _) (ai (by show (((((l.length - 1 - y : Nat) : Int).toNat - (0 : Int).toNat) + ((((0 + (spTo x n l y).1.length) : Nat) : Int).toNat - (IntKind.i64.wrap (((l.length - 1 - y : Nat) : Int) + 1)).toNat) : Nat) : Int) ≤ (((0 + (spTo x n l y).1.length) : Nat) : Int); omega) (by show ((0 : Nat) : Int) + (((0 + (spTo x n l y).1.length) : Nat) : Int) ≤ (((0 + (spTo x n l y).1.length) : Nat) : Int); omega))) ?_
          refine ei _ (ai covW_ok (ei ((n, x, P, (spTo x n l y).1.eraseIdx (l.length - 1 - y))) (ei [] (ai (ai rfl (ai rfl (ai rfl (ai rfl (ai (by first | exact (fun _ => Or.inl rfl) | exact nof | exact (fun _ => Or.inr (by (repeat' (first | exact rfl | exact trivial | exact (fun _ => rfl) | exact (fun _ _ => rfl) | exact nof | refine ai ?_ ?_))))) (ai (by first | exact nof | exact (fun _ => ai rfl rfl)) (by first | exact Or.inl rfl | exact Or.inr rfl))))))) (ai ?_ (ai (by (repeat' (first | with_reducible rfl | exact trivial | refine ai ?_ ?_ | (show (_ : Int) = _; first | with_reducible rfl | exact wr1 (by omega) | (simp only [zz, reduceCtorEq] <;> first | done | rfl | omega) | omega | rfl) | exact rfl | exact (fun _ => rfl) | exact (fun _ _ => rfl) | exact nof))) (ai (⟨hn, hx, by show ((spTo x n l y).1.eraseIdx (l.length - 1 - y)).length ≤ 1000000; rw [erase_len hir]; omega⟩) ?_)))))))
          · skip
            (repeat' (first | with_reducible rfl | exact trivial | refine ai ?_ ?_ | (show (_ : Int) = _; first | with_reducible rfl | exact wr1 (by omega) | (simp only [zz, reduceCtorEq] <;> first | done | rfl | omega) | omega | rfl) | exact rfl | exact (fun _ => rfl) | exact (fun _ _ => rfl) | exact nof))
            · show (((l.length - 1 - y : Nat) : Int).toNat - (0 : Int).toNat) + ((((0 + (spTo x n l y).1.length) : Nat) : Int).toNat - (IntKind.i64.wrap (((l.length - 1 - y : Nat) : Int) + 1)).toNat) = _
              rw [ea, erase_len hir]
            · refine del_cells (Nat.zero_add _) en hir el em rfl _ ?_ _
              exact fun k _ => join_zero _ _ k
          refine bcase_b (b := covW x n ((spTo x n l y).1.eraseIdx (l.length - 1 - y))) (by first | exact rfl | (simp only [zz, reduceCtorEq] <;> first | done | exact rfl)) (fun h9 => ?_) (fun h9 => ?_)
          · have hq : spTo x n l (y + 1) = ((spTo x n l y).1.eraseIdx (l.length - 1 - y), (spTo x n l y).2 ++ [l.length - 1 - y]) := by rw [hst]; exact sp_yes (by rw [← covWQ]; exact h9)
            have hq1 : (spTo x n l (y + 1)).1 = (spTo x n l y).1.eraseIdx (l.length - 1 - y) := by rw [hq]
            have hq2 : (spTo x n l (y + 1)).2 = (spTo x n l y).2 ++ [l.length - 1 - y] := by rw [hq]
            refine ai (ai (by show (spTo x n l y).2.length + 1 ≤ maxLen; unfold maxLen; omega) (by show ((spTo x n l y).2.length + 1) * 8 ≤ 140737488355328; omega)) ?_
            refine ai (fun k hk => by
              have hk : k < 1 := hk
              obtain rfl : k = 0 := by omega
              rfl) ?_
            refine ei (y + 1) (ai rfl (ai ?_ ⟨rfl, hy⟩))
            (repeat' (first | exact rfl | exact trivial | exact (fun _ => rfl) | exact (fun _ _ => rfl) | exact nof | refine ai ?_ ?_))
            · show (((l.length - 1 - y : Nat) : Int).toNat - (0 : Int).toNat) + ((((0 + (spTo x n l y).1.length) : Nat) : Int).toNat - (IntKind.i64.wrap (((l.length - 1 - y : Nat) : Int) + 1)).toNat) = (spTo x n l (y + 1)).1.length
              rw [hq1, ea, erase_len hir]
            · intro k hk
              rw [hq1]
              refine del_cells (Nat.zero_add _) en hir el em rfl _ ?_ _ k hk
              exact fun k _ => join_zero _ _ k
            · exact app_len hq2
            · exact join_app (fun i : Nat => [iP (i : Int)]) 0 hq2 _ rfl
          · have hq : spTo x n l (y + 1) = spTo x n l y := by rw [hst]; exact sp_no (by rw [← covWQ]; exact h9)
            refine ei (y + 1) (ai rfl (ai ?_ ⟨rfl, hy⟩))
            (repeat' (first | exact rfl | exact trivial | exact (fun _ => rfl) | exact (fun _ _ => rfl) | exact nof | refine ai ?_ ?_))
            · show (spTo x n l y).1.length = (spTo x n l (y + 1)).1.length
              rw [hq]
            · intro k hk
              rw [hq]
            · show (spTo x n l y).2.length = (spTo x n l (y + 1)).2.length
              rw [hq]
            · intro k hk
              rw [hq]
      · intro y ⟨(hy : y = ((List.range l.length).map (backV l)).length), _⟩
        have hy : y = l.length := by rw [hy, List.length_map, List.length_range]
        subst hy
        have hol := (sp_len x n l l.length (Nat.le_refl _)).2.2
        refine ei _ (ai revN_ok (ei ((spTo x n l l.length).2) (ei [4] (ai (ai rfl (ai rfl (ai rfl (ai rfl (ai (by first | exact (fun _ => Or.inl rfl) | exact nof | exact (fun _ => Or.inr (by (repeat' (first | exact rfl | exact trivial | exact (fun _ => rfl) | exact (fun _ _ => rfl) | exact nof | refine ai ?_ ?_))))) (ai (by first | exact nof | exact (fun _ => ai rfl rfl)) (by first | exact Or.inl rfl | exact Or.inr rfl))))))) (ai (by (repeat' (first | with_reducible rfl | exact trivial | refine ai ?_ ?_ | (show (_ : Int) = _; first | with_reducible rfl | exact wr1 (by omega) | (simp only [zz, reduceCtorEq] <;> first | done | rfl | omega) | omega | rfl) | exact rfl | exact (fun _ => rfl) | exact (fun _ _ => rfl) | exact nof))) (ai (by (repeat' (first | with_reducible rfl | exact trivial | refine ai ?_ ?_ | (show (_ : Int) = _; first | with_reducible rfl | exact wr1 (by omega) | (simp only [zz, reduceCtorEq] <;> first | done | rfl | omega) | omega | rfl) | exact rfl | exact (fun _ => rfl) | exact (fun _ _ => rfl) | exact nof))) (ai ((by show (spTo x n l l.length).2.length ≤ 1000000000; omega)) ?_)))))))
        refine ai (ai (fun _ => (by (repeat' (first | exact rfl | exact trivial | exact (fun _ => rfl) | exact (fun _ _ => rfl) | exact nof | refine ai ?_ ?_)))) ?_) trivial
        show ple _ (.tup [nsP (sparL x l), iP (verE x l)])
        rw [hsp, h]
        any_goals (repeat' (first | with_reducible rfl | exact trivial | refine ai ?_ ?_ | (show (_ : Int) = _; first | with_reducible rfl | exact wr1 (by omega) | (simp only [zz, reduceCtorEq] <;> first | done | rfl | omega) | omega | rfl) | exact rfl | exact (fun _ => rfl) | exact (fun _ _ => rfl) | exact nof))
    | false =>
      refine ai (ai (by show 0 + l.length ≤ maxLen; unfold maxLen; omega) (by show (0 + l.length) * 16 ≤ 140737488355328; omega)) ?_
      refine ai (fun _ _ => rfl) ?_
      refine ei _ (ai back_ok (ei (l) (ei [] (ai (ai rfl (ai rfl (ai rfl (ai rfl (ai (fun _ => Or.inl rfl) (ai (by first | exact nof | exact (fun _ => ai rfl rfl)) (by first | exact Or.inl rfl | exact Or.inr rfl))))))) (ai (by (repeat' (first | with_reducible rfl | exact trivial | refine ai ?_ ?_ | (show (_ : Int) = _; first | with_reducible rfl | exact wr1 (by omega) | (simp only [zz, reduceCtorEq] <;> first | done | rfl | omega) | omega | rfl) | exact rfl | exact (fun _ => rfl) | exact (fun _ _ => rfl) | exact nof))) (ai trivial (ai (trivial) ?_)))))))
      refine ai (ai rfl rfl) (ei backIt (ai backIt_ok (ei l (ai ?_ (ai hl (ai ?_ (ei { X := Nat, uo := fun k => [⟨4, 22, [.s (csA (spTo x n l k).1)]⟩, ⟨5, 36, [rowN (spTo x n l k).2]⟩], inv := fun k y => y = k ∧ k ≤ l.length, x0 := 0 } (ai ?_ (ai ?_ (ai ⟨rfl, Nat.zero_le _⟩ (ai ?_ ?_)))))))))))
      · skip
        (repeat' (first | exact rfl | exact trivial | exact (fun _ => rfl) | exact (fun _ _ => rfl) | exact nof | refine ai ?_ ?_))
      · intro v hv
        obtain ⟨k, _, rfl⟩ := List.mem_map.1 hv
        rfl
      · skip
        (repeat' (first | exact rfl | exact trivial | exact (fun _ => rfl) | exact (fun _ _ => rfl) | exact nof | refine ai ?_ ?_))
      · skip
        (repeat' (first | exact rfl | exact trivial | exact (fun _ => rfl) | exact (fun _ _ => rfl) | exact nof | refine ai ?_ ?_))
        all_goals first | exact Nat.zero_add _ | exact fun k _ => join_zero _ _ k
      · intro (k : Nat) (y : Nat) vs ⟨(hy : y = k), _⟩ hvs
        subst hy
        have hvs : ((List.range l.length).map (backV l))[y]? = some vs := hvs
        have hy : y < l.length := by
          have := (List.getElem?_eq_some_iff.1 hvs).1
          simpa using this
        rw [List.getElem?_map, List.getElem?_range hy] at hvs
        simp only [Option.map_some, Option.some.injEq] at hvs
        subst hvs
        obtain ⟨s1, s2, s3⟩ := sp_len x n l y (by omega)
        have hst : spTo x n l (y + 1) = spSt x n (l.length - 1 - y) (spTo x n l y) := rfl
        have hir : l.length - 1 - y < (spTo x n l y).1.length := by omega
        have ew := wr1 (k := l.length - 1 - y) (by omega)
        refine fnInl mixed tab_ok Tryz.func50 rfl rfl ?_
        refine ai rfl ?_
        intro b2 hb2
        cases b2 with
        | true =>
          have hb3 : (spTo x n l y).1.length = 0 := hb2 rfl
          omega
        | false =>
          refine ai (ai (by show 0 + (spTo x n l y).1.length ≤ maxLen; unfold maxLen; omega) (by show (0 + (spTo x n l y).1.length) * 16 ≤ 140737488355328; omega)) ?_
          refine ai (fun _ _ => rfl) ?_
          refine fnInl mixed tab_ok Tryz.func52 rfl rfl ?_
          refine ai rfl ?_
          refine ai (ai (Int.natCast_nonneg _) (ai (by show ((l.length - 1 - y : Nat) : Int) ≤ IntKind.i64.wrap (((l.length - 1 - y : Nat) : Int) + 1); rw [ew]; omega) (ai (by show IntKind.i64.wrap (((l.length - 1 - y : Nat) : Int) + 1) ≤ ((0 + (spTo x n l y).1.length : Nat) : Int); rw [ew]; omega) (Int.le_refl _)))) ?_
          refine bcase_b (b := false) (by show (((l.length - 1 - y : Nat) : Int) == IntKind.i64.wrap (((l.length - 1 - y : Nat) : Int) + 1)) = false; rw [ew, beq_eq_false_iff_ne]; omega) (fun h => absurd h (by decide)) (fun _ => ?_)
          refine ei (.seq [0, 1, 2, 3, 4, 5, 6, 7]) (ai (by kernel_rfl) ?_)
          refine ai (ai (Int.le_refl _) (ai (Int.natCast_nonneg _) (ai (by show ((l.length - 1 - y : Nat) : Int) ≤ ((0 + (spTo x n l y).1.length : Nat) : Int); omega) (by show 0 < 0 + (spTo x n l y).1.length; omega)))) ?_
          refine ai (ai (by show (0 : Int) ≤ IntKind.i64.wrap (((l.length - 1 - y : Nat) : Int) + 1); rw [ew]; omega) (ai (by show IntKind.i64.wrap (((l.length - 1 - y : Nat) : Int) + 1) ≤ ((0 + (spTo x n l y).1.length : Nat) : Int); rw [ew]; omega) (ai (Int.le_refl _) (by show 0 < 0 + (spTo x n l y).1.length; omega)))) ?_
          have en : (((l.length - 1 - y : Nat) : Int).toNat - (0 : Int).toNat) = l.length - 1 - y := by rw [Int.toNat_natCast]; rfl
          have em : ((((0 + (spTo x n l y).1.length) : Nat) : Int).toNat - (IntKind.i64.wrap (((l.length - 1 - y : Nat) : Int) + 1)).toNat) = (spTo x n l y).1.length - (l.length - 1 - y + 1) := by rw [ew, Int.toNat_natCast, Int.toNat_natCast, Nat.zero_add]
          have el : (IntKind.i64.wrap (((l.length - 1 - y : Nat) : Int) + 1)).toNat = l.length - 1 - y + 1 := by rw [ew, Int.toNat_natCast]
          have ea : (((l.length - 1 - y : Nat) : Int).toNat - (0 : Int).toNat) + ((((0 + (spTo x n l y).1.length) : Nat) : Int).toNat - (IntKind.i64.wrap (((l.length - 1 - y : Nat) : Int) + 1)).toNat) = (spTo x n l y).1.length - 1 := by omega
          refine ai (ai (by show (((l.length - 1 - y : Nat) : Int).toNat - (0 : Int).toNat) + ((((0 + (spTo x n l y).1.length) : Nat) : Int).toNat - (IntKind.i64.wrap (((l.length - 1 - y : Nat) : Int) + 1)).toNat) ≤ (0 + (spTo x n l y).1.length); omega) (ai (by show (IntKind.i64.wrap (((l.length - 1 - y : Nat) : Int) + 1)).toNat + ((((0 + (spTo x n l y).1.length) : Nat) : Int).toNat - (IntKind.i64.wrap (((l.length - 1 - y : Nat) : Int) + 1)).toNat) ≤ (0 + (spTo x n l y).1.length); omega) (by show 0 < (0 + (spTo x n l y).1.length); omega))) ?_
          refine ai (ai (Int.natCast_nonneg _) (ai (by show (((((l.length - 1 - y : Nat) : Int).toNat - (0 : Int).toNat) + ((((0 + (spTo x n l y).1.length) : Nat) : Int).toNat - (IntKind.i64.wrap (((l.length - 1 - y : Nat) : Int) + 1)).toNat) : Nat) : Int) ≤ (((0 + (spTo x n l y).1.length) : Nat) : Int); omega) (by show ((0 : Nat) : Int) + (((0 + (spTo x n l y).1.length) : Nat) : Int) ≤ (((0 + (spTo x n l y).1.length) : Nat) : Int); omega))) ?_
          refine ei _ (ai covW_ok (ei ((n, x, P, (spTo x n l y).1.eraseIdx (l.length - 1 - y))) (ei [] (ai (ai rfl (ai rfl (ai rfl (ai rfl (ai (by first | exact (fun _ => Or.inl rfl) | exact nof | exact (fun _ => Or.inr (by (repeat' (first | exact rfl | exact trivial | exact (fun _ => rfl) | exact (fun _ _ => rfl) | exact nof | refine ai ?_ ?_))))) (ai (by first | exact nof | exact (fun _ => ai rfl rfl)) (by first | exact Or.inl rfl | exact Or.inr rfl))))))) (ai ?_ (ai (by (repeat' (first | with_reducible rfl | exact trivial | refine ai ?_ ?_ | (show (_ : Int) = _; first | with_reducible rfl | exact wr1 (by omega) | (simp only [zz, reduceCtorEq] <;> first | done | rfl | omega) | omega | rfl) | exact rfl | exact (fun _ => rfl) | exact (fun _ _ => rfl) | exact nof))) (ai (⟨hn, hx, by show ((spTo x n l y).1.eraseIdx (l.length - 1 - y)).length ≤ 1000000; rw [erase_len hir]; omega⟩) ?_)))))))
          · skip
            (repeat' (first | with_reducible rfl | exact trivial | refine ai ?_ ?_ | (show (_ : Int) = _; first | with_reducible rfl | exact wr1 (by omega) | (simp only [zz, reduceCtorEq] <;> first | done | rfl | omega) | omega | rfl) | exact rfl | exact (fun _ => rfl) | exact (fun _ _ => rfl) | exact nof))
            · show (((l.length - 1 - y : Nat) : Int).toNat - (0 : Int).toNat) + ((((0 + (spTo x n l y).1.length) : Nat) : Int).toNat - (IntKind.i64.wrap (((l.length - 1 - y : Nat) : Int) + 1)).toNat) = _
              rw [ea, erase_len hir]
            · refine del_cells (Nat.zero_add _) en hir el em rfl _ ?_ _
              exact fun k _ => join_zero _ _ k
          refine bcase_b (b := covW x n ((spTo x n l y).1.eraseIdx (l.length - 1 - y))) (by first | exact rfl | (simp only [zz, reduceCtorEq] <;> first | done | exact rfl)) (fun h9 => ?_) (fun h9 => ?_)
          · have hq : spTo x n l (y + 1) = ((spTo x n l y).1.eraseIdx (l.length - 1 - y), (spTo x n l y).2 ++ [l.length - 1 - y]) := by rw [hst]; exact sp_yes (by rw [← covWQ]; exact h9)
            have hq1 : (spTo x n l (y + 1)).1 = (spTo x n l y).1.eraseIdx (l.length - 1 - y) := by rw [hq]
            have hq2 : (spTo x n l (y + 1)).2 = (spTo x n l y).2 ++ [l.length - 1 - y] := by rw [hq]
            refine ai (ai (by show (spTo x n l y).2.length + 1 ≤ maxLen; unfold maxLen; omega) (by show ((spTo x n l y).2.length + 1) * 8 ≤ 140737488355328; omega)) ?_
            refine ai (fun k hk => by
              have hk : k < 1 := hk
              obtain rfl : k = 0 := by omega
              rfl) ?_
            refine ei (y + 1) (ai rfl (ai ?_ ⟨rfl, hy⟩))
            (repeat' (first | exact rfl | exact trivial | exact (fun _ => rfl) | exact (fun _ _ => rfl) | exact nof | refine ai ?_ ?_))
            · show (((l.length - 1 - y : Nat) : Int).toNat - (0 : Int).toNat) + ((((0 + (spTo x n l y).1.length) : Nat) : Int).toNat - (IntKind.i64.wrap (((l.length - 1 - y : Nat) : Int) + 1)).toNat) = (spTo x n l (y + 1)).1.length
              rw [hq1, ea, erase_len hir]
            · intro k hk
              rw [hq1]
              refine del_cells (Nat.zero_add _) en hir el em rfl _ ?_ _ k hk
              exact fun k _ => join_zero _ _ k
            · exact app_len hq2
            · exact join_app (fun i : Nat => [iP (i : Int)]) 0 hq2 _ rfl
          · have hq : spTo x n l (y + 1) = spTo x n l y := by rw [hst]; exact sp_no (by rw [← covWQ]; exact h9)
            refine ei (y + 1) (ai rfl (ai ?_ ⟨rfl, hy⟩))
            (repeat' (first | exact rfl | exact trivial | exact (fun _ => rfl) | exact (fun _ _ => rfl) | exact nof | refine ai ?_ ?_))
            · show (spTo x n l y).1.length = (spTo x n l (y + 1)).1.length
              rw [hq]
            · intro k hk
              rw [hq]
            · show (spTo x n l y).2.length = (spTo x n l (y + 1)).2.length
              rw [hq]
            · intro k hk
              rw [hq]
      · intro y ⟨(hy : y = ((List.range l.length).map (backV l)).length), _⟩
        have hy : y = l.length := by rw [hy, List.length_map, List.length_range]
        subst hy
        have hol := (sp_len x n l l.length (Nat.le_refl _)).2.2
        refine ei _ (ai revN_ok (ei ((spTo x n l l.length).2) (ei [6] (ai (ai rfl (ai rfl (ai rfl (ai rfl (ai (by first | exact (fun _ => Or.inl rfl) | exact nof | exact (fun _ => Or.inr (by (repeat' (first | exact rfl | exact trivial | exact (fun _ => rfl) | exact (fun _ _ => rfl) | exact nof | refine ai ?_ ?_))))) (ai (by first | exact nof | exact (fun _ => ai rfl rfl)) (by first | exact Or.inl rfl | exact Or.inr rfl))))))) (ai (by (repeat' (first | with_reducible rfl | exact trivial | refine ai ?_ ?_ | (show (_ : Int) = _; first | with_reducible rfl | exact wr1 (by omega) | (simp only [zz, reduceCtorEq] <;> first | done | rfl | omega) | omega | rfl) | exact rfl | exact (fun _ => rfl) | exact (fun _ _ => rfl) | exact nof))) (ai (by (repeat' (first | with_reducible rfl | exact trivial | refine ai ?_ ?_ | (show (_ : Int) = _; first | with_reducible rfl | exact wr1 (by omega) | (simp only [zz, reduceCtorEq] <;> first | done | rfl | omega) | omega | rfl) | exact rfl | exact (fun _ => rfl) | exact (fun _ _ => rfl) | exact nof))) (ai ((by show (spTo x n l l.length).2.length ≤ 1000000000; omega)) ?_)))))))
        refine ai (ai (fun _ => (by (repeat' (first | exact rfl | exact trivial | exact (fun _ => rfl) | exact (fun _ _ => rfl) | exact nof | refine ai ?_ ?_)))) ?_) trivial
        show ple _ (.tup [nsP (sparL x l), iP (verE x l)])
        rw [hsp, h]
        any_goals (repeat' (first | with_reducible rfl | exact trivial | refine ai ?_ ?_ | (show (_ : Int) = _; first | with_reducible rfl | exact wr1 (by omega) | (simp only [zz, reduceCtorEq] <;> first | done | rfl | omega) | omega | rfl) | exact rfl | exact (fun _ => rfl) | exact (fun _ _ => rfl) | exact nof))
  · have c1 := fnSF_at ver_ok (x, l) hpre (r := .tup [.val (.pointer none), iP (verE x l)]) (by show PV.tup [verP x l, iP (verE x l)] = _; rw [verP, if_neg h])
    refine ei _ (ai c1 (ei (()) (ei [] (ai (ai rfl (ai rfl (ai rfl (ai rfl (ai (fun _ => Or.inl rfl) (ai (by first | exact nof | exact (fun _ => ai rfl rfl)) (by first | exact Or.inl rfl | exact Or.inr rfl))))))) (ai (by (repeat' (first | with_reducible rfl | exact trivial | refine ai ?_ ?_ | (show (_ : Int) = _; first | with_reducible rfl | exact wr1 (by omega) | (simp only [zz, reduceCtorEq] <;> first | done | rfl | omega) | omega | rfl) | exact rfl | exact (fun _ => rfl) | exact (fun _ _ => rfl) | exact nof))) (ai trivial (ai (trivial) ?_)))))))
    refine bcase_n (p := verE x l = 0) (by first | (with_reducible refine bif_lt ?_; omega) | (with_reducible refine bif_le ?_; omega) | (with_reducible refine bif_eq ?_; omega) | (with_reducible refine bif_ne ?_; omega) | exact b8_eq rfl | exact b8_ne rfl | exact bif_lt (by omega) | exact bif_le (by omega) | exact bif_eq (by omega) | exact bif_ne (by omega) | exact Iff.rfl | (simp only [zz, reduceCtorEq] <;> first | done | omega | exact Iff.rfl) | (simp; done) | (simp; omega)) (fun h1 => ?_) (fun h1 => ?_)
    · skip
      refine ai (ai (fun _ => (by (repeat' (first | exact rfl | exact trivial | exact (fun _ => rfl) | exact (fun _ _ => rfl) | exact nof | refine ai ?_ ?_)))) ?_) trivial
      show ple _ (.tup [nsP (sparL x l), iP (verE x l)])
      rw [sparL, if_neg h1]
      any_goals (repeat' (first | with_reducible rfl | exact trivial | refine ai ?_ ?_ | (show (_ : Int) = _; first | with_reducible rfl | exact wr1 (by omega) | (simp only [zz, reduceCtorEq] <;> first | done | rfl | omega) | omega | rfl) | exact rfl | exact (fun _ => rfl) | exact (fun _ _ => rfl) | exact nof))
    · exact absurd h1 h

end Go.Sx.Pn
