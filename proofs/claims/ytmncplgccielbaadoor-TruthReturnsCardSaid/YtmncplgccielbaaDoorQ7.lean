/- The law TruthReturns by the executor. -/
import Derived.Test.YtmncplgccielbaaDoorQ6
import Derived.Test.YtmncplgccielbaaDoorQ5
set_option maxHeartbeats 1000000
set_option maxRecDepth 4000
set_option linter.unusedSimpArgs false
set_option linter.unusedVariables false
set_option linter.unusedSectionVars false
namespace Go.Sx.Pn
open Go Go.Proofs Go.ChangeShapes Go.WideShapes Go.ChangeAt Go.RowKit

abbrev U6 := UInt8 × UInt8 × UInt8 × UInt8 × UInt8 × UInt8
def u6A (x : U6) : SV := .p false (.agg [.val (.int .u8 x.1.toNat), .val (.int .u8 x.2.1.toNat), .val (.int .u8 x.2.2.1.toNat), .val (.int .u8 x.2.2.2.1.toNat), .val (.int .u8 x.2.2.2.2.1.toNat), .val (.int .u8 x.2.2.2.2.2.toNat)])
def rowI (n : Nat) (p : Nat → Nat) : LV := .rw 3 1 n (fun i => [iP (p i : Nat)])

theorem rem_at (o : UInt8) {n : Nat} (hn : 0 < n) : (IntKind.i64.wrap (o.toNat : Int)).tmod (n : Int) = ((o.toNat % n : Nat) : Int) := by
  have := o.toNat_lt
  rw [wrap_i _ (by omega) (by omega)]; rfl
theorem putEl_one {f : Nat → List PV} {j : Nat} {d : PV} (hl : (f j).length = 1) (k : Nat) : putEl f j 0 [d] k = if k = j then [d] else f k := by
  unfold putEl
  by_cases e : k = j
  · rw [if_pos e, if_pos e, List.take_zero, List.nil_append]
    rw [List.drop_eq_nil_of_le (by rw [hl]; exact Nat.le_refl _)]; rfl
  · rw [if_neg e, if_neg e]
theorem swp_row {n i b : Nat} {p : Nat → Nat} {m : Int} (hm : m = ((b : Nat) : Int)) (j : Nat) (hj : j < n) : putEl (putEl (fun i => [iP (p i : Nat)]) i 0 [iP (p m.toNat : Nat)]) m.toNat 0 [iP (p i : Nat)] j = [iP (swp p i b j : Nat)] := by
  subst hm
  rw [Int.toNat_natCast, putEl_one (by rw [putEl_one rfl]; split <;> rfl), putEl_one rfl]
  unfold swp
  split
  · rfl
  · split <;> rfl
theorem fill_row {n k : Nat} (j : Nat) (hj : j < n) : putEl (fun i => [iP ((if i < k then i else 0 : Nat) : Nat)]) k 0 [iP (k : Nat)] j = [iP ((if j < k + 1 then j else 0 : Nat) : Nat)] := by
  rw [putEl_one rfl]
  by_cases e : j = k
  · subst e; rw [if_pos rfl, if_pos (by omega)]
  · rw [if_neg e]
    by_cases h : j < k
    · rw [if_pos h, if_pos (by omega)]
    · rw [if_neg h, if_neg (by omega)]
theorem text_back {n : Nat} {b : U} (hn : n ≤ 6) (h : chkT ⟨n, b⟩ = 0) : ∃ s : ByteArray, s.size = 2 ^ n ∧
    PV.tup [.val (.string (strB (Go.Proofs.YtmncplgccielbaaDoor.T.textS n b.toNat).1)), iP (Go.Proofs.YtmncplgccielbaaDoor.T.textS n b.toNat).2] = .tup [.val (.string s), iP 0] ∧ parR s = ((n : Int), b.toNat, 0) := by
  obtain ⟨m, hm, hx, hw⟩ := chkT_zero h
  obtain rfl : n = m := by have hx : (n : Int) = m := hx; omega
  have h64 := pow_le64 hn
  have hlt : b.toNat < 2 ^ 2 ^ n := by
    refine Nat.lt_pow_two_of_testBit _ fun k hk => ?_
    rw [← BitVec.getLsbD]
    rcases Nat.lt_or_ge k 64 with h1 | h1
    · exact (whole_iff hn b).1 hw k hk h1
    · exact BitVec.getLsbD_of_ge b k h1
  have hc : Go.Proofs.YtmncplgccielbaaDoor.T.chk n b.toNat = 0 := Go.Proofs.YtmncplgccielbaaDoor.T.chk_right ⟨by omega, by omega, by rw [Int.toNat_natCast]; exact hlt⟩
  have hT : Go.Proofs.YtmncplgccielbaaDoor.T.textS n b.toNat = (Go.Proofs.YtmncplgccielbaaDoor.T.txtL b.toNat (2 ^ n), 0) := by
    unfold Go.Proofs.YtmncplgccielbaaDoor.T.textS; rw [if_pos hc]; rfl
  have hl := Go.Proofs.YtmncplgccielbaaDoor.T.txtL_length b.toNat (2 ^ n)
  refine ⟨strB (Go.Proofs.YtmncplgccielbaaDoor.T.txtL b.toNat (2 ^ n)), hl, by rw [hT], ?_⟩
  show Go.Proofs.YtmncplgccielbaaDoor.T.parseS (Go.Proofs.YtmncplgccielbaaDoor.T.txtL b.toNat (2 ^ n)) = _
  have hall : (Go.Proofs.YtmncplgccielbaaDoor.T.txtL b.toNat (2 ^ n)).all Go.Proofs.YtmncplgccielbaaDoor.T.isSign = true := by
    rw [List.all_eq_true]
    intro c hc
    obtain ⟨k, _, rfl⟩ := List.mem_map.1 hc
    split <;> decide
  have hbits : Go.Proofs.YtmncplgccielbaaDoor.M.mkB (Go.Proofs.YtmncplgccielbaaDoor.T.ones (Go.Proofs.YtmncplgccielbaaDoor.T.txtL b.toNat (2 ^ n))) (2 ^ n) = b.toNat := by
    refine Eq.trans (Go.Proofs.YtmncplgccielbaaDoor.M.mkB_congr fun j hj => ?_) (Go.Proofs.YtmncplgccielbaaDoor.M.mkB_self hlt)
    unfold Go.Proofs.YtmncplgccielbaaDoor.T.ones Go.Proofs.YtmncplgccielbaaDoor.T.txtL
    rw [List.getElem?_map, List.getElem?_range hj]
    show (some (if b.toNat.testBit j = true then (49 : UInt8) else 48) == some 49) = b.toNat.testBit j
    cases b.toNat.testBit j <;> rfl
  unfold Go.Proofs.YtmncplgccielbaaDoor.T.parseS
  rw [hl, if_neg (by omega), if_pos hall, show Go.Proofs.YtmncplgccielbaaDoor.T.expo (2 ^ n) = some n from Go.Proofs.YtmncplgccielbaaDoor.T.expo_sz hn, hbits]
theorem parse_at {cs : Array Value} {s : ByteArray} (hcs : TabCs cs) {n : Int} {b : U} (h : parR s = (n, b.toNat, 0)) :
    FnOk Tryd.prog 9 { A := Unit, args := fun _ => [.p false (.val (.string s))], objs := fun _ => [], pre := fun _ => True, res := fun _ => .tup [tP ⟨n, b⟩, iP 0], objs' := fun _ => [], fresh := true, ro := 0, gl := glT cs } := by
  have h0 := Parse_ok hcs
  refine ⟨h0.1, fun _ _ E vs w hg hh hA => ?_⟩
  have h1 := h0.2 s trivial E vs w hg hh hA
  have e : (ParseS cs).res s = .tup [tP ⟨n, b⟩, iP 0] := by
    show PV.tup [.agg [iP (parR s).1, .val (.int .u64 (parR s).2.1)], iP (parR s).2.2] = _
    rw [h]; rfl
  rw [e] at h1
  exact h1
theorem bck_row {n k : Nat} {p : Nat → Nat} (j : Nat) (hj : j < n) : putEl (fun i => [iP (bck p k i : Nat)]) ((p k : Int).toNat) 0 [iP (k : Nat)] j = [iP (bck p (k + 1) j : Nat)] := by
  rw [Int.toNat_natCast, putEl_one rfl]
  show _ = [iP ((if j = p k then k else bck p k j : Nat) : Nat)]
  split <;> rfl
theorem returns_law {cs : Array Value} (hcs : TabCs cs) : FnOk Tryd.prog 3 (lawS (fun x : Tb × U6 => [tA x.1, u6A x.2]) cs) := by
  refine fnOk (Tb := tab) mixed tab_ok Tryd.func3 rfl rfl ?_
  rintro ⟨⟨N, b⟩, o0, o1, o2, o3, o4, o5⟩ hpre
  refine ai (ai rfl (ai rfl rfl)) ?_
  refine ei _ (ai rtcheck_ok (ei (⟨N, b⟩) (ei [] (ai (ai rfl (ai rfl (ai rfl (ai rfl (ai (fun _ => Or.inl rfl) (ai (by first | exact nof | exact (fun _ => ai rfl rfl)) (by first | exact Or.inl rfl | exact Or.inr rfl))))))) (ai (by (repeat' (first | with_reducible rfl | exact trivial | refine ai ?_ ?_ | (show (_ : Int) = _; first | with_reducible rfl | exact wr1 (by omega) | (simp only [zz, reduceCtorEq] <;> first | done | rfl | omega) | omega | rfl) | exact rfl | exact (fun _ => rfl) | exact (fun _ _ => rfl) | exact nof))) (ai trivial (ai (trivial) ?_)))))))
  refine bcase_n (p := chkT ⟨N, b⟩ = 0) (by first | (with_reducible refine bif_lt ?_; omega) | (with_reducible refine bif_le ?_; omega) | (with_reducible refine bif_eq ?_; omega) | (with_reducible refine bif_ne ?_; omega) | exact b8_eq rfl | exact b8_ne rfl | exact bif_lt (by omega) | exact bif_le (by omega) | exact bif_eq (by omega) | exact bif_ne (by omega) | exact Iff.rfl | (simp only [zz, reduceCtorEq] <;> first | done | omega | exact Iff.rfl) | (simp; done) | (simp; omega)) (fun h1 => ?_) (fun h1 => ?_)
  · skip
    refine ei _ (ai (awake4_ok hcs) (ei (()) (ei [] (ai (ai rfl (ai rfl (ai rfl (ai rfl (ai (fun _ => Or.inl rfl) (ai (by first | exact nof | exact (fun _ => ai rfl rfl)) (by first | exact Or.inl rfl | exact Or.inr rfl))))))) (ai (by (repeat' (first | with_reducible rfl | exact trivial | refine ai ?_ ?_ | (show (_ : Int) = _; first | with_reducible rfl | exact wr1 (by omega) | (simp only [zz, reduceCtorEq] <;> first | done | rfl | omega) | omega | rfl) | exact rfl | exact (fun _ => rfl) | exact (fun _ _ => rfl) | exact nof))) (ai trivial (ai (trivial) ?_)))))))
    refine ai (ai (fun _ => (by (repeat' (first | exact rfl | exact trivial | exact (fun _ => rfl) | exact (fun _ _ => rfl) | exact nof | refine ai ?_ ?_)))) ?_) trivial
    any_goals (repeat' (first | with_reducible rfl | exact trivial | refine ai ?_ ?_ | (show (_ : Int) = _; first | with_reducible rfl | exact wr1 (by omega) | (simp only [zz, reduceCtorEq] <;> first | done | rfl | omega) | omega | rfl) | exact rfl | exact (fun _ => rfl) | exact (fun _ _ => rfl) | exact nof))
  obtain ⟨n, hn, hx, hb⟩ := chkT_zero h1
  have hx : N = n := hx
  subst hx
  have h64 := pow_le64 hn
  refine ai (ai (Int.natCast_nonneg _) (ai (Int.le_refl _) (ai (by show (n : Int) ≤ 281474976710655; omega) (by show 8 * n ≤ 281474976710656; omega)))) ?_
  refine ei (LAnn.inv { X := Nat, up := fun k => [(33, .s (iA k)), (5, rowI n (fun j => if j < k then j else 0))], uo := fun k => [], inv := fun k => k ≤ n ∧ (True), meas := fun k => n - k, x0 := 0 }) ?_
  refine ai (ai (ai (by (repeat' (first | exact rfl | exact trivial | exact (fun _ => rfl) | exact (fun _ _ => rfl) | exact nof | refine ai ?_ ?_))) (ai ?_ ?_)) rfl) (ai (ai (Nat.zero_le _) ?_) ?_)
  · skip
    (repeat' (first | exact rfl | exact trivial | exact (fun _ => rfl) | exact (fun _ _ => rfl) | exact nof | refine ai ?_ ?_))
  · skip
    (repeat' (first | exact rfl | exact trivial | exact (fun _ => rfl) | exact (fun _ _ => rfl) | exact nof | refine ai ?_ ?_))
  · trivial
  intro (k : Nat) ⟨hk, _⟩
  refine bcase_p (p := k < n) (by first | (with_reducible refine bif_lt ?_; omega) | (with_reducible refine bif_le ?_; omega) | (with_reducible refine bif_eq ?_; omega) | (with_reducible refine bif_ne ?_; omega) | exact b8_eq rfl | exact b8_ne rfl | exact bif_lt (by omega) | exact bif_le (by omega) | exact bif_eq (by omega) | exact bif_ne (by omega) | exact Iff.rfl | (simp only [zz, reduceCtorEq] <;> first | done | omega | exact Iff.rfl) | (simp; done) | (simp; omega)) (fun h2 => ?_) (fun h2 => ?_)
  · refine ai (ai (Int.natCast_nonneg _) (by show (k : Int) < (n : Int); omega)) ?_
    refine ai (ai (by show k < n; omega) (Nat.le_refl _)) ?_
    refine ei (k + 1) (ai (ai rfl rfl) (ai (ai ?_ rfl) (ai (ai (by show k + 1 ≤ n; omega) ?_) (by show n - (k + 1) < n - k; omega))))
    any_goals (repeat' (first | with_reducible rfl | exact trivial | refine ai ?_ ?_ | (show (_ : Int) = _; first | with_reducible rfl | exact wr1 (by omega) | (simp only [zz, reduceCtorEq] <;> first | done | rfl | omega) | omega | rfl) | exact rfl | exact (fun _ => rfl) | exact (fun _ _ => rfl) | exact nof))
    exact fill_row
  obtain rfl : n = k := by omega
  refine ei (LAnn.inv { X := Nat × (Nat → Nat), up := fun x => [(43, .s (iA x.1)), (5, rowI n x.2)], uo := fun _ => [], inv := fun x => x.1 ≤ n ∧ Ordn n x.2, meas := fun x => n - x.1, x0 := (0, fun i => i) }) ?_
  refine ai (ai (ai (by (repeat' (first | exact rfl | exact trivial | exact (fun _ => rfl) | exact (fun _ _ => rfl) | exact nof | refine ai ?_ ?_))) (ai ?_ ?_)) ?_) (ai ?_ ?_)
  · skip
    (repeat' (first | exact rfl | exact trivial | exact (fun _ => rfl) | exact (fun _ _ => rfl) | exact nof | refine ai ?_ ?_))
    intro j hj
    show [iP ((if j < n then j else 0 : Nat) : Nat)] = [iP (j : Nat)]
    rw [if_pos hj]
  · skip
    (repeat' (first | exact rfl | exact trivial | exact (fun _ => rfl) | exact (fun _ _ => rfl) | exact nof | refine ai ?_ ?_))
  · rfl
  · exact ⟨Nat.zero_le _, ord_id n⟩
  rintro ⟨i, p⟩ ⟨hi, hp⟩
  have hi : i ≤ n := hi
  have hp : Ordn n p := hp
  refine bcase_p (p := i < n) (by first | (with_reducible refine bif_lt ?_; omega) | (with_reducible refine bif_le ?_; omega) | (with_reducible refine bif_eq ?_; omega) | (with_reducible refine bif_ne ?_; omega) | exact b8_eq rfl | exact b8_ne rfl | exact bif_lt (by omega) | exact bif_le (by omega) | exact bif_eq (by omega) | exact bif_ne (by omega) | exact Iff.rfl | (simp only [zz, reduceCtorEq] <;> first | done | omega | exact Iff.rfl) | (simp; done) | (simp; omega)) (fun h3 => ?_) (fun h3 => ?_)
  · skip
    refine ei (.seq [0, 1, 2, 3, 4, 5, 6, 7]) (ai (by kernel_rfl) ?_)
    have h6 : i = 0 ∨ i = 1 ∨ i = 2 ∨ i = 3 ∨ i = 4 ∨ i = 5 := by omega
    rcases h6 with rfl | rfl | rfl | rfl | rfl | rfl
    · skip
      refine ai (by show (0 : Int) ≤ (0 : Nat) ∧ ((0 : Nat) : Int) < (6 : Nat); decide) ?_
      refine ai (by show ¬ (n : Int) = 0; omega) ?_
      refine ei (.seq [0, 1, 2, 3, 4, 5, 6, 7, 8, 9, 10, 11, 12, 13, 14, 15]) (ai (by kernel_rfl) ?_)
      have hm := rem_at o0 (show 0 < n by omega)
      have hm2 := Nat.mod_lt o0.toNat (show 0 < n by omega)
      refine ai (by show 0 ≤ (IntKind.i64.wrap (o0.toNat : Int)).tmod (n : Int) ∧ (IntKind.i64.wrap (o0.toNat : Int)).tmod (n : Int) < (n : Int); rw [hm]; omega) ?_
      refine ai (by show ((IntKind.i64.wrap (o0.toNat : Int)).tmod (n : Int)).toNat < n; rw [hm]; omega) ?_
      refine ai (ai (Int.natCast_nonneg _) (by show ((0 : Nat) : Int) < (n : Int); omega)) ?_
      refine ai (by show 0 < n; omega) ?_
      refine ai (ai (Int.natCast_nonneg _) (by show ((0 : Nat) : Int) < (n : Int); omega)) ?_
      refine ai (ai (by show 0 < n; omega) (Nat.le_refl _)) ?_
      refine ai (by show 0 ≤ (IntKind.i64.wrap (o0.toNat : Int)).tmod (n : Int) ∧ (IntKind.i64.wrap (o0.toNat : Int)).tmod (n : Int) < (n : Int); rw [hm]; omega) ?_
      refine ai (ai (by show ((IntKind.i64.wrap (o0.toNat : Int)).tmod (n : Int)).toNat < n; rw [hm]; omega) (Nat.le_refl _)) ?_
      refine ei ((0 + 1, swp p 0 (o0.toNat % n))) (ai (ai rfl rfl) (ai (ai ?_ rfl) (ai ?_ ?_)))
      · skip
        (repeat' (first | exact rfl | exact trivial | exact (fun _ => rfl) | exact (fun _ _ => rfl) | exact nof | refine ai ?_ ?_))
        · exact swp_row hm
      · exact ⟨by show 0 + 1 ≤ n; omega, swp_ok hp (by omega) hm2⟩
      · show n - (0 + 1) < n - 0; omega
    · skip
      refine ai (by show (0 : Int) ≤ (1 : Nat) ∧ ((1 : Nat) : Int) < (6 : Nat); decide) ?_
      refine ai (by show ¬ (n : Int) = 0; omega) ?_
      refine ei (.seq [0, 1, 2, 3, 4, 5, 6, 7, 8, 9, 10, 11, 12, 13, 14, 15]) (ai (by kernel_rfl) ?_)
      have hm := rem_at o1 (show 0 < n by omega)
      have hm2 := Nat.mod_lt o1.toNat (show 0 < n by omega)
      refine ai (by show 0 ≤ (IntKind.i64.wrap (o1.toNat : Int)).tmod (n : Int) ∧ (IntKind.i64.wrap (o1.toNat : Int)).tmod (n : Int) < (n : Int); rw [hm]; omega) ?_
      refine ai (by show ((IntKind.i64.wrap (o1.toNat : Int)).tmod (n : Int)).toNat < n; rw [hm]; omega) ?_
      refine ai (ai (Int.natCast_nonneg _) (by show ((1 : Nat) : Int) < (n : Int); omega)) ?_
      refine ai (by show 1 < n; omega) ?_
      refine ai (ai (Int.natCast_nonneg _) (by show ((1 : Nat) : Int) < (n : Int); omega)) ?_
      refine ai (ai (by show 1 < n; omega) (Nat.le_refl _)) ?_
      refine ai (by show 0 ≤ (IntKind.i64.wrap (o1.toNat : Int)).tmod (n : Int) ∧ (IntKind.i64.wrap (o1.toNat : Int)).tmod (n : Int) < (n : Int); rw [hm]; omega) ?_
      refine ai (ai (by show ((IntKind.i64.wrap (o1.toNat : Int)).tmod (n : Int)).toNat < n; rw [hm]; omega) (Nat.le_refl _)) ?_
      refine ei ((1 + 1, swp p 1 (o1.toNat % n))) (ai (ai rfl rfl) (ai (ai ?_ rfl) (ai ?_ ?_)))
      · skip
        (repeat' (first | exact rfl | exact trivial | exact (fun _ => rfl) | exact (fun _ _ => rfl) | exact nof | refine ai ?_ ?_))
        · exact swp_row hm
      · exact ⟨by show 1 + 1 ≤ n; omega, swp_ok hp (by omega) hm2⟩
      · show n - (1 + 1) < n - 1; omega
    · skip
      refine ai (by show (0 : Int) ≤ (2 : Nat) ∧ ((2 : Nat) : Int) < (6 : Nat); decide) ?_
      refine ai (by show ¬ (n : Int) = 0; omega) ?_
      refine ei (.seq [0, 1, 2, 3, 4, 5, 6, 7, 8, 9, 10, 11, 12, 13, 14, 15]) (ai (by kernel_rfl) ?_)
      have hm := rem_at o2 (show 0 < n by omega)
      have hm2 := Nat.mod_lt o2.toNat (show 0 < n by omega)
      refine ai (by show 0 ≤ (IntKind.i64.wrap (o2.toNat : Int)).tmod (n : Int) ∧ (IntKind.i64.wrap (o2.toNat : Int)).tmod (n : Int) < (n : Int); rw [hm]; omega) ?_
      refine ai (by show ((IntKind.i64.wrap (o2.toNat : Int)).tmod (n : Int)).toNat < n; rw [hm]; omega) ?_
      refine ai (ai (Int.natCast_nonneg _) (by show ((2 : Nat) : Int) < (n : Int); omega)) ?_
      refine ai (by show 2 < n; omega) ?_
      refine ai (ai (Int.natCast_nonneg _) (by show ((2 : Nat) : Int) < (n : Int); omega)) ?_
      refine ai (ai (by show 2 < n; omega) (Nat.le_refl _)) ?_
      refine ai (by show 0 ≤ (IntKind.i64.wrap (o2.toNat : Int)).tmod (n : Int) ∧ (IntKind.i64.wrap (o2.toNat : Int)).tmod (n : Int) < (n : Int); rw [hm]; omega) ?_
      refine ai (ai (by show ((IntKind.i64.wrap (o2.toNat : Int)).tmod (n : Int)).toNat < n; rw [hm]; omega) (Nat.le_refl _)) ?_
      refine ei ((2 + 1, swp p 2 (o2.toNat % n))) (ai (ai rfl rfl) (ai (ai ?_ rfl) (ai ?_ ?_)))
      · skip
        (repeat' (first | exact rfl | exact trivial | exact (fun _ => rfl) | exact (fun _ _ => rfl) | exact nof | refine ai ?_ ?_))
        · exact swp_row hm
      · exact ⟨by show 2 + 1 ≤ n; omega, swp_ok hp (by omega) hm2⟩
      · show n - (2 + 1) < n - 2; omega
    · skip
      refine ai (by show (0 : Int) ≤ (3 : Nat) ∧ ((3 : Nat) : Int) < (6 : Nat); decide) ?_
      refine ai (by show ¬ (n : Int) = 0; omega) ?_
      refine ei (.seq [0, 1, 2, 3, 4, 5, 6, 7, 8, 9, 10, 11, 12, 13, 14, 15]) (ai (by kernel_rfl) ?_)
      have hm := rem_at o3 (show 0 < n by omega)
      have hm2 := Nat.mod_lt o3.toNat (show 0 < n by omega)
      refine ai (by show 0 ≤ (IntKind.i64.wrap (o3.toNat : Int)).tmod (n : Int) ∧ (IntKind.i64.wrap (o3.toNat : Int)).tmod (n : Int) < (n : Int); rw [hm]; omega) ?_
      refine ai (by show ((IntKind.i64.wrap (o3.toNat : Int)).tmod (n : Int)).toNat < n; rw [hm]; omega) ?_
      refine ai (ai (Int.natCast_nonneg _) (by show ((3 : Nat) : Int) < (n : Int); omega)) ?_
      refine ai (by show 3 < n; omega) ?_
      refine ai (ai (Int.natCast_nonneg _) (by show ((3 : Nat) : Int) < (n : Int); omega)) ?_
      refine ai (ai (by show 3 < n; omega) (Nat.le_refl _)) ?_
      refine ai (by show 0 ≤ (IntKind.i64.wrap (o3.toNat : Int)).tmod (n : Int) ∧ (IntKind.i64.wrap (o3.toNat : Int)).tmod (n : Int) < (n : Int); rw [hm]; omega) ?_
      refine ai (ai (by show ((IntKind.i64.wrap (o3.toNat : Int)).tmod (n : Int)).toNat < n; rw [hm]; omega) (Nat.le_refl _)) ?_
      refine ei ((3 + 1, swp p 3 (o3.toNat % n))) (ai (ai rfl rfl) (ai (ai ?_ rfl) (ai ?_ ?_)))
      · skip
        (repeat' (first | exact rfl | exact trivial | exact (fun _ => rfl) | exact (fun _ _ => rfl) | exact nof | refine ai ?_ ?_))
        · exact swp_row hm
      · exact ⟨by show 3 + 1 ≤ n; omega, swp_ok hp (by omega) hm2⟩
      · show n - (3 + 1) < n - 3; omega
    · skip
      refine ai (by show (0 : Int) ≤ (4 : Nat) ∧ ((4 : Nat) : Int) < (6 : Nat); decide) ?_
      refine ai (by show ¬ (n : Int) = 0; omega) ?_
      refine ei (.seq [0, 1, 2, 3, 4, 5, 6, 7, 8, 9, 10, 11, 12, 13, 14, 15]) (ai (by kernel_rfl) ?_)
      have hm := rem_at o4 (show 0 < n by omega)
      have hm2 := Nat.mod_lt o4.toNat (show 0 < n by omega)
      refine ai (by show 0 ≤ (IntKind.i64.wrap (o4.toNat : Int)).tmod (n : Int) ∧ (IntKind.i64.wrap (o4.toNat : Int)).tmod (n : Int) < (n : Int); rw [hm]; omega) ?_
      refine ai (by show ((IntKind.i64.wrap (o4.toNat : Int)).tmod (n : Int)).toNat < n; rw [hm]; omega) ?_
      refine ai (ai (Int.natCast_nonneg _) (by show ((4 : Nat) : Int) < (n : Int); omega)) ?_
      refine ai (by show 4 < n; omega) ?_
      refine ai (ai (Int.natCast_nonneg _) (by show ((4 : Nat) : Int) < (n : Int); omega)) ?_
      refine ai (ai (by show 4 < n; omega) (Nat.le_refl _)) ?_
      refine ai (by show 0 ≤ (IntKind.i64.wrap (o4.toNat : Int)).tmod (n : Int) ∧ (IntKind.i64.wrap (o4.toNat : Int)).tmod (n : Int) < (n : Int); rw [hm]; omega) ?_
      refine ai (ai (by show ((IntKind.i64.wrap (o4.toNat : Int)).tmod (n : Int)).toNat < n; rw [hm]; omega) (Nat.le_refl _)) ?_
      refine ei ((4 + 1, swp p 4 (o4.toNat % n))) (ai (ai rfl rfl) (ai (ai ?_ rfl) (ai ?_ ?_)))
      · skip
        (repeat' (first | exact rfl | exact trivial | exact (fun _ => rfl) | exact (fun _ _ => rfl) | exact nof | refine ai ?_ ?_))
        · exact swp_row hm
      · exact ⟨by show 4 + 1 ≤ n; omega, swp_ok hp (by omega) hm2⟩
      · show n - (4 + 1) < n - 4; omega
    · skip
      refine ai (by show (0 : Int) ≤ (5 : Nat) ∧ ((5 : Nat) : Int) < (6 : Nat); decide) ?_
      refine ai (by show ¬ (n : Int) = 0; omega) ?_
      refine ei (.seq [0, 1, 2, 3, 4, 5, 6, 7, 8, 9, 10, 11, 12, 13, 14, 15]) (ai (by kernel_rfl) ?_)
      have hm := rem_at o5 (show 0 < n by omega)
      have hm2 := Nat.mod_lt o5.toNat (show 0 < n by omega)
      refine ai (by show 0 ≤ (IntKind.i64.wrap (o5.toNat : Int)).tmod (n : Int) ∧ (IntKind.i64.wrap (o5.toNat : Int)).tmod (n : Int) < (n : Int); rw [hm]; omega) ?_
      refine ai (by show ((IntKind.i64.wrap (o5.toNat : Int)).tmod (n : Int)).toNat < n; rw [hm]; omega) ?_
      refine ai (ai (Int.natCast_nonneg _) (by show ((5 : Nat) : Int) < (n : Int); omega)) ?_
      refine ai (by show 5 < n; omega) ?_
      refine ai (ai (Int.natCast_nonneg _) (by show ((5 : Nat) : Int) < (n : Int); omega)) ?_
      refine ai (ai (by show 5 < n; omega) (Nat.le_refl _)) ?_
      refine ai (by show 0 ≤ (IntKind.i64.wrap (o5.toNat : Int)).tmod (n : Int) ∧ (IntKind.i64.wrap (o5.toNat : Int)).tmod (n : Int) < (n : Int); rw [hm]; omega) ?_
      refine ai (ai (by show ((IntKind.i64.wrap (o5.toNat : Int)).tmod (n : Int)).toNat < n; rw [hm]; omega) (Nat.le_refl _)) ?_
      refine ei ((5 + 1, swp p 5 (o5.toNat % n))) (ai (ai rfl rfl) (ai (ai ?_ rfl) (ai ?_ ?_)))
      · skip
        (repeat' (first | exact rfl | exact trivial | exact (fun _ => rfl) | exact (fun _ _ => rfl) | exact nof | refine ai ?_ ?_))
        · exact swp_row hm
      · exact ⟨by show 5 + 1 ≤ n; omega, swp_ok hp (by omega) hm2⟩
      · show n - (5 + 1) < n - 5; omega
  obtain rfl : i = n := by omega
  refine ai (ai (Int.natCast_nonneg _) (ai (Int.le_refl _) (ai (by show (i : Int) ≤ 281474976710655; omega) (by show 8 * i ≤ 281474976710656; omega)))) ?_
  refine ei (LAnn.inv { X := Nat, up := fun k => [(73, .s (iA k)), (9, rowI i (bck p k))], uo := fun k => [], inv := fun k => k ≤ i ∧ (True), meas := fun k => i - k, x0 := 0 }) ?_
  refine ai (ai (ai (by (repeat' (first | exact rfl | exact trivial | exact (fun _ => rfl) | exact (fun _ _ => rfl) | exact nof | refine ai ?_ ?_))) (ai ?_ ?_)) rfl) (ai (ai (Nat.zero_le _) ?_) ?_)
  · skip
    (repeat' (first | exact rfl | exact trivial | exact (fun _ => rfl) | exact (fun _ _ => rfl) | exact nof | refine ai ?_ ?_))
  · skip
    (repeat' (first | exact rfl | exact trivial | exact (fun _ => rfl) | exact (fun _ _ => rfl) | exact nof | refine ai ?_ ?_))
  · trivial
  intro (k : Nat) ⟨hk, _⟩
  refine bcase_p (p := k < i) (by first | (with_reducible refine bif_lt ?_; omega) | (with_reducible refine bif_le ?_; omega) | (with_reducible refine bif_eq ?_; omega) | (with_reducible refine bif_ne ?_; omega) | exact b8_eq rfl | exact b8_ne rfl | exact bif_lt (by omega) | exact bif_le (by omega) | exact bif_eq (by omega) | exact bif_ne (by omega) | exact Iff.rfl | (simp only [zz, reduceCtorEq] <;> first | done | omega | exact Iff.rfl) | (simp; done) | (simp; omega)) (fun h4 => ?_) (fun h4 => ?_)
  · refine ai (ai (Int.natCast_nonneg _) (by show (k : Int) < (i : Int); omega)) ?_
    refine ai (by show k < i; omega) ?_
    have hpk := hp.1 k h4
    refine ai (ai (Int.natCast_nonneg _) (by show (p k : Int) < (i : Int); omega)) ?_
    refine ai (ai (by show p k < i; omega) (Nat.le_refl _)) ?_
    refine ei (k + 1) (ai (ai rfl rfl) (ai (ai ?_ rfl) (ai (ai (by show k + 1 ≤ i; omega) ?_) (by show i - (k + 1) < i - k; omega))))
    any_goals (repeat' (first | with_reducible rfl | exact trivial | refine ai ?_ ?_ | (show (_ : Int) = _; first | with_reducible rfl | exact wr1 (by omega) | (simp only [zz, reduceCtorEq] <;> first | done | rfl | omega) | omega | rfl) | exact rfl | exact (fun _ => rfl) | exact (fun _ _ => rfl) | exact nof))
    exact bck_row
  obtain rfl : i = k := by omega
  clear hk h4
  have hbn : ∀ j, 2 ^ i ≤ j → j < 64 → b.getLsbD j = false := (whole_iff hn b).1 hb
  have hlp : (isL p i).length ≤ 1000000 := by rw [isL_len]; omega
  have hlb : (isL (bck p i) i).length ≤ 1000000 := by rw [isL_len]; omega
  obtain ⟨u, hu⟩ : ∃ u, renU p i b = u := ⟨_, rfl⟩
  have hcu : chkT ⟨i, u⟩ = 0 := hu ▸ renU_ok hn p b
  have r1 := fnS_at ren_ok (⟨i, b⟩, isL p i) hlp (r := resT (⟨i, u⟩, 0)) (by show resT (renC ⟨i, b⟩ (isL p i)) = _; rw [renC_ord hn hp h1, hu])
  have r2 := fnS_at ren_ok (⟨i, u⟩, isL (bck p i) i) hlb (r := resT (⟨i, b⟩, 0)) (by show resT (renC ⟨i, u⟩ (isL (bck p i) i)) = _; rw [renC_ord hn (bck_ok hp) hcu, ← hu, renU_back hn hp hbn])
  have r3 := fnS_at Points_ok ⟨i, b⟩ trivial (r := .tup [nsP (ptsB b (2 ^ i)), iP 0]) (by show PV.tup [nsP (ptsR ⟨i, b⟩).1, iP (ptsR ⟨i, b⟩).2] = _; rw [show ptsR ⟨i, b⟩ = (ptsB b (2 ^ i), 0) by unfold ptsR; rw [if_pos h1]; rfl])
  have r4 := fnS_at Points_ok ⟨i, u⟩ trivial (r := .tup [nsP (ptsB u (2 ^ i)), iP 0]) (by show PV.tup [nsP (ptsR ⟨i, u⟩).1, iP (ptsR ⟨i, u⟩).2] = _; rw [show ptsR ⟨i, u⟩ = (ptsB u (2 ^ i), 0) by unfold ptsR; rw [if_pos hcu]; rfl])
  have hpl : (ptsB b (2 ^ i)).length = (ptsB u (2 ^ i)).length := by rw [← hu]; exact pts_len hn hp b
  obtain ⟨s, hs, ht, hq⟩ := text_back hn h1
  have r5 := fnS_at Text_ok ⟨i, b⟩ trivial (r := .tup [.val (.string s), iP 0]) ht
  have r6 := parse_at (s := s) hcs hq
  refine ei _ (ai r1 (ei (()) (ei [] (ai (ai rfl (ai rfl (ai rfl (ai rfl (ai (fun _ => Or.inl rfl) (ai (by first | exact nof | exact (fun _ => ai rfl rfl)) (by first | exact Or.inl rfl | exact Or.inr rfl))))))) (ai ?_ (ai trivial (ai ?_ ?_)))))))
  · skip
    (repeat' (first | exact rfl | exact trivial | exact (fun _ => rfl) | exact (fun _ _ => rfl) | exact nof | refine ai ?_ ?_))
    · show i = (isL p i).length; rw [isL_len]
    · intro j hj
      show [iP (p j : Nat)] = [iP ((isL p i).getD j 0)]
      rw [isL_get hj]
  · trivial
  refine ei _ (ai r2 (ei (()) (ei [] (ai (ai rfl (ai rfl (ai rfl (ai rfl (ai (fun _ => Or.inl rfl) (ai (by first | exact nof | exact (fun _ => ai rfl rfl)) (by first | exact Or.inl rfl | exact Or.inr rfl))))))) (ai ?_ (ai trivial (ai ?_ ?_)))))))
  · skip
    (repeat' (first | exact rfl | exact trivial | exact (fun _ => rfl) | exact (fun _ _ => rfl) | exact nof | refine ai ?_ ?_))
    · show i = (isL (bck p i) i).length; rw [isL_len]
    · intro j hj
      show [iP (bck p i j : Nat)] = [iP ((isL (bck p i) i).getD j 0)]
      rw [isL_get hj]
  · trivial
  refine ei _ (ai r3 (ei (()) (ei [] (ai (ai rfl (ai rfl (ai rfl (ai rfl (ai (fun _ => Or.inl rfl) (ai (by first | exact nof | exact (fun _ => ai rfl rfl)) (by first | exact Or.inl rfl | exact Or.inr rfl))))))) (ai (by (repeat' (first | with_reducible rfl | exact trivial | refine ai ?_ ?_ | (show (_ : Int) = _; first | with_reducible rfl | exact wr1 (by omega) | (simp only [zz, reduceCtorEq] <;> first | done | rfl | omega) | omega | rfl) | exact rfl | exact (fun _ => rfl) | exact (fun _ _ => rfl) | exact nof))) (ai trivial (ai (trivial) ?_)))))))
  refine ei _ (ai r4 (ei (()) (ei [] (ai (ai rfl (ai rfl (ai rfl (ai rfl (ai (fun _ => Or.inl rfl) (ai (by first | exact nof | exact (fun _ => ai rfl rfl)) (by first | exact Or.inl rfl | exact Or.inr rfl))))))) (ai (by (repeat' (first | with_reducible rfl | exact trivial | refine ai ?_ ?_ | (show (_ : Int) = _; first | with_reducible rfl | exact wr1 (by omega) | (simp only [zz, reduceCtorEq] <;> first | done | rfl | omega) | omega | rfl) | exact rfl | exact (fun _ => rfl) | exact (fun _ _ => rfl) | exact nof))) (ai trivial (ai (trivial) ?_)))))))
  refine ei _ (ai r5 (ei (()) (ei [] (ai (ai rfl (ai rfl (ai rfl (ai rfl (ai (fun _ => Or.inl rfl) (ai (by first | exact nof | exact (fun _ => ai rfl rfl)) (by first | exact Or.inl rfl | exact Or.inr rfl))))))) (ai (by (repeat' (first | with_reducible rfl | exact trivial | refine ai ?_ ?_ | (show (_ : Int) = _; first | with_reducible rfl | exact wr1 (by omega) | (simp only [zz, reduceCtorEq] <;> first | done | rfl | omega) | omega | rfl) | exact rfl | exact (fun _ => rfl) | exact (fun _ _ => rfl) | exact nof))) (ai trivial (ai (trivial) ?_)))))))
  refine ei _ (ai r6 (ei (()) (ei [] (ai (ai rfl (ai rfl (ai rfl (ai rfl (ai (fun _ => Or.inl rfl) (ai (by first | exact nof | exact (fun _ => ai rfl rfl)) (by first | exact Or.inl rfl | exact Or.inr rfl))))))) (ai (by (repeat' (first | with_reducible rfl | exact trivial | refine ai ?_ ?_ | (show (_ : Int) = _; first | with_reducible rfl | exact wr1 (by omega) | (simp only [zz, reduceCtorEq] <;> first | done | rfl | omega) | omega | rfl) | exact rfl | exact (fun _ => rfl) | exact (fun _ _ => rfl) | exact nof))) (ai trivial (ai (trivial) ?_)))))))
  refine bcase_b (b := true) (by (first | (simp only [beq_self_eq_true, Bool.and_true, Bool.and_self]; done) | (simp only [hz, Int.add_zero, wrap_z]; done) | (simp only [hz, Int.add_zero, wrap_z]; rfl) | decide | rfl | decide | (simp; done))) (fun _ => ?_) (fun h => absurd h (by decide))
  refine bcase_b (b := true) (by exact beq_iff_eq.2 (congrArg (fun m : Nat => (m : Int)) hpl)) (fun _ => ?_) (fun h => absurd h (by decide))
  refine bcase_b (b := true) (by (first | (simp only [beq_self_eq_true, Bool.and_true, Bool.and_self]; done) | (simp only [hz, Int.add_zero, wrap_z]; done) | (simp only [hz, Int.add_zero, wrap_z]; rfl) | decide | rfl | decide | (simp; done))) (fun _ => ?_) (fun h => absurd h (by decide))
  refine ei _ (ai size_ok (ei (i) (ei [] (ai (ai rfl (ai rfl (ai rfl (ai rfl (ai (fun _ => Or.inl rfl) (ai (by first | exact nof | exact (fun _ => ai rfl rfl)) (by first | exact Or.inl rfl | exact Or.inr rfl))))))) (ai (by (repeat' (first | with_reducible rfl | exact trivial | refine ai ?_ ?_ | (show (_ : Int) = _; first | with_reducible rfl | exact wr1 (by omega) | (simp only [zz, reduceCtorEq] <;> first | done | rfl | omega) | omega | rfl) | exact rfl | exact (fun _ => rfl) | exact (fun _ _ => rfl) | exact nof))) (ai trivial (ai (hn) ?_)))))))
  refine bcase_b (b := true) (by exact beq_iff_eq.2 (congrArg (fun m : Nat => (m : Int)) hs)) (fun _ => ?_) (fun h => absurd h (by decide))
  refine ei _ (ai (awake4_ok hcs) (ei (()) (ei [] (ai (ai rfl (ai rfl (ai rfl (ai rfl (ai (fun _ => Or.inl rfl) (ai (by first | exact nof | exact (fun _ => ai rfl rfl)) (by first | exact Or.inl rfl | exact Or.inr rfl))))))) (ai (by (repeat' (first | with_reducible rfl | exact trivial | refine ai ?_ ?_ | (show (_ : Int) = _; first | with_reducible rfl | exact wr1 (by omega) | (simp only [zz, reduceCtorEq] <;> first | done | rfl | omega) | omega | rfl) | exact rfl | exact (fun _ => rfl) | exact (fun _ _ => rfl) | exact nof))) (ai trivial (ai (trivial) ?_)))))))
  refine ai (ai (fun _ => (by (repeat' (first | exact rfl | exact trivial | exact (fun _ => rfl) | exact (fun _ _ => rfl) | exact nof | refine ai ?_ ?_)))) ?_) trivial
  any_goals (repeat' (first | with_reducible rfl | exact trivial | refine ai ?_ ?_ | (show (_ : Int) = _; first | with_reducible rfl | exact wr1 (by omega) | (simp only [zz, reduceCtorEq] <;> first | done | rfl | omega) | omega | rfl) | exact rfl | exact (fun _ => rfl) | exact (fun _ _ => rfl) | exact nof))

def argTypes6 : List TypeId := [3, 22, 5, 24, 25]
theorem argTypes6_ok : Closed Tryd.prog argTypes6 := by
  intro t ht
  simp only [argTypes6, List.mem_cons, List.mem_nil_iff, or_false] at ht
  rcases ht with rfl | rfl | rfl | rfl | rfl <;> kernel_rfl
theorem wf_u8 {m : Int} (h : (Lit.int .u8 m).wf = true) : ∃ x : UInt8, m = (x.toNat : Int) := by
  simp [Lit.wf, IntKind.min, IntKind.max, IntKind.signed, IntKind.bits] at h
  refine ⟨UInt8.ofNat m.toNat, ?_⟩
  rw [UInt8.toNat_ofNat']
  omega
section
variable {w : World} {r : Reach} {b : Nat} {v : Value} {n : Nat} {l : List PV}
theorem arg_u6 (hv : Value.okWide Tryd.prog w r b 25 v) (hs : Shape Tryd.prog n 25 l) (hr : Rel (memOf w) v.cells.toList l) : ∃ x : U6, SRep (E0 w) v (u6A x) := by
  obtain ⟨ls, n', rfl, h1, h2⟩ := shape_array Tryd.underlying25 hs
  match ls, h1, h2 with
  | [a, c, d, e, f, g], _, h2 =>
    obtain ⟨x, hx, rfl⟩ := shape_int Tryd.underlying5 (h2 0 _ rfl)
    obtain ⟨y, hy, rfl⟩ := shape_int Tryd.underlying5 (h2 1 _ rfl)
    obtain ⟨z, hz, rfl⟩ := shape_int Tryd.underlying5 (h2 2 _ rfl)
    obtain ⟨x3, h3, rfl⟩ := shape_int Tryd.underlying5 (h2 3 _ rfl)
    obtain ⟨x4, h4, rfl⟩ := shape_int Tryd.underlying5 (h2 4 _ rfl)
    obtain ⟨x5, h5, rfl⟩ := shape_int Tryd.underlying5 (h2 5 _ rfl)
    obtain ⟨x, rfl⟩ := wf_u8 hx
    obtain ⟨y, rfl⟩ := wf_u8 hy
    obtain ⟨z, rfl⟩ := wf_u8 hz
    obtain ⟨x3, rfl⟩ := wf_u8 h3
    obtain ⟨x4, rfl⟩ := wf_u8 h4
    obtain ⟨x5, rfl⟩ := wf_u8 h5
    obtain ⟨cs, hc⟩ := ok_array Tryd.underlying25 hv
    exact ⟨(x, y, z, x3, x4, x5), sr_agg hc hr⟩
end

end Go.Sx.Pn
