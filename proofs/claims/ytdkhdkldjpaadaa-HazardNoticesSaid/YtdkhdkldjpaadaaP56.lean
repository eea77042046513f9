/- Laws of chapter 8, walked: HazardMends. -/
import Derived.Test.YtdkhdkldjpaadaaP55
set_option maxHeartbeats 1000000
set_option maxRecDepth 4000
set_option linter.unusedSimpArgs false
set_option linter.unusedVariables false
namespace Go.Sx.Pn
open Go Go.Proofs

def rightB (n : Int) (l : List Cu) : Bool := fewB8 l && (decide (n ≤ 5) && (chkN n l == 0))
def rightS : Spec := fnS (fun x : Int × List Cu => [iA x.1, csA x.2]) (fun _ => True) (fun x => bP (rightB x.1 x.2))
theorem right_ok : FnOk Try.prog 68 rightS := by
  refine fnOk (Tb := tab) mixed tab_ok Try.func68 rfl rfl ?_
  rintro ⟨n, l⟩ hpre
  refine ai (ai rfl (ai rfl rfl)) ?_
  refine ei _ (ai fewC_ok (ei (l) (ei [] (ai (ai rfl (ai rfl (ai rfl (ai rfl (ai (fun _ => Or.inl rfl) (by first | exact nof | exact (fun _ => ai rfl rfl))))))) (ai (by (repeat' (first | with_reducible rfl | exact trivial | refine ai ?_ ?_ | (show (_ : Int) = _; first | with_reducible rfl | exact wr1 (by omega) | (simp only [zz, reduceCtorEq] <;> first | done | rfl | omega) | omega | rfl) | exact rfl | exact (fun _ => rfl) | exact (fun _ _ => rfl) | exact nof))) (ai trivial (ai (trivial) ?_)))))))
  refine bcase_b (b := fewB8 l) (by first | exact rfl | (simp only [zz, reduceCtorEq] <;> first | done | exact rfl)) (fun h1 => ?_) (fun h1 => ?_)
  · skip
    refine bcase_p (p := n ≤ 5) (by first | (with_reducible refine bif_lt ?_; omega) | (with_reducible refine bif_le ?_; omega) | (with_reducible refine bif_eq ?_; omega) | (with_reducible refine bif_ne ?_; omega) | exact b8_eq rfl | exact b8_ne rfl | exact bif_lt (by omega) | exact bif_le (by omega) | exact bif_eq (by omega) | exact bif_ne (by omega) | exact Iff.rfl | (simp only [zz, reduceCtorEq] <;> first | done | omega | exact Iff.rfl) | (simp; done) | (simp; omega)) (fun h2 => ?_) (fun h2 => ?_)
    · skip
      refine ei _ (ai rchkN_ok (ei ((n, l)) (ei [] (ai (ai rfl (ai rfl (ai rfl (ai rfl (ai (fun _ => Or.inl rfl) (by first | exact nof | exact (fun _ => ai rfl rfl))))))) (ai (by (repeat' (first | with_reducible rfl | exact trivial | refine ai ?_ ?_ | (show (_ : Int) = _; first | with_reducible rfl | exact wr1 (by omega) | (simp only [zz, reduceCtorEq] <;> first | done | rfl | omega) | omega | rfl) | exact rfl | exact (fun _ => rfl) | exact (fun _ _ => rfl) | exact nof))) (ai trivial (ai (few8_len h1) ?_)))))))
      refine ai (ai (fun _ => (by (repeat' (first | exact rfl | exact trivial | exact (fun _ => rfl) | exact (fun _ _ => rfl) | exact nof | refine ai ?_ ?_)))) ?_) trivial
      show ple _ (bP (rightB n l))
      rw [show rightB n l = (chkN n l == 0) by simp [rightB, h1, h2]]
      any_goals (repeat' (first | with_reducible rfl | exact trivial | refine ai ?_ ?_ | (show (_ : Int) = _; first | with_reducible rfl | exact wr1 (by omega) | (simp only [zz, reduceCtorEq] <;> first | done | rfl | omega) | omega | rfl) | exact rfl | exact (fun _ => rfl) | exact (fun _ _ => rfl) | exact nof))
    · skip
      refine ai (ai (fun _ => (by (repeat' (first | exact rfl | exact trivial | exact (fun _ => rfl) | exact (fun _ _ => rfl) | exact nof | refine ai ?_ ?_)))) ?_) trivial
      show ple _ (bP (rightB n l))
      rw [show rightB n l = false by simp [rightB, h2]]
      any_goals (repeat' (first | with_reducible rfl | exact trivial | refine ai ?_ ?_ | (show (_ : Int) = _; first | with_reducible rfl | exact wr1 (by omega) | (simp only [zz, reduceCtorEq] <;> first | done | rfl | omega) | omega | rfl) | exact rfl | exact (fun _ => rfl) | exact (fun _ _ => rfl) | exact nof))
  · skip
    refine ai (ai (fun _ => (by (repeat' (first | exact rfl | exact trivial | exact (fun _ => rfl) | exact (fun _ _ => rfl) | exact nof | refine ai ?_ ?_)))) ?_) trivial
    show ple _ (bP (rightB n l))
    rw [show rightB n l = false by simp [rightB, h1]]
    any_goals (repeat' (first | with_reducible rfl | exact trivial | refine ai ?_ ?_ | (show (_ : Int) = _; first | with_reducible rfl | exact wr1 (by omega) | (simp only [zz, reduceCtorEq] <;> first | done | rfl | omega) | omega | rfl) | exact rfl | exact (fun _ => rfl) | exact (fun _ _ => rfl) | exact nof))
theorem right_inv {n : Int} {l : List Cu} (h : rightB n l = true) : ∃ k : Nat, k ≤ 5 ∧ n = k ∧ chkN n l = 0 ∧ l.length ≤ 30 ∧ ∀ c ∈ l, c.Ok k := by
  unfold rightB at h
  simp only [Bool.and_eq_true, decide_eq_true_eq, beq_iff_eq] at h
  obtain ⟨h1, h2, h3⟩ := h
  obtain ⟨k, hk, rfl, h4, h5⟩ := chkN_zero h3
  unfold fewB8 at h1
  simp only [Bool.or_eq_true, Bool.and_eq_true, decide_eq_true_eq] at h1
  exact ⟨k, by omega, rfl, h3, by omega, h5⟩
section
variable {z : Int} (hz : z = 0) {n : Nat} {l : List Cu}
include hz
theorem tab_at8 (h : chkN n l = 0) {T : U} (hT : tabU l (2 ^ n) = T) (hl : l.length ≤ 1000000) : FnOk Try.prog 60 (fnS (fun _ : Unit => TabS.args ((n : Int), l)) (fun _ => True) (fun _ => .tup [tP ⟨n, T⟩, iP z])) :=
  fnS_at hTab_ok ((n : Int), l) hl (by show PV.tup [tP (tabC n l), iP (chkN n l)] = _; rw [hz, h, show tabC n l = ⟨n, T⟩ by rw [← hT]; simp [tabC, h]])
theorem haz_at8 (h : chkN n l = 0) {B : List (Nat × Nat)} (hB : badL n l = B) (hl : l.length ≤ 1000000) : FnOk Try.prog 53 (fnS (fun _ : Unit => hazS.args ((n : Int), l)) (fun _ => True) (fun _ => .tup [prsP B, iP z])) :=
  fnS_at haz_ok ((n : Int), l) hl (by show PV.tup [prsP (hazL n l), iP (chkN n l)] = _; rw [hz, h, show hazL n l = B by rw [← hB]; simp [hazL, h]])
theorem mend_at8 (h : chkN n l = 0) {M : List Cu} (hM : mendL n l = M) (hl : l.length ≤ 1000000) : FnOk Try.prog 55 (fnS (fun _ : Unit => mendSp.args ((n : Int), l)) (fun _ => True) (fun _ => .tup [csP M, iP z])) :=
  fnS_at mend_ok ((n : Int), l) hl (by show PV.tup [csP (menL n l), iP (chkN n l)] = _; rw [hz, h, show menL n l = M by rw [← hM]; simp [menL, h]])
theorem bet_at8 (h : chkN n l = 0) {a b : Nat} (ha : a < 2 ^ n) (hb : b < 2 ^ n) {r : Int} (hr : betL n l a b = r) (hl : l.length ≤ 1000000) : FnOk Try.prog 62 (fnS (fun _ : Unit => BetS.args ((n : Int), l, (a : Int), (b : Int))) (fun _ => True) (fun _ => .tup [iP r, iP z])) :=
  fnS_at hBet_ok ((n : Int), l, (a : Int), (b : Int)) hl (by
    have hg : givC n l a b = 0 := by
      rw [givC, if_pos h, if_neg (by unfold outC; rw [Int.toNat_natCast]; omega)]
    show PV.tup [iP (betC n l a b), iP (givC n l a b)] = _
    rw [hz, hg, show betC n l a b = r by rw [← hr]; simp [betC, hg]])
theorem log_at8 (h : chkN n l = 0) {a b : Nat} (ha : a < 2 ^ n) (hb : b < 2 ^ n) {r : Bool} (hr : logL n l a b = r) (hl : l.length ≤ 1000000) : FnOk Try.prog 64 (fnS (fun _ : Unit => LogS.args ((n : Int), l, (a : Int), (b : Int))) (fun _ => True) (fun _ => .tup [bP r, iP z])) :=
  fnS_at hLog_ok ((n : Int), l, (a : Int), (b : Int)) hl (by
    have hg : givC n l a b = 0 := by
      rw [givC, if_pos h, if_neg (by unfold outC; rw [Int.toNat_natCast]; omega)]
    show PV.tup [bP (logC n l a b), iP (givC n l a b)] = _
    rw [hz, hg, show logC n l a b = r by rw [← hr]; simp [logC, hg]])
end

theorem join2 (l m : List Cu) (j : Nat) (hj : j < 0 + l.length + m.length) (f0 : Nat → List PV) : joinF (0 + l.length) (joinF 0 f0 (fun i => (l.getD i ⟨0, 0⟩).cells)) (fun i => (m.getD i ⟨0, 0⟩).cells) j = ((l ++ m).getD j ⟨0, 0⟩).cells := by
  unfold joinF
  by_cases h : j < 0 + l.length
  · rw [if_pos h, if_neg (by omega), getD_left _ (by omega), Nat.sub_zero]
  · rw [if_neg h, List.getD_eq_getElem?_getD (l := l ++ m), List.getElem?_append_right (by omega), Nat.zero_add]
    show (m.getD (j - l.length) ⟨0, 0⟩).cells = _
    rw [List.getD_eq_getElem?_getD]

def mendsLaw : Spec := fnS (fun x : Int × List Cu => [iA x.1, csA x.2]) (fun _ => True) (fun _ => bP true)
theorem mends_law : FnOk Try.prog 13 mendsLaw := by
  refine fnOk_inl [69] ?_
  refine fnOk (Tb := tab) mixed tab_ok Try.func13 rfl rfl ?_
  rintro ⟨n, l⟩ hpre
  refine ai (ai rfl (ai rfl rfl)) ?_
  refine ei _ (ai right_ok (ei ((n, l)) (ei [] (ai (ai rfl (ai rfl (ai rfl (ai rfl (ai (fun _ => Or.inl rfl) (by first | exact nof | exact (fun _ => ai rfl rfl))))))) (ai (by (repeat' (first | with_reducible rfl | exact trivial | refine ai ?_ ?_ | (show (_ : Int) = _; first | with_reducible rfl | exact wr1 (by omega) | (simp only [zz, reduceCtorEq] <;> first | done | rfl | omega) | omega | rfl) | exact rfl | exact (fun _ => rfl) | exact (fun _ _ => rfl) | exact nof))) (ai trivial (ai (trivial) ?_)))))))
  refine bcase_b (b := !rightB n l) (by first | exact rfl | (simp only [zz, reduceCtorEq] <;> first | done | exact rfl)) (fun h1 => ?_) (fun h1 => ?_)
  · skip
    refine ei _ (ai awake8_ok (ei (()) (ei [] (ai (ai rfl (ai rfl (ai rfl (ai rfl (ai (fun _ => Or.inl rfl) (by first | exact nof | exact (fun _ => ai rfl rfl))))))) (ai (by (repeat' (first | with_reducible rfl | exact trivial | refine ai ?_ ?_ | (show (_ : Int) = _; first | with_reducible rfl | exact wr1 (by omega) | (simp only [zz, reduceCtorEq] <;> first | done | rfl | omega) | omega | rfl) | exact rfl | exact (fun _ => rfl) | exact (fun _ _ => rfl) | exact nof))) (ai trivial (ai (trivial) ?_)))))))
    refine ai (ai (fun _ => (by (repeat' (first | exact rfl | exact trivial | exact (fun _ => rfl) | exact (fun _ _ => rfl) | exact nof | refine ai ?_ ?_)))) ?_) trivial
    any_goals (repeat' (first | with_reducible rfl | exact trivial | refine ai ?_ ?_ | (show (_ : Int) = _; first | with_reducible rfl | exact wr1 (by omega) | (simp only [zz, reduceCtorEq] <;> first | done | rfl | omega) | omega | rfl) | exact rfl | exact (fun _ => rfl) | exact (fun _ _ => rfl) | exact nof))
  obtain ⟨n, hn5, rfl, hck, hl, hall⟩ := right_inv (n := n) (l := l) (by simpa using h1)
  have hn : n ≤ 6 := by omega
  have hl0 : l.length ≤ 1000000 := by omega
  obtain ⟨z, hz⟩ : ∃ z : Int, z = 0 := ⟨0, rfl⟩
  obtain ⟨T, hT⟩ : ∃ T, tabU l (2 ^ n) = T := ⟨_, rfl⟩
  obtain ⟨B, hB⟩ : ∃ B, badL n l = B := ⟨_, rfl⟩
  obtain ⟨M, hM⟩ : ∃ M, mendL n l = M := ⟨_, rfl⟩
  have hBl := bad_len5 hn5 l
  have hMB := mend_len (n := n) l
  have hMn := mend_nil hn l
  have hMk : ∀ c ∈ M, c.Ok n := fun c hc => pr_ok hn (mendL_mem (by rw [hM]; exact hc))
  have e1 := mend_tab hn l
  have e2 := mend_bad hn l
  rw [hM, hT] at e1
  rw [hM] at e2 hMB hMn
  rw [hB] at hBl hMB hMn
  have hck2 : chkN n (l ++ M) = 0 := chkN_of hn (by rw [List.length_append]; omega) fun c hc => (List.mem_append.1 hc).elim (hall c) (hMk c)
  have hl2 : (l ++ M).length ≤ 1000000 := by rw [List.length_append]; omega
  refine ei _ (ai (tab_at8 hz hck hT hl0) (ei (()) (ei [] (ai (ai rfl (ai rfl (ai rfl (ai rfl (ai (fun _ => Or.inl rfl) (by first | exact nof | exact (fun _ => ai rfl rfl))))))) (ai (by (repeat' (first | with_reducible rfl | exact trivial | refine ai ?_ ?_ | (show (_ : Int) = _; first | with_reducible rfl | exact wr1 (by omega) | (simp only [zz, reduceCtorEq] <;> first | done | rfl | omega) | omega | rfl) | exact rfl | exact (fun _ => rfl) | exact (fun _ _ => rfl) | exact nof))) (ai trivial (ai (trivial) ?_)))))))
  refine ei _ (ai (haz_at8 hz hck hB hl0) (ei (()) (ei [] (ai (ai rfl (ai rfl (ai rfl (ai rfl (ai (fun _ => Or.inl rfl) (by first | exact nof | exact (fun _ => ai rfl rfl))))))) (ai (by (repeat' (first | with_reducible rfl | exact trivial | refine ai ?_ ?_ | (show (_ : Int) = _; first | with_reducible rfl | exact wr1 (by omega) | (simp only [zz, reduceCtorEq] <;> first | done | rfl | omega) | omega | rfl) | exact rfl | exact (fun _ => rfl) | exact (fun _ _ => rfl) | exact nof))) (ai trivial (ai (trivial) ?_)))))))
  refine ei _ (ai (mend_at8 hz hck hM hl0) (ei (()) (ei [] (ai (ai rfl (ai rfl (ai rfl (ai rfl (ai (fun _ => Or.inl rfl) (by first | exact nof | exact (fun _ => ai rfl rfl))))))) (ai (by (repeat' (first | with_reducible rfl | exact trivial | refine ai ?_ ?_ | (show (_ : Int) = _; first | with_reducible rfl | exact wr1 (by omega) | (simp only [zz, reduceCtorEq] <;> first | done | rfl | omega) | omega | rfl) | exact rfl | exact (fun _ => rfl) | exact (fun _ _ => rfl) | exact nof))) (ai trivial (ai (trivial) ?_)))))))
  refine bcase_b (b := false) (by (first | (simp only [beq_self_eq_true, Bool.and_true, Bool.and_self]; done) | (simp only [hz, Int.add_zero, wrap_z]; done) | (simp only [hz, Int.add_zero, wrap_z]; rfl) | decide | rfl | decide | (simp; done))) (fun h => absurd h (by decide)) (fun _ => ?_)
  refine bcase_b (b := false) (by show decide ((B.length : Int) < (M.length : Int)) = false; rw [decide_eq_false_iff_not]; omega) (fun h => absurd h (by decide)) (fun _ => ?_)
  refine bcase_b (b := false) (by show (((M.length : Int) == 0) != ((B.length : Int) == 0)) = false; rw [bne_eq_false_iff_eq, Bool.eq_iff_iff, beq_iff_eq, beq_iff_eq]; omega) (fun h => absurd h (by decide)) (fun _ => ?_)
  refine fnInl mixed tab_ok Try.func69 rfl rfl ?_
  refine ai rfl ?_
  intro b hb
  cases b with
  | true =>
    have h0 : l.length = 0 := hb rfl
    have hlm : l ++ M = M := by rw [List.length_eq_zero_iff.1 h0]; rfl
    rw [hlm] at e1 e2 hck2
    refine ai (ai (by show M.length ≤ maxLen; unfold maxLen; omega) (by show M.length * 16 ≤ 140737488355328; omega)) ?_
    refine ai (fun _ _ => rfl) ?_
    refine ei _ (ai (tab_at8 hz hck2 e1 (show M.length ≤ 1000000 by omega)) (ei (()) (ei [] (ai (ai rfl (ai rfl (ai rfl (ai rfl (ai (fun _ => Or.inl rfl) (by first | exact nof | exact (fun _ => ai rfl rfl))))))) (ai (by (repeat' (first | with_reducible rfl | exact trivial | refine ai ?_ ?_ | (show (_ : Int) = _; first | with_reducible rfl | exact wr1 (by omega) | (simp only [zz, reduceCtorEq] <;> first | done | rfl | omega) | omega | rfl) | exact rfl | exact (fun _ => rfl) | exact (fun _ _ => rfl) | exact nof))) (ai trivial (ai (trivial) ?_)))))))
    refine ei _ (ai (haz_at8 hz hck2 e2 (show M.length ≤ 1000000 by omega)) (ei (()) (ei [] (ai (ai rfl (ai rfl (ai rfl (ai rfl (ai (fun _ => Or.inl rfl) (by first | exact nof | exact (fun _ => ai rfl rfl))))))) (ai (by (repeat' (first | with_reducible rfl | exact trivial | refine ai ?_ ?_ | (show (_ : Int) = _; first | with_reducible rfl | exact wr1 (by omega) | (simp only [zz, reduceCtorEq] <;> first | done | rfl | omega) | omega | rfl) | exact rfl | exact (fun _ => rfl) | exact (fun _ _ => rfl) | exact nof))) (ai trivial (ai (trivial) ?_)))))))
    refine bcase_b (b := true) (by (first | (simp only [beq_self_eq_true, Bool.and_true, Bool.and_self]; done) | (simp only [hz, Int.add_zero, wrap_z]; done) | (simp only [hz, Int.add_zero, wrap_z]; rfl) | decide | rfl | decide | (simp; done))) (fun _ => ?_) (fun h => absurd h (by decide))
    refine bcase_b (b := true) (by (first | (simp only [beq_self_eq_true, Bool.and_true, Bool.and_self]; done) | (simp only [hz, Int.add_zero, wrap_z]; done) | (simp only [hz, Int.add_zero, wrap_z]; rfl) | decide | rfl | decide | (simp; done))) (fun _ => ?_) (fun h => absurd h (by decide))
    refine bcase_b (b := true) (by show (((n : Int) == (n : Int)) && (((T.toNat : Int) == (T.toNat : Int)) && true)) = true; simp) (fun _ => ?_) (fun h => absurd h (by decide))
    refine ei _ (ai awake8_ok (ei (()) (ei [] (ai (ai rfl (ai rfl (ai rfl (ai rfl (ai (fun _ => Or.inl rfl) (by first | exact nof | exact (fun _ => ai rfl rfl))))))) (ai (by (repeat' (first | with_reducible rfl | exact trivial | refine ai ?_ ?_ | (show (_ : Int) = _; first | with_reducible rfl | exact wr1 (by omega) | (simp only [zz, reduceCtorEq] <;> first | done | rfl | omega) | omega | rfl) | exact rfl | exact (fun _ => rfl) | exact (fun _ _ => rfl) | exact nof))) (ai trivial (ai (trivial) ?_)))))))
    refine ai (ai (fun _ => (by (repeat' (first | exact rfl | exact trivial | exact (fun _ => rfl) | exact (fun _ _ => rfl) | exact nof | refine ai ?_ ?_)))) ?_) trivial
    any_goals (repeat' (first | with_reducible rfl | exact trivial | refine ai ?_ ?_ | (show (_ : Int) = _; first | with_reducible rfl | exact wr1 (by omega) | (simp only [zz, reduceCtorEq] <;> first | done | rfl | omega) | omega | rfl) | exact rfl | exact (fun _ => rfl) | exact (fun _ _ => rfl) | exact nof))
  | false =>
    refine ai (ai (by show 0 + l.length ≤ maxLen; unfold maxLen; omega) (by show (0 + l.length) * 16 ≤ 140737488355328; omega)) ?_
    refine ai (fun _ _ => rfl) ?_
    refine ai (ai (by show 0 + l.length + M.length ≤ maxLen; unfold maxLen; omega) (by show (0 + l.length + M.length) * 16 ≤ 140737488355328; omega)) ?_
    refine ai (fun _ _ => rfl) ?_
    refine ei _ (ai (tab_at8 hz hck2 e1 hl2) (ei (()) (ei [] (ai (ai rfl (ai rfl (ai rfl (ai rfl (ai (fun _ => Or.inl rfl) (by first | exact nof | exact (fun _ => ai rfl rfl))))))) (ai ?_ (ai trivial (ai ?_ ?_)))))))
    · skip
      (repeat' (first | exact rfl | exact trivial | exact (fun _ => rfl) | exact (fun _ _ => rfl) | exact nof | refine ai ?_ ?_))
      · show 0 + l.length + M.length = (l ++ M).length
        rw [List.length_append]; omega
      · exact fun j hj => join2 l M j hj _
    · trivial
    refine ei _ (ai (haz_at8 hz hck2 e2 hl2) (ei (()) (ei [] (ai (ai rfl (ai rfl (ai rfl (ai rfl (ai (fun _ => Or.inl rfl) (by first | exact nof | exact (fun _ => ai rfl rfl))))))) (ai ?_ (ai trivial (ai ?_ ?_)))))))
    · skip
      (repeat' (first | exact rfl | exact trivial | exact (fun _ => rfl) | exact (fun _ _ => rfl) | exact nof | refine ai ?_ ?_))
      · show 0 + l.length + M.length = (l ++ M).length
        rw [List.length_append]; omega
      · exact fun j hj => join2 l M j hj _
    · trivial
    refine bcase_b (b := true) (by (first | (simp only [beq_self_eq_true, Bool.and_true, Bool.and_self]; done) | (simp only [hz, Int.add_zero, wrap_z]; done) | (simp only [hz, Int.add_zero, wrap_z]; rfl) | decide | rfl | decide | (simp; done))) (fun _ => ?_) (fun h => absurd h (by decide))
    refine bcase_b (b := true) (by (first | (simp only [beq_self_eq_true, Bool.and_true, Bool.and_self]; done) | (simp only [hz, Int.add_zero, wrap_z]; done) | (simp only [hz, Int.add_zero, wrap_z]; rfl) | decide | rfl | decide | (simp; done))) (fun _ => ?_) (fun h => absurd h (by decide))
    refine bcase_b (b := true) (by show (((n : Int) == (n : Int)) && (((T.toNat : Int) == (T.toNat : Int)) && true)) = true; simp) (fun _ => ?_) (fun h => absurd h (by decide))
    refine ei _ (ai awake8_ok (ei (()) (ei [] (ai (ai rfl (ai rfl (ai rfl (ai rfl (ai (fun _ => Or.inl rfl) (by first | exact nof | exact (fun _ => ai rfl rfl))))))) (ai (by (repeat' (first | with_reducible rfl | exact trivial | refine ai ?_ ?_ | (show (_ : Int) = _; first | with_reducible rfl | exact wr1 (by omega) | (simp only [zz, reduceCtorEq] <;> first | done | rfl | omega) | omega | rfl) | exact rfl | exact (fun _ => rfl) | exact (fun _ _ => rfl) | exact nof))) (ai trivial (ai (trivial) ?_)))))))
    refine ai (ai (fun _ => (by (repeat' (first | exact rfl | exact trivial | exact (fun _ => rfl) | exact (fun _ _ => rfl) | exact nof | refine ai ?_ ?_)))) ?_) trivial
    any_goals (repeat' (first | with_reducible rfl | exact trivial | refine ai ?_ ?_ | (show (_ : Int) = _; first | with_reducible rfl | exact wr1 (by omega) | (simp only [zz, reduceCtorEq] <;> first | done | rfl | omega) | omega | rfl) | exact rfl | exact (fun _ => rfl) | exact (fun _ _ => rfl) | exact nof))

end Go.Sx.Pn
