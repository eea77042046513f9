/- Contracts of chapter 8: what a form has during a change. -/
import Derived.Test.YtdkhdkldjpaadaaGreatP50
set_option maxHeartbeats 1000000
set_option maxRecDepth 4000
set_option linter.unusedSimpArgs false
set_option linter.unusedVariables false
namespace Go.Sx.Pn
open Go Go.Proofs

def xA (a b : Int) : SV := .p false (.agg [iP a, iP b])
theorem hstate_cond {c : Cu} {a b : Nat} (ha : a < 64) (hb : b < 64) : (bits .andNot .u64 (bits .and .u64 (bits .xor .u64 (IntKind.u64.wrap (a : Int)) c.value.toNat) c.care.toNat) (IntKind.u64.wrap (bits .xor .i64 (a : Int) (b : Int))) != 0) = true ↔ (uN a ^^^ c.value) &&& c.care &&& ~~~ uN (a ^^^ b) ≠ 0#64 := by
  rw [i_xor (by omega) (by omega), u_wrap_nat, u_wrap_nat, u_xor, u_and, u_andNot, u_bne0, bne_iff_ne]
  exact Iff.rfl
theorem hstate_cond2 {c : Cu} {a b : Nat} (ha : a < 64) (hb : b < 64) : (bits .and .u64 c.care.toNat (IntKind.u64.wrap (bits .xor .i64 (a : Int) (b : Int))) == 0) = true ↔ c.care &&& uN (a ^^^ b) = 0#64 := by
  rw [i_xor (by omega) (by omega), u_wrap_nat, u_and, u_beq0, beq_iff_eq]
  exact Iff.rfl
def hstateS : Spec := fnS (fun x : Cu × Nat × Nat => [cA x.1, xA x.2.1 x.2.2]) (fun x => x.2.1 < 64 ∧ x.2.2 < 64) (fun x => iP (stateC x.1 x.2.1 x.2.2))
theorem hstate_ok : FnOk Tryz.prog 136 hstateS := by
  refine fnOk (Tb := tab) mixed tab_ok Tryz.func136 rfl rfl ?_
  rintro ⟨c, a, b⟩ hpre
  refine ai (ai rfl (ai rfl rfl)) ?_
  obtain ⟨ha, hb⟩ : a < 64 ∧ b < 64 := hpre
  refine bcase_p (p := (uN a ^^^ c.value) &&& c.care &&& ~~~ uN (a ^^^ b) ≠ 0#64) (by exact hstate_cond ha hb) (fun h1 => ?_) (fun h1 => ?_)
  · skip
    refine ai (ai (fun _ => (by (repeat' (first | exact rfl | exact trivial | exact (fun _ => rfl) | exact (fun _ _ => rfl) | exact nof | refine ai ?_ ?_)))) ?_) trivial
    show ple _ (iP (stateC c a b))
    rw [show stateC c a b = 0 by rw [stateC, if_pos h1]]
    any_goals (repeat' (first | with_reducible rfl | exact trivial | refine ai ?_ ?_ | (show (_ : Int) = _; first | with_reducible rfl | exact wr1 (by omega) | (simp only [zz, reduceCtorEq] <;> first | done | rfl | omega) | omega | rfl) | exact rfl | exact (fun _ => rfl) | exact (fun _ _ => rfl) | exact nof))
  refine bcase_p (p := c.care &&& uN (a ^^^ b) = 0#64) (by exact hstate_cond2 ha hb) (fun h2 => ?_) (fun h2 => ?_)
  · skip
    refine ai (ai (fun _ => (by (repeat' (first | exact rfl | exact trivial | exact (fun _ => rfl) | exact (fun _ _ => rfl) | exact nof | refine ai ?_ ?_)))) ?_) trivial
    show ple _ (iP (stateC c a b))
    rw [show stateC c a b = 1 by rw [stateC, if_neg h1, if_pos h2]]
    any_goals (repeat' (first | with_reducible rfl | exact trivial | refine ai ?_ ?_ | (show (_ : Int) = _; first | with_reducible rfl | exact wr1 (by omega) | (simp only [zz, reduceCtorEq] <;> first | done | rfl | omega) | omega | rfl) | exact rfl | exact (fun _ => rfl) | exact (fun _ _ => rfl) | exact nof))
  refine ai (ai (fun _ => (by (repeat' (first | exact rfl | exact trivial | exact (fun _ => rfl) | exact (fun _ _ => rfl) | exact nof | refine ai ?_ ?_)))) ?_) trivial
  show ple _ (iP (stateC c a b))
  rw [show stateC c a b = 2 by rw [stateC, if_neg h1, if_neg h2]]
  any_goals (repeat' (first | with_reducible rfl | exact trivial | refine ai ?_ ?_ | (show (_ : Int) = _; first | with_reducible rfl | exact wr1 (by omega) | (simp only [zz, reduceCtorEq] <;> first | done | rfl | omega) | omega | rfl) | exact rfl | exact (fun _ => rfl) | exact (fun _ _ => rfl) | exact nof))
def eitherS : Spec := fnS (fun _ : Unit => []) (fun _ => True) (fun _ => .agg [iP 0, iP 1, iP 2, iP 1, iP 1, iP 1, iP 2, iP 1, iP 2])
theorem either_ok : FnOk Tryz.prog 135 eitherS := by
  refine fnOk (Tb := tab) mixed tab_ok Tryz.func135 rfl rfl ?_
  rintro ⟨⟩ hpre
  refine ai (ai rfl (ai rfl rfl)) ?_
  refine ai (ai (fun _ => (by (repeat' (first | exact rfl | exact trivial | exact (fun _ => rfl) | exact (fun _ _ => rfl) | exact nof | refine ai ?_ ?_)))) ?_) trivial
  any_goals (repeat' (first | with_reducible rfl | exact trivial | refine ai ?_ ?_ | (show (_ : Int) = _; first | with_reducible rfl | exact wr1 (by omega) | (simp only [zz, reduceCtorEq] <;> first | done | rfl | omega) | omega | rfl) | exact rfl | exact (fun _ => rfl) | exact (fun _ _ => rfl) | exact nof))
def betS : Spec := fnS (fun x : Nat × List Cu × Nat × Nat => [csA x.2.1, xA x.2.2.1 x.2.2.2]) (fun x => x.1 ≤ 6 ∧ x.2.1.length ≤ 1000000 ∧ (∀ c ∈ x.2.1, c.Ok x.1) ∧ x.2.2.1 < 2 ^ x.1 ∧ x.2.2.2 < 2 ^ x.1) (fun x => iP (betL x.1 x.2.1 x.2.2.1 x.2.2.2))
theorem getC_mem {l : List Cu} {k : Nat} (hk : k < l.length) : l.getD k ⟨0, 0⟩ ∈ l := by
  rw [List.getD_eq_getElem?_getD, List.getElem?_eq_getElem hk]; exact List.getElem_mem _
theorem take_snoc {l : List Cu} {k : Nat} (hk : k < l.length) : l.take (k + 1) = l.take k ++ [l.getD k ⟨0, 0⟩] := by
  rw [List.take_add_one, List.getD_eq_getElem?_getD, List.getElem?_eq_getElem hk]; rfl
theorem hbet_ok : FnOk Tryz.prog 89 betS := by
  refine fnOk (Tb := tab) mixed tab_ok Tryz.func89 rfl rfl ?_
  rintro ⟨n, l, a, b⟩ hpre
  refine ai (ai rfl (ai rfl rfl)) ?_
  obtain ⟨hn, hl, hall, ha, hb⟩ : n ≤ 6 ∧ l.length ≤ 1000000 ∧ (∀ c ∈ l, c.Ok n) ∧ a < 2 ^ n ∧ b < 2 ^ n := hpre
  have h64 := pow_le64 hn
  refine ei (LAnn.inv { X := Nat × Int, up := fun x => [(10, .s (iA x.1)), (5, .s (iA x.2))], uo := fun _ => [], inv := fun x => x.1 ≤ l.length ∧ x.2 = betL n (l.take x.1) a b, meas := fun x => l.length - x.1, x0 := (0, 0) }) ?_
  refine ai (ai (ai (by (repeat' (first | exact rfl | exact trivial | exact (fun _ => rfl) | exact (fun _ _ => rfl) | exact nof | refine ai ?_ ?_))) (by (repeat' (first | exact rfl | exact trivial | exact (fun _ => rfl) | exact (fun _ _ => rfl) | exact nof | refine ai ?_ ?_)))) rfl) (ai ?_ ?_)
  · exact ⟨Nat.zero_le _, by simp [betL]⟩
  rintro ⟨k, o⟩ ⟨hk, ho⟩
  have hk : k ≤ l.length := hk
  have ho : o = betL n (l.take k) a b := ho
  refine bcase_p (p := k < l.length) (by first | (with_reducible refine bif_lt ?_; omega) | (with_reducible refine bif_le ?_; omega) | (with_reducible refine bif_eq ?_; omega) | (with_reducible refine bif_ne ?_; omega) | exact b8_eq rfl | exact b8_ne rfl | exact bif_lt (by omega) | exact bif_le (by omega) | exact bif_eq (by omega) | exact bif_ne (by omega) | exact Iff.rfl | (simp only [zz, reduceCtorEq] <;> first | done | omega | exact Iff.rfl) | (simp; done) | (simp; omega)) (fun h1 => ?_) (fun h1 => ?_)
  · refine ai (ai (Int.natCast_nonneg _) (by show (k : Int) < (l.length : Int); omega)) ?_
    refine ai rfl ?_
    have hsn := bet_snoc hn (l.take k) (hall _ (getC_mem h1)) ha hb
    rw [← take_snoc h1] at hsn
    have hpre : (l.getD k ⟨0, 0⟩, a, b).2.1 < 64 ∧ (l.getD k ⟨0, 0⟩, a, b).2.2 < 64 := ⟨by show a < 64; omega, by show b < 64; omega⟩
    obtain e1 | e1 | e1 := bet_cases n (l.take k) a b
    · rw [e1] at ho; subst ho
      obtain e2 | e2 | e2 := state_cases (l.getD k ⟨0, 0⟩) a b
      · skip
        have hst := fnS_at hstate_ok (l.getD k ⟨0, 0⟩, a, b) hpre (r := iP 0) (congrArg iP e2)
        refine ei [1, 3, 4, 0, 2, 5, 6, 7] (ai (by kernel_rfl) ?_)
        refine ei _ (ai either_ok (ei (()) (ei [] (ai (ai rfl (ai rfl (ai rfl (ai rfl (ai (fun _ => Or.inl rfl) (ai (by first | exact nof | exact (fun _ => ai rfl rfl)) (by first | exact Or.inl rfl | exact Or.inr rfl))))))) (ai (by (repeat' (first | with_reducible rfl | exact trivial | refine ai ?_ ?_ | (show (_ : Int) = _; first | with_reducible rfl | exact wr1 (by omega) | (simp only [zz, reduceCtorEq] <;> first | done | rfl | omega) | omega | rfl) | exact rfl | exact (fun _ => rfl) | exact (fun _ _ => rfl) | exact nof))) (ai trivial (ai (trivial) ?_)))))))
        refine ai (ai (by dsimp only; omega) (by dsimp only; omega)) ?_
        refine ei _ (ai hst (ei (()) (ei [] (ai (ai rfl (ai rfl (ai rfl (ai rfl (ai (fun _ => Or.inl rfl) (ai (by first | exact nof | exact (fun _ => ai rfl rfl)) (by first | exact Or.inl rfl | exact Or.inr rfl))))))) (ai (by (repeat' (first | with_reducible rfl | exact trivial | refine ai ?_ ?_ | (show (_ : Int) = _; first | with_reducible rfl | exact wr1 (by omega) | (simp only [zz, reduceCtorEq] <;> first | done | rfl | omega) | omega | rfl) | exact rfl | exact (fun _ => rfl) | exact (fun _ _ => rfl) | exact nof))) (ai trivial (ai (trivial) ?_)))))))
        refine ai (ai (by decide) (by decide)) ?_
        refine ei ((k + 1, 0)) (ai (ai rfl rfl) (ai (ai ?_ rfl) (ai ?_ ?_)))
        · skip
          (repeat' (first | exact rfl | exact trivial | exact (fun _ => rfl) | exact (fun _ _ => rfl) | exact nof | refine ai ?_ ?_))
          exact wr1 (by omega)
        · exact ⟨h1, by rw [hsn, e1, e2]; rfl⟩
        · show l.length - (k + 1) < l.length - k; omega
      · skip
        have hst := fnS_at hstate_ok (l.getD k ⟨0, 0⟩, a, b) hpre (r := iP 1) (congrArg iP e2)
        refine ei [1, 3, 4, 0, 2, 5, 6, 7] (ai (by kernel_rfl) ?_)
        refine ei _ (ai either_ok (ei (()) (ei [] (ai (ai rfl (ai rfl (ai rfl (ai rfl (ai (fun _ => Or.inl rfl) (ai (by first | exact nof | exact (fun _ => ai rfl rfl)) (by first | exact Or.inl rfl | exact Or.inr rfl))))))) (ai (by (repeat' (first | with_reducible rfl | exact trivial | refine ai ?_ ?_ | (show (_ : Int) = _; first | with_reducible rfl | exact wr1 (by omega) | (simp only [zz, reduceCtorEq] <;> first | done | rfl | omega) | omega | rfl) | exact rfl | exact (fun _ => rfl) | exact (fun _ _ => rfl) | exact nof))) (ai trivial (ai (trivial) ?_)))))))
        refine ai (ai (by dsimp only; omega) (by dsimp only; omega)) ?_
        refine ei _ (ai hst (ei (()) (ei [] (ai (ai rfl (ai rfl (ai rfl (ai rfl (ai (fun _ => Or.inl rfl) (ai (by first | exact nof | exact (fun _ => ai rfl rfl)) (by first | exact Or.inl rfl | exact Or.inr rfl))))))) (ai (by (repeat' (first | with_reducible rfl | exact trivial | refine ai ?_ ?_ | (show (_ : Int) = _; first | with_reducible rfl | exact wr1 (by omega) | (simp only [zz, reduceCtorEq] <;> first | done | rfl | omega) | omega | rfl) | exact rfl | exact (fun _ => rfl) | exact (fun _ _ => rfl) | exact nof))) (ai trivial (ai (trivial) ?_)))))))
        refine ai (ai (by decide) (by decide)) ?_
        refine ei ((k + 1, 1)) (ai (ai rfl rfl) (ai (ai ?_ rfl) (ai ?_ ?_)))
        · skip
          (repeat' (first | exact rfl | exact trivial | exact (fun _ => rfl) | exact (fun _ _ => rfl) | exact nof | refine ai ?_ ?_))
          exact wr1 (by omega)
        · exact ⟨h1, by rw [hsn, e1, e2]; rfl⟩
        · show l.length - (k + 1) < l.length - k; omega
      · skip
        have hst := fnS_at hstate_ok (l.getD k ⟨0, 0⟩, a, b) hpre (r := iP 2) (congrArg iP e2)
        refine ei [1, 3, 4, 0, 2, 5, 6, 7] (ai (by kernel_rfl) ?_)
        refine ei _ (ai either_ok (ei (()) (ei [] (ai (ai rfl (ai rfl (ai rfl (ai rfl (ai (fun _ => Or.inl rfl) (ai (by first | exact nof | exact (fun _ => ai rfl rfl)) (by first | exact Or.inl rfl | exact Or.inr rfl))))))) (ai (by (repeat' (first | with_reducible rfl | exact trivial | refine ai ?_ ?_ | (show (_ : Int) = _; first | with_reducible rfl | exact wr1 (by omega) | (simp only [zz, reduceCtorEq] <;> first | done | rfl | omega) | omega | rfl) | exact rfl | exact (fun _ => rfl) | exact (fun _ _ => rfl) | exact nof))) (ai trivial (ai (trivial) ?_)))))))
        refine ai (ai (by dsimp only; omega) (by dsimp only; omega)) ?_
        refine ei _ (ai hst (ei (()) (ei [] (ai (ai rfl (ai rfl (ai rfl (ai rfl (ai (fun _ => Or.inl rfl) (ai (by first | exact nof | exact (fun _ => ai rfl rfl)) (by first | exact Or.inl rfl | exact Or.inr rfl))))))) (ai (by (repeat' (first | with_reducible rfl | exact trivial | refine ai ?_ ?_ | (show (_ : Int) = _; first | with_reducible rfl | exact wr1 (by omega) | (simp only [zz, reduceCtorEq] <;> first | done | rfl | omega) | omega | rfl) | exact rfl | exact (fun _ => rfl) | exact (fun _ _ => rfl) | exact nof))) (ai trivial (ai (trivial) ?_)))))))
        refine ai (ai (by decide) (by decide)) ?_
        refine ei ((k + 1, 2)) (ai (ai rfl rfl) (ai (ai ?_ rfl) (ai ?_ ?_)))
        · skip
          (repeat' (first | exact rfl | exact trivial | exact (fun _ => rfl) | exact (fun _ _ => rfl) | exact nof | refine ai ?_ ?_))
          exact wr1 (by omega)
        · exact ⟨h1, by rw [hsn, e1, e2]; rfl⟩
        · show l.length - (k + 1) < l.length - k; omega
    · rw [e1] at ho; subst ho
      obtain e2 | e2 | e2 := state_cases (l.getD k ⟨0, 0⟩) a b
      · skip
        have hst := fnS_at hstate_ok (l.getD k ⟨0, 0⟩, a, b) hpre (r := iP 0) (congrArg iP e2)
        refine ei [1, 3, 4, 0, 2, 5, 6, 7] (ai (by kernel_rfl) ?_)
        refine ei _ (ai either_ok (ei (()) (ei [] (ai (ai rfl (ai rfl (ai rfl (ai rfl (ai (fun _ => Or.inl rfl) (ai (by first | exact nof | exact (fun _ => ai rfl rfl)) (by first | exact Or.inl rfl | exact Or.inr rfl))))))) (ai (by (repeat' (first | with_reducible rfl | exact trivial | refine ai ?_ ?_ | (show (_ : Int) = _; first | with_reducible rfl | exact wr1 (by omega) | (simp only [zz, reduceCtorEq] <;> first | done | rfl | omega) | omega | rfl) | exact rfl | exact (fun _ => rfl) | exact (fun _ _ => rfl) | exact nof))) (ai trivial (ai (trivial) ?_)))))))
        refine ai (ai (by dsimp only; omega) (by dsimp only; omega)) ?_
        refine ei _ (ai hst (ei (()) (ei [] (ai (ai rfl (ai rfl (ai rfl (ai rfl (ai (fun _ => Or.inl rfl) (ai (by first | exact nof | exact (fun _ => ai rfl rfl)) (by first | exact Or.inl rfl | exact Or.inr rfl))))))) (ai (by (repeat' (first | with_reducible rfl | exact trivial | refine ai ?_ ?_ | (show (_ : Int) = _; first | with_reducible rfl | exact wr1 (by omega) | (simp only [zz, reduceCtorEq] <;> first | done | rfl | omega) | omega | rfl) | exact rfl | exact (fun _ => rfl) | exact (fun _ _ => rfl) | exact nof))) (ai trivial (ai (trivial) ?_)))))))
        refine ai (ai (by decide) (by decide)) ?_
        refine ei ((k + 1, 1)) (ai (ai rfl rfl) (ai (ai ?_ rfl) (ai ?_ ?_)))
        · skip
          (repeat' (first | exact rfl | exact trivial | exact (fun _ => rfl) | exact (fun _ _ => rfl) | exact nof | refine ai ?_ ?_))
          exact wr1 (by omega)
        · exact ⟨h1, by rw [hsn, e1, e2]; rfl⟩
        · show l.length - (k + 1) < l.length - k; omega
      · skip
        have hst := fnS_at hstate_ok (l.getD k ⟨0, 0⟩, a, b) hpre (r := iP 1) (congrArg iP e2)
        refine ei [1, 3, 4, 0, 2, 5, 6, 7] (ai (by kernel_rfl) ?_)
        refine ei _ (ai either_ok (ei (()) (ei [] (ai (ai rfl (ai rfl (ai rfl (ai rfl (ai (fun _ => Or.inl rfl) (ai (by first | exact nof | exact (fun _ => ai rfl rfl)) (by first | exact Or.inl rfl | exact Or.inr rfl))))))) (ai (by (repeat' (first | with_reducible rfl | exact trivial | refine ai ?_ ?_ | (show (_ : Int) = _; first | with_reducible rfl | exact wr1 (by omega) | (simp only [zz, reduceCtorEq] <;> first | done | rfl | omega) | omega | rfl) | exact rfl | exact (fun _ => rfl) | exact (fun _ _ => rfl) | exact nof))) (ai trivial (ai (trivial) ?_)))))))
        refine ai (ai (by dsimp only; omega) (by dsimp only; omega)) ?_
        refine ei _ (ai hst (ei (()) (ei [] (ai (ai rfl (ai rfl (ai rfl (ai rfl (ai (fun _ => Or.inl rfl) (ai (by first | exact nof | exact (fun _ => ai rfl rfl)) (by first | exact Or.inl rfl | exact Or.inr rfl))))))) (ai (by (repeat' (first | with_reducible rfl | exact trivial | refine ai ?_ ?_ | (show (_ : Int) = _; first | with_reducible rfl | exact wr1 (by omega) | (simp only [zz, reduceCtorEq] <;> first | done | rfl | omega) | omega | rfl) | exact rfl | exact (fun _ => rfl) | exact (fun _ _ => rfl) | exact nof))) (ai trivial (ai (trivial) ?_)))))))
        refine ai (ai (by decide) (by decide)) ?_
        refine ei ((k + 1, 1)) (ai (ai rfl rfl) (ai (ai ?_ rfl) (ai ?_ ?_)))
        · skip
          (repeat' (first | exact rfl | exact trivial | exact (fun _ => rfl) | exact (fun _ _ => rfl) | exact nof | refine ai ?_ ?_))
          exact wr1 (by omega)
        · exact ⟨h1, by rw [hsn, e1, e2]; rfl⟩
        · show l.length - (k + 1) < l.length - k; omega
      · skip
        have hst := fnS_at hstate_ok (l.getD k ⟨0, 0⟩, a, b) hpre (r := iP 2) (congrArg iP e2)
        refine ei [1, 3, 4, 0, 2, 5, 6, 7] (ai (by kernel_rfl) ?_)
        refine ei _ (ai either_ok (ei (()) (ei [] (ai (ai rfl (ai rfl (ai rfl (ai rfl (ai (fun _ => Or.inl rfl) (ai (by first | exact nof | exact (fun _ => ai rfl rfl)) (by first | exact Or.inl rfl | exact Or.inr rfl))))))) (ai (by (repeat' (first | with_reducible rfl | exact trivial | refine ai ?_ ?_ | (show (_ : Int) = _; first | with_reducible rfl | exact wr1 (by omega) | (simp only [zz, reduceCtorEq] <;> first | done | rfl | omega) | omega | rfl) | exact rfl | exact (fun _ => rfl) | exact (fun _ _ => rfl) | exact nof))) (ai trivial (ai (trivial) ?_)))))))
        refine ai (ai (by dsimp only; omega) (by dsimp only; omega)) ?_
        refine ei _ (ai hst (ei (()) (ei [] (ai (ai rfl (ai rfl (ai rfl (ai rfl (ai (fun _ => Or.inl rfl) (ai (by first | exact nof | exact (fun _ => ai rfl rfl)) (by first | exact Or.inl rfl | exact Or.inr rfl))))))) (ai (by (repeat' (first | with_reducible rfl | exact trivial | refine ai ?_ ?_ | (show (_ : Int) = _; first | with_reducible rfl | exact wr1 (by omega) | (simp only [zz, reduceCtorEq] <;> first | done | rfl | omega) | omega | rfl) | exact rfl | exact (fun _ => rfl) | exact (fun _ _ => rfl) | exact nof))) (ai trivial (ai (trivial) ?_)))))))
        refine ai (ai (by decide) (by decide)) ?_
        refine ei ((k + 1, 1)) (ai (ai rfl rfl) (ai (ai ?_ rfl) (ai ?_ ?_)))
        · skip
          (repeat' (first | exact rfl | exact trivial | exact (fun _ => rfl) | exact (fun _ _ => rfl) | exact nof | refine ai ?_ ?_))
          exact wr1 (by omega)
        · exact ⟨h1, by rw [hsn, e1, e2]; rfl⟩
        · show l.length - (k + 1) < l.length - k; omega
    · rw [e1] at ho; subst ho
      obtain e2 | e2 | e2 := state_cases (l.getD k ⟨0, 0⟩) a b
      · skip
        have hst := fnS_at hstate_ok (l.getD k ⟨0, 0⟩, a, b) hpre (r := iP 0) (congrArg iP e2)
        refine ei [1, 3, 4, 0, 2, 5, 6, 7] (ai (by kernel_rfl) ?_)
        refine ei _ (ai either_ok (ei (()) (ei [] (ai (ai rfl (ai rfl (ai rfl (ai rfl (ai (fun _ => Or.inl rfl) (ai (by first | exact nof | exact (fun _ => ai rfl rfl)) (by first | exact Or.inl rfl | exact Or.inr rfl))))))) (ai (by (repeat' (first | with_reducible rfl | exact trivial | refine ai ?_ ?_ | (show (_ : Int) = _; first | with_reducible rfl | exact wr1 (by omega) | (simp only [zz, reduceCtorEq] <;> first | done | rfl | omega) | omega | rfl) | exact rfl | exact (fun _ => rfl) | exact (fun _ _ => rfl) | exact nof))) (ai trivial (ai (trivial) ?_)))))))
        refine ai (ai (by dsimp only; omega) (by dsimp only; omega)) ?_
        refine ei _ (ai hst (ei (()) (ei [] (ai (ai rfl (ai rfl (ai rfl (ai rfl (ai (fun _ => Or.inl rfl) (ai (by first | exact nof | exact (fun _ => ai rfl rfl)) (by first | exact Or.inl rfl | exact Or.inr rfl))))))) (ai (by (repeat' (first | with_reducible rfl | exact trivial | refine ai ?_ ?_ | (show (_ : Int) = _; first | with_reducible rfl | exact wr1 (by omega) | (simp only [zz, reduceCtorEq] <;> first | done | rfl | omega) | omega | rfl) | exact rfl | exact (fun _ => rfl) | exact (fun _ _ => rfl) | exact nof))) (ai trivial (ai (trivial) ?_)))))))
        refine ai (ai (by decide) (by decide)) ?_
        refine ei ((k + 1, 2)) (ai (ai rfl rfl) (ai (ai ?_ rfl) (ai ?_ ?_)))
        · skip
          (repeat' (first | exact rfl | exact trivial | exact (fun _ => rfl) | exact (fun _ _ => rfl) | exact nof | refine ai ?_ ?_))
          exact wr1 (by omega)
        · exact ⟨h1, by rw [hsn, e1, e2]; rfl⟩
        · show l.length - (k + 1) < l.length - k; omega
      · skip
        have hst := fnS_at hstate_ok (l.getD k ⟨0, 0⟩, a, b) hpre (r := iP 1) (congrArg iP e2)
        refine ei [1, 3, 4, 0, 2, 5, 6, 7] (ai (by kernel_rfl) ?_)
        refine ei _ (ai either_ok (ei (()) (ei [] (ai (ai rfl (ai rfl (ai rfl (ai rfl (ai (fun _ => Or.inl rfl) (ai (by first | exact nof | exact (fun _ => ai rfl rfl)) (by first | exact Or.inl rfl | exact Or.inr rfl))))))) (ai (by (repeat' (first | with_reducible rfl | exact trivial | refine ai ?_ ?_ | (show (_ : Int) = _; first | with_reducible rfl | exact wr1 (by omega) | (simp only [zz, reduceCtorEq] <;> first | done | rfl | omega) | omega | rfl) | exact rfl | exact (fun _ => rfl) | exact (fun _ _ => rfl) | exact nof))) (ai trivial (ai (trivial) ?_)))))))
        refine ai (ai (by dsimp only; omega) (by dsimp only; omega)) ?_
        refine ei _ (ai hst (ei (()) (ei [] (ai (ai rfl (ai rfl (ai rfl (ai rfl (ai (fun _ => Or.inl rfl) (ai (by first | exact nof | exact (fun _ => ai rfl rfl)) (by first | exact Or.inl rfl | exact Or.inr rfl))))))) (ai (by (repeat' (first | with_reducible rfl | exact trivial | refine ai ?_ ?_ | (show (_ : Int) = _; first | with_reducible rfl | exact wr1 (by omega) | (simp only [zz, reduceCtorEq] <;> first | done | rfl | omega) | omega | rfl) | exact rfl | exact (fun _ => rfl) | exact (fun _ _ => rfl) | exact nof))) (ai trivial (ai (trivial) ?_)))))))
        refine ai (ai (by decide) (by decide)) ?_
        refine ei ((k + 1, 1)) (ai (ai rfl rfl) (ai (ai ?_ rfl) (ai ?_ ?_)))
        · skip
          (repeat' (first | exact rfl | exact trivial | exact (fun _ => rfl) | exact (fun _ _ => rfl) | exact nof | refine ai ?_ ?_))
          exact wr1 (by omega)
        · exact ⟨h1, by rw [hsn, e1, e2]; rfl⟩
        · show l.length - (k + 1) < l.length - k; omega
      · skip
        have hst := fnS_at hstate_ok (l.getD k ⟨0, 0⟩, a, b) hpre (r := iP 2) (congrArg iP e2)
        refine ei [1, 3, 4, 0, 2, 5, 6, 7] (ai (by kernel_rfl) ?_)
        refine ei _ (ai either_ok (ei (()) (ei [] (ai (ai rfl (ai rfl (ai rfl (ai rfl (ai (fun _ => Or.inl rfl) (ai (by first | exact nof | exact (fun _ => ai rfl rfl)) (by first | exact Or.inl rfl | exact Or.inr rfl))))))) (ai (by (repeat' (first | with_reducible rfl | exact trivial | refine ai ?_ ?_ | (show (_ : Int) = _; first | with_reducible rfl | exact wr1 (by omega) | (simp only [zz, reduceCtorEq] <;> first | done | rfl | omega) | omega | rfl) | exact rfl | exact (fun _ => rfl) | exact (fun _ _ => rfl) | exact nof))) (ai trivial (ai (trivial) ?_)))))))
        refine ai (ai (by dsimp only; omega) (by dsimp only; omega)) ?_
        refine ei _ (ai hst (ei (()) (ei [] (ai (ai rfl (ai rfl (ai rfl (ai rfl (ai (fun _ => Or.inl rfl) (ai (by first | exact nof | exact (fun _ => ai rfl rfl)) (by first | exact Or.inl rfl | exact Or.inr rfl))))))) (ai (by (repeat' (first | with_reducible rfl | exact trivial | refine ai ?_ ?_ | (show (_ : Int) = _; first | with_reducible rfl | exact wr1 (by omega) | (simp only [zz, reduceCtorEq] <;> first | done | rfl | omega) | omega | rfl) | exact rfl | exact (fun _ => rfl) | exact (fun _ _ => rfl) | exact nof))) (ai trivial (ai (trivial) ?_)))))))
        refine ai (ai (by decide) (by decide)) ?_
        refine ei ((k + 1, 2)) (ai (ai rfl rfl) (ai (ai ?_ rfl) (ai ?_ ?_)))
        · skip
          (repeat' (first | exact rfl | exact trivial | exact (fun _ => rfl) | exact (fun _ _ => rfl) | exact nof | refine ai ?_ ?_))
          exact wr1 (by omega)
        · exact ⟨h1, by rw [hsn, e1, e2]; rfl⟩
        · show l.length - (k + 1) < l.length - k; omega
  · obtain rfl : k = l.length := by omega
    refine ai (ai (fun _ => (by (repeat' (first | exact rfl | exact trivial | exact (fun _ => rfl) | exact (fun _ _ => rfl) | exact nof | refine ai ?_ ?_)))) ?_) trivial
    show ple _ (iP (betL n l a b))
    rw [show betL n l a b = o by rw [ho, List.take_length]]
    any_goals (repeat' (first | with_reducible rfl | exact trivial | refine ai ?_ ?_ | (show (_ : Int) = _; first | with_reducible rfl | exact wr1 (by omega) | (simp only [zz, reduceCtorEq] <;> first | done | rfl | omega) | omega | rfl) | exact rfl | exact (fun _ => rfl) | exact (fun _ _ => rfl) | exact nof))

def allS' : Spec := fnS (fun x : Cu × List Nat => [cA x.1, nsA x.2]) (fun x => x.2.length ≤ 1000) (fun x => .tup [bP (x.2.all fun k => hasC x.1 (k : Int)), bP (x.2.any fun k => hasC x.1 (k : Int))])
theorem takeN_snoc {l : List Nat} {k : Nat} (hk : k < l.length) : l.take (k + 1) = l.take k ++ [l.getD k 0] := by
  rw [List.take_add_one, List.getD_eq_getElem?_getD, List.getElem?_eq_getElem hk]; rfl
def rbetS : Spec := fnS (fun x : Nat × List Cu × Nat × Nat => [iA x.1, csA x.2.1, iA x.2.2.1, iA x.2.2.2]) (fun x => x.1 ≤ 6 ∧ x.2.1.length ≤ 1000000 ∧ x.2.2.1 < 2 ^ x.1 ∧ x.2.2.2 < 2 ^ x.1) (fun x => iP (betL x.1 x.2.1 x.2.2.1 x.2.2.2))
end Go.Sx.Pn
