/- Contracts of chapter 8: two points in one cube, the table of a form, pairs of neighbours. -/
import Derived.Test.YtdkhdkldjpaadaaPH
set_option maxHeartbeats 1000000
set_option maxRecDepth 4000
set_option linter.unusedSimpArgs false
set_option linter.unusedVariables false
namespace Go.Sx.Pn
open Go Go.Proofs

def ppP (p : Nat × Nat) : PV := .agg [iP p.1, iP p.2]
def ppA (p : Nat × Nat) : SV := .p false (ppP p)
def prCells (p : Nat × Nat) : List PV := [iP p.1, iP p.2]
def prsP (l : List (Nat × Nat)) : PV := .seq l.length (fun i => prCells (l.getD i (0, 0)))
def prsA (l : List (Nat × Nat)) : SV := .p false (prsP l)
def rowPr (l : List (Nat × Nat)) : LV := .rw 93 2 l.length (fun i => prCells (l.getD i (0, 0)))

theorem htog1_ok (i j : Nat) : FnOk Try.prog 144 (qS2 93 i j (fun c => hasC c (i : Int) && hasC c (j : Int))) := by
  refine fnOk (Tb := tab) mixed tab_ok Try.func144 rfl rfl ?_
  rintro (c : Cu) hpre
  refine ai (ai rfl (ai rfl rfl)) ?_
  refine ai (ai (by decide) (by decide)) ?_
  refine ei _ (ai hin_ok (ei ((c, (i : Int))) (ei [] (ai (ai rfl (ai rfl (ai rfl (ai rfl (ai (fun _ => Or.inl rfl) (ai (by first | exact nof | exact (fun _ => ai rfl rfl)) (by first | exact Or.inl rfl | exact Or.inr rfl))))))) (ai (by (repeat' (first | with_reducible rfl | exact trivial | refine ai ?_ ?_ | (show (_ : Int) = _; first | with_reducible rfl | exact wr1 (by omega) | (simp only [zz, reduceCtorEq] <;> first | done | rfl | omega) | omega | rfl) | exact rfl | exact (fun _ => rfl) | exact (fun _ _ => rfl) | exact nof))) (ai trivial (ai (trivial) ?_)))))))
  refine bcase_b (b := hasC c (i : Int)) (by first | exact rfl | (simp only [zz, reduceCtorEq] <;> first | done | exact rfl)) (fun h1 => ?_) (fun h1 => ?_)
  · refine ai (ai (by decide) (by decide)) ?_
    refine ei _ (ai hin_ok (ei ((c, (j : Int))) (ei [] (ai (ai rfl (ai rfl (ai rfl (ai rfl (ai (fun _ => Or.inl rfl) (ai (by first | exact nof | exact (fun _ => ai rfl rfl)) (by first | exact Or.inl rfl | exact Or.inr rfl))))))) (ai (by (repeat' (first | with_reducible rfl | exact trivial | refine ai ?_ ?_ | (show (_ : Int) = _; first | with_reducible rfl | exact wr1 (by omega) | (simp only [zz, reduceCtorEq] <;> first | done | rfl | omega) | omega | rfl) | exact rfl | exact (fun _ => rfl) | exact (fun _ _ => rfl) | exact nof))) (ai trivial (ai (trivial) ?_)))))))
    refine ai (ai (fun _ => (by (repeat' (first | exact rfl | exact trivial | exact (fun _ => rfl) | exact (fun _ _ => rfl) | exact nof | refine ai ?_ ?_)))) ?_) trivial
    show ple _ (bP (hasC c (i : Int) && hasC c (j : Int)))
    rw [h1, Bool.true_and]
    any_goals (repeat' (first | with_reducible rfl | exact trivial | refine ai ?_ ?_ | (show (_ : Int) = _; first | with_reducible rfl | exact wr1 (by omega) | (simp only [zz, reduceCtorEq] <;> first | done | rfl | omega) | omega | rfl) | exact rfl | exact (fun _ => rfl) | exact (fun _ _ => rfl) | exact nof))
  · skip
    refine ai (ai (fun _ => (by (repeat' (first | exact rfl | exact trivial | exact (fun _ => rfl) | exact (fun _ _ => rfl) | exact nof | refine ai ?_ ?_)))) ?_) trivial
    show ple _ (bP (hasC c (i : Int) && hasC c (j : Int)))
    rw [h1, Bool.false_and]
    any_goals (repeat' (first | with_reducible rfl | exact trivial | refine ai ?_ ?_ | (show (_ : Int) = _; first | with_reducible rfl | exact wr1 (by omega) | (simp only [zz, reduceCtorEq] <;> first | done | rfl | omega) | omega | rfl) | exact rfl | exact (fun _ => rfl) | exact (fun _ _ => rfl) | exact nof))
def togS : Spec := fnS (fun x : List Cu × Nat × Nat => [csA x.1, ppA x.2]) (fun x => x.1.length ≤ 1000000) (fun x => bP (togC x.1 x.2))
theorem htog_ok : FnOk Try.prog 102 togS := by
  refine fnOk (Tb := tab) mixed tab_ok Try.func102 rfl rfl ?_
  rintro ⟨l, p⟩ hpre
  refine ai (ai rfl (ai rfl rfl)) ?_
  refine ei _ (ai (qC2_ok (htog1_ok p.1 p.2)) (ei (l) (ei [0] (ai (ai rfl (ai rfl (ai rfl (ai rfl (ai (by first | exact (fun _ => Or.inl rfl) | exact nof | exact (fun _ => Or.inr (by (repeat' (first | exact rfl | exact trivial | exact (fun _ => rfl) | exact (fun _ _ => rfl) | exact nof | refine ai ?_ ?_))))) (ai (by first | exact nof | exact (fun _ => ai rfl rfl)) (by first | exact Or.inl rfl | exact Or.inr rfl))))))) (ai (by (repeat' (first | with_reducible rfl | exact trivial | refine ai ?_ ?_ | (show (_ : Int) = _; first | with_reducible rfl | exact wr1 (by omega) | (simp only [zz, reduceCtorEq] <;> first | done | rfl | omega) | omega | rfl) | exact rfl | exact (fun _ => rfl) | exact (fun _ _ => rfl) | exact nof))) (ai (by (repeat' (first | with_reducible rfl | exact trivial | refine ai ?_ ?_ | (show (_ : Int) = _; first | with_reducible rfl | exact wr1 (by omega) | (simp only [zz, reduceCtorEq] <;> first | done | rfl | omega) | omega | rfl) | exact rfl | exact (fun _ => rfl) | exact (fun _ _ => rfl) | exact nof))) (ai (hpre) ?_)))))))
  refine ai (ai (fun _ => (by (repeat' (first | exact rfl | exact trivial | exact (fun _ => rfl) | exact (fun _ _ => rfl) | exact nof | refine ai ?_ ?_)))) ?_) trivial
  any_goals (repeat' (first | with_reducible rfl | exact trivial | refine ai ?_ ?_ | (show (_ : Int) = _; first | with_reducible rfl | exact wr1 (by omega) | (simp only [zz, reduceCtorEq] <;> first | done | rfl | omega) | omega | rfl) | exact rfl | exact (fun _ => rfl) | exact (fun _ _ => rfl) | exact nof))
def tableS : Spec := fnS (fun x : Nat × List Cu => [iA x.1, csA x.2]) (fun x => x.1 ≤ 6 ∧ x.2.length ≤ 1000000) (fun x => tP ⟨x.1, tabU x.2 (2 ^ x.1)⟩)
theorem htable_ok : FnOk Try.prog 101 tableS := by
  refine fnOk (Tb := tab) mixed tab_ok Try.func101 rfl rfl ?_
  rintro ⟨n, l⟩ hpre
  refine ai (ai rfl (ai rfl rfl)) ?_
  obtain ⟨hn, hl⟩ : n ≤ 6 ∧ l.length ≤ 1000000 := hpre
  have h64 := pow_le64 hn
  repeat (refine ai (by first | exact Int.natCast_nonneg _ | omega | exact ai (Int.natCast_nonneg _) (by omega)) ?_)
  refine ei (LAnn.inv { X := Nat, up := fun k => [(11, .s (iA k))], uo := fun k => [⟨1, 38, [.s (iA n), .s (uA (tabU l k))]⟩], inv := fun k => k ≤ 2 ^ n ∧ (True), meas := fun k => 2 ^ n - k, x0 := 0 }) ?_
  refine ai (ai (ai (by (repeat' (first | exact rfl | exact trivial | exact (fun _ => rfl) | exact (fun _ _ => rfl) | exact nof | refine ai ?_ ?_))) (ai (by (repeat' (first | with_reducible rfl | exact trivial | refine ai ?_ ?_ | (show (_ : Int) = _; first | with_reducible rfl | exact wr1 (by omega) | (simp only [zz, reduceCtorEq] <;> first | done | rfl | omega) | omega | rfl) | exact rfl | exact (fun _ => rfl) | exact (fun _ _ => rfl) | exact nof))) (by (repeat' (first | with_reducible rfl | exact trivial | refine ai ?_ ?_ | (show (_ : Int) = _; first | with_reducible rfl | exact wr1 (by omega) | (simp only [zz, reduceCtorEq] <;> first | done | rfl | omega) | omega | rfl) | exact rfl | exact (fun _ => rfl) | exact (fun _ _ => rfl) | exact nof))))) rfl) (ai (ai (Nat.zero_le _) ?_) ?_)
  · trivial
  intro (k : Nat) ⟨hk, _⟩
  refine bcase_p (p := k < 2 ^ n) (by show decide ((k : Int) < IntKind.i64.wrap (1 * 2 ^ min (n : Int).toNat IntKind.i64.bits)) = true ↔ _; rw [pow6 hn, decide_eq_true_iff]; omega) (fun h1 => ?_) (fun h1 => ?_)
  · skip
    refine ei _ (ai (qC1_ok (htable1_ok k)) (ei (l) (ei [2] (ai (ai rfl (ai rfl (ai rfl (ai rfl (ai (by first | exact (fun _ => Or.inl rfl) | exact nof | exact (fun _ => Or.inr (by (repeat' (first | exact rfl | exact trivial | exact (fun _ => rfl) | exact (fun _ _ => rfl) | exact nof | refine ai ?_ ?_))))) (ai (by first | exact nof | exact (fun _ => ai rfl rfl)) (by first | exact Or.inl rfl | exact Or.inr rfl))))))) (ai (by (repeat' (first | with_reducible rfl | exact trivial | refine ai ?_ ?_ | (show (_ : Int) = _; first | with_reducible rfl | exact wr1 (by omega) | (simp only [zz, reduceCtorEq] <;> first | done | rfl | omega) | omega | rfl) | exact rfl | exact (fun _ => rfl) | exact (fun _ _ => rfl) | exact nof))) (ai (by (repeat' (first | with_reducible rfl | exact trivial | refine ai ?_ ?_ | (show (_ : Int) = _; first | with_reducible rfl | exact wr1 (by omega) | (simp only [zz, reduceCtorEq] <;> first | done | rfl | omega) | omega | rfl) | exact rfl | exact (fun _ => rfl) | exact (fun _ _ => rfl) | exact nof))) (ai (hl) ?_)))))))
    refine bcase_b (b := l.any (fun c => hasC c (k : Int))) (by first | exact rfl | (simp only [zz, reduceCtorEq] <;> first | done | exact rfl)) (fun h2 => ?_) (fun h2 => ?_)
    · skip
      refine ei [0, 1, 2, 3, 4, 5, 6] (ai (by kernel_rfl) ?_)
      repeat (refine ai (by first | exact Int.natCast_nonneg _ | omega | exact ai (Int.natCast_nonneg _) (by omega)) ?_)
      refine ei (k + 1) (ai (ai rfl rfl) (ai (ai ?_ rfl) (ai (ai (by show k + 1 ≤ 2 ^ n; omega) ?_) (by show 2 ^ n - (k + 1) < 2 ^ n - k; omega))))
      any_goals (repeat' (first | with_reducible rfl | exact trivial | refine ai ?_ ?_ | (show (_ : Int) = _; first | with_reducible rfl | exact wr1 (by omega) | (simp only [zz, reduceCtorEq] <;> first | done | rfl | omega) | omega | rfl) | exact rfl | exact (fun _ => rfl) | exact (fun _ _ => rfl) | exact nof))
      (rw [show tabU l (k + 1) = tabU l k ||| 1#64 <<< k by rw [tabU, if_pos h2]]; show (_ : Int) = _; first | rfl | simp only [zz, reduceCtorEq])
    · skip
      refine ei (k + 1) (ai (ai rfl rfl) (ai (ai ?_ rfl) (ai (ai (by show k + 1 ≤ 2 ^ n; omega) ?_) (by show 2 ^ n - (k + 1) < 2 ^ n - k; omega))))
      any_goals (repeat' (first | with_reducible rfl | exact trivial | refine ai ?_ ?_ | (show (_ : Int) = _; first | with_reducible rfl | exact wr1 (by omega) | (simp only [zz, reduceCtorEq] <;> first | done | rfl | omega) | omega | rfl) | exact rfl | exact (fun _ => rfl) | exact (fun _ _ => rfl) | exact nof))
      (rw [show tabU l (k + 1) = tabU l k by rw [tabU, h2]; rfl]; show (_ : Int) = _; first | rfl | simp only [zz, reduceCtorEq])
  · obtain rfl : k = 2 ^ n := by omega
    refine ai (ai (fun _ => (by (repeat' (first | exact rfl | exact trivial | exact (fun _ => rfl) | exact (fun _ _ => rfl) | exact nof | refine ai ?_ ?_)))) ?_) trivial
    any_goals (repeat' (first | with_reducible rfl | exact trivial | refine ai ?_ ?_ | (show (_ : Int) = _; first | with_reducible rfl | exact wr1 (by omega) | (simp only [zz, reduceCtorEq] <;> first | done | rfl | omega) | omega | rfl) | exact rfl | exact (fun _ => rfl) | exact (fun _ _ => rfl) | exact nof))
end Go.Sx.Pn
