/- Contracts of chapter 8: Table, Between, Logic. -/
import Derived.Test.YtdkhdkldjpaadaaP51
set_option maxHeartbeats 1000000
set_option maxRecDepth 4000
set_option linter.unusedSimpArgs false
set_option linter.unusedVariables false
namespace Go.Sx.Pn
open Go Go.Proofs

def tabC (n : Int) (l : List Cu) : Tb := if chkN n l = 0 then ⟨n, tabU l (2 ^ n.toNat)⟩ else ⟨0, 0#64⟩
def TabS : Spec := fnS (fun x : Int × List Cu => [iA x.1, csA x.2]) (fun x => x.2.length ≤ 1000000) (fun x => .tup [tP (tabC x.1 x.2), iP (chkN x.1 x.2)])
theorem hTab_ok : FnOk Try.prog 60 TabS := by
  refine fnOk (Tb := tab) mixed tab_ok Try.func60 rfl rfl ?_
  rintro ⟨n, l⟩ hpre
  refine ai (ai rfl (ai rfl rfl)) ?_
  refine ei _ (ai chkN_ok (ei ((n, l)) (ei [] (ai (ai rfl (ai rfl (ai rfl (ai rfl (ai (fun _ => Or.inl rfl) (by first | exact nof | exact (fun _ => ai rfl rfl))))))) (ai (by (repeat' (first | with_reducible rfl | exact trivial | refine ai ?_ ?_ | (show (_ : Int) = _; first | with_reducible rfl | exact wr1 (by omega) | (simp only [zz, reduceCtorEq] <;> first | done | rfl | omega) | omega | rfl) | exact rfl | exact (fun _ => rfl) | exact (fun _ _ => rfl) | exact nof))) (ai trivial (ai (hpre) ?_)))))))
  refine bcase_n (p := chkN n l = 0) (by first | (with_reducible refine bif_lt ?_; omega) | (with_reducible refine bif_le ?_; omega) | (with_reducible refine bif_eq ?_; omega) | (with_reducible refine bif_ne ?_; omega) | exact b8_eq rfl | exact b8_ne rfl | exact bif_lt (by omega) | exact bif_le (by omega) | exact bif_eq (by omega) | exact bif_ne (by omega) | exact Iff.rfl | (simp only [zz, reduceCtorEq] <;> first | done | omega | exact Iff.rfl) | (simp; done) | (simp; omega)) (fun h1 => ?_) (fun h1 => ?_)
  · skip
    refine ai (ai (fun _ => (by (repeat' (first | exact rfl | exact trivial | exact (fun _ => rfl) | exact (fun _ _ => rfl) | exact nof | refine ai ?_ ?_)))) ?_) trivial
    show ple _ (.tup [tP (tabC n l), iP (chkN n l)])
    rw [show tabC n l = ⟨0, 0#64⟩ by simp [tabC, h1]]
    any_goals (repeat' (first | with_reducible rfl | exact trivial | refine ai ?_ ?_ | (show (_ : Int) = _; first | with_reducible rfl | exact wr1 (by omega) | (simp only [zz, reduceCtorEq] <;> first | done | rfl | omega) | omega | rfl) | exact rfl | exact (fun _ => rfl) | exact (fun _ _ => rfl) | exact nof))
  obtain ⟨n, hn, rfl, _, _⟩ := chkN_zero h1
  refine ei _ (ai htable_ok (ei ((n, l)) (ei [] (ai (ai rfl (ai rfl (ai rfl (ai rfl (ai (fun _ => Or.inl rfl) (by first | exact nof | exact (fun _ => ai rfl rfl))))))) (ai (by (repeat' (first | with_reducible rfl | exact trivial | refine ai ?_ ?_ | (show (_ : Int) = _; first | with_reducible rfl | exact wr1 (by omega) | (simp only [zz, reduceCtorEq] <;> first | done | rfl | omega) | omega | rfl) | exact rfl | exact (fun _ => rfl) | exact (fun _ _ => rfl) | exact nof))) (ai trivial (ai (⟨hn, hpre⟩) ?_)))))))
  refine ai (ai (fun _ => (by (repeat' (first | exact rfl | exact trivial | exact (fun _ => rfl) | exact (fun _ _ => rfl) | exact nof | refine ai ?_ ?_)))) ?_) trivial
  show ple _ (.tup [tP (tabC n l), iP (chkN n l)])
  rw [show tabC n l = ⟨n, tabU l (2 ^ n)⟩ by simp [tabC, h1], h1]
  any_goals (repeat' (first | with_reducible rfl | exact trivial | refine ai ?_ ?_ | (show (_ : Int) = _; first | with_reducible rfl | exact wr1 (by omega) | (simp only [zz, reduceCtorEq] <;> first | done | rfl | omega) | omega | rfl) | exact rfl | exact (fun _ => rfl) | exact (fun _ _ => rfl) | exact nof))
theorem rTab_ok : FnOk Try.prog 61 TabS := by
  refine fnOk (Tb := tab) mixed tab_ok Try.func61 rfl rfl ?_
  rintro ⟨n, l⟩ hpre
  refine ai (ai rfl (ai rfl rfl)) ?_
  refine ei _ (ai rchkN_ok (ei ((n, l)) (ei [] (ai (ai rfl (ai rfl (ai rfl (ai rfl (ai (fun _ => Or.inl rfl) (by first | exact nof | exact (fun _ => ai rfl rfl))))))) (ai (by (repeat' (first | with_reducible rfl | exact trivial | refine ai ?_ ?_ | (show (_ : Int) = _; first | with_reducible rfl | exact wr1 (by omega) | (simp only [zz, reduceCtorEq] <;> first | done | rfl | omega) | omega | rfl) | exact rfl | exact (fun _ => rfl) | exact (fun _ _ => rfl) | exact nof))) (ai trivial (ai (hpre) ?_)))))))
  refine bcase_n (p := chkN n l = 0) (by first | (with_reducible refine bif_lt ?_; omega) | (with_reducible refine bif_le ?_; omega) | (with_reducible refine bif_eq ?_; omega) | (with_reducible refine bif_ne ?_; omega) | exact b8_eq rfl | exact b8_ne rfl | exact bif_lt (by omega) | exact bif_le (by omega) | exact bif_eq (by omega) | exact bif_ne (by omega) | exact Iff.rfl | (simp only [zz, reduceCtorEq] <;> first | done | omega | exact Iff.rfl) | (simp; done) | (simp; omega)) (fun h1 => ?_) (fun h1 => ?_)
  · skip
    refine ai (ai (fun _ => (by (repeat' (first | exact rfl | exact trivial | exact (fun _ => rfl) | exact (fun _ _ => rfl) | exact nof | refine ai ?_ ?_)))) ?_) trivial
    show ple _ (.tup [tP (tabC n l), iP (chkN n l)])
    rw [show tabC n l = ⟨0, 0#64⟩ by simp [tabC, h1]]
    any_goals (repeat' (first | with_reducible rfl | exact trivial | refine ai ?_ ?_ | (show (_ : Int) = _; first | with_reducible rfl | exact wr1 (by omega) | (simp only [zz, reduceCtorEq] <;> first | done | rfl | omega) | omega | rfl) | exact rfl | exact (fun _ => rfl) | exact (fun _ _ => rfl) | exact nof))
  obtain ⟨n, hn, rfl, _, _⟩ := chkN_zero h1
  refine ei _ (ai rtable_ok (ei ((n, l)) (ei [] (ai (ai rfl (ai rfl (ai rfl (ai rfl (ai (fun _ => Or.inl rfl) (by first | exact nof | exact (fun _ => ai rfl rfl))))))) (ai (by (repeat' (first | with_reducible rfl | exact trivial | refine ai ?_ ?_ | (show (_ : Int) = _; first | with_reducible rfl | exact wr1 (by omega) | (simp only [zz, reduceCtorEq] <;> first | done | rfl | omega) | omega | rfl) | exact rfl | exact (fun _ => rfl) | exact (fun _ _ => rfl) | exact nof))) (ai trivial (ai (⟨hn, hpre⟩) ?_)))))))
  refine ai (ai (fun _ => (by (repeat' (first | exact rfl | exact trivial | exact (fun _ => rfl) | exact (fun _ _ => rfl) | exact nof | refine ai ?_ ?_)))) ?_) trivial
  show ple _ (.tup [tP (tabC n l), iP (chkN n l)])
  rw [show tabC n l = ⟨n, tabU l (2 ^ n)⟩ by simp [tabC, h1], h1]
  any_goals (repeat' (first | with_reducible rfl | exact trivial | refine ai ?_ ?_ | (show (_ : Int) = _; first | with_reducible rfl | exact wr1 (by omega) | (simp only [zz, reduceCtorEq] <;> first | done | rfl | omega) | omega | rfl) | exact rfl | exact (fun _ => rfl) | exact (fun _ _ => rfl) | exact nof))

def outC (n f t : Int) : Prop := f < 0 ∨ ((2 ^ n.toNat : Nat) : Int) ≤ f ∨ t < 0 ∨ ((2 ^ n.toNat : Nat) : Int) ≤ t
instance (n f t : Int) : Decidable (outC n f t) := by unfold outC; infer_instance
def givC (n : Int) (l : List Cu) (f t : Int) : Int := if chkN n l = 0 then (if outC n f t then 2 else 0) else chkN n l
theorem giv_zero {n : Int} {l : List Cu} {f t : Int} (h : givC n l f t = 0) : chkN n l = 0 ∧ ∃ k a b : Nat, k ≤ 6 ∧ n = k ∧ f = a ∧ t = b ∧ a < 2 ^ k ∧ b < 2 ^ k ∧ l.length ≤ 256 ∧ ∀ c ∈ l, c.Ok k := by
  unfold givC at h
  split at h
  · rename_i h1
    split at h
    · cases h
    · rename_i h2
      obtain ⟨k, hk, rfl, hl, hall⟩ := chkN_zero h1
      unfold outC at h2
      simp only [Int.toNat_natCast] at h2
      exact ⟨h1, k, f.toNat, t.toNat, hk, rfl, by omega, by omega, by omega, by omega, hl, hall⟩
  · rename_i h1; exact absurd h h1
def givS : Spec := fnS (fun x : Int × List Cu × Int × Int => [iA x.1, csA x.2.1, xA x.2.2.1 x.2.2.2]) (fun x => x.2.1.length ≤ 1000000) (fun x => iP (givC x.1 x.2.1 x.2.2.1 x.2.2.2))
theorem hgiv_ok : FnOk Try.prog 112 givS := by
  refine fnOk (Tb := tab) mixed tab_ok Try.func112 rfl rfl ?_
  rintro ⟨n, l, f, t⟩ hpre
  refine ai (ai rfl (ai rfl rfl)) ?_
  refine ei _ (ai chkN_ok (ei ((n, l)) (ei [] (ai (ai rfl (ai rfl (ai rfl (ai rfl (ai (fun _ => Or.inl rfl) (by first | exact nof | exact (fun _ => ai rfl rfl))))))) (ai (by (repeat' (first | with_reducible rfl | exact trivial | refine ai ?_ ?_ | (show (_ : Int) = _; first | with_reducible rfl | exact wr1 (by omega) | (simp only [zz, reduceCtorEq] <;> first | done | rfl | omega) | omega | rfl) | exact rfl | exact (fun _ => rfl) | exact (fun _ _ => rfl) | exact nof))) (ai trivial (ai (hpre) ?_)))))))
  refine bcase_n (p := chkN n l = 0) (by first | (with_reducible refine bif_lt ?_; omega) | (with_reducible refine bif_le ?_; omega) | (with_reducible refine bif_eq ?_; omega) | (with_reducible refine bif_ne ?_; omega) | exact b8_eq rfl | exact b8_ne rfl | exact bif_lt (by omega) | exact bif_le (by omega) | exact bif_eq (by omega) | exact bif_ne (by omega) | exact Iff.rfl | (simp only [zz, reduceCtorEq] <;> first | done | omega | exact Iff.rfl) | (simp; done) | (simp; omega)) (fun h1 => ?_) (fun h1 => ?_)
  · skip
    refine ai (ai (fun _ => (by (repeat' (first | exact rfl | exact trivial | exact (fun _ => rfl) | exact (fun _ _ => rfl) | exact nof | refine ai ?_ ?_)))) ?_) trivial
    show ple _ (iP (givC n l f t))
    rw [show givC n l f t = chkN n l by simp [givC, h1]]
    any_goals (repeat' (first | with_reducible rfl | exact trivial | refine ai ?_ ?_ | (show (_ : Int) = _; first | with_reducible rfl | exact wr1 (by omega) | (simp only [zz, reduceCtorEq] <;> first | done | rfl | omega) | omega | rfl) | exact rfl | exact (fun _ => rfl) | exact (fun _ _ => rfl) | exact nof))
  obtain ⟨n, hn, rfl, _, _⟩ := chkN_zero h1
  have hgiv : givC n l f t = if outC n f t then 2 else 0 := by simp [givC, h1]
  refine ei [0, 1, 2, 3, 4, 5, 6, 7, 8, 9, 10, 11, 12, 13, 14, 15, 16, 17, 18, 19, 20, 21] (ai (by kernel_rfl) ?_)
  refine bcase_p (p := f < 0) (by first | (with_reducible refine bif_lt ?_; omega) | (with_reducible refine bif_le ?_; omega) | (with_reducible refine bif_eq ?_; omega) | (with_reducible refine bif_ne ?_; omega) | exact b8_eq rfl | exact b8_ne rfl | exact bif_lt (by omega) | exact bif_le (by omega) | exact bif_eq (by omega) | exact bif_ne (by omega) | exact Iff.rfl | (simp only [zz, reduceCtorEq] <;> first | done | omega | exact Iff.rfl) | (simp; done) | (simp; omega)) (fun h2 => ?_) (fun h2 => ?_)
  · skip
    refine ai (ai (fun _ => (by (repeat' (first | exact rfl | exact trivial | exact (fun _ => rfl) | exact (fun _ _ => rfl) | exact nof | refine ai ?_ ?_)))) ?_) trivial
    show ple _ (iP (givC n l f t))
    rw [hgiv, if_pos (show outC n f t from .inl h2)]
    any_goals (repeat' (first | with_reducible rfl | exact trivial | refine ai ?_ ?_ | (show (_ : Int) = _; first | with_reducible rfl | exact wr1 (by omega) | (simp only [zz, reduceCtorEq] <;> first | done | rfl | omega) | omega | rfl) | exact rfl | exact (fun _ => rfl) | exact (fun _ _ => rfl) | exact nof))
  repeat (refine ai (by first | exact Int.natCast_nonneg _ | omega | exact ai (Int.natCast_nonneg _) (by omega)) ?_)
  refine bcase_p (p := ((2 ^ n : Nat) : Int) ≤ f) (by show decide (IntKind.i64.wrap (1 * 2 ^ min (n : Int).toNat IntKind.i64.bits) ≤ f) = true ↔ _; rw [pow6 hn, decide_eq_true_iff]) (fun h3 => ?_) (fun h3 => ?_)
  · skip
    refine ai (ai (fun _ => (by (repeat' (first | exact rfl | exact trivial | exact (fun _ => rfl) | exact (fun _ _ => rfl) | exact nof | refine ai ?_ ?_)))) ?_) trivial
    show ple _ (iP (givC n l f t))
    rw [hgiv, if_pos (show outC n f t from .inr (.inl h3))]
    any_goals (repeat' (first | with_reducible rfl | exact trivial | refine ai ?_ ?_ | (show (_ : Int) = _; first | with_reducible rfl | exact wr1 (by omega) | (simp only [zz, reduceCtorEq] <;> first | done | rfl | omega) | omega | rfl) | exact rfl | exact (fun _ => rfl) | exact (fun _ _ => rfl) | exact nof))
  refine bcase_p (p := t < 0) (by first | (with_reducible refine bif_lt ?_; omega) | (with_reducible refine bif_le ?_; omega) | (with_reducible refine bif_eq ?_; omega) | (with_reducible refine bif_ne ?_; omega) | exact b8_eq rfl | exact b8_ne rfl | exact bif_lt (by omega) | exact bif_le (by omega) | exact bif_eq (by omega) | exact bif_ne (by omega) | exact Iff.rfl | (simp only [zz, reduceCtorEq] <;> first | done | omega | exact Iff.rfl) | (simp; done) | (simp; omega)) (fun h4 => ?_) (fun h4 => ?_)
  · skip
    refine ai (ai (fun _ => (by (repeat' (first | exact rfl | exact trivial | exact (fun _ => rfl) | exact (fun _ _ => rfl) | exact nof | refine ai ?_ ?_)))) ?_) trivial
    show ple _ (iP (givC n l f t))
    rw [hgiv, if_pos (show outC n f t from .inr (.inr (.inl h4)))]
    any_goals (repeat' (first | with_reducible rfl | exact trivial | refine ai ?_ ?_ | (show (_ : Int) = _; first | with_reducible rfl | exact wr1 (by omega) | (simp only [zz, reduceCtorEq] <;> first | done | rfl | omega) | omega | rfl) | exact rfl | exact (fun _ => rfl) | exact (fun _ _ => rfl) | exact nof))
  repeat (refine ai (by first | exact Int.natCast_nonneg _ | omega | exact ai (Int.natCast_nonneg _) (by omega)) ?_)
  refine bcase_p (p := ((2 ^ n : Nat) : Int) ≤ t) (by show decide (IntKind.i64.wrap (1 * 2 ^ min (n : Int).toNat IntKind.i64.bits) ≤ t) = true ↔ _; rw [pow6 hn, decide_eq_true_iff]) (fun h5 => ?_) (fun h5 => ?_)
  · skip
    refine ai (ai (fun _ => (by (repeat' (first | exact rfl | exact trivial | exact (fun _ => rfl) | exact (fun _ _ => rfl) | exact nof | refine ai ?_ ?_)))) ?_) trivial
    show ple _ (iP (givC n l f t))
    rw [hgiv, if_pos (show outC n f t from .inr (.inr (.inr h5)))]
    any_goals (repeat' (first | with_reducible rfl | exact trivial | refine ai ?_ ?_ | (show (_ : Int) = _; first | with_reducible rfl | exact wr1 (by omega) | (simp only [zz, reduceCtorEq] <;> first | done | rfl | omega) | omega | rfl) | exact rfl | exact (fun _ => rfl) | exact (fun _ _ => rfl) | exact nof))
  refine ai (ai (fun _ => (by (repeat' (first | exact rfl | exact trivial | exact (fun _ => rfl) | exact (fun _ _ => rfl) | exact nof | refine ai ?_ ?_)))) ?_) trivial
  show ple _ (iP (givC n l f t))
  rw [hgiv, if_neg (show ¬ outC n f t from fun h => h.elim h2 fun h => h.elim h3 fun h => h.elim h4 h5)]
  any_goals (repeat' (first | with_reducible rfl | exact trivial | refine ai ?_ ?_ | (show (_ : Int) = _; first | with_reducible rfl | exact wr1 (by omega) | (simp only [zz, reduceCtorEq] <;> first | done | rfl | omega) | omega | rfl) | exact rfl | exact (fun _ => rfl) | exact (fun _ _ => rfl) | exact nof))
def rgivS : Spec := fnS (fun x : Int × List Cu × Int × Int => [iA x.1, csA x.2.1, iA x.2.2.1, iA x.2.2.2]) (fun x => x.2.1.length ≤ 1000000) (fun x => iP (givC x.1 x.2.1 x.2.2.1 x.2.2.2))
theorem rgiv_ok : FnOk Try.prog 114 rgivS := by
  refine fnOk (Tb := tab) mixed tab_ok Try.func114 rfl rfl ?_
  rintro ⟨n, l, f, t⟩ hpre
  refine ai (ai rfl (ai rfl rfl)) ?_
  refine ei _ (ai rchkN_ok (ei ((n, l)) (ei [] (ai (ai rfl (ai rfl (ai rfl (ai rfl (ai (fun _ => Or.inl rfl) (by first | exact nof | exact (fun _ => ai rfl rfl))))))) (ai (by (repeat' (first | with_reducible rfl | exact trivial | refine ai ?_ ?_ | (show (_ : Int) = _; first | with_reducible rfl | exact wr1 (by omega) | (simp only [zz, reduceCtorEq] <;> first | done | rfl | omega) | omega | rfl) | exact rfl | exact (fun _ => rfl) | exact (fun _ _ => rfl) | exact nof))) (ai trivial (ai (hpre) ?_)))))))
  refine bcase_n (p := chkN n l = 0) (by first | (with_reducible refine bif_lt ?_; omega) | (with_reducible refine bif_le ?_; omega) | (with_reducible refine bif_eq ?_; omega) | (with_reducible refine bif_ne ?_; omega) | exact b8_eq rfl | exact b8_ne rfl | exact bif_lt (by omega) | exact bif_le (by omega) | exact bif_eq (by omega) | exact bif_ne (by omega) | exact Iff.rfl | (simp only [zz, reduceCtorEq] <;> first | done | omega | exact Iff.rfl) | (simp; done) | (simp; omega)) (fun h1 => ?_) (fun h1 => ?_)
  · skip
    refine ai (ai (fun _ => (by (repeat' (first | exact rfl | exact trivial | exact (fun _ => rfl) | exact (fun _ _ => rfl) | exact nof | refine ai ?_ ?_)))) ?_) trivial
    show ple _ (iP (givC n l f t))
    rw [show givC n l f t = chkN n l by simp [givC, h1]]
    any_goals (repeat' (first | with_reducible rfl | exact trivial | refine ai ?_ ?_ | (show (_ : Int) = _; first | with_reducible rfl | exact wr1 (by omega) | (simp only [zz, reduceCtorEq] <;> first | done | rfl | omega) | omega | rfl) | exact rfl | exact (fun _ => rfl) | exact (fun _ _ => rfl) | exact nof))
  obtain ⟨n, hn, rfl, _, _⟩ := chkN_zero h1
  have hgiv : givC n l f t = if outC n f t then 2 else 0 := by simp [givC, h1]
  refine bcase_p (p := f < 0) (by first | (with_reducible refine bif_lt ?_; omega) | (with_reducible refine bif_le ?_; omega) | (with_reducible refine bif_eq ?_; omega) | (with_reducible refine bif_ne ?_; omega) | exact b8_eq rfl | exact b8_ne rfl | exact bif_lt (by omega) | exact bif_le (by omega) | exact bif_eq (by omega) | exact bif_ne (by omega) | exact Iff.rfl | (simp only [zz, reduceCtorEq] <;> first | done | omega | exact Iff.rfl) | (simp; done) | (simp; omega)) (fun h2 => ?_) (fun h2 => ?_)
  · skip
    refine ai (ai (fun _ => (by (repeat' (first | exact rfl | exact trivial | exact (fun _ => rfl) | exact (fun _ _ => rfl) | exact nof | refine ai ?_ ?_)))) ?_) trivial
    show ple _ (iP (givC n l f t))
    rw [hgiv, if_pos (show outC n f t from .inl h2)]
    any_goals (repeat' (first | with_reducible rfl | exact trivial | refine ai ?_ ?_ | (show (_ : Int) = _; first | with_reducible rfl | exact wr1 (by omega) | (simp only [zz, reduceCtorEq] <;> first | done | rfl | omega) | omega | rfl) | exact rfl | exact (fun _ => rfl) | exact (fun _ _ => rfl) | exact nof))
  refine ei _ (ai size_ok (ei (n) (ei [] (ai (ai rfl (ai rfl (ai rfl (ai rfl (ai (fun _ => Or.inl rfl) (by first | exact nof | exact (fun _ => ai rfl rfl))))))) (ai (by (repeat' (first | with_reducible rfl | exact trivial | refine ai ?_ ?_ | (show (_ : Int) = _; first | with_reducible rfl | exact wr1 (by omega) | (simp only [zz, reduceCtorEq] <;> first | done | rfl | omega) | omega | rfl) | exact rfl | exact (fun _ => rfl) | exact (fun _ _ => rfl) | exact nof))) (ai trivial (ai (hn) ?_)))))))
  refine bcase_p (p := ((2 ^ n : Nat) : Int) ≤ f) (by show decide (((2 ^ n : Nat) : Int) ≤ f) = true ↔ _; rw [decide_eq_true_iff]) (fun h3 => ?_) (fun h3 => ?_)
  · skip
    refine ai (ai (fun _ => (by (repeat' (first | exact rfl | exact trivial | exact (fun _ => rfl) | exact (fun _ _ => rfl) | exact nof | refine ai ?_ ?_)))) ?_) trivial
    show ple _ (iP (givC n l f t))
    rw [hgiv, if_pos (show outC n f t from .inr (.inl h3))]
    any_goals (repeat' (first | with_reducible rfl | exact trivial | refine ai ?_ ?_ | (show (_ : Int) = _; first | with_reducible rfl | exact wr1 (by omega) | (simp only [zz, reduceCtorEq] <;> first | done | rfl | omega) | omega | rfl) | exact rfl | exact (fun _ => rfl) | exact (fun _ _ => rfl) | exact nof))
  refine bcase_p (p := t < 0) (by first | (with_reducible refine bif_lt ?_; omega) | (with_reducible refine bif_le ?_; omega) | (with_reducible refine bif_eq ?_; omega) | (with_reducible refine bif_ne ?_; omega) | exact b8_eq rfl | exact b8_ne rfl | exact bif_lt (by omega) | exact bif_le (by omega) | exact bif_eq (by omega) | exact bif_ne (by omega) | exact Iff.rfl | (simp only [zz, reduceCtorEq] <;> first | done | omega | exact Iff.rfl) | (simp; done) | (simp; omega)) (fun h4 => ?_) (fun h4 => ?_)
  · skip
    refine ai (ai (fun _ => (by (repeat' (first | exact rfl | exact trivial | exact (fun _ => rfl) | exact (fun _ _ => rfl) | exact nof | refine ai ?_ ?_)))) ?_) trivial
    show ple _ (iP (givC n l f t))
    rw [hgiv, if_pos (show outC n f t from .inr (.inr (.inl h4)))]
    any_goals (repeat' (first | with_reducible rfl | exact trivial | refine ai ?_ ?_ | (show (_ : Int) = _; first | with_reducible rfl | exact wr1 (by omega) | (simp only [zz, reduceCtorEq] <;> first | done | rfl | omega) | omega | rfl) | exact rfl | exact (fun _ => rfl) | exact (fun _ _ => rfl) | exact nof))
  refine ei _ (ai size_ok (ei (n) (ei [] (ai (ai rfl (ai rfl (ai rfl (ai rfl (ai (fun _ => Or.inl rfl) (by first | exact nof | exact (fun _ => ai rfl rfl))))))) (ai (by (repeat' (first | with_reducible rfl | exact trivial | refine ai ?_ ?_ | (show (_ : Int) = _; first | with_reducible rfl | exact wr1 (by omega) | (simp only [zz, reduceCtorEq] <;> first | done | rfl | omega) | omega | rfl) | exact rfl | exact (fun _ => rfl) | exact (fun _ _ => rfl) | exact nof))) (ai trivial (ai (hn) ?_)))))))
  refine bcase_p (p := ((2 ^ n : Nat) : Int) ≤ t) (by show decide (((2 ^ n : Nat) : Int) ≤ t) = true ↔ _; rw [decide_eq_true_iff]) (fun h5 => ?_) (fun h5 => ?_)
  · skip
    refine ai (ai (fun _ => (by (repeat' (first | exact rfl | exact trivial | exact (fun _ => rfl) | exact (fun _ _ => rfl) | exact nof | refine ai ?_ ?_)))) ?_) trivial
    show ple _ (iP (givC n l f t))
    rw [hgiv, if_pos (show outC n f t from .inr (.inr (.inr h5)))]
    any_goals (repeat' (first | with_reducible rfl | exact trivial | refine ai ?_ ?_ | (show (_ : Int) = _; first | with_reducible rfl | exact wr1 (by omega) | (simp only [zz, reduceCtorEq] <;> first | done | rfl | omega) | omega | rfl) | exact rfl | exact (fun _ => rfl) | exact (fun _ _ => rfl) | exact nof))
  refine ai (ai (fun _ => (by (repeat' (first | exact rfl | exact trivial | exact (fun _ => rfl) | exact (fun _ _ => rfl) | exact nof | refine ai ?_ ?_)))) ?_) trivial
  show ple _ (iP (givC n l f t))
  rw [hgiv, if_neg (show ¬ outC n f t from fun h => h.elim h2 fun h => h.elim h3 fun h => h.elim h4 h5)]
  any_goals (repeat' (first | with_reducible rfl | exact trivial | refine ai ?_ ?_ | (show (_ : Int) = _; first | with_reducible rfl | exact wr1 (by omega) | (simp only [zz, reduceCtorEq] <;> first | done | rfl | omega) | omega | rfl) | exact rfl | exact (fun _ => rfl) | exact (fun _ _ => rfl) | exact nof))

def betC (n : Int) (l : List Cu) (f t : Int) : Int := if givC n l f t = 0 then betL n.toNat l f.toNat t.toNat else 0
def BetS : Spec := fnS (fun x : Int × List Cu × Int × Int => [iA x.1, csA x.2.1, xA x.2.2.1 x.2.2.2]) (fun x => x.2.1.length ≤ 1000000) (fun x => .tup [iP (betC x.1 x.2.1 x.2.2.1 x.2.2.2), iP (givC x.1 x.2.1 x.2.2.1 x.2.2.2)])
theorem hBet_ok : FnOk Try.prog 62 BetS := by
  refine fnOk (Tb := tab) mixed tab_ok Try.func62 rfl rfl ?_
  rintro ⟨n, l, f, t⟩ hpre
  refine ai (ai rfl (ai rfl rfl)) ?_
  refine ei _ (ai hgiv_ok (ei ((n, l, f, t)) (ei [] (ai (ai rfl (ai rfl (ai rfl (ai rfl (ai (fun _ => Or.inl rfl) (by first | exact nof | exact (fun _ => ai rfl rfl))))))) (ai (by (repeat' (first | with_reducible rfl | exact trivial | refine ai ?_ ?_ | (show (_ : Int) = _; first | with_reducible rfl | exact wr1 (by omega) | (simp only [zz, reduceCtorEq] <;> first | done | rfl | omega) | omega | rfl) | exact rfl | exact (fun _ => rfl) | exact (fun _ _ => rfl) | exact nof))) (ai trivial (ai (hpre) ?_)))))))
  refine bcase_n (p := givC n l f t = 0) (by first | (with_reducible refine bif_lt ?_; omega) | (with_reducible refine bif_le ?_; omega) | (with_reducible refine bif_eq ?_; omega) | (with_reducible refine bif_ne ?_; omega) | exact b8_eq rfl | exact b8_ne rfl | exact bif_lt (by omega) | exact bif_le (by omega) | exact bif_eq (by omega) | exact bif_ne (by omega) | exact Iff.rfl | (simp only [zz, reduceCtorEq] <;> first | done | omega | exact Iff.rfl) | (simp; done) | (simp; omega)) (fun h1 => ?_) (fun h1 => ?_)
  · skip
    refine ai (ai (fun _ => (by (repeat' (first | exact rfl | exact trivial | exact (fun _ => rfl) | exact (fun _ _ => rfl) | exact nof | refine ai ?_ ?_)))) ?_) trivial
    show ple _ (.tup [iP (betC n l f t), iP (givC n l f t)])
    rw [show betC n l f t = 0 by simp [betC, h1]]
    any_goals (repeat' (first | with_reducible rfl | exact trivial | refine ai ?_ ?_ | (show (_ : Int) = _; first | with_reducible rfl | exact wr1 (by omega) | (simp only [zz, reduceCtorEq] <;> first | done | rfl | omega) | omega | rfl) | exact rfl | exact (fun _ => rfl) | exact (fun _ _ => rfl) | exact nof))
  obtain ⟨_, n, a, b, hn, rfl, rfl, rfl, ha, hb, hl, hall⟩ := giv_zero h1
  refine ei _ (ai hbet_ok (ei ((n, l, a, b)) (ei [] (ai (ai rfl (ai rfl (ai rfl (ai rfl (ai (fun _ => Or.inl rfl) (by first | exact nof | exact (fun _ => ai rfl rfl))))))) (ai (by (repeat' (first | with_reducible rfl | exact trivial | refine ai ?_ ?_ | (show (_ : Int) = _; first | with_reducible rfl | exact wr1 (by omega) | (simp only [zz, reduceCtorEq] <;> first | done | rfl | omega) | omega | rfl) | exact rfl | exact (fun _ => rfl) | exact (fun _ _ => rfl) | exact nof))) (ai trivial (ai (⟨hn, hpre, hall, ha, hb⟩) ?_)))))))
  refine ai (ai (fun _ => (by (repeat' (first | exact rfl | exact trivial | exact (fun _ => rfl) | exact (fun _ _ => rfl) | exact nof | refine ai ?_ ?_)))) ?_) trivial
  show ple _ (.tup [iP (betC n l a b), iP (givC n l a b)])
  rw [show betC n l a b = betL n l a b by simp [betC, h1], h1]
  any_goals (repeat' (first | with_reducible rfl | exact trivial | refine ai ?_ ?_ | (show (_ : Int) = _; first | with_reducible rfl | exact wr1 (by omega) | (simp only [zz, reduceCtorEq] <;> first | done | rfl | omega) | omega | rfl) | exact rfl | exact (fun _ => rfl) | exact (fun _ _ => rfl) | exact nof))
def rBetS : Spec := fnS (fun x : Int × List Cu × Int × Int => [iA x.1, csA x.2.1, iA x.2.2.1, iA x.2.2.2]) (fun x => x.2.1.length ≤ 1000000) (fun x => .tup [iP (betC x.1 x.2.1 x.2.2.1 x.2.2.2), iP (givC x.1 x.2.1 x.2.2.1 x.2.2.2)])
theorem rBet_ok : FnOk Try.prog 63 rBetS := by
  refine fnOk (Tb := tab) mixed tab_ok Try.func63 rfl rfl ?_
  rintro ⟨n, l, f, t⟩ hpre
  refine ai (ai rfl (ai rfl rfl)) ?_
  refine ei _ (ai rgiv_ok (ei ((n, l, f, t)) (ei [] (ai (ai rfl (ai rfl (ai rfl (ai rfl (ai (fun _ => Or.inl rfl) (by first | exact nof | exact (fun _ => ai rfl rfl))))))) (ai (by (repeat' (first | with_reducible rfl | exact trivial | refine ai ?_ ?_ | (show (_ : Int) = _; first | with_reducible rfl | exact wr1 (by omega) | (simp only [zz, reduceCtorEq] <;> first | done | rfl | omega) | omega | rfl) | exact rfl | exact (fun _ => rfl) | exact (fun _ _ => rfl) | exact nof))) (ai trivial (ai (hpre) ?_)))))))
  refine bcase_n (p := givC n l f t = 0) (by first | (with_reducible refine bif_lt ?_; omega) | (with_reducible refine bif_le ?_; omega) | (with_reducible refine bif_eq ?_; omega) | (with_reducible refine bif_ne ?_; omega) | exact b8_eq rfl | exact b8_ne rfl | exact bif_lt (by omega) | exact bif_le (by omega) | exact bif_eq (by omega) | exact bif_ne (by omega) | exact Iff.rfl | (simp only [zz, reduceCtorEq] <;> first | done | omega | exact Iff.rfl) | (simp; done) | (simp; omega)) (fun h1 => ?_) (fun h1 => ?_)
  · skip
    refine ai (ai (fun _ => (by (repeat' (first | exact rfl | exact trivial | exact (fun _ => rfl) | exact (fun _ _ => rfl) | exact nof | refine ai ?_ ?_)))) ?_) trivial
    show ple _ (.tup [iP (betC n l f t), iP (givC n l f t)])
    rw [show betC n l f t = 0 by simp [betC, h1]]
    any_goals (repeat' (first | with_reducible rfl | exact trivial | refine ai ?_ ?_ | (show (_ : Int) = _; first | with_reducible rfl | exact wr1 (by omega) | (simp only [zz, reduceCtorEq] <;> first | done | rfl | omega) | omega | rfl) | exact rfl | exact (fun _ => rfl) | exact (fun _ _ => rfl) | exact nof))
  obtain ⟨_, n, a, b, hn, rfl, rfl, rfl, ha, hb, hl, hall⟩ := giv_zero h1
  refine ei _ (ai rbet_ok (ei ((n, l, a, b)) (ei [] (ai (ai rfl (ai rfl (ai rfl (ai rfl (ai (fun _ => Or.inl rfl) (by first | exact nof | exact (fun _ => ai rfl rfl))))))) (ai (by (repeat' (first | with_reducible rfl | exact trivial | refine ai ?_ ?_ | (show (_ : Int) = _; first | with_reducible rfl | exact wr1 (by omega) | (simp only [zz, reduceCtorEq] <;> first | done | rfl | omega) | omega | rfl) | exact rfl | exact (fun _ => rfl) | exact (fun _ _ => rfl) | exact nof))) (ai trivial (ai (⟨hn, hpre, ha, hb⟩) ?_)))))))
  refine ai (ai (fun _ => (by (repeat' (first | exact rfl | exact trivial | exact (fun _ => rfl) | exact (fun _ _ => rfl) | exact nof | refine ai ?_ ?_)))) ?_) trivial
  show ple _ (.tup [iP (betC n l a b), iP (givC n l a b)])
  rw [show betC n l a b = betL n l a b by simp [betC, h1], h1]
  any_goals (repeat' (first | with_reducible rfl | exact trivial | refine ai ?_ ?_ | (show (_ : Int) = _; first | with_reducible rfl | exact wr1 (by omega) | (simp only [zz, reduceCtorEq] <;> first | done | rfl | omega) | omega | rfl) | exact rfl | exact (fun _ => rfl) | exact (fun _ _ => rfl) | exact nof))

theorem logic_cond {n a b k : Nat} (hn : n ≤ 6) (ha : a < 2 ^ n) (hb : b < 2 ^ n) (hk : k < 2 ^ n) : (bits .andNot .i64 (bits .xor .i64 (k : Int) (a : Int)) (bits .xor .i64 (a : Int) (b : Int)) == 0) = true ↔ onAt n a b k = true := by
  have h64 := pow_le64 hn
  rw [i_xor (by omega) (by omega), i_xor (by omega) (by omega), i_andNot (Nat.lt_trans (Nat.xor_lt_two_pow (n := 6) (show k < 64 by omega) (show a < 64 by omega)) (by decide)), u_beq0, beq_iff_eq, on_bits ha hb hk, eq0_iff]
  constructor
  · intro h i
    by_cases hi : i < 64
    · have := h i hi
      rwa [BitVec.getLsbD_and, BitVec.getLsbD_not, BitVec.getLsbD_ofNat, BitVec.getLsbD_ofNat, show decide (i < 64) = true by simpa using hi, Bool.true_and, Bool.true_and, Bool.true_and] at this
    · rw [bit_high (n := 6) (Nat.xor_lt_two_pow (n := 6) (show k < 64 by omega) (show a < 64 by omega)) (by omega)]; rfl
  · intro h i hi
    rw [BitVec.getLsbD_and, BitVec.getLsbD_not, BitVec.getLsbD_ofNat, BitVec.getLsbD_ofNat, show decide (i < 64) = true by simpa using hi, Bool.true_and, Bool.true_and, Bool.true_and]
    exact h i
def logL (n : Nat) (l : List Cu) (a b : Nat) : Bool := steadyB n (tabU l (2 ^ n)) a b && (betL n l a b == 2)
def logC (n : Int) (l : List Cu) (f t : Int) : Bool := if givC n l f t = 0 then logL n.toNat l f.toNat t.toNat else false
def LogS : Spec := fnS (fun x : Int × List Cu × Int × Int => [iA x.1, csA x.2.1, xA x.2.2.1 x.2.2.2]) (fun x => x.2.1.length ≤ 1000000) (fun x => .tup [bP (logC x.1 x.2.1 x.2.2.1 x.2.2.2), iP (givC x.1 x.2.1 x.2.2.1 x.2.2.2)])
theorem hLog_ok : FnOk Try.prog 64 LogS := by
  refine fnOk (Tb := tab) mixed tab_ok Try.func64 rfl rfl ?_
  rintro ⟨n, l, f, t⟩ hpre
  refine ai (ai rfl (ai rfl rfl)) ?_
  have hl0 : l.length ≤ 1000000 := hpre
  refine ei _ (ai hgiv_ok (ei ((n, l, f, t)) (ei [] (ai (ai rfl (ai rfl (ai rfl (ai rfl (ai (fun _ => Or.inl rfl) (by first | exact nof | exact (fun _ => ai rfl rfl))))))) (ai (by (repeat' (first | with_reducible rfl | exact trivial | refine ai ?_ ?_ | (show (_ : Int) = _; first | with_reducible rfl | exact wr1 (by omega) | (simp only [zz, reduceCtorEq] <;> first | done | rfl | omega) | omega | rfl) | exact rfl | exact (fun _ => rfl) | exact (fun _ _ => rfl) | exact nof))) (ai trivial (ai (hpre) ?_)))))))
  refine bcase_n (p := givC n l f t = 0) (by first | (with_reducible refine bif_lt ?_; omega) | (with_reducible refine bif_le ?_; omega) | (with_reducible refine bif_eq ?_; omega) | (with_reducible refine bif_ne ?_; omega) | exact b8_eq rfl | exact b8_ne rfl | exact bif_lt (by omega) | exact bif_le (by omega) | exact bif_eq (by omega) | exact bif_ne (by omega) | exact Iff.rfl | (simp only [zz, reduceCtorEq] <;> first | done | omega | exact Iff.rfl) | (simp; done) | (simp; omega)) (fun h1 => ?_) (fun h1 => ?_)
  · skip
    refine ai (ai (fun _ => (by (repeat' (first | exact rfl | exact trivial | exact (fun _ => rfl) | exact (fun _ _ => rfl) | exact nof | refine ai ?_ ?_)))) ?_) trivial
    show ple _ (.tup [bP (logC n l f t), iP (givC n l f t)])
    rw [show logC n l f t = false by simp [logC, h1]]
    any_goals (repeat' (first | with_reducible rfl | exact trivial | refine ai ?_ ?_ | (show (_ : Int) = _; first | with_reducible rfl | exact wr1 (by omega) | (simp only [zz, reduceCtorEq] <;> first | done | rfl | omega) | omega | rfl) | exact rfl | exact (fun _ => rfl) | exact (fun _ _ => rfl) | exact nof))
  obtain ⟨_, n, a, b, hn, rfl, rfl, rfl, ha, hb, hl, hall⟩ := giv_zero h1
  have h64 := pow_le64 hn
  obtain ⟨T, hT⟩ : ∃ T, tabU l (2 ^ n) = T := ⟨_, rfl⟩
  have ht := fnS_at htable_ok (n, l) ⟨hn, hl0⟩ (r := tP ⟨n, T⟩) (by show tP ⟨n, tabU l (2 ^ n)⟩ = _; rw [hT])
  refine ei _ (ai ht (ei (()) (ei [] (ai (ai rfl (ai rfl (ai rfl (ai rfl (ai (fun _ => Or.inl rfl) (by first | exact nof | exact (fun _ => ai rfl rfl))))))) (ai (by (repeat' (first | with_reducible rfl | exact trivial | refine ai ?_ ?_ | (show (_ : Int) = _; first | with_reducible rfl | exact wr1 (by omega) | (simp only [zz, reduceCtorEq] <;> first | done | rfl | omega) | omega | rfl) | exact rfl | exact (fun _ => rfl) | exact (fun _ _ => rfl) | exact nof))) (ai trivial (ai (trivial) ?_)))))))
  have hlog : logC n l a b = (((List.range (2 ^ n)).all fun k => !(onAt n a b k && T.getLsbD k != T.getLsbD a)) && (betL n l a b == 2)) := by
    simp only [logC, h1, if_true, Int.toNat_natCast]; rw [logL, steady_range, hT]
  repeat (refine ai (by first | exact Int.natCast_nonneg _ | omega | exact ai (Int.natCast_nonneg _) (by omega)) ?_)
  refine ei (LAnn.inv { X := Nat, up := fun k => [(23, .s (iA k))], uo := fun k => [], inv := fun k => k ≤ 2 ^ n ∧ ((List.range k).all (fun k => !(onAt n a b k && T.getLsbD k != T.getLsbD a)) = true), meas := fun k => 2 ^ n - k, x0 := 0 }) ?_
  refine ai (ai (ai (by (repeat' (first | exact rfl | exact trivial | exact (fun _ => rfl) | exact (fun _ _ => rfl) | exact nof | refine ai ?_ ?_))) (ai (by (repeat' (first | with_reducible rfl | exact trivial | refine ai ?_ ?_ | (show (_ : Int) = _; first | with_reducible rfl | exact wr1 (by omega) | (simp only [zz, reduceCtorEq] <;> first | done | rfl | omega) | omega | rfl) | exact rfl | exact (fun _ => rfl) | exact (fun _ _ => rfl) | exact nof))) (by (repeat' (first | with_reducible rfl | exact trivial | refine ai ?_ ?_ | (show (_ : Int) = _; first | with_reducible rfl | exact wr1 (by omega) | (simp only [zz, reduceCtorEq] <;> first | done | rfl | omega) | omega | rfl) | exact rfl | exact (fun _ => rfl) | exact (fun _ _ => rfl) | exact nof))))) rfl) (ai (ai (Nat.zero_le _) ?_) ?_)
  · rfl
  intro (k : Nat) ⟨hk, hst⟩
  refine bcase_p (p := k < 2 ^ n) (by show decide ((k : Int) < IntKind.i64.wrap (1 * 2 ^ min (n : Int).toNat IntKind.i64.bits)) = true ↔ _; rw [pow6 hn, decide_eq_true_iff]; omega) (fun h2 => ?_) (fun h2 => ?_)
  · have hs1 : (List.range (k + 1)).all (fun k => !(onAt n a b k && T.getLsbD k != T.getLsbD a)) = !(onAt n a b k && T.getLsbD k != T.getLsbD a) := by rw [allR_succ, hst, Bool.true_and]
    refine ei [0, 1, 2, 3, 4, 5, 6, 7, 8, 9, 10, 11, 12, 13, 15, 16, 17, 14, 18, 19, 20] (ai (by kernel_rfl) ?_)
    refine bcase_p (p := onAt n a b k = true) (by exact logic_cond hn ha hb h2) (fun h3 => ?_) (fun h3 => ?_)
    · skip
      refine ei _ (ai hvalue_ok (ei ((⟨n, T⟩, k)) (ei [] (ai (ai rfl (ai rfl (ai rfl (ai rfl (ai (fun _ => Or.inl rfl) (by first | exact nof | exact (fun _ => ai rfl rfl))))))) (ai (by (repeat' (first | with_reducible rfl | exact trivial | refine ai ?_ ?_ | (show (_ : Int) = _; first | with_reducible rfl | exact wr1 (by omega) | (simp only [zz, reduceCtorEq] <;> first | done | rfl | omega) | omega | rfl) | exact rfl | exact (fun _ => rfl) | exact (fun _ _ => rfl) | exact nof))) (ai trivial (ai (trivial) ?_)))))))
      refine ei _ (ai hvalue_ok (ei ((⟨n, T⟩, a)) (ei [] (ai (ai rfl (ai rfl (ai rfl (ai rfl (ai (fun _ => Or.inl rfl) (by first | exact nof | exact (fun _ => ai rfl rfl))))))) (ai (by (repeat' (first | with_reducible rfl | exact trivial | refine ai ?_ ?_ | (show (_ : Int) = _; first | with_reducible rfl | exact wr1 (by omega) | (simp only [zz, reduceCtorEq] <;> first | done | rfl | omega) | omega | rfl) | exact rfl | exact (fun _ => rfl) | exact (fun _ _ => rfl) | exact nof))) (ai trivial (ai (trivial) ?_)))))))
      refine bcase_b (b := T.getLsbD k != T.getLsbD a) (by first | exact rfl | (simp only [zz, reduceCtorEq] <;> first | done | exact rfl)) (fun h4 => ?_) (fun h4 => ?_)
      · have hf : ((List.range (2 ^ n)).all fun k => !(onAt n a b k && T.getLsbD k != T.getLsbD a)) = false := by
          cases h : (List.range (2 ^ n)).all fun k => !(onAt n a b k && T.getLsbD k != T.getLsbD a) with
          | false => rfl
          | true =>
            have := List.all_eq_true.1 h k (List.mem_range.2 h2)
            rw [h3, h4] at this; cases this
        refine ai (ai (fun _ => (by (repeat' (first | exact rfl | exact trivial | exact (fun _ => rfl) | exact (fun _ _ => rfl) | exact nof | refine ai ?_ ?_)))) ?_) trivial
        show ple _ (.tup [bP (logC n l a b), iP (givC n l a b)])
        rw [show logC n l a b = false by rw [hlog, hf]; rfl, h1]
        any_goals (repeat' (first | with_reducible rfl | exact trivial | refine ai ?_ ?_ | (show (_ : Int) = _; first | with_reducible rfl | exact wr1 (by omega) | (simp only [zz, reduceCtorEq] <;> first | done | rfl | omega) | omega | rfl) | exact rfl | exact (fun _ => rfl) | exact (fun _ _ => rfl) | exact nof))
      · skip
        refine ei (k + 1) (ai (ai rfl rfl) (ai (ai ?_ rfl) (ai (ai (by show k + 1 ≤ 2 ^ n; omega) ?_) (by show 2 ^ n - (k + 1) < 2 ^ n - k; omega))))
        any_goals (repeat' (first | with_reducible rfl | exact trivial | refine ai ?_ ?_ | (show (_ : Int) = _; first | with_reducible rfl | exact wr1 (by omega) | (simp only [zz, reduceCtorEq] <;> first | done | rfl | omega) | omega | rfl) | exact rfl | exact (fun _ => rfl) | exact (fun _ _ => rfl) | exact nof))
        show (List.range (k + 1)).all _ = true
        rw [hs1, h4, Bool.and_false]; rfl
    · skip
      refine ei (k + 1) (ai (ai rfl rfl) (ai (ai ?_ rfl) (ai (ai (by show k + 1 ≤ 2 ^ n; omega) ?_) (by show 2 ^ n - (k + 1) < 2 ^ n - k; omega))))
      any_goals (repeat' (first | with_reducible rfl | exact trivial | refine ai ?_ ?_ | (show (_ : Int) = _; first | with_reducible rfl | exact wr1 (by omega) | (simp only [zz, reduceCtorEq] <;> first | done | rfl | omega) | omega | rfl) | exact rfl | exact (fun _ => rfl) | exact (fun _ _ => rfl) | exact nof))
      show (List.range (k + 1)).all _ = true
      rw [hs1, show onAt n a b k = false by simpa using h3]; rfl
  · obtain rfl : k = 2 ^ n := by omega
    refine ei _ (ai hbet_ok (ei ((n, l, a, b)) (ei [] (ai (ai rfl (ai rfl (ai rfl (ai rfl (ai (fun _ => Or.inl rfl) (by first | exact nof | exact (fun _ => ai rfl rfl))))))) (ai (by (repeat' (first | with_reducible rfl | exact trivial | refine ai ?_ ?_ | (show (_ : Int) = _; first | with_reducible rfl | exact wr1 (by omega) | (simp only [zz, reduceCtorEq] <;> first | done | rfl | omega) | omega | rfl) | exact rfl | exact (fun _ => rfl) | exact (fun _ _ => rfl) | exact nof))) (ai trivial (ai (⟨hn, hl0, hall, ha, hb⟩) ?_)))))))
    refine ai (ai (fun _ => (by (repeat' (first | exact rfl | exact trivial | exact (fun _ => rfl) | exact (fun _ _ => rfl) | exact nof | refine ai ?_ ?_)))) ?_) trivial
    show ple _ (.tup [bP (logC n l a b), iP (givC n l a b)])
    rw [show logC n l a b = (betL n l a b == 2) by rw [hlog, hst, Bool.true_and], h1]
    any_goals (repeat' (first | with_reducible rfl | exact trivial | refine ai ?_ ?_ | (show (_ : Int) = _; first | with_reducible rfl | exact wr1 (by omega) | (simp only [zz, reduceCtorEq] <;> first | done | rfl | omega) | omega | rfl) | exact rfl | exact (fun _ => rfl) | exact (fun _ _ => rfl) | exact nof))
def stS : Spec := fnS (fun x : Nat × U × Nat × Nat => [tA ⟨x.1, x.2.1⟩, iA x.2.2.1, iA x.2.2.2]) (fun x => x.1 ≤ 6 ∧ x.2.2.1 < 2 ^ x.1 ∧ x.2.2.2 < 2 ^ x.1) (fun x => bP (steadyB x.1 x.2.1 x.2.2.1 x.2.2.2))
theorem steady_ok : FnOk Try.prog 117 stS := by
  refine fnOk (Tb := tab) mixed tab_ok Try.func117 rfl rfl ?_
  rintro ⟨n, T, a, b⟩ hpre
  refine ai (ai rfl (ai rfl rfl)) ?_
  obtain ⟨hn, ha, hb⟩ : n ≤ 6 ∧ a < 2 ^ n ∧ b < 2 ^ n := hpre
  have h64 := pow_le64 hn
  refine ei _ (ai on_ok (ei ((n, a, b)) (ei [] (ai (ai rfl (ai rfl (ai rfl (ai rfl (ai (fun _ => Or.inl rfl) (by first | exact nof | exact (fun _ => ai rfl rfl))))))) (ai (by (repeat' (first | with_reducible rfl | exact trivial | refine ai ?_ ?_ | (show (_ : Int) = _; first | with_reducible rfl | exact wr1 (by omega) | (simp only [zz, reduceCtorEq] <;> first | done | rfl | omega) | omega | rfl) | exact rfl | exact (fun _ => rfl) | exact (fun _ _ => rfl) | exact nof))) (ai trivial (ai (⟨hn, by show a < 64; omega, by show b < 64; omega⟩) ?_)))))))
  have hol := on_len_le n a b
  refine ei (LAnn.inv { X := Nat, up := fun k => [(8, .s (iA k))], uo := fun k => [], inv := fun k => k ≤ (onL n a b).length ∧ (((onL n a b).take k).all (fun k => T.getLsbD k == T.getLsbD a) = true), meas := fun k => (onL n a b).length - k, x0 := 0 }) ?_
  refine ai (ai (ai (by (repeat' (first | exact rfl | exact trivial | exact (fun _ => rfl) | exact (fun _ _ => rfl) | exact nof | refine ai ?_ ?_))) (ai (by (repeat' (first | with_reducible rfl | exact trivial | refine ai ?_ ?_ | (show (_ : Int) = _; first | with_reducible rfl | exact wr1 (by omega) | (simp only [zz, reduceCtorEq] <;> first | done | rfl | omega) | omega | rfl) | exact rfl | exact (fun _ => rfl) | exact (fun _ _ => rfl) | exact nof))) (by (repeat' (first | with_reducible rfl | exact trivial | refine ai ?_ ?_ | (show (_ : Int) = _; first | with_reducible rfl | exact wr1 (by omega) | (simp only [zz, reduceCtorEq] <;> first | done | rfl | omega) | omega | rfl) | exact rfl | exact (fun _ => rfl) | exact (fun _ _ => rfl) | exact nof))))) rfl) (ai (ai (Nat.zero_le _) ?_) ?_)
  · simp
  intro (k : Nat) ⟨hk, hst⟩
  refine bcase_p (p := k < (onL n a b).length) (by first | (with_reducible refine bif_lt ?_; omega) | (with_reducible refine bif_le ?_; omega) | (with_reducible refine bif_eq ?_; omega) | (with_reducible refine bif_ne ?_; omega) | exact b8_eq rfl | exact b8_ne rfl | exact bif_lt (by omega) | exact bif_le (by omega) | exact bif_eq (by omega) | exact bif_ne (by omega) | exact Iff.rfl | (simp only [zz, reduceCtorEq] <;> first | done | omega | exact Iff.rfl) | (simp; done) | (simp; omega)) (fun h1 => ?_) (fun h1 => ?_)
  · have hs := takeN_snoc h1
    refine ei [0, 1, 2, 3, 4, 6, 7, 5, 8, 9] (ai (by kernel_rfl) ?_)
    refine ai (ai (Int.natCast_nonneg _) (by show (k : Int) < ((onL n a b).length : Int); omega)) ?_
    refine ai rfl ?_
    refine ei _ (ai at_ok (ei ((⟨n, T⟩, (onL n a b).getD k 0)) (ei [] (ai (ai rfl (ai rfl (ai rfl (ai rfl (ai (fun _ => Or.inl rfl) (by first | exact nof | exact (fun _ => ai rfl rfl))))))) (ai (by (repeat' (first | with_reducible rfl | exact trivial | refine ai ?_ ?_ | (show (_ : Int) = _; first | with_reducible rfl | exact wr1 (by omega) | (simp only [zz, reduceCtorEq] <;> first | done | rfl | omega) | omega | rfl) | exact rfl | exact (fun _ => rfl) | exact (fun _ _ => rfl) | exact nof))) (ai trivial (ai (trivial) ?_)))))))
    refine ei _ (ai at_ok (ei ((⟨n, T⟩, a)) (ei [] (ai (ai rfl (ai rfl (ai rfl (ai rfl (ai (fun _ => Or.inl rfl) (by first | exact nof | exact (fun _ => ai rfl rfl))))))) (ai (by (repeat' (first | with_reducible rfl | exact trivial | refine ai ?_ ?_ | (show (_ : Int) = _; first | with_reducible rfl | exact wr1 (by omega) | (simp only [zz, reduceCtorEq] <;> first | done | rfl | omega) | omega | rfl) | exact rfl | exact (fun _ => rfl) | exact (fun _ _ => rfl) | exact nof))) (ai trivial (ai (trivial) ?_)))))))
    refine bcase_b (b := T.getLsbD ((onL n a b).getD k 0) != T.getLsbD a) (by first | exact rfl | (simp only [zz, reduceCtorEq] <;> first | done | exact rfl)) (fun h2 => ?_) (fun h2 => ?_)
    · have hf : steadyB n T a b = false := by
        cases h : steadyB n T a b with
        | false => rfl
        | true =>
          have hm : (onL n a b).getD k 0 ∈ onL n a b := by rw [List.getD_eq_getElem?_getD, List.getElem?_eq_getElem h1]; exact List.getElem_mem _
          have := List.all_eq_true.1 h _ hm
          rw [beq_iff_eq] at this
          rw [this] at h2; simp at h2
      refine ai (ai (fun _ => (by (repeat' (first | exact rfl | exact trivial | exact (fun _ => rfl) | exact (fun _ _ => rfl) | exact nof | refine ai ?_ ?_)))) ?_) trivial
      show ple _ (bP (steadyB n T a b))
      rw [hf]
      any_goals (repeat' (first | with_reducible rfl | exact trivial | refine ai ?_ ?_ | (show (_ : Int) = _; first | with_reducible rfl | exact wr1 (by omega) | (simp only [zz, reduceCtorEq] <;> first | done | rfl | omega) | omega | rfl) | exact rfl | exact (fun _ => rfl) | exact (fun _ _ => rfl) | exact nof))
    · skip
      refine ei (k + 1) (ai (ai rfl rfl) (ai (ai ?_ rfl) (ai (ai (by show k + 1 ≤ (onL n a b).length; omega) ?_) (by show (onL n a b).length - (k + 1) < (onL n a b).length - k; omega))))
      any_goals (repeat' (first | with_reducible rfl | exact trivial | refine ai ?_ ?_ | (show (_ : Int) = _; first | with_reducible rfl | exact wr1 (by omega) | (simp only [zz, reduceCtorEq] <;> first | done | rfl | omega) | omega | rfl) | exact rfl | exact (fun _ => rfl) | exact (fun _ _ => rfl) | exact nof))
      show ((onL n a b).take (k + 1)).all _ = true
      have h2 : T.getLsbD ((onL n a b).getD k 0) = T.getLsbD a := by simpa using h2
      rw [hs, List.all_append, hst, List.all_cons, h2, List.all_nil]; simp
  · obtain rfl : k = (onL n a b).length := by omega
    rw [List.take_length] at hst
    refine ai (ai (fun _ => (by (repeat' (first | exact rfl | exact trivial | exact (fun _ => rfl) | exact (fun _ _ => rfl) | exact nof | refine ai ?_ ?_)))) ?_) trivial
    show ple _ (bP (steadyB n T a b))
    rw [show steadyB n T a b = true from hst]
    any_goals (repeat' (first | with_reducible rfl | exact trivial | refine ai ?_ ?_ | (show (_ : Int) = _; first | with_reducible rfl | exact wr1 (by omega) | (simp only [zz, reduceCtorEq] <;> first | done | rfl | omega) | omega | rfl) | exact rfl | exact (fun _ => rfl) | exact (fun _ _ => rfl) | exact nof))
def rLogS : Spec := fnS (fun x : Int × List Cu × Int × Int => [iA x.1, csA x.2.1, iA x.2.2.1, iA x.2.2.2]) (fun x => x.2.1.length ≤ 1000000) (fun x => .tup [bP (logC x.1 x.2.1 x.2.2.1 x.2.2.2), iP (givC x.1 x.2.1 x.2.2.1 x.2.2.2)])
theorem rLog_ok : FnOk Try.prog 65 rLogS := by
  refine fnOk (Tb := tab) mixed tab_ok Try.func65 rfl rfl ?_
  rintro ⟨n, l, f, t⟩ hpre
  refine ai (ai rfl (ai rfl rfl)) ?_
  have hl0 : l.length ≤ 1000000 := hpre
  refine ei _ (ai rgiv_ok (ei ((n, l, f, t)) (ei [] (ai (ai rfl (ai rfl (ai rfl (ai rfl (ai (fun _ => Or.inl rfl) (by first | exact nof | exact (fun _ => ai rfl rfl))))))) (ai (by (repeat' (first | with_reducible rfl | exact trivial | refine ai ?_ ?_ | (show (_ : Int) = _; first | with_reducible rfl | exact wr1 (by omega) | (simp only [zz, reduceCtorEq] <;> first | done | rfl | omega) | omega | rfl) | exact rfl | exact (fun _ => rfl) | exact (fun _ _ => rfl) | exact nof))) (ai trivial (ai (hpre) ?_)))))))
  refine bcase_n (p := givC n l f t = 0) (by first | (with_reducible refine bif_lt ?_; omega) | (with_reducible refine bif_le ?_; omega) | (with_reducible refine bif_eq ?_; omega) | (with_reducible refine bif_ne ?_; omega) | exact b8_eq rfl | exact b8_ne rfl | exact bif_lt (by omega) | exact bif_le (by omega) | exact bif_eq (by omega) | exact bif_ne (by omega) | exact Iff.rfl | (simp only [zz, reduceCtorEq] <;> first | done | omega | exact Iff.rfl) | (simp; done) | (simp; omega)) (fun h1 => ?_) (fun h1 => ?_)
  · skip
    refine ai (ai (fun _ => (by (repeat' (first | exact rfl | exact trivial | exact (fun _ => rfl) | exact (fun _ _ => rfl) | exact nof | refine ai ?_ ?_)))) ?_) trivial
    show ple _ (.tup [bP (logC n l f t), iP (givC n l f t)])
    rw [show logC n l f t = false by simp [logC, h1]]
    any_goals (repeat' (first | with_reducible rfl | exact trivial | refine ai ?_ ?_ | (show (_ : Int) = _; first | with_reducible rfl | exact wr1 (by omega) | (simp only [zz, reduceCtorEq] <;> first | done | rfl | omega) | omega | rfl) | exact rfl | exact (fun _ => rfl) | exact (fun _ _ => rfl) | exact nof))
  obtain ⟨_, n, a, b, hn, rfl, rfl, rfl, ha, hb, hl, hall⟩ := giv_zero h1
  have hlog : logC n l a b = (steadyB n (tabU l (2 ^ n)) a b && (betL n l a b == 2)) := by
    simp only [logC, h1, if_true, Int.toNat_natCast]; rfl
  refine ei _ (ai rtable_ok (ei ((n, l)) (ei [] (ai (ai rfl (ai rfl (ai rfl (ai rfl (ai (fun _ => Or.inl rfl) (by first | exact nof | exact (fun _ => ai rfl rfl))))))) (ai (by (repeat' (first | with_reducible rfl | exact trivial | refine ai ?_ ?_ | (show (_ : Int) = _; first | with_reducible rfl | exact wr1 (by omega) | (simp only [zz, reduceCtorEq] <;> first | done | rfl | omega) | omega | rfl) | exact rfl | exact (fun _ => rfl) | exact (fun _ _ => rfl) | exact nof))) (ai trivial (ai (⟨hn, hl0⟩) ?_)))))))
  refine ei _ (ai steady_ok (ei ((n, tabU l (2 ^ n), a, b)) (ei [] (ai (ai rfl (ai rfl (ai rfl (ai rfl (ai (fun _ => Or.inl rfl) (by first | exact nof | exact (fun _ => ai rfl rfl))))))) (ai (by (repeat' (first | with_reducible rfl | exact trivial | refine ai ?_ ?_ | (show (_ : Int) = _; first | with_reducible rfl | exact wr1 (by omega) | (simp only [zz, reduceCtorEq] <;> first | done | rfl | omega) | omega | rfl) | exact rfl | exact (fun _ => rfl) | exact (fun _ _ => rfl) | exact nof))) (ai trivial (ai (⟨hn, ha, hb⟩) ?_)))))))
  refine bcase_b (b := steadyB n (tabU l (2 ^ n)) a b) (by first | exact rfl | (simp only [zz, reduceCtorEq] <;> first | done | exact rfl)) (fun h2 => ?_) (fun h2 => ?_)
  · skip
    refine ei _ (ai rbet_ok (ei ((n, l, a, b)) (ei [] (ai (ai rfl (ai rfl (ai rfl (ai rfl (ai (fun _ => Or.inl rfl) (by first | exact nof | exact (fun _ => ai rfl rfl))))))) (ai (by (repeat' (first | with_reducible rfl | exact trivial | refine ai ?_ ?_ | (show (_ : Int) = _; first | with_reducible rfl | exact wr1 (by omega) | (simp only [zz, reduceCtorEq] <;> first | done | rfl | omega) | omega | rfl) | exact rfl | exact (fun _ => rfl) | exact (fun _ _ => rfl) | exact nof))) (ai trivial (ai (⟨hn, hl0, ha, hb⟩) ?_)))))))
    refine ai (ai (fun _ => (by (repeat' (first | exact rfl | exact trivial | exact (fun _ => rfl) | exact (fun _ _ => rfl) | exact nof | refine ai ?_ ?_)))) ?_) trivial
    show ple _ (.tup [bP (logC n l a b), iP (givC n l a b)])
    rw [hlog, h1, h2, Bool.true_and]
    any_goals (repeat' (first | with_reducible rfl | exact trivial | refine ai ?_ ?_ | (show (_ : Int) = _; first | with_reducible rfl | exact wr1 (by omega) | (simp only [zz, reduceCtorEq] <;> first | done | rfl | omega) | omega | rfl) | exact rfl | exact (fun _ => rfl) | exact (fun _ _ => rfl) | exact nof))
  · skip
    refine ai (ai (fun _ => (by (repeat' (first | exact rfl | exact trivial | exact (fun _ => rfl) | exact (fun _ _ => rfl) | exact nof | refine ai ?_ ?_)))) ?_) trivial
    show ple _ (.tup [bP (logC n l a b), iP (givC n l a b)])
    rw [hlog, h1, h2, Bool.false_and]
    any_goals (repeat' (first | with_reducible rfl | exact trivial | refine ai ?_ ?_ | (show (_ : Int) = _; first | with_reducible rfl | exact wr1 (by omega) | (simp only [zz, reduceCtorEq] <;> first | done | rfl | omega) | omega | rfl) | exact rfl | exact (fun _ => rfl) | exact (fun _ _ => rfl) | exact nof))

end Go.Sx.Pn
