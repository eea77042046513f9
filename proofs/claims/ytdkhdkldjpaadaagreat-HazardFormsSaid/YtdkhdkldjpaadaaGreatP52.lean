/- Contracts of chapter 8: Table, Between, Logic. -/
import Derived.Test.YtdkhdkldjpaadaaGreatP51
set_option maxHeartbeats 1000000
set_option maxRecDepth 4000
set_option linter.unusedSimpArgs false
set_option linter.unusedVariables false
namespace Go.Sx.Pn
open Go Go.Proofs

def tabC (n : Int) (l : List Cu) : Tb := if chkN n l = 0 then ⟨n, tabU l (2 ^ n.toNat)⟩ else ⟨0, 0#64⟩
def TabS : Spec := fnS (fun x : Int × List Cu => [iA x.1, csA x.2]) (fun x => x.2.length ≤ 1000000) (fun x => .tup [tP (tabC x.1 x.2), iP (chkN x.1 x.2)])
def outC (n f t : Int) : Prop := f < 0 ∨ ((2 ^ n.toNat : Nat) : Int) ≤ f ∨ t < 0 ∨ ((2 ^ n.toNat : Nat) : Int) ≤ t
instance (n f t : Int) : Decidable (outC n f t) := by unfold outC; infer_instance
def givC (n : Int) (l : List Cu) (f t : Int) : Int := if chkN n l = 0 then (if outC n f t then 2 else 0) else chkN n l
theorem giv_zero {n : Int} {l : List Cu} {f t : Int} (h : givC n l f t = 0) : chkN n l = 0 ∧ ∃ k a b : Nat, k ≤ 6 ∧ n = k ∧ f = a ∧ t = b ∧ a < 2 ^ k ∧ b < 2 ^ k ∧ l.length ≤ 256 ∧ ∀ c ∈ l, c.Ok k := by
  unfold givC at h
  split at h
  · rename_i h1
    split at h
    · cases h
    · rename_i h2
      obtain ⟨k, hk, rfl, hl, hall⟩ := chkN_zero h1
      unfold outC at h2
      simp only [Int.toNat_natCast] at h2
      exact ⟨h1, k, f.toNat, t.toNat, hk, rfl, by omega, by omega, by omega, by omega, hl, hall⟩
  · rename_i h1; exact absurd h h1
def givS : Spec := fnS (fun x : Int × List Cu × Int × Int => [iA x.1, csA x.2.1, xA x.2.2.1 x.2.2.2]) (fun x => x.2.1.length ≤ 1000000) (fun x => iP (givC x.1 x.2.1 x.2.2.1 x.2.2.2))
theorem hgiv_ok : FnOk Tryz.prog 88 givS := by
  refine fnOk (Tb := tab) mixed tab_ok Tryz.func88 rfl rfl ?_
  rintro ⟨n, l, f, t⟩ hpre
  refine ai (ai rfl (ai rfl rfl)) ?_
  refine ei _ (ai chkN_ok (ei ((n, l)) (ei [] (ai (ai rfl (ai rfl (ai rfl (ai rfl (ai (fun _ => Or.inl rfl) (ai (by first | exact nof | exact (fun _ => ai rfl rfl)) (by first | exact Or.inl rfl | exact Or.inr rfl))))))) (ai (by (repeat' (first | with_reducible rfl | exact trivial | refine ai ?_ ?_ | (show (_ : Int) = _; first | with_reducible rfl | exact wr1 (by omega) | (simp only [zz, reduceCtorEq] <;> first | done | rfl | omega) | omega | rfl) | exact rfl | exact (fun _ => rfl) | exact (fun _ _ => rfl) | exact nof))) (ai trivial (ai (hpre) ?_)))))))
  refine bcase_n (p := chkN n l = 0) (by first | (with_reducible refine bif_lt ?_; omega) | (with_reducible refine bif_le ?_; omega) | (with_reducible refine bif_eq ?_; omega) | (with_reducible refine bif_ne ?_; omega) | exact b8_eq rfl | exact b8_ne rfl | exact bif_lt (by omega) | exact bif_le (by omega) | exact bif_eq (by omega) | exact bif_ne (by omega) | exact Iff.rfl | (simp only [zz, reduceCtorEq] <;> first | done | omega | exact Iff.rfl) | (simp; done) | (simp; omega)) (fun h1 => ?_) (fun h1 => ?_)
  · skip
    refine ai (ai (fun _ => (by (repeat' (first | exact rfl | exact trivial | exact (fun _ => rfl) | exact (fun _ _ => rfl) | exact nof | refine ai ?_ ?_)))) ?_) trivial
    show ple _ (iP (givC n l f t))
    rw [show givC n l f t = chkN n l by simp [givC, h1]]
    any_goals (repeat' (first | with_reducible rfl | exact trivial | refine ai ?_ ?_ | (show (_ : Int) = _; first | with_reducible rfl | exact wr1 (by omega) | (simp only [zz, reduceCtorEq] <;> first | done | rfl | omega) | omega | rfl) | exact rfl | exact (fun _ => rfl) | exact (fun _ _ => rfl) | exact nof))
  obtain ⟨n, hn, rfl, _, _⟩ := chkN_zero h1
  have hgiv : givC n l f t = if outC n f t then 2 else 0 := by simp [givC, h1]
  refine ei [0, 1, 2, 3, 4, 5, 6, 7, 8, 9, 10, 11, 12, 13, 14, 15, 16, 17, 18, 19, 20, 21] (ai (by kernel_rfl) ?_)
  refine bcase_p (p := f < 0) (by first | (with_reducible refine bif_lt ?_; omega) | (with_reducible refine bif_le ?_; omega) | (with_reducible refine bif_eq ?_; omega) | (with_reducible refine bif_ne ?_; omega) | exact b8_eq rfl | exact b8_ne rfl | exact bif_lt (by omega) | exact bif_le (by omega) | exact bif_eq (by omega) | exact bif_ne (by omega) | exact Iff.rfl | (simp only [zz, reduceCtorEq] <;> first | done | omega | exact Iff.rfl) | (simp; done) | (simp; omega)) (fun h2 => ?_) (fun h2 => ?_)
  · skip
    refine ai (ai (fun _ => (by (repeat' (first | exact rfl | exact trivial | exact (fun _ => rfl) | exact (fun _ _ => rfl) | exact nof | refine ai ?_ ?_)))) ?_) trivial
    show ple _ (iP (givC n l f t))
    rw [hgiv, if_pos (show outC n f t from .inl h2)]
    any_goals (repeat' (first | with_reducible rfl | exact trivial | refine ai ?_ ?_ | (show (_ : Int) = _; first | with_reducible rfl | exact wr1 (by omega) | (simp only [zz, reduceCtorEq] <;> first | done | rfl | omega) | omega | rfl) | exact rfl | exact (fun _ => rfl) | exact (fun _ _ => rfl) | exact nof))
  repeat (refine ai (by first | exact Int.natCast_nonneg _ | omega | exact ai (Int.natCast_nonneg _) (by omega)) ?_)
  refine bcase_p (p := ((2 ^ n : Nat) : Int) ≤ f) (by show decide (IntKind.i64.wrap (1 * 2 ^ min (n : Int).toNat IntKind.i64.bits) ≤ f) = true ↔ _; rw [pow6 hn, decide_eq_true_iff]) (fun h3 => ?_) (fun h3 => ?_)
  · skip
    refine ai (ai (fun _ => (by (repeat' (first | exact rfl | exact trivial | exact (fun _ => rfl) | exact (fun _ _ => rfl) | exact nof | refine ai ?_ ?_)))) ?_) trivial
    show ple _ (iP (givC n l f t))
    rw [hgiv, if_pos (show outC n f t from .inr (.inl h3))]
    any_goals (repeat' (first | with_reducible rfl | exact trivial | refine ai ?_ ?_ | (show (_ : Int) = _; first | with_reducible rfl | exact wr1 (by omega) | (simp only [zz, reduceCtorEq] <;> first | done | rfl | omega) | omega | rfl) | exact rfl | exact (fun _ => rfl) | exact (fun _ _ => rfl) | exact nof))
  refine bcase_p (p := t < 0) (by first | (with_reducible refine bif_lt ?_; omega) | (with_reducible refine bif_le ?_; omega) | (with_reducible refine bif_eq ?_; omega) | (with_reducible refine bif_ne ?_; omega) | exact b8_eq rfl | exact b8_ne rfl | exact bif_lt (by omega) | exact bif_le (by omega) | exact bif_eq (by omega) | exact bif_ne (by omega) | exact Iff.rfl | (simp only [zz, reduceCtorEq] <;> first | done | omega | exact Iff.rfl) | (simp; done) | (simp; omega)) (fun h4 => ?_) (fun h4 => ?_)
  · skip
    refine ai (ai (fun _ => (by (repeat' (first | exact rfl | exact trivial | exact (fun _ => rfl) | exact (fun _ _ => rfl) | exact nof | refine ai ?_ ?_)))) ?_) trivial
    show ple _ (iP (givC n l f t))
    rw [hgiv, if_pos (show outC n f t from .inr (.inr (.inl h4)))]
    any_goals (repeat' (first | with_reducible rfl | exact trivial | refine ai ?_ ?_ | (show (_ : Int) = _; first | with_reducible rfl | exact wr1 (by omega) | (simp only [zz, reduceCtorEq] <;> first | done | rfl | omega) | omega | rfl) | exact rfl | exact (fun _ => rfl) | exact (fun _ _ => rfl) | exact nof))
  repeat (refine ai (by first | exact Int.natCast_nonneg _ | omega | exact ai (Int.natCast_nonneg _) (by omega)) ?_)
  refine bcase_p (p := ((2 ^ n : Nat) : Int) ≤ t) (by show decide (IntKind.i64.wrap (1 * 2 ^ min (n : Int).toNat IntKind.i64.bits) ≤ t) = true ↔ _; rw [pow6 hn, decide_eq_true_iff]) (fun h5 => ?_) (fun h5 => ?_)
  · skip
    refine ai (ai (fun _ => (by (repeat' (first | exact rfl | exact trivial | exact (fun _ => rfl) | exact (fun _ _ => rfl) | exact nof | refine ai ?_ ?_)))) ?_) trivial
    show ple _ (iP (givC n l f t))
    rw [hgiv, if_pos (show outC n f t from .inr (.inr (.inr h5)))]
    any_goals (repeat' (first | with_reducible rfl | exact trivial | refine ai ?_ ?_ | (show (_ : Int) = _; first | with_reducible rfl | exact wr1 (by omega) | (simp only [zz, reduceCtorEq] <;> first | done | rfl | omega) | omega | rfl) | exact rfl | exact (fun _ => rfl) | exact (fun _ _ => rfl) | exact nof))
  refine ai (ai (fun _ => (by (repeat' (first | exact rfl | exact trivial | exact (fun _ => rfl) | exact (fun _ _ => rfl) | exact nof | refine ai ?_ ?_)))) ?_) trivial
  show ple _ (iP (givC n l f t))
  rw [hgiv, if_neg (show ¬ outC n f t from fun h => h.elim h2 fun h => h.elim h3 fun h => h.elim h4 h5)]
  any_goals (repeat' (first | with_reducible rfl | exact trivial | refine ai ?_ ?_ | (show (_ : Int) = _; first | with_reducible rfl | exact wr1 (by omega) | (simp only [zz, reduceCtorEq] <;> first | done | rfl | omega) | omega | rfl) | exact rfl | exact (fun _ => rfl) | exact (fun _ _ => rfl) | exact nof))
def rgivS : Spec := fnS (fun x : Int × List Cu × Int × Int => [iA x.1, csA x.2.1, iA x.2.2.1, iA x.2.2.2]) (fun x => x.2.1.length ≤ 1000000) (fun x => iP (givC x.1 x.2.1 x.2.2.1 x.2.2.2))
def betC (n : Int) (l : List Cu) (f t : Int) : Int := if givC n l f t = 0 then betL n.toNat l f.toNat t.toNat else 0
def BetS : Spec := fnS (fun x : Int × List Cu × Int × Int => [iA x.1, csA x.2.1, xA x.2.2.1 x.2.2.2]) (fun x => x.2.1.length ≤ 1000000) (fun x => .tup [iP (betC x.1 x.2.1 x.2.2.1 x.2.2.2), iP (givC x.1 x.2.1 x.2.2.1 x.2.2.2)])
theorem hBet_ok : FnOk Tryz.prog 39 BetS := by
  refine fnOk (Tb := tab) mixed tab_ok Tryz.func39 rfl rfl ?_
  rintro ⟨n, l, f, t⟩ hpre
  refine ai (ai rfl (ai rfl rfl)) ?_
  refine ei _ (ai hgiv_ok (ei ((n, l, f, t)) (ei [] (ai (ai rfl (ai rfl (ai rfl (ai rfl (ai (fun _ => Or.inl rfl) (ai (by first | exact nof | exact (fun _ => ai rfl rfl)) (by first | exact Or.inl rfl | exact Or.inr rfl))))))) (ai (by (repeat' (first | with_reducible rfl | exact trivial | refine ai ?_ ?_ | (show (_ : Int) = _; first | with_reducible rfl | exact wr1 (by omega) | (simp only [zz, reduceCtorEq] <;> first | done | rfl | omega) | omega | rfl) | exact rfl | exact (fun _ => rfl) | exact (fun _ _ => rfl) | exact nof))) (ai trivial (ai (hpre) ?_)))))))
  refine bcase_n (p := givC n l f t = 0) (by first | (with_reducible refine bif_lt ?_; omega) | (with_reducible refine bif_le ?_; omega) | (with_reducible refine bif_eq ?_; omega) | (with_reducible refine bif_ne ?_; omega) | exact b8_eq rfl | exact b8_ne rfl | exact bif_lt (by omega) | exact bif_le (by omega) | exact bif_eq (by omega) | exact bif_ne (by omega) | exact Iff.rfl | (simp only [zz, reduceCtorEq] <;> first | done | omega | exact Iff.rfl) | (simp; done) | (simp; omega)) (fun h1 => ?_) (fun h1 => ?_)
  · skip
    refine ai (ai (fun _ => (by (repeat' (first | exact rfl | exact trivial | exact (fun _ => rfl) | exact (fun _ _ => rfl) | exact nof | refine ai ?_ ?_)))) ?_) trivial
    show ple _ (.tup [iP (betC n l f t), iP (givC n l f t)])
    rw [show betC n l f t = 0 by simp [betC, h1]]
    any_goals (repeat' (first | with_reducible rfl | exact trivial | refine ai ?_ ?_ | (show (_ : Int) = _; first | with_reducible rfl | exact wr1 (by omega) | (simp only [zz, reduceCtorEq] <;> first | done | rfl | omega) | omega | rfl) | exact rfl | exact (fun _ => rfl) | exact (fun _ _ => rfl) | exact nof))
  obtain ⟨_, n, a, b, hn, rfl, rfl, rfl, ha, hb, hl, hall⟩ := giv_zero h1
  refine ei _ (ai hbet_ok (ei ((n, l, a, b)) (ei [] (ai (ai rfl (ai rfl (ai rfl (ai rfl (ai (fun _ => Or.inl rfl) (ai (by first | exact nof | exact (fun _ => ai rfl rfl)) (by first | exact Or.inl rfl | exact Or.inr rfl))))))) (ai (by (repeat' (first | with_reducible rfl | exact trivial | refine ai ?_ ?_ | (show (_ : Int) = _; first | with_reducible rfl | exact wr1 (by omega) | (simp only [zz, reduceCtorEq] <;> first | done | rfl | omega) | omega | rfl) | exact rfl | exact (fun _ => rfl) | exact (fun _ _ => rfl) | exact nof))) (ai trivial (ai (⟨hn, hpre, hall, ha, hb⟩) ?_)))))))
  refine ai (ai (fun _ => (by (repeat' (first | exact rfl | exact trivial | exact (fun _ => rfl) | exact (fun _ _ => rfl) | exact nof | refine ai ?_ ?_)))) ?_) trivial
  show ple _ (.tup [iP (betC n l a b), iP (givC n l a b)])
  rw [show betC n l a b = betL n l a b by simp [betC, h1], h1]
  any_goals (repeat' (first | with_reducible rfl | exact trivial | refine ai ?_ ?_ | (show (_ : Int) = _; first | with_reducible rfl | exact wr1 (by omega) | (simp only [zz, reduceCtorEq] <;> first | done | rfl | omega) | omega | rfl) | exact rfl | exact (fun _ => rfl) | exact (fun _ _ => rfl) | exact nof))
def rBetS : Spec := fnS (fun x : Int × List Cu × Int × Int => [iA x.1, csA x.2.1, iA x.2.2.1, iA x.2.2.2]) (fun x => x.2.1.length ≤ 1000000) (fun x => .tup [iP (betC x.1 x.2.1 x.2.2.1 x.2.2.2), iP (givC x.1 x.2.1 x.2.2.1 x.2.2.2)])
theorem logic_cond {n a b k : Nat} (hn : n ≤ 6) (ha : a < 2 ^ n) (hb : b < 2 ^ n) (hk : k < 2 ^ n) : (bits .andNot .i64 (bits .xor .i64 (k : Int) (a : Int)) (bits .xor .i64 (a : Int) (b : Int)) == 0) = true ↔ onAt n a b k = true := by
  have h64 := pow_le64 hn
  rw [i_xor (by omega) (by omega), i_xor (by omega) (by omega), i_andNot (Nat.lt_trans (Nat.xor_lt_two_pow (n := 6) (show k < 64 by omega) (show a < 64 by omega)) (by decide)), u_beq0, beq_iff_eq, on_bits ha hb hk, eq0_iff]
  constructor
  · intro h i
    by_cases hi : i < 64
    · have := h i hi
      rwa [BitVec.getLsbD_and, BitVec.getLsbD_not, BitVec.getLsbD_ofNat, BitVec.getLsbD_ofNat, show decide (i < 64) = true by simpa using hi, Bool.true_and, Bool.true_and, Bool.true_and] at this
    · rw [bit_high (n := 6) (Nat.xor_lt_two_pow (n := 6) (show k < 64 by omega) (show a < 64 by omega)) (by omega)]; rfl
  · intro h i hi
    rw [BitVec.getLsbD_and, BitVec.getLsbD_not, BitVec.getLsbD_ofNat, BitVec.getLsbD_ofNat, show decide (i < 64) = true by simpa using hi, Bool.true_and, Bool.true_and, Bool.true_and]
    exact h i
def logL (n : Nat) (l : List Cu) (a b : Nat) : Bool := steadyB n (tabU l (2 ^ n)) a b && (betL n l a b == 2)
def logC (n : Int) (l : List Cu) (f t : Int) : Bool := if givC n l f t = 0 then logL n.toNat l f.toNat t.toNat else false
def LogS : Spec := fnS (fun x : Int × List Cu × Int × Int => [iA x.1, csA x.2.1, xA x.2.2.1 x.2.2.2]) (fun x => x.2.1.length ≤ 1000000) (fun x => .tup [bP (logC x.1 x.2.1 x.2.2.1 x.2.2.2), iP (givC x.1 x.2.1 x.2.2.1 x.2.2.2)])
theorem hLog_ok : FnOk Tryz.prog 42 LogS := by
  refine fnOk (Tb := tab) mixed tab_ok Tryz.func42 rfl rfl ?_
  rintro ⟨n, l, f, t⟩ hpre
  refine ai (ai rfl (ai rfl rfl)) ?_
  have hl0 : l.length ≤ 1000000 := hpre
  refine ei _ (ai hgiv_ok (ei ((n, l, f, t)) (ei [] (ai (ai rfl (ai rfl (ai rfl (ai rfl (ai (fun _ => Or.inl rfl) (ai (by first | exact nof | exact (fun _ => ai rfl rfl)) (by first | exact Or.inl rfl | exact Or.inr rfl))))))) (ai (by (repeat' (first | with_reducible rfl | exact trivial | refine ai ?_ ?_ | (show (_ : Int) = _; first | with_reducible rfl | exact wr1 (by omega) | (simp only [zz, reduceCtorEq] <;> first | done | rfl | omega) | omega | rfl) | exact rfl | exact (fun _ => rfl) | exact (fun _ _ => rfl) | exact nof))) (ai trivial (ai (hpre) ?_)))))))
  refine bcase_n (p := givC n l f t = 0) (by first | (with_reducible refine bif_lt ?_; omega) | (with_reducible refine bif_le ?_; omega) | (with_reducible refine bif_eq ?_; omega) | (with_reducible refine bif_ne ?_; omega) | exact b8_eq rfl | exact b8_ne rfl | exact bif_lt (by omega) | exact bif_le (by omega) | exact bif_eq (by omega) | exact bif_ne (by omega) | exact Iff.rfl | (simp only [zz, reduceCtorEq] <;> first | done | omega | exact Iff.rfl) | (simp; done) | (simp; omega)) (fun h1 => ?_) (fun h1 => ?_)
  · skip
    refine ai (ai (fun _ => (by (repeat' (first | exact rfl | exact trivial | exact (fun _ => rfl) | exact (fun _ _ => rfl) | exact nof | refine ai ?_ ?_)))) ?_) trivial
    show ple _ (.tup [bP (logC n l f t), iP (givC n l f t)])
    rw [show logC n l f t = false by simp [logC, h1]]
    any_goals (repeat' (first | with_reducible rfl | exact trivial | refine ai ?_ ?_ | (show (_ : Int) = _; first | with_reducible rfl | exact wr1 (by omega) | (simp only [zz, reduceCtorEq] <;> first | done | rfl | omega) | omega | rfl) | exact rfl | exact (fun _ => rfl) | exact (fun _ _ => rfl) | exact nof))
  obtain ⟨_, n, a, b, hn, rfl, rfl, rfl, ha, hb, hl, hall⟩ := giv_zero h1
  have h64 := pow_le64 hn
  obtain ⟨T, hT⟩ : ∃ T, tabU l (2 ^ n) = T := ⟨_, rfl⟩
  have ht := fnS_at htable_ok (n, l) ⟨hn, hl0⟩ (r := tP ⟨n, T⟩) (by show tP ⟨n, tabU l (2 ^ n)⟩ = _; rw [hT])
  refine ei _ (ai ht (ei (()) (ei [] (ai (ai rfl (ai rfl (ai rfl (ai rfl (ai (fun _ => Or.inl rfl) (ai (by first | exact nof | exact (fun _ => ai rfl rfl)) (by first | exact Or.inl rfl | exact Or.inr rfl))))))) (ai (by (repeat' (first | with_reducible rfl | exact trivial | refine ai ?_ ?_ | (show (_ : Int) = _; first | with_reducible rfl | exact wr1 (by omega) | (simp only [zz, reduceCtorEq] <;> first | done | rfl | omega) | omega | rfl) | exact rfl | exact (fun _ => rfl) | exact (fun _ _ => rfl) | exact nof))) (ai trivial (ai (trivial) ?_)))))))
  have hlog : logC n l a b = (((List.range (2 ^ n)).all fun k => !(onAt n a b k && T.getLsbD k != T.getLsbD a)) && (betL n l a b == 2)) := by
    simp only [logC, h1, if_true, Int.toNat_natCast]; rw [logL, steady_range, hT]
  repeat (refine ai (by first | exact Int.natCast_nonneg _ | omega | exact ai (Int.natCast_nonneg _) (by omega)) ?_)
  refine ei (LAnn.inv { X := Nat, up := fun k => [(23, .s (iA k))], uo := fun k => [], inv := fun k => k ≤ 2 ^ n ∧ ((List.range k).all (fun k => !(onAt n a b k && T.getLsbD k != T.getLsbD a)) = true), meas := fun k => 2 ^ n - k, x0 := 0 }) ?_
  refine ai (ai (ai (by (repeat' (first | exact rfl | exact trivial | exact (fun _ => rfl) | exact (fun _ _ => rfl) | exact nof | refine ai ?_ ?_))) (ai (by (repeat' (first | with_reducible rfl | exact trivial | refine ai ?_ ?_ | (show (_ : Int) = _; first | with_reducible rfl | exact wr1 (by omega) | (simp only [zz, reduceCtorEq] <;> first | done | rfl | omega) | omega | rfl) | exact rfl | exact (fun _ => rfl) | exact (fun _ _ => rfl) | exact nof))) (by (repeat' (first | with_reducible rfl | exact trivial | refine ai ?_ ?_ | (show (_ : Int) = _; first | with_reducible rfl | exact wr1 (by omega) | (simp only [zz, reduceCtorEq] <;> first | done | rfl | omega) | omega | rfl) | exact rfl | exact (fun _ => rfl) | exact (fun _ _ => rfl) | exact nof))))) rfl) (ai (ai (Nat.zero_le _) ?_) ?_)
  · rfl
  intro (k : Nat) ⟨hk, hst⟩
  refine bcase_p (p := k < 2 ^ n) (by show decide ((k : Int) < IntKind.i64.wrap (1 * 2 ^ min (n : Int).toNat IntKind.i64.bits)) = true ↔ _; rw [pow6 hn, decide_eq_true_iff]; omega) (fun h2 => ?_) (fun h2 => ?_)
  · have hs1 : (List.range (k + 1)).all (fun k => !(onAt n a b k && T.getLsbD k != T.getLsbD a)) = !(onAt n a b k && T.getLsbD k != T.getLsbD a) := by rw [allR_succ, hst, Bool.true_and]
    refine ei [0, 1, 2, 3, 4, 5, 6, 7, 8, 9, 10, 11, 12, 13, 15, 16, 17, 14, 18, 19, 20] (ai (by kernel_rfl) ?_)
    refine bcase_p (p := onAt n a b k = true) (by exact logic_cond hn ha hb h2) (fun h3 => ?_) (fun h3 => ?_)
    · skip
      refine ei _ (ai hvalue_ok (ei ((⟨n, T⟩, k)) (ei [] (ai (ai rfl (ai rfl (ai rfl (ai rfl (ai (fun _ => Or.inl rfl) (ai (by first | exact nof | exact (fun _ => ai rfl rfl)) (by first | exact Or.inl rfl | exact Or.inr rfl))))))) (ai (by (repeat' (first | with_reducible rfl | exact trivial | refine ai ?_ ?_ | (show (_ : Int) = _; first | with_reducible rfl | exact wr1 (by omega) | (simp only [zz, reduceCtorEq] <;> first | done | rfl | omega) | omega | rfl) | exact rfl | exact (fun _ => rfl) | exact (fun _ _ => rfl) | exact nof))) (ai trivial (ai (trivial) ?_)))))))
      refine ei _ (ai hvalue_ok (ei ((⟨n, T⟩, a)) (ei [] (ai (ai rfl (ai rfl (ai rfl (ai rfl (ai (fun _ => Or.inl rfl) (ai (by first | exact nof | exact (fun _ => ai rfl rfl)) (by first | exact Or.inl rfl | exact Or.inr rfl))))))) (ai (by (repeat' (first | with_reducible rfl | exact trivial | refine ai ?_ ?_ | (show (_ : Int) = _; first | with_reducible rfl | exact wr1 (by omega) | (simp only [zz, reduceCtorEq] <;> first | done | rfl | omega) | omega | rfl) | exact rfl | exact (fun _ => rfl) | exact (fun _ _ => rfl) | exact nof))) (ai trivial (ai (trivial) ?_)))))))
      refine bcase_b (b := T.getLsbD k != T.getLsbD a) (by first | exact rfl | (simp only [zz, reduceCtorEq] <;> first | done | exact rfl)) (fun h4 => ?_) (fun h4 => ?_)
      · have hf : ((List.range (2 ^ n)).all fun k => !(onAt n a b k && T.getLsbD k != T.getLsbD a)) = false := by
          cases h : (List.range (2 ^ n)).all fun k => !(onAt n a b k && T.getLsbD k != T.getLsbD a) with
          | false => rfl
          | true =>
            have := List.all_eq_true.1 h k (List.mem_range.2 h2)
            rw [h3, h4] at this; cases this
        refine ai (ai (fun _ => (by (repeat' (first | exact rfl | exact trivial | exact (fun _ => rfl) | exact (fun _ _ => rfl) | exact nof | refine ai ?_ ?_)))) ?_) trivial
        show ple _ (.tup [bP (logC n l a b), iP (givC n l a b)])
        rw [show logC n l a b = false by rw [hlog, hf]; rfl, h1]
        any_goals (repeat' (first | with_reducible rfl | exact trivial | refine ai ?_ ?_ | (show (_ : Int) = _; first | with_reducible rfl | exact wr1 (by omega) | (simp only [zz, reduceCtorEq] <;> first | done | rfl | omega) | omega | rfl) | exact rfl | exact (fun _ => rfl) | exact (fun _ _ => rfl) | exact nof))
      · skip
        refine ei (k + 1) (ai (ai rfl rfl) (ai (ai ?_ rfl) (ai (ai (by show k + 1 ≤ 2 ^ n; omega) ?_) (by show 2 ^ n - (k + 1) < 2 ^ n - k; omega))))
        any_goals (repeat' (first | with_reducible rfl | exact trivial | refine ai ?_ ?_ | (show (_ : Int) = _; first | with_reducible rfl | exact wr1 (by omega) | (simp only [zz, reduceCtorEq] <;> first | done | rfl | omega) | omega | rfl) | exact rfl | exact (fun _ => rfl) | exact (fun _ _ => rfl) | exact nof))
        show (List.range (k + 1)).all _ = true
        rw [hs1, h4, Bool.and_false]; rfl
    · skip
      refine ei (k + 1) (ai (ai rfl rfl) (ai (ai ?_ rfl) (ai (ai (by show k + 1 ≤ 2 ^ n; omega) ?_) (by show 2 ^ n - (k + 1) < 2 ^ n - k; omega))))
      any_goals (repeat' (first | with_reducible rfl | exact trivial | refine ai ?_ ?_ | (show (_ : Int) = _; first | with_reducible rfl | exact wr1 (by omega) | (simp only [zz, reduceCtorEq] <;> first | done | rfl | omega) | omega | rfl) | exact rfl | exact (fun _ => rfl) | exact (fun _ _ => rfl) | exact nof))
      show (List.range (k + 1)).all _ = true
      rw [hs1, show onAt n a b k = false by simpa using h3]; rfl
  · obtain rfl : k = 2 ^ n := by omega
    refine ei _ (ai hbet_ok (ei ((n, l, a, b)) (ei [] (ai (ai rfl (ai rfl (ai rfl (ai rfl (ai (fun _ => Or.inl rfl) (ai (by first | exact nof | exact (fun _ => ai rfl rfl)) (by first | exact Or.inl rfl | exact Or.inr rfl))))))) (ai (by (repeat' (first | with_reducible rfl | exact trivial | refine ai ?_ ?_ | (show (_ : Int) = _; first | with_reducible rfl | exact wr1 (by omega) | (simp only [zz, reduceCtorEq] <;> first | done | rfl | omega) | omega | rfl) | exact rfl | exact (fun _ => rfl) | exact (fun _ _ => rfl) | exact nof))) (ai trivial (ai (⟨hn, hl0, hall, ha, hb⟩) ?_)))))))
    refine ai (ai (fun _ => (by (repeat' (first | exact rfl | exact trivial | exact (fun _ => rfl) | exact (fun _ _ => rfl) | exact nof | refine ai ?_ ?_)))) ?_) trivial
    show ple _ (.tup [bP (logC n l a b), iP (givC n l a b)])
    rw [show logC n l a b = (betL n l a b == 2) by rw [hlog, hst, Bool.true_and], h1]
    any_goals (repeat' (first | with_reducible rfl | exact trivial | refine ai ?_ ?_ | (show (_ : Int) = _; first | with_reducible rfl | exact wr1 (by omega) | (simp only [zz, reduceCtorEq] <;> first | done | rfl | omega) | omega | rfl) | exact rfl | exact (fun _ => rfl) | exact (fun _ _ => rfl) | exact nof))
def stS : Spec := fnS (fun x : Nat × U × Nat × Nat => [tA ⟨x.1, x.2.1⟩, iA x.2.2.1, iA x.2.2.2]) (fun x => x.1 ≤ 6 ∧ x.2.2.1 < 2 ^ x.1 ∧ x.2.2.2 < 2 ^ x.1) (fun x => bP (steadyB x.1 x.2.1 x.2.2.1 x.2.2.2))
def rLogS : Spec := fnS (fun x : Int × List Cu × Int × Int => [iA x.1, csA x.2.1, iA x.2.2.1, iA x.2.2.2]) (fun x => x.2.1.length ≤ 1000000) (fun x => .tup [bP (logC x.1 x.2.1 x.2.2.1 x.2.2.2), iP (givC x.1 x.2.1 x.2.2.1 x.2.2.2)])
end Go.Sx.Pn
