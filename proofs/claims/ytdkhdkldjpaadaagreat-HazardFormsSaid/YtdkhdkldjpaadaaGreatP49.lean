/- Contracts of chapter 8: points on the way, pairs and hazards of the reference. -/
import Derived.Test.YtdkhdkldjpaadaaGreatP48
set_option maxHeartbeats 1000000
set_option maxRecDepth 4000
set_option linter.unusedSimpArgs false
set_option linter.unusedVariables false
namespace Go.Sx.Pn
open Go Go.Proofs

theorem hasb {k i : Nat} (hk : k < 9223372036854775808) (hi : i ≤ 63) : (bits .and .i64 ((k : Int).fdiv (2 ^ min (i : Int).toNat IntKind.i64.bits)) 1 == 1) = k.testBit i := by
  have e1 : (k : Int).fdiv (2 ^ min (i : Int).toNat IntKind.i64.bits) = ((k / 2 ^ i : Nat) : Int) := by
    have : min (i : Int).toNat IntKind.i64.bits = i := by show min i 64 = i; omega
    rw [this, show ((2 : Int) ^ i) = ((2 ^ i : Nat) : Int) by rw [Int.natCast_pow]; rfl]
    exact (Int.ofNat_fdiv k (2 ^ i)).symm
  have e2 := i_and (a := k / 2 ^ i) (b := 1) (Nat.lt_of_le_of_lt (Nat.div_le_self _ _) hk)
  rw [e1]
  show (bits .and .i64 ((k / 2 ^ i : Nat) : Int) ((1 : Nat) : Int) == 1) = _
  rw [e2, BitVec.toNat_and, BitVec.toNat_ofNat, BitVec.toNat_ofNat, Nat.testBit_eq_decide_div_mod_eq]
  rw [Nat.mod_eq_of_lt (show k / 2 ^ i < 2 ^ 64 from Nat.lt_of_le_of_lt (Nat.div_le_self _ _) (by omega)), show 1 % 2 ^ 64 = 1 from rfl, Nat.and_one_is_mod]
  rw [Bool.eq_iff_iff, beq_iff_eq, decide_eq_true_iff]
  omega
def hasBS : Spec := fnS (fun x : Nat × Nat => [iA x.1, iA x.2]) (fun x => x.1 < 64 ∧ x.2 < 64) (fun x => bP (x.1.testBit x.2))
theorem rhas_ok : FnOk Tryz.prog 29 hasBS := by
  refine fnOk (Tb := tab) mixed tab_ok Tryz.func29 rfl rfl ?_
  rintro ⟨k, i⟩ hpre
  refine ai (ai rfl (ai rfl rfl)) ?_
  obtain ⟨hk, hi⟩ : k < 64 ∧ i < 64 := hpre
  repeat (refine ai (by first | exact Int.natCast_nonneg _ | omega | exact ai (Int.natCast_nonneg _) (by omega)) ?_)
  refine ai (ai (fun _ => (by (repeat' (first | exact rfl | exact trivial | exact (fun _ => rfl) | exact (fun _ _ => rfl) | exact nof | refine ai ?_ ?_)))) ?_) trivial
  exact hasb (by omega) (by omega)

theorem allR_succ (f : Nat → Bool) (i : Nat) : (List.range (i + 1)).all f = ((List.range i).all f && f i) := by
  rw [List.range_succ, List.all_append]; simp
def onF (a b k : Nat) (i : Nat) : Bool := !(a.testBit i == b.testBit i && k.testBit i != a.testBit i)
def onTo (n a b m : Nat) : List Nat := (List.range m).filter (onAt n a b)
def onS : Spec := fnS (fun x : Nat × Nat × Nat => [iA x.1, iA x.2.1, iA x.2.2]) (fun x => x.1 ≤ 6 ∧ x.2.1 < 64 ∧ x.2.2 < 64) (fun x => nsP (onL x.1 x.2.1 x.2.2))
theorem on_ok : FnOk Tryz.prog 166 onS := by
  refine fnOk (Tb := tab) mixed tab_ok Tryz.func166 rfl rfl ?_
  rintro ⟨n, a, b⟩ hpre
  refine ai (ai rfl (ai rfl rfl)) ?_
  obtain ⟨hn, ha, hb⟩ : n ≤ 6 ∧ a < 64 ∧ b < 64 := hpre
  have h64 := pow_le64 hn
  refine ei (LAnn.inv { X := Nat, up := fun k => [(8, .s (iA k)), (7, rowN (onTo n a b k))], uo := fun k => [], inv := fun k => k ≤ 2 ^ n ∧ (True), meas := fun k => 2 ^ n - k, x0 := 0 }) ?_
  refine ai (ai (ai (by (repeat' (first | exact rfl | exact trivial | exact (fun _ => rfl) | exact (fun _ _ => rfl) | exact nof | refine ai ?_ ?_))) (ai (by (repeat' (first | with_reducible rfl | exact trivial | refine ai ?_ ?_ | (show (_ : Int) = _; first | with_reducible rfl | exact wr1 (by omega) | (simp only [zz, reduceCtorEq] <;> first | done | rfl | omega) | omega | rfl) | exact rfl | exact (fun _ => rfl) | exact (fun _ _ => rfl) | exact nof))) (by (repeat' (first | with_reducible rfl | exact trivial | refine ai ?_ ?_ | (show (_ : Int) = _; first | with_reducible rfl | exact wr1 (by omega) | (simp only [zz, reduceCtorEq] <;> first | done | rfl | omega) | omega | rfl) | exact rfl | exact (fun _ => rfl) | exact (fun _ _ => rfl) | exact nof))))) rfl) (ai (ai (Nat.zero_le _) ?_) ?_)
  · trivial
  intro (k : Nat) ⟨hk, _⟩
  refine ei _ (ai size_ok (ei (n) (ei [] (ai (ai rfl (ai rfl (ai rfl (ai rfl (ai (fun _ => Or.inl rfl) (ai (by first | exact nof | exact (fun _ => ai rfl rfl)) (by first | exact Or.inl rfl | exact Or.inr rfl))))))) (ai (by (repeat' (first | with_reducible rfl | exact trivial | refine ai ?_ ?_ | (show (_ : Int) = _; first | with_reducible rfl | exact wr1 (by omega) | (simp only [zz, reduceCtorEq] <;> first | done | rfl | omega) | omega | rfl) | exact rfl | exact (fun _ => rfl) | exact (fun _ _ => rfl) | exact nof))) (ai trivial (ai (hn) ?_)))))))
  refine bcase_p (p := k < 2 ^ n) (by first | (with_reducible refine bif_lt ?_; omega) | (with_reducible refine bif_le ?_; omega) | (with_reducible refine bif_eq ?_; omega) | (with_reducible refine bif_ne ?_; omega) | exact b8_eq rfl | exact b8_ne rfl | exact bif_lt (by omega) | exact bif_le (by omega) | exact bif_eq (by omega) | exact bif_ne (by omega) | exact Iff.rfl | (simp only [zz, reduceCtorEq] <;> first | done | omega | exact Iff.rfl) | (simp; done) | (simp; omega)) (fun h1 => ?_) (fun h1 => ?_)
  · skip
    refine ei (LAnn.inv { X := Nat, up := fun i => [(10, .s (iA i)), (9, .s (bA ((List.range i).all (onF a b k))))], uo := fun i => [], inv := fun i => i ≤ n ∧ (True), meas := fun i => n - i, x0 := 0 }) ?_
    refine ai (ai (ai (by (repeat' (first | exact rfl | exact trivial | exact (fun _ => rfl) | exact (fun _ _ => rfl) | exact nof | refine ai ?_ ?_))) (ai (by (repeat' (first | with_reducible rfl | exact trivial | refine ai ?_ ?_ | (show (_ : Int) = _; first | with_reducible rfl | exact wr1 (by omega) | (simp only [zz, reduceCtorEq] <;> first | done | rfl | omega) | omega | rfl) | exact rfl | exact (fun _ => rfl) | exact (fun _ _ => rfl) | exact nof))) (by (repeat' (first | with_reducible rfl | exact trivial | refine ai ?_ ?_ | (show (_ : Int) = _; first | with_reducible rfl | exact wr1 (by omega) | (simp only [zz, reduceCtorEq] <;> first | done | rfl | omega) | omega | rfl) | exact rfl | exact (fun _ => rfl) | exact (fun _ _ => rfl) | exact nof))))) rfl) (ai (ai (Nat.zero_le _) ?_) ?_)
    · trivial
    intro (i : Nat) ⟨hi, _⟩
    refine bcase_p (p := i < n) (by first | (with_reducible refine bif_lt ?_; omega) | (with_reducible refine bif_le ?_; omega) | (with_reducible refine bif_eq ?_; omega) | (with_reducible refine bif_ne ?_; omega) | exact b8_eq rfl | exact b8_ne rfl | exact bif_lt (by omega) | exact bif_le (by omega) | exact bif_eq (by omega) | exact bif_ne (by omega) | exact Iff.rfl | (simp only [zz, reduceCtorEq] <;> first | done | omega | exact Iff.rfl) | (simp; done) | (simp; omega)) (fun h2 => ?_) (fun h2 => ?_)
    · skip
      refine ei _ (ai rhas_ok (ei ((a, i)) (ei [] (ai (ai rfl (ai rfl (ai rfl (ai rfl (ai (fun _ => Or.inl rfl) (ai (by first | exact nof | exact (fun _ => ai rfl rfl)) (by first | exact Or.inl rfl | exact Or.inr rfl))))))) (ai (by (repeat' (first | with_reducible rfl | exact trivial | refine ai ?_ ?_ | (show (_ : Int) = _; first | with_reducible rfl | exact wr1 (by omega) | (simp only [zz, reduceCtorEq] <;> first | done | rfl | omega) | omega | rfl) | exact rfl | exact (fun _ => rfl) | exact (fun _ _ => rfl) | exact nof))) (ai trivial (ai (⟨ha, by show i < 64; omega⟩) ?_)))))))
      refine ei _ (ai rhas_ok (ei ((b, i)) (ei [] (ai (ai rfl (ai rfl (ai rfl (ai rfl (ai (fun _ => Or.inl rfl) (ai (by first | exact nof | exact (fun _ => ai rfl rfl)) (by first | exact Or.inl rfl | exact Or.inr rfl))))))) (ai (by (repeat' (first | with_reducible rfl | exact trivial | refine ai ?_ ?_ | (show (_ : Int) = _; first | with_reducible rfl | exact wr1 (by omega) | (simp only [zz, reduceCtorEq] <;> first | done | rfl | omega) | omega | rfl) | exact rfl | exact (fun _ => rfl) | exact (fun _ _ => rfl) | exact nof))) (ai trivial (ai (⟨hb, by show i < 64; omega⟩) ?_)))))))
      refine bcase_b (b := a.testBit i == b.testBit i) (by first | exact rfl | (simp only [zz, reduceCtorEq] <;> first | done | exact rfl)) (fun h3 => ?_) (fun h3 => ?_)
      · skip
        refine ei _ (ai rhas_ok (ei ((k, i)) (ei [] (ai (ai rfl (ai rfl (ai rfl (ai rfl (ai (fun _ => Or.inl rfl) (ai (by first | exact nof | exact (fun _ => ai rfl rfl)) (by first | exact Or.inl rfl | exact Or.inr rfl))))))) (ai (by (repeat' (first | with_reducible rfl | exact trivial | refine ai ?_ ?_ | (show (_ : Int) = _; first | with_reducible rfl | exact wr1 (by omega) | (simp only [zz, reduceCtorEq] <;> first | done | rfl | omega) | omega | rfl) | exact rfl | exact (fun _ => rfl) | exact (fun _ _ => rfl) | exact nof))) (ai trivial (ai (⟨by show k < 64; omega, by show i < 64; omega⟩) ?_)))))))
        refine ei _ (ai rhas_ok (ei ((a, i)) (ei [] (ai (ai rfl (ai rfl (ai rfl (ai rfl (ai (fun _ => Or.inl rfl) (ai (by first | exact nof | exact (fun _ => ai rfl rfl)) (by first | exact Or.inl rfl | exact Or.inr rfl))))))) (ai (by (repeat' (first | with_reducible rfl | exact trivial | refine ai ?_ ?_ | (show (_ : Int) = _; first | with_reducible rfl | exact wr1 (by omega) | (simp only [zz, reduceCtorEq] <;> first | done | rfl | omega) | omega | rfl) | exact rfl | exact (fun _ => rfl) | exact (fun _ _ => rfl) | exact nof))) (ai trivial (ai (⟨ha, by show i < 64; omega⟩) ?_)))))))
        refine bcase_b (b := k.testBit i != a.testBit i) (by first | exact rfl | (simp only [zz, reduceCtorEq] <;> first | done | exact rfl)) (fun h4 => ?_) (fun h4 => ?_)
        · skip
          refine ei (i + 1) (ai (ai rfl rfl) (ai (ai ?_ rfl) (ai (ai (by show i + 1 ≤ n; omega) ?_) (by show n - (i + 1) < n - i; omega))))
          any_goals (repeat' (first | with_reducible rfl | exact trivial | refine ai ?_ ?_ | (show (_ : Int) = _; first | with_reducible rfl | exact wr1 (by omega) | (simp only [zz, reduceCtorEq] <;> first | done | rfl | omega) | omega | rfl) | exact rfl | exact (fun _ => rfl) | exact (fun _ _ => rfl) | exact nof))
          show false = (List.range (i + 1)).all (onF a b k)
          rw [allR_succ, onF, h3, h4]; simp
        · skip
          refine ei (i + 1) (ai (ai rfl rfl) (ai (ai ?_ rfl) (ai (ai (by show i + 1 ≤ n; omega) ?_) (by show n - (i + 1) < n - i; omega))))
          any_goals (repeat' (first | with_reducible rfl | exact trivial | refine ai ?_ ?_ | (show (_ : Int) = _; first | with_reducible rfl | exact wr1 (by omega) | (simp only [zz, reduceCtorEq] <;> first | done | rfl | omega) | omega | rfl) | exact rfl | exact (fun _ => rfl) | exact (fun _ _ => rfl) | exact nof))
          show (List.range i).all (onF a b k) = (List.range (i + 1)).all (onF a b k)
          rw [allR_succ, onF, h3, h4]; simp
      · skip
        refine ei (i + 1) (ai (ai rfl rfl) (ai (ai ?_ rfl) (ai (ai (by show i + 1 ≤ n; omega) ?_) (by show n - (i + 1) < n - i; omega))))
        any_goals (repeat' (first | with_reducible rfl | exact trivial | refine ai ?_ ?_ | (show (_ : Int) = _; first | with_reducible rfl | exact wr1 (by omega) | (simp only [zz, reduceCtorEq] <;> first | done | rfl | omega) | omega | rfl) | exact rfl | exact (fun _ => rfl) | exact (fun _ _ => rfl) | exact nof))
        show (List.range i).all (onF a b k) = (List.range (i + 1)).all (onF a b k)
        rw [allR_succ, onF, h3]; simp
    · obtain rfl : n = i := by omega
      refine bcase_b (b := onAt n a b k) (by first | exact rfl | (simp only [zz, reduceCtorEq] <;> first | done | exact rfl)) (fun h3 => ?_) (fun h3 => ?_)
      · have hlen : (onTo n a b k).length ≤ k := filt_len _ k
        refine ai (ai (by show (onTo n a b k).length + 1 ≤ maxLen; unfold maxLen; omega) (by show ((onTo n a b k).length + 1) * 8 ≤ 140737488355328; omega)) ?_
        refine ai (fun k hk => by
          have hk : k < 1 := hk
          obtain rfl : k = 0 := by omega
          rfl) ?_
        refine ei (k + 1) (ai (ai rfl rfl) (ai (ai ?_ rfl) (ai (ai (by show k + 1 ≤ 2 ^ n; omega) ?_) (by show 2 ^ n - (k + 1) < 2 ^ n - k; omega))))
        any_goals (repeat' (first | with_reducible rfl | exact trivial | refine ai ?_ ?_ | (show (_ : Int) = _; first | with_reducible rfl | exact wr1 (by omega) | (simp only [zz, reduceCtorEq] <;> first | done | rfl | omega) | omega | rfl) | exact rfl | exact (fun _ => rfl) | exact (fun _ _ => rfl) | exact nof))
        · exact app_len (filt_yes h3)
        · exact join_app (fun i : Nat => [iP (i : Int)]) 0 (filt_yes h3) _ rfl
      · skip
        refine ei (k + 1) (ai (ai rfl rfl) (ai (ai ?_ rfl) (ai (ai (by show k + 1 ≤ 2 ^ n; omega) ?_) (by show 2 ^ n - (k + 1) < 2 ^ n - k; omega))))
        any_goals (repeat' (first | with_reducible rfl | exact trivial | refine ai ?_ ?_ | (show (_ : Int) = _; first | with_reducible rfl | exact wr1 (by omega) | (simp only [zz, reduceCtorEq] <;> first | done | rfl | omega) | omega | rfl) | exact rfl | exact (fun _ => rfl) | exact (fun _ _ => rfl) | exact nof))
        · exact congrArg List.length (filt_no h3)
        · exact row_same (fun i : Nat => [iP (i : Int)]) 0 (filt_no h3)
  · obtain rfl : k = 2 ^ n := by omega
    refine ai (ai (fun _ => (by (repeat' (first | exact rfl | exact trivial | exact (fun _ => rfl) | exact (fun _ _ => rfl) | exact nof | refine ai ?_ ?_)))) ?_) trivial
    any_goals (repeat' (first | with_reducible rfl | exact trivial | refine ai ?_ ?_ | (show (_ : Int) = _; first | with_reducible rfl | exact wr1 (by omega) | (simp only [zz, reduceCtorEq] <;> first | done | rfl | omega) | omega | rfl) | exact rfl | exact (fun _ => rfl) | exact (fun _ _ => rfl) | exact nof))
theorem on_len_le (n a b : Nat) : (onL n a b).length ≤ 2 ^ n := filt_len _ _

def pairsS : Spec := fnS (fun x : Nat × U => [tA ⟨x.1, x.2⟩]) (fun x => x.1 ≤ 6) (fun x => prsP (pairsL x.1 x.2))
theorem rpairs_ok : FnOk Tryz.prog 144 pairsS := by
  refine fnOk (Tb := tab) mixed tab_ok Tryz.func144 rfl rfl ?_
  rintro ⟨n, t⟩ hpre
  refine ai (ai rfl (ai rfl rfl)) ?_
  have hn : n ≤ 6 := hpre
  have h64 := pow_le64 hn
  refine ei (LAnn.inv { X := Nat, up := fun a => [(4, .s (iA a)), (3, rowPr (pairsTo n t a))], uo := fun a => [], inv := fun a => a ≤ 2 ^ n ∧ (True), meas := fun a => 2 ^ n - a, x0 := 0 }) ?_
  refine ai (ai (ai (by (repeat' (first | exact rfl | exact trivial | exact (fun _ => rfl) | exact (fun _ _ => rfl) | exact nof | refine ai ?_ ?_))) (ai (by (repeat' (first | with_reducible rfl | exact trivial | refine ai ?_ ?_ | (show (_ : Int) = _; first | with_reducible rfl | exact wr1 (by omega) | (simp only [zz, reduceCtorEq] <;> first | done | rfl | omega) | omega | rfl) | exact rfl | exact (fun _ => rfl) | exact (fun _ _ => rfl) | exact nof))) (by (repeat' (first | with_reducible rfl | exact trivial | refine ai ?_ ?_ | (show (_ : Int) = _; first | with_reducible rfl | exact wr1 (by omega) | (simp only [zz, reduceCtorEq] <;> first | done | rfl | omega) | omega | rfl) | exact rfl | exact (fun _ => rfl) | exact (fun _ _ => rfl) | exact nof))))) rfl) (ai (ai (Nat.zero_le _) ?_) ?_)
  · trivial
  intro (a : Nat) ⟨ha, _⟩
  refine ei _ (ai size_ok (ei (n) (ei [] (ai (ai rfl (ai rfl (ai rfl (ai rfl (ai (fun _ => Or.inl rfl) (ai (by first | exact nof | exact (fun _ => ai rfl rfl)) (by first | exact Or.inl rfl | exact Or.inr rfl))))))) (ai (by (repeat' (first | with_reducible rfl | exact trivial | refine ai ?_ ?_ | (show (_ : Int) = _; first | with_reducible rfl | exact wr1 (by omega) | (simp only [zz, reduceCtorEq] <;> first | done | rfl | omega) | omega | rfl) | exact rfl | exact (fun _ => rfl) | exact (fun _ _ => rfl) | exact nof))) (ai trivial (ai (hn) ?_)))))))
  refine bcase_p (p := a < 2 ^ n) (by first | (with_reducible refine bif_lt ?_; omega) | (with_reducible refine bif_le ?_; omega) | (with_reducible refine bif_eq ?_; omega) | (with_reducible refine bif_ne ?_; omega) | exact b8_eq rfl | exact b8_ne rfl | exact bif_lt (by omega) | exact bif_le (by omega) | exact bif_eq (by omega) | exact bif_ne (by omega) | exact Iff.rfl | (simp only [zz, reduceCtorEq] <;> first | done | omega | exact Iff.rfl) | (simp; done) | (simp; omega)) (fun h1 => ?_) (fun h1 => ?_)
  · have hp1 := pairsTo_len n t a
    have hmul : a * n ≤ 64 * 6 := Nat.mul_le_mul (by omega) hn
    refine ei (LAnn.inv { X := Nat, up := fun d => [(5, .s (iA (a + 1 + d : Nat))), (3, rowPr (pairsTo n t a ++ rrowTo n t a d))], uo := fun _ => [], inv := fun d => a + 1 + d ≤ 2 ^ n, meas := fun d => 2 ^ n - d, x0 := 0 }) ?_
    refine ai (ai (ai (by (repeat' (first | exact rfl | exact trivial | exact (fun _ => rfl) | exact (fun _ _ => rfl) | exact nof | refine ai ?_ ?_))) (ai ?_ ?_)) ?_) (ai ?_ ?_)
    · skip
      (repeat' (first | exact rfl | exact trivial | exact (fun _ => rfl) | exact (fun _ _ => rfl) | exact nof | refine ai ?_ ?_))
      · exact wr1 (by omega)
      · exact congrArg List.length (List.append_nil (pairsTo n t a)).symm
      · exact row_same prCells (0, 0) (List.append_nil (pairsTo n t a)).symm
    · skip
      (repeat' (first | exact rfl | exact trivial | exact (fun _ => rfl) | exact (fun _ _ => rfl) | exact nof | refine ai ?_ ?_))
    · rfl
    · show a + 1 + 0 ≤ 2 ^ n; omega
    intro (d : Nat) (hd : a + 1 + d ≤ 2 ^ n)
    refine ei _ (ai size_ok (ei (n) (ei [] (ai (ai rfl (ai rfl (ai rfl (ai rfl (ai (fun _ => Or.inl rfl) (ai (by first | exact nof | exact (fun _ => ai rfl rfl)) (by first | exact Or.inl rfl | exact Or.inr rfl))))))) (ai (by (repeat' (first | with_reducible rfl | exact trivial | refine ai ?_ ?_ | (show (_ : Int) = _; first | with_reducible rfl | exact wr1 (by omega) | (simp only [zz, reduceCtorEq] <;> first | done | rfl | omega) | omega | rfl) | exact rfl | exact (fun _ => rfl) | exact (fun _ _ => rfl) | exact nof))) (ai trivial (ai (hn) ?_)))))))
    refine bcase_p (p := a + 1 + d < 2 ^ n) (by show decide (((a + 1 + d : Nat) : Int) < ((2 ^ n : Nat) : Int)) = true ↔ _; rw [decide_eq_true_iff]; omega) (fun h2 => ?_) (fun h2 => ?_)
    · have hlen : (pairsTo n t a ++ rrowTo n t a d).length ≤ 500 := by
        have : (rrowTo n t a d).length ≤ d := by
          have := List.length_filterMap_le (fun d => rpairAt n t a (a + 1 + d)) (List.range d)
          simpa [rrowTo] using this
        rw [List.length_append]; omega
      have no : ¬ (t.getLsbD a = true ∧ t.getLsbD (a + 1 + d) = true ∧ (onL n a (a + 1 + d)).length = 2) → pairsTo n t a ++ rrowTo n t a d = pairsTo n t a ++ rrowTo n t a (d + 1) := fun h => by
        rw [rrowTo_succ, rpairAt, if_neg h]; simp
      have yes : (t.getLsbD a = true ∧ t.getLsbD (a + 1 + d) = true ∧ (onL n a (a + 1 + d)).length = 2) → pairsTo n t a ++ rrowTo n t a (d + 1) = (pairsTo n t a ++ rrowTo n t a d) ++ [(a, a + 1 + d)] := fun h => by
        rw [rrowTo_succ, rpairAt, if_pos h]; simp
      refine ei _ (ai at_ok (ei ((⟨n, t⟩, a)) (ei [] (ai (ai rfl (ai rfl (ai rfl (ai rfl (ai (fun _ => Or.inl rfl) (ai (by first | exact nof | exact (fun _ => ai rfl rfl)) (by first | exact Or.inl rfl | exact Or.inr rfl))))))) (ai (by (repeat' (first | with_reducible rfl | exact trivial | refine ai ?_ ?_ | (show (_ : Int) = _; first | with_reducible rfl | exact wr1 (by omega) | (simp only [zz, reduceCtorEq] <;> first | done | rfl | omega) | omega | rfl) | exact rfl | exact (fun _ => rfl) | exact (fun _ _ => rfl) | exact nof))) (ai trivial (ai (trivial) ?_)))))))
      refine bcase_b (b := t.getLsbD a) (by first | exact rfl | (simp only [zz, reduceCtorEq] <;> first | done | exact rfl)) (fun h3 => ?_) (fun h3 => ?_)
      · skip
        refine ei _ (ai at_ok (ei ((⟨n, t⟩, a + 1 + d)) (ei [] (ai (ai rfl (ai rfl (ai rfl (ai rfl (ai (fun _ => Or.inl rfl) (ai (by first | exact nof | exact (fun _ => ai rfl rfl)) (by first | exact Or.inl rfl | exact Or.inr rfl))))))) (ai (by (repeat' (first | with_reducible rfl | exact trivial | refine ai ?_ ?_ | (show (_ : Int) = _; first | with_reducible rfl | exact wr1 (by omega) | (simp only [zz, reduceCtorEq] <;> first | done | rfl | omega) | omega | rfl) | exact rfl | exact (fun _ => rfl) | exact (fun _ _ => rfl) | exact nof))) (ai trivial (ai (trivial) ?_)))))))
        refine bcase_b (b := t.getLsbD (a + 1 + d)) (by first | exact rfl | (simp only [zz, reduceCtorEq] <;> first | done | exact rfl)) (fun h4 => ?_) (fun h4 => ?_)
        · skip
          refine ei _ (ai on_ok (ei ((n, a, a + 1 + d)) (ei [] (ai (ai rfl (ai rfl (ai rfl (ai rfl (ai (fun _ => Or.inl rfl) (ai (by first | exact nof | exact (fun _ => ai rfl rfl)) (by first | exact Or.inl rfl | exact Or.inr rfl))))))) (ai (by (repeat' (first | with_reducible rfl | exact trivial | refine ai ?_ ?_ | (show (_ : Int) = _; first | with_reducible rfl | exact wr1 (by omega) | (simp only [zz, reduceCtorEq] <;> first | done | rfl | omega) | omega | rfl) | exact rfl | exact (fun _ => rfl) | exact (fun _ _ => rfl) | exact nof))) (ai trivial (ai (⟨hn, by show a < 64; omega, by show a + 1 + d < 64; omega⟩) ?_)))))))
          refine bcase_p (p := (onL n a (a + 1 + d)).length = 2) (by show (((onL n a (a + 1 + d)).length : Int) == 2) = true ↔ _; rw [beq_iff_eq]; omega) (fun h5 => ?_) (fun h5 => ?_)
          · skip
            refine ai (ai (by show (pairsTo n t a ++ rrowTo n t a d).length + 1 ≤ maxLen; unfold maxLen; omega) (by show ((pairsTo n t a ++ rrowTo n t a d).length + 1) * 16 ≤ 140737488355328; omega)) ?_
            refine ai (fun k hk => by
              have hk : k < 1 := hk
              obtain rfl : k = 0 := by omega
              rfl) ?_
            refine ei (d + 1) (ai (ai rfl rfl) (ai (ai ?_ rfl) (ai ?_ ?_)))
            · skip
              (repeat' (first | exact rfl | exact trivial | exact (fun _ => rfl) | exact (fun _ _ => rfl) | exact nof | refine ai ?_ ?_))
              · exact wr1 (by omega)
              · exact app_len (yes ⟨h3, h4, h5⟩)
              · exact join_app prCells (0, 0) (yes ⟨h3, h4, h5⟩) _ rfl
            · show a + 1 + (d + 1) ≤ 2 ^ n; omega
            · show 2 ^ n - (d + 1) < 2 ^ n - d; omega
          · skip
            refine ei (d + 1) (ai (ai rfl rfl) (ai (ai ?_ rfl) (ai ?_ ?_)))
            · skip
              (repeat' (first | exact rfl | exact trivial | exact (fun _ => rfl) | exact (fun _ _ => rfl) | exact nof | refine ai ?_ ?_))
              · exact wr1 (by omega)
              · exact congrArg List.length (no (fun h => h5 h.2.2))
              · exact row_same prCells (0, 0) (no (fun h => h5 h.2.2))
            · show a + 1 + (d + 1) ≤ 2 ^ n; omega
            · show 2 ^ n - (d + 1) < 2 ^ n - d; omega
        · skip
          refine ei (d + 1) (ai (ai rfl rfl) (ai (ai ?_ rfl) (ai ?_ ?_)))
          · skip
            (repeat' (first | exact rfl | exact trivial | exact (fun _ => rfl) | exact (fun _ _ => rfl) | exact nof | refine ai ?_ ?_))
            · exact wr1 (by omega)
            · exact congrArg List.length (no (fun h => by rw [h4] at h; exact absurd h.2.1 (by decide)))
            · exact row_same prCells (0, 0) (no (fun h => by rw [h4] at h; exact absurd h.2.1 (by decide)))
          · show a + 1 + (d + 1) ≤ 2 ^ n; omega
          · show 2 ^ n - (d + 1) < 2 ^ n - d; omega
      · skip
        refine ei (d + 1) (ai (ai rfl rfl) (ai (ai ?_ rfl) (ai ?_ ?_)))
        · skip
          (repeat' (first | exact rfl | exact trivial | exact (fun _ => rfl) | exact (fun _ _ => rfl) | exact nof | refine ai ?_ ?_))
          · exact wr1 (by omega)
          · exact congrArg List.length (no (fun h => by rw [h3] at h; exact absurd h.1 (by decide)))
          · exact row_same prCells (0, 0) (no (fun h => by rw [h3] at h; exact absurd h.1 (by decide)))
        · show a + 1 + (d + 1) ≤ 2 ^ n; omega
        · show 2 ^ n - (d + 1) < 2 ^ n - d; omega
    · have e : d = 2 ^ n - (a + 1) := by omega
      have er : pairsTo n t a ++ rrowTo n t a d = pairsTo n t (a + 1) := by rw [e, row_eq t h1, pairsTo_succ]
      refine ei (a + 1) (ai (ai rfl rfl) (ai (ai ?_ rfl) (ai (ai (by show a + 1 ≤ 2 ^ n; omega) ?_) (by show 2 ^ n - (a + 1) < 2 ^ n - a; omega))))
      any_goals (repeat' (first | with_reducible rfl | exact trivial | refine ai ?_ ?_ | (show (_ : Int) = _; first | with_reducible rfl | exact wr1 (by omega) | (simp only [zz, reduceCtorEq] <;> first | done | rfl | omega) | omega | rfl) | exact rfl | exact (fun _ => rfl) | exact (fun _ _ => rfl) | exact nof))
      · exact congrArg List.length er
      · exact row_same prCells (0, 0) er
  · obtain rfl : a = 2 ^ n := by omega
    refine ai (ai (fun _ => (by (repeat' (first | exact rfl | exact trivial | exact (fun _ => rfl) | exact (fun _ _ => rfl) | exact nof | refine ai ?_ ?_)))) ?_) trivial
    any_goals (repeat' (first | with_reducible rfl | exact trivial | refine ai ?_ ?_ | (show (_ : Int) = _; first | with_reducible rfl | exact wr1 (by omega) | (simp only [zz, reduceCtorEq] <;> first | done | rfl | omega) | omega | rfl) | exact rfl | exact (fun _ => rfl) | exact (fun _ _ => rfl) | exact nof))

theorem filtP_len (f : Nat × Nat → Bool) (L : List (Nat × Nat)) (k : Nat) : ((L.take k).filter f).length ≤ k := by
  have h1 := List.length_filter_le f (L.take k)
  have h2 := List.length_take_le k L
  omega
theorem rbad_ok : FnOk Tryz.prog 112 badS := by
  refine fnOk (Tb := tab) mixed tab_ok Tryz.func112 rfl rfl ?_
  rintro ⟨n, l⟩ hpre
  refine ai (ai rfl (ai rfl rfl)) ?_
  obtain ⟨hn, hl⟩ : n ≤ 6 ∧ l.length ≤ 1000000 := hpre
  have h64 := pow_le64 hn
  obtain ⟨b, hb⟩ : ∃ b, tabU l (2 ^ n) = b := ⟨_, rfl⟩
  have ht := fnS_at rtable_ok (n, l) ⟨hn, hl⟩ (r := tP ⟨n, b⟩) (by show tP ⟨n, tabU l (2 ^ n)⟩ = _; rw [hb])
  refine ei _ (ai ht (ei (()) (ei [] (ai (ai rfl (ai rfl (ai rfl (ai rfl (ai (fun _ => Or.inl rfl) (ai (by first | exact nof | exact (fun _ => ai rfl rfl)) (by first | exact Or.inl rfl | exact Or.inr rfl))))))) (ai (by (repeat' (first | with_reducible rfl | exact trivial | refine ai ?_ ?_ | (show (_ : Int) = _; first | with_reducible rfl | exact wr1 (by omega) | (simp only [zz, reduceCtorEq] <;> first | done | rfl | omega) | omega | rfl) | exact rfl | exact (fun _ => rfl) | exact (fun _ _ => rfl) | exact nof))) (ai trivial (ai (trivial) ?_)))))))
  refine ei _ (ai rpairs_ok (ei ((n, b)) (ei [] (ai (ai rfl (ai rfl (ai rfl (ai rfl (ai (fun _ => Or.inl rfl) (ai (by first | exact nof | exact (fun _ => ai rfl rfl)) (by first | exact Or.inl rfl | exact Or.inr rfl))))))) (ai (by (repeat' (first | with_reducible rfl | exact trivial | refine ai ?_ ?_ | (show (_ : Int) = _; first | with_reducible rfl | exact wr1 (by omega) | (simp only [zz, reduceCtorEq] <;> first | done | rfl | omega) | omega | rfl) | exact rfl | exact (fun _ => rfl) | exact (fun _ _ => rfl) | exact nof))) (ai trivial (ai (hn) ?_)))))))
  have hp1 := pairsTo_len n b (2 ^ n)
  have hmul : 2 ^ n * n ≤ 64 * 6 := Nat.mul_le_mul h64 hn
  obtain ⟨q, hq⟩ : ∃ q, togC l = q := ⟨_, rfl⟩
  have hbad : badL n l = keptL q (pairsL n b) (pairsL n b).length := by rw [kept_all, ← hq, ← hb]; rfl
  have hpl : (pairsL n b).length ≤ 400 := by show (pairsTo n b (2 ^ n)).length ≤ 400; omega
  have hg := rtog_ok
  refine ei (LAnn.inv { X := Nat, up := fun j => [(7, .s (iA j)), (6, rowPr (keptL q (pairsL n b) j))], uo := fun j => [], inv := fun j => j ≤ (pairsL n b).length ∧ (True), meas := fun j => (pairsL n b).length - j, x0 := 0 }) ?_
  refine ai (ai (ai (by (repeat' (first | exact rfl | exact trivial | exact (fun _ => rfl) | exact (fun _ _ => rfl) | exact nof | refine ai ?_ ?_))) (ai (by (repeat' (first | with_reducible rfl | exact trivial | refine ai ?_ ?_ | (show (_ : Int) = _; first | with_reducible rfl | exact wr1 (by omega) | (simp only [zz, reduceCtorEq] <;> first | done | rfl | omega) | omega | rfl) | exact rfl | exact (fun _ => rfl) | exact (fun _ _ => rfl) | exact nof))) (by (repeat' (first | with_reducible rfl | exact trivial | refine ai ?_ ?_ | (show (_ : Int) = _; first | with_reducible rfl | exact wr1 (by omega) | (simp only [zz, reduceCtorEq] <;> first | done | rfl | omega) | omega | rfl) | exact rfl | exact (fun _ => rfl) | exact (fun _ _ => rfl) | exact nof))))) rfl) (ai (ai (Nat.zero_le _) ?_) ?_)
  · trivial
  intro (j : Nat) ⟨hj, _⟩
  refine bcase_p (p := j < (pairsL n b).length) (by first | (with_reducible refine bif_lt ?_; omega) | (with_reducible refine bif_le ?_; omega) | (with_reducible refine bif_eq ?_; omega) | (with_reducible refine bif_ne ?_; omega) | exact b8_eq rfl | exact b8_ne rfl | exact bif_lt (by omega) | exact bif_le (by omega) | exact bif_eq (by omega) | exact bif_ne (by omega) | exact Iff.rfl | (simp only [zz, reduceCtorEq] <;> first | done | omega | exact Iff.rfl) | (simp; done) | (simp; omega)) (fun h1 => ?_) (fun h1 => ?_)
  · refine ai (ai (Int.natCast_nonneg _) (by show (j : Int) < ((pairsL n b).length : Int); omega)) ?_
    refine ai rfl ?_
    have hg := fnS_at rtog_ok (l, (pairsL n b).getD j (0, 0)) hl (r := bP (q ((pairsL n b).getD j (0, 0)))) (by show bP (togC l _) = _; rw [hq])
    refine ei _ (ai hg (ei (()) (ei [] (ai (ai rfl (ai rfl (ai rfl (ai rfl (ai (fun _ => Or.inl rfl) (ai (by first | exact nof | exact (fun _ => ai rfl rfl)) (by first | exact Or.inl rfl | exact Or.inr rfl))))))) (ai (by (repeat' (first | with_reducible rfl | exact trivial | refine ai ?_ ?_ | (show (_ : Int) = _; first | with_reducible rfl | exact wr1 (by omega) | (simp only [zz, reduceCtorEq] <;> first | done | rfl | omega) | omega | rfl) | exact rfl | exact (fun _ => rfl) | exact (fun _ _ => rfl) | exact nof))) (ai trivial (ai (trivial) ?_)))))))
    have hs := kept_succ q h1
    have hkl := kept_len q (pairsL n b) j
    refine bcase_b (b := !q ((pairsL n b).getD j (0, 0))) (by first | exact rfl | (simp only [zz, reduceCtorEq] <;> first | done | exact rfl)) (fun h2 => ?_) (fun h2 => ?_)
    · have h2 : q ((pairsL n b).getD j (0, 0)) = false := by simpa using h2
      rw [h2] at hs
      refine ai (ai (Int.natCast_nonneg _) (by show (j : Int) < ((pairsL n b).length : Int); omega)) ?_
      refine ai rfl ?_
      refine ai (ai (by show (keptL q (pairsL n b) j).length + 1 ≤ maxLen; unfold maxLen; omega) (by show ((keptL q (pairsL n b) j).length + 1) * 16 ≤ 140737488355328; omega)) ?_
      refine ai (fun k hk => by
        have hk : k < 1 := hk
        obtain rfl : k = 0 := by omega
        rfl) ?_
      refine ei (j + 1) (ai (ai rfl rfl) (ai (ai ?_ rfl) (ai (ai (by show j + 1 ≤ (pairsL n b).length; omega) ?_) (by show (pairsL n b).length - (j + 1) < (pairsL n b).length - j; omega))))
      any_goals (repeat' (first | with_reducible rfl | exact trivial | refine ai ?_ ?_ | (show (_ : Int) = _; first | with_reducible rfl | exact wr1 (by omega) | (simp only [zz, reduceCtorEq] <;> first | done | rfl | omega) | omega | rfl) | exact rfl | exact (fun _ => rfl) | exact (fun _ _ => rfl) | exact nof))
      · exact app_len hs
      · exact join_app prCells (0, 0) hs _ rfl
    · have h2 : q ((pairsL n b).getD j (0, 0)) = true := by simpa using h2
      rw [h2] at hs
      have hs : keptL q (pairsL n b) j = keptL q (pairsL n b) (j + 1) := by rw [hs]; simp
      refine ei (j + 1) (ai (ai rfl rfl) (ai (ai ?_ rfl) (ai (ai (by show j + 1 ≤ (pairsL n b).length; omega) ?_) (by show (pairsL n b).length - (j + 1) < (pairsL n b).length - j; omega))))
      any_goals (repeat' (first | with_reducible rfl | exact trivial | refine ai ?_ ?_ | (show (_ : Int) = _; first | with_reducible rfl | exact wr1 (by omega) | (simp only [zz, reduceCtorEq] <;> first | done | rfl | omega) | omega | rfl) | exact rfl | exact (fun _ => rfl) | exact (fun _ _ => rfl) | exact nof))
      · exact congrArg List.length hs
      · exact row_same prCells (0, 0) hs
  · obtain rfl : j = (pairsL n b).length := by omega
    refine ai (ai (fun _ => (by (repeat' (first | exact rfl | exact trivial | exact (fun _ => rfl) | exact (fun _ _ => rfl) | exact nof | refine ai ?_ ?_)))) ?_) trivial
    show ple _ (prsP (badL n l))
    rw [hbad]
    any_goals (repeat' (first | with_reducible rfl | exact trivial | refine ai ?_ ?_ | (show (_ : Int) = _; first | with_reducible rfl | exact wr1 (by omega) | (simp only [zz, reduceCtorEq] <;> first | done | rfl | omega) | omega | rfl) | exact rfl | exact (fun _ => rfl) | exact (fun _ _ => rfl) | exact nof))

/-- a checked form -/
theorem chkN_zero {n : Int} {l : List Cu} (h : chkN n l = 0) : ∃ k : Nat, k ≤ 6 ∧ n = k ∧ l.length ≤ 256 ∧ ∀ c ∈ l, c.Ok k := by
  unfold chkN at h
  split at h
  · cases h
  split at h
  · cases h
  unfold chkL at h
  split at h
  · cases h
  rename_i h1 h2 h3
  obtain ⟨k, rfl⟩ := Int.eq_ofNat_of_zero_le (show 0 ≤ n by omega)
  refine ⟨k, by omega, rfl, by omega, fun c hc => ?_⟩
  obtain ⟨j, hj, rfl⟩ := List.getElem_of_mem hc
  have : chkC (k : Int) l[j] = 0 := by
    have h5 : firstE k l (j + 1) = 0 := Classical.byContradiction fun hne => by
      have := firstE_stay hne l.length hj
      rw [h] at this; exact hne this.symm
    rw [firstE] at h5
    split at h5
    · rwa [List.getD_eq_getElem?_getD, List.getElem?_eq_getElem hj] at h5
    · rename_i h6; exact absurd h5 h6
  exact (chk_ok this).2

def hazL (n : Int) (l : List Cu) : List (Nat × Nat) := if chkN n l = 0 then badL n.toNat l else []
def hazS : Spec := fnS (fun x : Int × List Cu => [iA x.1, csA x.2]) (fun x => x.2.length ≤ 1000000) (fun x => .tup [prsP (hazL x.1 x.2), iP (chkN x.1 x.2)])
theorem haz_ok : FnOk Tryz.prog 37 hazS := by
  refine fnOk (Tb := tab) mixed tab_ok Tryz.func37 rfl rfl ?_
  rintro ⟨n, l⟩ hpre
  refine ai (ai rfl (ai rfl rfl)) ?_
  refine ei _ (ai chkN_ok (ei ((n, l)) (ei [] (ai (ai rfl (ai rfl (ai rfl (ai rfl (ai (fun _ => Or.inl rfl) (ai (by first | exact nof | exact (fun _ => ai rfl rfl)) (by first | exact Or.inl rfl | exact Or.inr rfl))))))) (ai (by (repeat' (first | with_reducible rfl | exact trivial | refine ai ?_ ?_ | (show (_ : Int) = _; first | with_reducible rfl | exact wr1 (by omega) | (simp only [zz, reduceCtorEq] <;> first | done | rfl | omega) | omega | rfl) | exact rfl | exact (fun _ => rfl) | exact (fun _ _ => rfl) | exact nof))) (ai trivial (ai (hpre) ?_)))))))
  refine bcase_n (p := chkN n l = 0) (by first | (with_reducible refine bif_lt ?_; omega) | (with_reducible refine bif_le ?_; omega) | (with_reducible refine bif_eq ?_; omega) | (with_reducible refine bif_ne ?_; omega) | exact b8_eq rfl | exact b8_ne rfl | exact bif_lt (by omega) | exact bif_le (by omega) | exact bif_eq (by omega) | exact bif_ne (by omega) | exact Iff.rfl | (simp only [zz, reduceCtorEq] <;> first | done | omega | exact Iff.rfl) | (simp; done) | (simp; omega)) (fun h1 => ?_) (fun h1 => ?_)
  · skip
    refine ai (ai (fun _ => (by (repeat' (first | exact rfl | exact trivial | exact (fun _ => rfl) | exact (fun _ _ => rfl) | exact nof | refine ai ?_ ?_)))) ?_) trivial
    show ple _ (.tup [prsP (hazL n l), iP (chkN n l)])
    rw [show hazL n l = [] by simp [hazL, h1]]
    any_goals (repeat' (first | with_reducible rfl | exact trivial | refine ai ?_ ?_ | (show (_ : Int) = _; first | with_reducible rfl | exact wr1 (by omega) | (simp only [zz, reduceCtorEq] <;> first | done | rfl | omega) | omega | rfl) | exact rfl | exact (fun _ => rfl) | exact (fun _ _ => rfl) | exact nof))
  obtain ⟨k, hk, rfl, _, _⟩ := chkN_zero h1
  refine ei _ (ai hbad_ok (ei ((k, l)) (ei [] (ai (ai rfl (ai rfl (ai rfl (ai rfl (ai (fun _ => Or.inl rfl) (ai (by first | exact nof | exact (fun _ => ai rfl rfl)) (by first | exact Or.inl rfl | exact Or.inr rfl))))))) (ai (by (repeat' (first | with_reducible rfl | exact trivial | refine ai ?_ ?_ | (show (_ : Int) = _; first | with_reducible rfl | exact wr1 (by omega) | (simp only [zz, reduceCtorEq] <;> first | done | rfl | omega) | omega | rfl) | exact rfl | exact (fun _ => rfl) | exact (fun _ _ => rfl) | exact nof))) (ai trivial (ai (⟨hk, hpre⟩) ?_)))))))
  refine ai (ai (fun _ => (by (repeat' (first | exact rfl | exact trivial | exact (fun _ => rfl) | exact (fun _ _ => rfl) | exact nof | refine ai ?_ ?_)))) ?_) trivial
  show ple _ (.tup [prsP (hazL k l), iP (chkN k l)])
  rw [show hazL k l = badL k l by simp [hazL, h1], h1]
  any_goals (repeat' (first | with_reducible rfl | exact trivial | refine ai ?_ ?_ | (show (_ : Int) = _; first | with_reducible rfl | exact wr1 (by omega) | (simp only [zz, reduceCtorEq] <;> first | done | rfl | omega) | omega | rfl) | exact rfl | exact (fun _ => rfl) | exact (fun _ _ => rfl) | exact nof))
end Go.Sx.Pn
