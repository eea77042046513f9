/- The reference's Form of chapter 8, and HazardForms. -/
import Derived.Test.YtdkhdkldjpaadaaGreatZ1
import Derived.Test.YtdkhdkldjpaadaaGreatP64
set_option maxHeartbeats 1000000
set_option maxRecDepth 4000
set_option linter.unusedSimpArgs false
set_option linter.unusedVariables false
namespace Go.Sx.Pn
open Go Go.Proofs

/-- the program's Form where the table is wrong -/
def formES : Spec := fnS (fun x : Tb => [tA x]) (fun x => ¬ chkT x = 0) (fun x => .tup [csP [], iP (chkT x)])
theorem formE_ok : FnOk Tryz.prog 12 formES := by
  refine fnOk (Tb := tab) mixed tab_ok Tryz.func12 rfl rfl ?_
  rintro ⟨n, t⟩ hpre
  refine ai (ai rfl (ai rfl rfl)) ?_
  have h : ¬ chkT ⟨n, t⟩ = 0 := hpre
  refine ei _ (ai tcheck_ok (ei (⟨n, t⟩) (ei [] (ai (ai rfl (ai rfl (ai rfl (ai rfl (ai (fun _ => Or.inl rfl) (ai (by first | exact nof | exact (fun _ => ai rfl rfl)) (by first | exact Or.inl rfl | exact Or.inr rfl))))))) (ai (by (repeat' (first | with_reducible rfl | exact trivial | refine ai ?_ ?_ | (show (_ : Int) = _; first | with_reducible rfl | exact wr1 (by omega) | (simp only [zz, reduceCtorEq] <;> first | done | rfl | omega) | omega | rfl) | exact rfl | exact (fun _ => rfl) | exact (fun _ _ => rfl) | exact nof))) (ai trivial (ai (trivial) ?_)))))))
  refine bcase_n (p := chkT ⟨n, t⟩ = 0) (by first | (with_reducible refine bif_lt ?_; omega) | (with_reducible refine bif_le ?_; omega) | (with_reducible refine bif_eq ?_; omega) | (with_reducible refine bif_ne ?_; omega) | exact b8_eq rfl | exact b8_ne rfl | exact bif_lt (by omega) | exact bif_le (by omega) | exact bif_eq (by omega) | exact bif_ne (by omega) | exact Iff.rfl | (simp only [zz, reduceCtorEq] <;> first | done | omega | exact Iff.rfl) | (simp; done) | (simp; omega)) (fun h1 => ?_) (fun h1 => ?_)
  · skip
    refine ai (ai (fun _ => (by (repeat' (first | exact rfl | exact trivial | exact (fun _ => rfl) | exact (fun _ _ => rfl) | exact nof | refine ai ?_ ?_)))) ?_) trivial
    any_goals (repeat' (first | with_reducible rfl | exact trivial | refine ai ?_ ?_ | (show (_ : Int) = _; first | with_reducible rfl | exact wr1 (by omega) | (simp only [zz, reduceCtorEq] <;> first | done | rfl | omega) | omega | rfl) | exact rfl | exact (fun _ => rfl) | exact (fun _ _ => rfl) | exact nof))
  exact absurd h1 h

def rbetterL (l old : List Cu) (w b : Nat) : Prop := ¬ (old.length < l.length ∨ l.length = old.length ∧ litL old < litL l) ∧ (l.length < old.length ∨ litL l < litL old ∨ firstB w b = true)
instance (l old : List Cu) (w b : Nat) : Decidable (rbetterL l old w b) := by unfold rbetterL; infer_instance
@[irreducible] def rStep (n : Nat) (t : U) (all : List Cu) (w b : Nat) : Nat :=
  if goodL n t (chL all w) ∧ rbetterL (chL all w) (chL all b) w b then w else b
def rTo (n : Nat) (t : U) (all : List Cu) : Nat → Nat
  | 0 => 2 ^ all.length - 1
  | w + 1 => rStep n t all w (rTo n t all w)
def rformL (n : Nat) (t : U) : List Cu := chL (prL n t) (rTo n t (prL n t) (2 ^ (prL n t).length))
theorem rTo_lt {n : Nat} {t : U} {all : List Cu} : ∀ w, w ≤ 2 ^ all.length → rTo n t all w < 2 ^ all.length
  | 0, _ => by have := Nat.two_pow_pos all.length; show 2 ^ all.length - 1 < _; omega
  | w + 1, h => by
    rw [rTo, rStep]
    split
    · omega
    · exact rTo_lt w (by omega)
def rformS : Spec := fnS (fun x : Nat × U => [tA ⟨x.1, x.2⟩]) (fun x => x.1 ≤ 6 ∧ chkT ⟨x.1, x.2⟩ = 0 ∧ (prL x.1 x.2).length ≤ 16) (fun x => .tup [csP (rformL x.1 x.2), iP 0])
theorem pow_i {k : Nat} (h : k ≤ 16) : IntKind.i64.wrap (1 * 2 ^ min (k : Int).toNat IntKind.i64.bits) = ((2 ^ k : Nat) : Int) := by
  have h1 := pow16 h
  have : min (k : Int).toNat IntKind.i64.bits = k := by show min k 64 = k; omega
  rw [this, Int.one_mul, show ((2 : Int) ^ k) = ((2 ^ k : Nat) : Int) by rw [Int.natCast_pow]; rfl]
  generalize 2 ^ k = p at h1
  exact wrap_in (by omega) (by omega)
theorem rform_ok : FnOk Tryz.prog 13 rformS := by
  refine fnOk (Tb := tab) mixed tab_ok Tryz.func13 rfl rfl ?_
  rintro ⟨n, t⟩ hpre
  refine ai (ai rfl (ai rfl rfl)) ?_
  obtain ⟨hn, ht, h16⟩ : n ≤ 6 ∧ chkT ⟨n, t⟩ = 0 ∧ (prL n t).length ≤ 16 := hpre
  obtain ⟨z, hz⟩ : ∃ z : Int, z = 0 := ⟨0, rfl⟩
  obtain ⟨all, hall⟩ : ∃ L, prL n t = L := ⟨_, rfl⟩
  rw [hall] at h16
  have hok : ∀ c ∈ all, c.Ok n := fun c hc => pr_ok hn (b := t) (by rw [hall]; exact hc)
  have hres : rformL n t = chL all (rTo n t all (2 ^ all.length)) := by rw [rformL, hall]
  have hp := pow16 h16
  have hpos := Nat.two_pow_pos all.length
  have c1 := fnS_at rtcheck_ok ⟨n, t⟩ trivial (r := iP z) (by show iP (chkT ⟨n, t⟩) = _; rw [ht, hz])
  have c2 := fnS_at rpr_ok (n, t) hn (r := csP all) (by show csP (prL n t) = _; rw [hall])
  have epow := pow_i h16
  refine ei _ (ai c1 (ei (()) (ei [] (ai (ai rfl (ai rfl (ai rfl (ai rfl (ai (fun _ => Or.inl rfl) (ai (by first | exact nof | exact (fun _ => ai rfl rfl)) (by first | exact Or.inl rfl | exact Or.inr rfl))))))) (ai (by (repeat' (first | with_reducible rfl | exact trivial | refine ai ?_ ?_ | (show (_ : Int) = _; first | with_reducible rfl | exact wr1 (by omega) | (simp only [zz, reduceCtorEq] <;> first | done | rfl | omega) | omega | rfl) | exact rfl | exact (fun _ => rfl) | exact (fun _ _ => rfl) | exact nof))) (ai trivial (ai (trivial) ?_)))))))
  refine bcase_b (b := false) (by (first | (simp only [beq_self_eq_true, Bool.and_true, Bool.and_self]; done) | (simp only [hz, Int.add_zero, wrap_z]; done) | (simp only [hz, Int.add_zero, wrap_z]; rfl) | decide | rfl | decide | (simp; done))) (fun h => absurd h (by decide)) (fun _ => ?_)
  refine ei _ (ai c2 (ei (()) (ei [] (ai (ai rfl (ai rfl (ai rfl (ai rfl (ai (fun _ => Or.inl rfl) (ai (by first | exact nof | exact (fun _ => ai rfl rfl)) (by first | exact Or.inl rfl | exact Or.inr rfl))))))) (ai (by (repeat' (first | with_reducible rfl | exact trivial | refine ai ?_ ?_ | (show (_ : Int) = _; first | with_reducible rfl | exact wr1 (by omega) | (simp only [zz, reduceCtorEq] <;> first | done | rfl | omega) | omega | rfl) | exact rfl | exact (fun _ => rfl) | exact (fun _ _ => rfl) | exact nof))) (ai trivial (ai (trivial) ?_)))))))
  repeat (refine ai (by first | exact Int.natCast_nonneg _ | omega | exact ai (Int.natCast_nonneg _) (by omega)) ?_)
  refine ei (LAnn.inv { X := Nat, up := fun w => [(7, .s (iA w)), (6, .s (iA (rTo n t all w)))], uo := fun _ => [], inv := fun w => w ≤ 2 ^ all.length, meas := fun w => 2 ^ all.length - w, x0 := 0 }) ?_
  refine ai (ai (ai (by (repeat' (first | exact rfl | exact trivial | exact (fun _ => rfl) | exact (fun _ _ => rfl) | exact nof | refine ai ?_ ?_))) (ai ?_ ?_)) ?_) (ai ?_ ?_)
  · skip
    (repeat' (first | exact rfl | exact trivial | exact (fun _ => rfl) | exact (fun _ _ => rfl) | exact nof | refine ai ?_ ?_))
    show IntKind.i64.wrap (IntKind.i64.wrap (1 * 2 ^ min (all.length : Int).toNat IntKind.i64.bits) - 1) = ((2 ^ all.length - 1 : Nat) : Int)
    rw [epow, wrap_in (by omega) (by omega)]; omega
  · skip
    (repeat' (first | exact rfl | exact trivial | exact (fun _ => rfl) | exact (fun _ _ => rfl) | exact nof | refine ai ?_ ?_))
  · rfl
  · exact Nat.zero_le _
  intro (w : Nat) (hw : w ≤ 2 ^ all.length)
  repeat (refine ai (by first | exact Int.natCast_nonneg _ | omega | exact ai (Int.natCast_nonneg _) (by omega)) ?_)
  refine bcase_p (p := w < 2 ^ all.length) (by show decide ((w : Int) < IntKind.i64.wrap (1 * 2 ^ min (all.length : Int).toNat IntKind.i64.bits)) = true ↔ _; rw [epow, decide_eq_true_iff]; omega) (fun h2 => ?_) (fun h2 => ?_)
  · have hlt := rTo_lt (n := n) (t := t) w hw
    have hstep : rTo n t all (w + 1) = rStep n t all w (rTo n t all w) := rfl
    generalize rTo n t all w = b at hlt hstep ⊢
    obtain ⟨l, hl⟩ : ∃ l, chL all w = l := ⟨_, rfl⟩
    obtain ⟨old, hold⟩ : ∃ l, chL all b = l := ⟨_, rfl⟩
    have hll : l.length ≤ 16 := by rw [← hl]; have := ch_len_le all w all.length; show (chTo all w all.length).length ≤ 16; omega
    have hol : old.length ≤ 16 := by rw [← hold]; have := ch_len_le all b all.length; show (chTo all b all.length).length ≤ 16; omega
    have hlok : ∀ c ∈ l, c.Ok n := fun c hc => hok c (ch_mem (by rw [hl]; exact hc))
    have hook : ∀ c ∈ old, c.Ok n := fun c hc => hok c (ch_mem (by rw [hold]; exact hc))
    have no : ¬ (goodL n t l ∧ rbetterL l old w b) → rTo n t all (w + 1) = b := fun h => by
      rw [hstep, rStep, hl, hold, if_neg h]
    have yes : goodL n t l ∧ rbetterL l old w b → rTo n t all (w + 1) = w := fun h => by
      rw [hstep, rStep, hl, hold, if_pos h]
    have d1 := fnS_at rch_ok (all, w) ⟨by show all.length ≤ 60; omega, by show w < 1048576; omega⟩ (r := csP l) (by show csP (chL all w) = _; rw [hl])
    have d2 := fnS_at rch_ok (all, b) ⟨by show all.length ≤ 60; omega, by show b < 1048576; omega⟩ (r := csP old) (by show csP (chL all b) = _; rw [hold])
    have s1 := fnS_at rsum_ok (n, l) ⟨hn, by show l.length ≤ 1000000; omega, hlok⟩ (r := iP (litL l : Int)) rfl
    have s2 := fnS_at rsum_ok (n, old) ⟨hn, by show old.length ≤ 1000000; omega, hook⟩ (r := iP (litL old : Int)) rfl
    refine ei _ (ai d1 (ei (()) (ei [] (ai (ai rfl (ai rfl (ai rfl (ai rfl (ai (fun _ => Or.inl rfl) (ai (by first | exact nof | exact (fun _ => ai rfl rfl)) (by first | exact Or.inl rfl | exact Or.inr rfl))))))) (ai (by (repeat' (first | with_reducible rfl | exact trivial | refine ai ?_ ?_ | (show (_ : Int) = _; first | with_reducible rfl | exact wr1 (by omega) | (simp only [zz, reduceCtorEq] <;> first | done | rfl | omega) | omega | rfl) | exact rfl | exact (fun _ => rfl) | exact (fun _ _ => rfl) | exact nof))) (ai trivial (ai (trivial) ?_)))))))
    refine ei _ (ai d2 (ei (()) (ei [] (ai (ai rfl (ai rfl (ai rfl (ai rfl (ai (fun _ => Or.inl rfl) (ai (by first | exact nof | exact (fun _ => ai rfl rfl)) (by first | exact Or.inl rfl | exact Or.inr rfl))))))) (ai (by (repeat' (first | with_reducible rfl | exact trivial | refine ai ?_ ?_ | (show (_ : Int) = _; first | with_reducible rfl | exact wr1 (by omega) | (simp only [zz, reduceCtorEq] <;> first | done | rfl | omega) | omega | rfl) | exact rfl | exact (fun _ => rfl) | exact (fun _ _ => rfl) | exact nof))) (ai trivial (ai (trivial) ?_)))))))
    refine bcase_p (p := old.length < l.length) (by first | (with_reducible refine bif_lt ?_; omega) | (with_reducible refine bif_le ?_; omega) | (with_reducible refine bif_eq ?_; omega) | (with_reducible refine bif_ne ?_; omega) | exact b8_eq rfl | exact b8_ne rfl | exact bif_lt (by omega) | exact bif_le (by omega) | exact bif_eq (by omega) | exact bif_ne (by omega) | exact Iff.rfl | (simp only [zz, reduceCtorEq] <;> first | done | omega | exact Iff.rfl) | (simp; done) | (simp; omega)) (fun h3 => ?_) (fun h3 => ?_)
    · skip
      refine ei (w + 1) (ai (ai rfl rfl) (ai (ai ?_ rfl) (ai ?_ ?_)))
      · skip
        (repeat' (first | exact rfl | exact trivial | exact (fun _ => rfl) | exact (fun _ _ => rfl) | exact nof | refine ai ?_ ?_))
        · exact wr1 (by omega)
        · show (b : Int) = ((rTo n t all (w + 1) : Nat) : Int)
          rw [no (fun h => h.2.1 (.inl h3))]
      · show w + 1 ≤ 2 ^ all.length; omega
      · show 2 ^ all.length - (w + 1) < 2 ^ all.length - w; omega
    refine bcase_p (p := l.length = old.length) (by first | (with_reducible refine bif_lt ?_; omega) | (with_reducible refine bif_le ?_; omega) | (with_reducible refine bif_eq ?_; omega) | (with_reducible refine bif_ne ?_; omega) | exact b8_eq rfl | exact b8_ne rfl | exact bif_lt (by omega) | exact bif_le (by omega) | exact bif_eq (by omega) | exact bif_ne (by omega) | exact Iff.rfl | (simp only [zz, reduceCtorEq] <;> first | done | omega | exact Iff.rfl) | (simp; done) | (simp; omega)) (fun h4 => ?_) (fun h4 => ?_)
    · skip
      refine ei _ (ai s1 (ei (()) (ei [] (ai (ai rfl (ai rfl (ai rfl (ai rfl (ai (fun _ => Or.inl rfl) (ai (by first | exact nof | exact (fun _ => ai rfl rfl)) (by first | exact Or.inl rfl | exact Or.inr rfl))))))) (ai (by (repeat' (first | with_reducible rfl | exact trivial | refine ai ?_ ?_ | (show (_ : Int) = _; first | with_reducible rfl | exact wr1 (by omega) | (simp only [zz, reduceCtorEq] <;> first | done | rfl | omega) | omega | rfl) | exact rfl | exact (fun _ => rfl) | exact (fun _ _ => rfl) | exact nof))) (ai trivial (ai (trivial) ?_)))))))
      refine ei _ (ai s2 (ei (()) (ei [] (ai (ai rfl (ai rfl (ai rfl (ai rfl (ai (fun _ => Or.inl rfl) (ai (by first | exact nof | exact (fun _ => ai rfl rfl)) (by first | exact Or.inl rfl | exact Or.inr rfl))))))) (ai (by (repeat' (first | with_reducible rfl | exact trivial | refine ai ?_ ?_ | (show (_ : Int) = _; first | with_reducible rfl | exact wr1 (by omega) | (simp only [zz, reduceCtorEq] <;> first | done | rfl | omega) | omega | rfl) | exact rfl | exact (fun _ => rfl) | exact (fun _ _ => rfl) | exact nof))) (ai trivial (ai (trivial) ?_)))))))
      refine bcase_p (p := litL old < litL l) (by first | (with_reducible refine bif_lt ?_; omega) | (with_reducible refine bif_le ?_; omega) | (with_reducible refine bif_eq ?_; omega) | (with_reducible refine bif_ne ?_; omega) | exact b8_eq rfl | exact b8_ne rfl | exact bif_lt (by omega) | exact bif_le (by omega) | exact bif_eq (by omega) | exact bif_ne (by omega) | exact Iff.rfl | (simp only [zz, reduceCtorEq] <;> first | done | omega | exact Iff.rfl) | (simp; done) | (simp; omega)) (fun h5 => ?_) (fun h5 => ?_)
      · skip
        refine ei (w + 1) (ai (ai rfl rfl) (ai (ai ?_ rfl) (ai ?_ ?_)))
        · skip
          (repeat' (first | exact rfl | exact trivial | exact (fun _ => rfl) | exact (fun _ _ => rfl) | exact nof | refine ai ?_ ?_))
          · exact wr1 (by omega)
          · show (b : Int) = ((rTo n t all (w + 1) : Nat) : Int)
            rw [no (fun h => h.2.1 (.inr ⟨h4, h5⟩))]
        · show w + 1 ≤ 2 ^ all.length; omega
        · show 2 ^ all.length - (w + 1) < 2 ^ all.length - w; omega
      refine ei _ (ai safe_ok (ei ((n, t, l)) (ei [] (ai (ai rfl (ai rfl (ai rfl (ai rfl (ai (fun _ => Or.inl rfl) (ai (by first | exact nof | exact (fun _ => ai rfl rfl)) (by first | exact Or.inl rfl | exact Or.inr rfl))))))) (ai (by (repeat' (first | with_reducible rfl | exact trivial | refine ai ?_ ?_ | (show (_ : Int) = _; first | with_reducible rfl | exact wr1 (by omega) | (simp only [zz, reduceCtorEq] <;> first | done | rfl | omega) | omega | rfl) | exact rfl | exact (fun _ => rfl) | exact (fun _ _ => rfl) | exact nof))) (ai trivial (ai (⟨hn, by show l.length ≤ 1000000; omega⟩) ?_)))))))
      refine bcase_n (p := goodL n t l) (by show (!decide (goodL n t l)) = true ↔ _; simp) (fun h8 => ?_) (fun h8 => ?_)
      · skip
        refine ei (w + 1) (ai (ai rfl rfl) (ai (ai ?_ rfl) (ai ?_ ?_)))
        · skip
          (repeat' (first | exact rfl | exact trivial | exact (fun _ => rfl) | exact (fun _ _ => rfl) | exact nof | refine ai ?_ ?_))
          · exact wr1 (by omega)
          · show (b : Int) = ((rTo n t all (w + 1) : Nat) : Int)
            rw [no (fun h => h8 h.1)]
        · show w + 1 ≤ 2 ^ all.length; omega
        · show 2 ^ all.length - (w + 1) < 2 ^ all.length - w; omega
      refine bcase_p (p := l.length < old.length) (by first | (with_reducible refine bif_lt ?_; omega) | (with_reducible refine bif_le ?_; omega) | (with_reducible refine bif_eq ?_; omega) | (with_reducible refine bif_ne ?_; omega) | exact b8_eq rfl | exact b8_ne rfl | exact bif_lt (by omega) | exact bif_le (by omega) | exact bif_eq (by omega) | exact bif_ne (by omega) | exact Iff.rfl | (simp only [zz, reduceCtorEq] <;> first | done | omega | exact Iff.rfl) | (simp; done) | (simp; omega)) (fun h9 => ?_) (fun h9 => ?_)
      · skip
        refine ei (w + 1) (ai (ai rfl rfl) (ai (ai ?_ rfl) (ai ?_ ?_)))
        · skip
          (repeat' (first | exact rfl | exact trivial | exact (fun _ => rfl) | exact (fun _ _ => rfl) | exact nof | refine ai ?_ ?_))
          · exact wr1 (by omega)
          · show (w : Int) = ((rTo n t all (w + 1) : Nat) : Int)
            rw [yes ⟨h8, (fun h => h.elim h3 fun h => h5 h.2), .inl h9⟩]
        · show w + 1 ≤ 2 ^ all.length; omega
        · show 2 ^ all.length - (w + 1) < 2 ^ all.length - w; omega
      refine ei _ (ai s1 (ei (()) (ei [] (ai (ai rfl (ai rfl (ai rfl (ai rfl (ai (fun _ => Or.inl rfl) (ai (by first | exact nof | exact (fun _ => ai rfl rfl)) (by first | exact Or.inl rfl | exact Or.inr rfl))))))) (ai (by (repeat' (first | with_reducible rfl | exact trivial | refine ai ?_ ?_ | (show (_ : Int) = _; first | with_reducible rfl | exact wr1 (by omega) | (simp only [zz, reduceCtorEq] <;> first | done | rfl | omega) | omega | rfl) | exact rfl | exact (fun _ => rfl) | exact (fun _ _ => rfl) | exact nof))) (ai trivial (ai (trivial) ?_)))))))
      refine ei _ (ai s2 (ei (()) (ei [] (ai (ai rfl (ai rfl (ai rfl (ai rfl (ai (fun _ => Or.inl rfl) (ai (by first | exact nof | exact (fun _ => ai rfl rfl)) (by first | exact Or.inl rfl | exact Or.inr rfl))))))) (ai (by (repeat' (first | with_reducible rfl | exact trivial | refine ai ?_ ?_ | (show (_ : Int) = _; first | with_reducible rfl | exact wr1 (by omega) | (simp only [zz, reduceCtorEq] <;> first | done | rfl | omega) | omega | rfl) | exact rfl | exact (fun _ => rfl) | exact (fun _ _ => rfl) | exact nof))) (ai trivial (ai (trivial) ?_)))))))
      refine bcase_p (p := litL l < litL old) (by first | (with_reducible refine bif_lt ?_; omega) | (with_reducible refine bif_le ?_; omega) | (with_reducible refine bif_eq ?_; omega) | (with_reducible refine bif_ne ?_; omega) | exact b8_eq rfl | exact b8_ne rfl | exact bif_lt (by omega) | exact bif_le (by omega) | exact bif_eq (by omega) | exact bif_ne (by omega) | exact Iff.rfl | (simp only [zz, reduceCtorEq] <;> first | done | omega | exact Iff.rfl) | (simp; done) | (simp; omega)) (fun h10 => ?_) (fun h10 => ?_)
      · skip
        refine ei (w + 1) (ai (ai rfl rfl) (ai (ai ?_ rfl) (ai ?_ ?_)))
        · skip
          (repeat' (first | exact rfl | exact trivial | exact (fun _ => rfl) | exact (fun _ _ => rfl) | exact nof | refine ai ?_ ?_))
          · exact wr1 (by omega)
          · show (w : Int) = ((rTo n t all (w + 1) : Nat) : Int)
            rw [yes ⟨h8, (fun h => h.elim h3 fun h => h5 h.2), .inr (.inl h10)⟩]
        · show w + 1 ≤ 2 ^ all.length; omega
        · show 2 ^ all.length - (w + 1) < 2 ^ all.length - w; omega
      refine ei _ (ai first_ok (ei ((w, b)) (ei [] (ai (ai rfl (ai rfl (ai rfl (ai rfl (ai (fun _ => Or.inl rfl) (ai (by first | exact nof | exact (fun _ => ai rfl rfl)) (by first | exact Or.inl rfl | exact Or.inr rfl))))))) (ai (by (repeat' (first | with_reducible rfl | exact trivial | refine ai ?_ ?_ | (show (_ : Int) = _; first | with_reducible rfl | exact wr1 (by omega) | (simp only [zz, reduceCtorEq] <;> first | done | rfl | omega) | omega | rfl) | exact rfl | exact (fun _ => rfl) | exact (fun _ _ => rfl) | exact nof))) (ai trivial (ai (⟨by show w < 1048576; omega, by show b < 1048576; omega⟩) ?_)))))))
      refine bcase_b (b := firstB w b) (by first | exact rfl | (simp only [zz, reduceCtorEq] <;> first | done | exact rfl)) (fun h11 => ?_) (fun h11 => ?_)
      · skip
        refine ei (w + 1) (ai (ai rfl rfl) (ai (ai ?_ rfl) (ai ?_ ?_)))
        · skip
          (repeat' (first | exact rfl | exact trivial | exact (fun _ => rfl) | exact (fun _ _ => rfl) | exact nof | refine ai ?_ ?_))
          · exact wr1 (by omega)
          · show (w : Int) = ((rTo n t all (w + 1) : Nat) : Int)
            rw [yes ⟨h8, (fun h => h.elim h3 fun h => h5 h.2), .inr (.inr h11)⟩]
        · show w + 1 ≤ 2 ^ all.length; omega
        · show 2 ^ all.length - (w + 1) < 2 ^ all.length - w; omega
      · skip
        refine ei (w + 1) (ai (ai rfl rfl) (ai (ai ?_ rfl) (ai ?_ ?_)))
        · skip
          (repeat' (first | exact rfl | exact trivial | exact (fun _ => rfl) | exact (fun _ _ => rfl) | exact nof | refine ai ?_ ?_))
          · exact wr1 (by omega)
          · show (b : Int) = ((rTo n t all (w + 1) : Nat) : Int)
            rw [no (fun h => h.2.2.elim h9 fun h => h.elim h10 fun h => by rw [h11] at h; cases h)]
        · show w + 1 ≤ 2 ^ all.length; omega
        · show 2 ^ all.length - (w + 1) < 2 ^ all.length - w; omega
    · skip
      refine ei _ (ai safe_ok (ei ((n, t, l)) (ei [] (ai (ai rfl (ai rfl (ai rfl (ai rfl (ai (fun _ => Or.inl rfl) (ai (by first | exact nof | exact (fun _ => ai rfl rfl)) (by first | exact Or.inl rfl | exact Or.inr rfl))))))) (ai (by (repeat' (first | with_reducible rfl | exact trivial | refine ai ?_ ?_ | (show (_ : Int) = _; first | with_reducible rfl | exact wr1 (by omega) | (simp only [zz, reduceCtorEq] <;> first | done | rfl | omega) | omega | rfl) | exact rfl | exact (fun _ => rfl) | exact (fun _ _ => rfl) | exact nof))) (ai trivial (ai (⟨hn, by show l.length ≤ 1000000; omega⟩) ?_)))))))
      refine bcase_n (p := goodL n t l) (by show (!decide (goodL n t l)) = true ↔ _; simp) (fun h8 => ?_) (fun h8 => ?_)
      · skip
        refine ei (w + 1) (ai (ai rfl rfl) (ai (ai ?_ rfl) (ai ?_ ?_)))
        · skip
          (repeat' (first | exact rfl | exact trivial | exact (fun _ => rfl) | exact (fun _ _ => rfl) | exact nof | refine ai ?_ ?_))
          · exact wr1 (by omega)
          · show (b : Int) = ((rTo n t all (w + 1) : Nat) : Int)
            rw [no (fun h => h8 h.1)]
        · show w + 1 ≤ 2 ^ all.length; omega
        · show 2 ^ all.length - (w + 1) < 2 ^ all.length - w; omega
      refine bcase_p (p := l.length < old.length) (by first | (with_reducible refine bif_lt ?_; omega) | (with_reducible refine bif_le ?_; omega) | (with_reducible refine bif_eq ?_; omega) | (with_reducible refine bif_ne ?_; omega) | exact b8_eq rfl | exact b8_ne rfl | exact bif_lt (by omega) | exact bif_le (by omega) | exact bif_eq (by omega) | exact bif_ne (by omega) | exact Iff.rfl | (simp only [zz, reduceCtorEq] <;> first | done | omega | exact Iff.rfl) | (simp; done) | (simp; omega)) (fun h9 => ?_) (fun h9 => ?_)
      · skip
        refine ei (w + 1) (ai (ai rfl rfl) (ai (ai ?_ rfl) (ai ?_ ?_)))
        · skip
          (repeat' (first | exact rfl | exact trivial | exact (fun _ => rfl) | exact (fun _ _ => rfl) | exact nof | refine ai ?_ ?_))
          · exact wr1 (by omega)
          · show (w : Int) = ((rTo n t all (w + 1) : Nat) : Int)
            rw [yes ⟨h8, (fun h => h.elim h3 fun h => h4 h.1), .inl h9⟩]
        · show w + 1 ≤ 2 ^ all.length; omega
        · show 2 ^ all.length - (w + 1) < 2 ^ all.length - w; omega
      refine ei _ (ai s1 (ei (()) (ei [] (ai (ai rfl (ai rfl (ai rfl (ai rfl (ai (fun _ => Or.inl rfl) (ai (by first | exact nof | exact (fun _ => ai rfl rfl)) (by first | exact Or.inl rfl | exact Or.inr rfl))))))) (ai (by (repeat' (first | with_reducible rfl | exact trivial | refine ai ?_ ?_ | (show (_ : Int) = _; first | with_reducible rfl | exact wr1 (by omega) | (simp only [zz, reduceCtorEq] <;> first | done | rfl | omega) | omega | rfl) | exact rfl | exact (fun _ => rfl) | exact (fun _ _ => rfl) | exact nof))) (ai trivial (ai (trivial) ?_)))))))
      refine ei _ (ai s2 (ei (()) (ei [] (ai (ai rfl (ai rfl (ai rfl (ai rfl (ai (fun _ => Or.inl rfl) (ai (by first | exact nof | exact (fun _ => ai rfl rfl)) (by first | exact Or.inl rfl | exact Or.inr rfl))))))) (ai (by (repeat' (first | with_reducible rfl | exact trivial | refine ai ?_ ?_ | (show (_ : Int) = _; first | with_reducible rfl | exact wr1 (by omega) | (simp only [zz, reduceCtorEq] <;> first | done | rfl | omega) | omega | rfl) | exact rfl | exact (fun _ => rfl) | exact (fun _ _ => rfl) | exact nof))) (ai trivial (ai (trivial) ?_)))))))
      refine bcase_p (p := litL l < litL old) (by first | (with_reducible refine bif_lt ?_; omega) | (with_reducible refine bif_le ?_; omega) | (with_reducible refine bif_eq ?_; omega) | (with_reducible refine bif_ne ?_; omega) | exact b8_eq rfl | exact b8_ne rfl | exact bif_lt (by omega) | exact bif_le (by omega) | exact bif_eq (by omega) | exact bif_ne (by omega) | exact Iff.rfl | (simp only [zz, reduceCtorEq] <;> first | done | omega | exact Iff.rfl) | (simp; done) | (simp; omega)) (fun h10 => ?_) (fun h10 => ?_)
      · skip
        refine ei (w + 1) (ai (ai rfl rfl) (ai (ai ?_ rfl) (ai ?_ ?_)))
        · skip
          (repeat' (first | exact rfl | exact trivial | exact (fun _ => rfl) | exact (fun _ _ => rfl) | exact nof | refine ai ?_ ?_))
          · exact wr1 (by omega)
          · show (w : Int) = ((rTo n t all (w + 1) : Nat) : Int)
            rw [yes ⟨h8, (fun h => h.elim h3 fun h => h4 h.1), .inr (.inl h10)⟩]
        · show w + 1 ≤ 2 ^ all.length; omega
        · show 2 ^ all.length - (w + 1) < 2 ^ all.length - w; omega
      refine ei _ (ai first_ok (ei ((w, b)) (ei [] (ai (ai rfl (ai rfl (ai rfl (ai rfl (ai (fun _ => Or.inl rfl) (ai (by first | exact nof | exact (fun _ => ai rfl rfl)) (by first | exact Or.inl rfl | exact Or.inr rfl))))))) (ai (by (repeat' (first | with_reducible rfl | exact trivial | refine ai ?_ ?_ | (show (_ : Int) = _; first | with_reducible rfl | exact wr1 (by omega) | (simp only [zz, reduceCtorEq] <;> first | done | rfl | omega) | omega | rfl) | exact rfl | exact (fun _ => rfl) | exact (fun _ _ => rfl) | exact nof))) (ai trivial (ai (⟨by show w < 1048576; omega, by show b < 1048576; omega⟩) ?_)))))))
      refine bcase_b (b := firstB w b) (by first | exact rfl | (simp only [zz, reduceCtorEq] <;> first | done | exact rfl)) (fun h11 => ?_) (fun h11 => ?_)
      · skip
        refine ei (w + 1) (ai (ai rfl rfl) (ai (ai ?_ rfl) (ai ?_ ?_)))
        · skip
          (repeat' (first | exact rfl | exact trivial | exact (fun _ => rfl) | exact (fun _ _ => rfl) | exact nof | refine ai ?_ ?_))
          · exact wr1 (by omega)
          · show (w : Int) = ((rTo n t all (w + 1) : Nat) : Int)
            rw [yes ⟨h8, (fun h => h.elim h3 fun h => h4 h.1), .inr (.inr h11)⟩]
        · show w + 1 ≤ 2 ^ all.length; omega
        · show 2 ^ all.length - (w + 1) < 2 ^ all.length - w; omega
      · skip
        refine ei (w + 1) (ai (ai rfl rfl) (ai (ai ?_ rfl) (ai ?_ ?_)))
        · skip
          (repeat' (first | exact rfl | exact trivial | exact (fun _ => rfl) | exact (fun _ _ => rfl) | exact nof | refine ai ?_ ?_))
          · exact wr1 (by omega)
          · show (b : Int) = ((rTo n t all (w + 1) : Nat) : Int)
            rw [no (fun h => h.2.2.elim h9 fun h => h.elim h10 fun h => by rw [h11] at h; cases h)]
        · show w + 1 ≤ 2 ^ all.length; omega
        · show 2 ^ all.length - (w + 1) < 2 ^ all.length - w; omega
  · obtain rfl : w = 2 ^ all.length := by omega
    have hlt := rTo_lt (n := n) (t := t) (2 ^ all.length) hw
    refine ei _ (ai rch_ok (ei ((all, rTo n t all (2 ^ all.length))) (ei [] (ai (ai rfl (ai rfl (ai rfl (ai rfl (ai (fun _ => Or.inl rfl) (ai (by first | exact nof | exact (fun _ => ai rfl rfl)) (by first | exact Or.inl rfl | exact Or.inr rfl))))))) (ai (by (repeat' (first | with_reducible rfl | exact trivial | refine ai ?_ ?_ | (show (_ : Int) = _; first | with_reducible rfl | exact wr1 (by omega) | (simp only [zz, reduceCtorEq] <;> first | done | rfl | omega) | omega | rfl) | exact rfl | exact (fun _ => rfl) | exact (fun _ _ => rfl) | exact nof))) (ai trivial (ai (⟨by show all.length ≤ 60; omega, by show rTo n t all (2 ^ all.length) < 1048576; omega⟩) ?_)))))))
    refine ai (ai (fun _ => (by (repeat' (first | exact rfl | exact trivial | exact (fun _ => rfl) | exact (fun _ _ => rfl) | exact nof | refine ai ?_ ?_)))) ?_) trivial
    show ple _ (.tup [csP (rformL n t), iP 0])
    rw [hres]
    any_goals (repeat' (first | with_reducible rfl | exact trivial | refine ai ?_ ?_ | (show (_ : Int) = _; first | with_reducible rfl | exact wr1 (by omega) | (simp only [zz, reduceCtorEq] <;> first | done | rfl | omega) | omega | rfl) | exact rfl | exact (fun _ => rfl) | exact (fun _ _ => rfl) | exact nof))

end Go.Sx.Pn
