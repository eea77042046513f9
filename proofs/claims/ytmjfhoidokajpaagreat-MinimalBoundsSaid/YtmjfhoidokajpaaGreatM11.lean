/- Contracts of chapter 7: the reference's least form. -/
import Derived.Test.YtmjfhoidokajpaaGreatM9
import Derived.Test.YtmjfhoidokajpaaGreatM10
set_option maxHeartbeats 1000000
set_option maxRecDepth 4000
set_option linter.unusedSimpArgs false
set_option linter.unusedVariables false
set_option linter.unusedSectionVars false
namespace Go.Sx.Pn
open Go Go.Proofs

/-- some cubes have all points of On -/
def covK (x : Tk) (l : List Cu) (k : Nat) : Bool := !(x.on.bits.getLsbD k && decide (ownL l (k : Int) = []))
def covQ (x : Tk) (n : Nat) (l : List Cu) : Bool := (List.range (2 ^ n)).all (covK x l)
def rcovS : Spec := fnS (fun y : Nat × Tk × List Cu => [kA y.2.1, csA y.2.2]) (fun y => y.1 ≤ 6 ∧ y.2.1.on.n = y.1 ∧ y.2.2.length ≤ 1000000) (fun y => bP (covQ y.2.1 y.1 y.2.2))
theorem rcov_ok : FnOk Tryz.prog 55 rcovS := by
  refine fnOk (Tb := tab) mixed tab_ok Tryz.func55 rfl rfl ?_
  rintro ⟨n, ⟨⟨N, b⟩, fr⟩, l⟩ hpre
  refine ai (ai rfl (ai rfl rfl)) ?_
  obtain ⟨hn, hN, hl⟩ : n ≤ 6 ∧ N = n ∧ l.length ≤ 1000000 := hpre
  subst hN
  have h64 := pow_le64 hn
  refine ei (LAnn.inv { X := Nat, up := fun k => [(5, .s (iA k))], uo := fun k => [], inv := fun k => k ≤ 2 ^ n ∧ (∀ j, j < k → covK ⟨⟨n, b⟩, fr⟩ l j = true), meas := fun k => 2 ^ n - k, x0 := 0 }) ?_
  refine ai (ai (ai (by (repeat' (first | exact rfl | exact trivial | exact (fun _ => rfl) | exact (fun _ _ => rfl) | exact nof | refine ai ?_ ?_))) (ai (by (repeat' (first | with_reducible rfl | exact trivial | refine ai ?_ ?_ | (show (_ : Int) = _; first | with_reducible rfl | exact wr1 (by omega) | (simp only [zz, reduceCtorEq] <;> first | done | rfl | omega) | omega | rfl) | exact rfl | exact (fun _ => rfl) | exact (fun _ _ => rfl) | exact nof))) (by (repeat' (first | with_reducible rfl | exact trivial | refine ai ?_ ?_ | (show (_ : Int) = _; first | with_reducible rfl | exact wr1 (by omega) | (simp only [zz, reduceCtorEq] <;> first | done | rfl | omega) | omega | rfl) | exact rfl | exact (fun _ => rfl) | exact (fun _ _ => rfl) | exact nof))))) rfl) (ai (ai (Nat.zero_le _) ?_) ?_)
  · exact fun j hj => absurd hj (Nat.not_lt_zero _)
  intro (k : Nat) ⟨hk, hall⟩
  refine ei _ (ai size_ok (ei (n) (ei [] (ai (ai rfl (ai rfl (ai rfl (ai rfl (ai (fun _ => Or.inl rfl) (ai (by first | exact nof | exact (fun _ => ai rfl rfl)) (by first | exact Or.inl rfl | exact Or.inr rfl))))))) (ai (by (repeat' (first | with_reducible rfl | exact trivial | refine ai ?_ ?_ | (show (_ : Int) = _; first | with_reducible rfl | exact wr1 (by omega) | (simp only [zz, reduceCtorEq] <;> first | done | rfl | omega) | omega | rfl) | exact rfl | exact (fun _ => rfl) | exact (fun _ _ => rfl) | exact nof))) (ai trivial (ai (hn) ?_)))))))
  refine bcase_p (p := k < 2 ^ n) (by first | (with_reducible refine bif_lt ?_; omega) | (with_reducible refine bif_le ?_; omega) | (with_reducible refine bif_eq ?_; omega) | (with_reducible refine bif_ne ?_; omega) | exact b8_eq rfl | exact b8_ne rfl | exact bif_lt (by omega) | exact bif_le (by omega) | exact bif_eq (by omega) | exact bif_ne (by omega) | exact Iff.rfl | (simp only [zz, reduceCtorEq] <;> first | done | omega | exact Iff.rfl) | (simp; done) | (simp; omega)) (fun h1 => ?_) (fun h1 => ?_)
  · skip
    refine ei _ (ai at_ok (ei ((⟨n, b⟩, k)) (ei [] (ai (ai rfl (ai rfl (ai rfl (ai rfl (ai (fun _ => Or.inl rfl) (ai (by first | exact nof | exact (fun _ => ai rfl rfl)) (by first | exact Or.inl rfl | exact Or.inr rfl))))))) (ai (by (repeat' (first | with_reducible rfl | exact trivial | refine ai ?_ ?_ | (show (_ : Int) = _; first | with_reducible rfl | exact wr1 (by omega) | (simp only [zz, reduceCtorEq] <;> first | done | rfl | omega) | omega | rfl) | exact rfl | exact (fun _ => rfl) | exact (fun _ _ => rfl) | exact nof))) (ai trivial (ai (trivial) ?_)))))))
    refine bcase_b (b := b.getLsbD k) (by first | exact rfl | (simp only [zz, reduceCtorEq] <;> first | done | exact rfl)) (fun h2 => ?_) (fun h2 => ?_)
    · skip
      refine ei _ (ai owners_ok (ei ((l, ((k : Nat) : Int))) (ei [] (ai (ai rfl (ai rfl (ai rfl (ai rfl (ai (fun _ => Or.inl rfl) (ai (by first | exact nof | exact (fun _ => ai rfl rfl)) (by first | exact Or.inl rfl | exact Or.inr rfl))))))) (ai (by (repeat' (first | with_reducible rfl | exact trivial | refine ai ?_ ?_ | (show (_ : Int) = _; first | with_reducible rfl | exact wr1 (by omega) | (simp only [zz, reduceCtorEq] <;> first | done | rfl | omega) | omega | rfl) | exact rfl | exact (fun _ => rfl) | exact (fun _ _ => rfl) | exact nof))) (ai trivial (ai (hl) ?_)))))))
      refine bcase_p (p := ownL l ((k : Nat) : Int) = []) (by show (((ownL l ((k : Nat) : Int)).length : Int) == 0) = true ↔ _; rw [beq_iff_eq, ← nil_len]; omega) (fun h3 => ?_) (fun h3 => ?_)
      · skip
        refine ai (ai (fun _ => (by (repeat' (first | exact rfl | exact trivial | exact (fun _ => rfl) | exact (fun _ _ => rfl) | exact nof | refine ai ?_ ?_)))) ?_) trivial
        show ple _ (bP (covQ ⟨⟨n, b⟩, fr⟩ n l))
        rw [show covQ ⟨⟨n, b⟩, fr⟩ n l = false from all_no h1 (by show (!(b.getLsbD k && decide (ownL l (k : Int) = []))) = false; rw [h2, decide_eq_true h3]; rfl)]
        any_goals (repeat' (first | with_reducible rfl | exact trivial | refine ai ?_ ?_ | (show (_ : Int) = _; first | with_reducible rfl | exact wr1 (by omega) | (simp only [zz, reduceCtorEq] <;> first | done | rfl | omega) | omega | rfl) | exact rfl | exact (fun _ => rfl) | exact (fun _ _ => rfl) | exact nof))
      · skip
        refine ei (k + 1) (ai (ai rfl rfl) (ai (ai ?_ rfl) (ai (ai (by show k + 1 ≤ 2 ^ n; omega) ?_) (by show 2 ^ n - (k + 1) < 2 ^ n - k; omega))))
        any_goals (repeat' (first | with_reducible rfl | exact trivial | refine ai ?_ ?_ | (show (_ : Int) = _; first | with_reducible rfl | exact wr1 (by omega) | (simp only [zz, reduceCtorEq] <;> first | done | rfl | omega) | omega | rfl) | exact rfl | exact (fun _ => rfl) | exact (fun _ _ => rfl) | exact nof))
        exact upto_succ hall (by show (!(b.getLsbD k && decide (ownL l (k : Int) = []))) = true; rw [h2, decide_eq_false h3]; rfl)
    · skip
      refine ei (k + 1) (ai (ai rfl rfl) (ai (ai ?_ rfl) (ai (ai (by show k + 1 ≤ 2 ^ n; omega) ?_) (by show 2 ^ n - (k + 1) < 2 ^ n - k; omega))))
      any_goals (repeat' (first | with_reducible rfl | exact trivial | refine ai ?_ ?_ | (show (_ : Int) = _; first | with_reducible rfl | exact wr1 (by omega) | (simp only [zz, reduceCtorEq] <;> first | done | rfl | omega) | omega | rfl) | exact rfl | exact (fun _ => rfl) | exact (fun _ _ => rfl) | exact nof))
      exact upto_succ hall (by show (!(b.getLsbD k && decide (ownL l (k : Int) = []))) = true; rw [h2]; rfl)
  · obtain rfl : k = 2 ^ n := by omega
    refine ai (ai (fun _ => (by (repeat' (first | exact rfl | exact trivial | exact (fun _ => rfl) | exact (fun _ _ => rfl) | exact nof | refine ai ?_ ?_)))) ?_) trivial
    show ple _ (bP (covQ ⟨⟨n, b⟩, fr⟩ n l))
    rw [show covQ ⟨⟨n, b⟩, fr⟩ n l = true from all_yes hall]
    any_goals (repeat' (first | with_reducible rfl | exact trivial | refine ai ?_ ?_ | (show (_ : Int) = _; first | with_reducible rfl | exact wr1 (by omega) | (simp only [zz, reduceCtorEq] <;> first | done | rfl | omega) | omega | rfl) | exact rfl | exact (fun _ => rfl) | exact (fun _ _ => rfl) | exact nof))

theorem first7_ok : FnOk Tryz.prog 78 firstS := by
  refine fnOk (Tb := tab) mixed tab_ok Tryz.func78 rfl rfl ?_
  rintro ⟨a, b⟩ hpre
  refine ai (ai rfl (ai rfl rfl)) ?_
  obtain ⟨ha, hb⟩ : a < 1048576 ∧ b < 1048576 := hpre
  refine ei (LAnn.inv { X := Nat, up := fun i => [(5, .s (iA i))], uo := fun i => [], inv := fun i => i ≤ 30 ∧ (∀ j, j < i → (a.testBit j != b.testBit j) = false), meas := fun i => 30 - i, x0 := 0 }) ?_
  refine ai (ai (ai (by (repeat' (first | exact rfl | exact trivial | exact (fun _ => rfl) | exact (fun _ _ => rfl) | exact nof | refine ai ?_ ?_))) (ai (by (repeat' (first | with_reducible rfl | exact trivial | refine ai ?_ ?_ | (show (_ : Int) = _; first | with_reducible rfl | exact wr1 (by omega) | (simp only [zz, reduceCtorEq] <;> first | done | rfl | omega) | omega | rfl) | exact rfl | exact (fun _ => rfl) | exact (fun _ _ => rfl) | exact nof))) (by (repeat' (first | with_reducible rfl | exact trivial | refine ai ?_ ?_ | (show (_ : Int) = _; first | with_reducible rfl | exact wr1 (by omega) | (simp only [zz, reduceCtorEq] <;> first | done | rfl | omega) | omega | rfl) | exact rfl | exact (fun _ => rfl) | exact (fun _ _ => rfl) | exact nof))))) rfl) (ai (ai (Nat.zero_le _) ?_) ?_)
  · exact fun j hj => absurd hj (Nat.not_lt_zero _)
  intro (i : Nat) ⟨hi, hno⟩
  refine bcase_p (p := i < 30) (by first | (with_reducible refine bif_lt ?_; omega) | (with_reducible refine bif_le ?_; omega) | (with_reducible refine bif_eq ?_; omega) | (with_reducible refine bif_ne ?_; omega) | exact b8_eq rfl | exact b8_ne rfl | exact bif_lt (by omega) | exact bif_le (by omega) | exact bif_eq (by omega) | exact bif_ne (by omega) | exact Iff.rfl | (simp only [zz, reduceCtorEq] <;> first | done | omega | exact Iff.rfl) | (simp; done) | (simp; omega)) (fun h1 => ?_) (fun h1 => ?_)
  · skip
    refine ei (.seq [0, 1, 2, 3, 4, 5, 6, 7, 8]) (ai (by kernel_rfl) ?_)
    repeat (refine ai (by first | exact Int.natCast_nonneg _ | omega | exact ai (Int.natCast_nonneg _) (by omega)) ?_)
    have e1 := andbit (k := a) (i := i) (by omega) (by omega)
    have e2 := andbit (k := b) (i := i) (by omega) (by omega)
    refine bcase_p (p := (a.testBit i != b.testBit i) = true) (by show (bits .and .i64 ((a : Int).fdiv (2 ^ min (i : Int).toNat IntKind.i64.bits)) 1 != bits .and .i64 ((b : Int).fdiv (2 ^ min (i : Int).toNat IntKind.i64.bits)) 1) = true ↔ _; rw [e1, e2]; cases a.testBit i <;> cases b.testBit i <;> simp) (fun h2 => ?_) (fun h2 => ?_)
    · skip
      repeat (refine ai (by first | exact Int.natCast_nonneg _ | omega | exact ai (Int.natCast_nonneg _) (by omega)) ?_)
      refine ai (ai (fun _ => trivial) ?_) trivial
      show (bits .and .i64 ((a : Int).fdiv (2 ^ min (i : Int).toNat IntKind.i64.bits)) 1 == 1) = firstB a b
      rw [hasb (by omega) (by omega), firstB, find_at h1 h2 hno]
    · skip
      refine ei (i + 1) (ai (ai rfl rfl) (ai (ai ?_ rfl) (ai (ai (by show i + 1 ≤ 30; omega) ?_) (by show 30 - (i + 1) < 30 - i; omega))))
      any_goals (repeat' (first | with_reducible rfl | exact trivial | refine ai ?_ ?_ | (show (_ : Int) = _; first | with_reducible rfl | exact wr1 (by omega) | (simp only [zz, reduceCtorEq] <;> first | done | rfl | omega) | omega | rfl) | exact rfl | exact (fun _ => rfl) | exact (fun _ _ => rfl) | exact nof))
      exact upto_succ hno (by simpa using h2)
  · obtain rfl : i = 30 := by omega
    refine ai (ai (fun _ => trivial) ?_) trivial
    show false = firstB a b
    rw [firstB, show (List.range 30).find? (fun i => a.testBit i != b.testBit i) = none by rw [List.find?_eq_none]; intro j hj; rw [hno j (List.mem_range.1 hj)]; simp]

/- the best number so far -/
def rBet (l old : List Cu) (w b : Nat) : Prop := l.length < old.length ∨ l.length = old.length ∧ (litL l < litL old ∨ litL l = litL old ∧ firstB w b = true)
instance (l old : List Cu) (w b : Nat) : Decidable (rBet l old w b) := by unfold rBet; infer_instance
@[irreducible] def rBs (x : Tk) (n : Nat) (all : List Cu) (w : Nat) (b : Option Nat) : Option Nat :=
  if covQ x n (chL all w) then (match b with | none => some w | some b => if rBet (chL all w) (chL all b) w b then some w else some b) else b
def rBT (x : Tk) (n : Nat) (all : List Cu) : Nat → Option Nat
  | 0 => none
  | w + 1 => rBs x n all w (rBT x n all w)
def eB : Option Nat → Int
  | none => -1
  | some w => (w : Int)
theorem rBT_lt {x : Tk} {n : Nat} {all : List Cu} : ∀ w b, rBT x n all w = some b → b < w
  | 0, b, h => by cases h
  | w + 1, b, h => by
    rw [rBT, rBs.eq_def] at h
    split at h
    · split at h
      · cases h; omega
      · rename_i c hc
        split at h
        · cases h; omega
        · cases h
          have := rBT_lt w _ hc; omega
    · have := rBT_lt w b h; omega
theorem rBT_some {x : Tk} {n : Nat} {all : List Cu} {w : Nat} (h : covQ x n (chL all w) = true) : ∀ m, w < m → ∃ b, rBT x n all m = some b
  | 0, h2 => absurd h2 (Nat.not_lt_zero _)
  | m + 1, h2 => by
    rw [rBT, rBs.eq_def]
    by_cases e : w = m
    · subst e
      rw [if_pos h]
      split
      · exact ⟨_, rfl⟩
      · split <;> exact ⟨_, rfl⟩
    · obtain ⟨b, hb⟩ := rBT_some h m (by omega)
      rw [hb]
      split
      · split
        · exact ⟨_, rfl⟩
        · split <;> exact ⟨_, rfl⟩
      · exact ⟨b, rfl⟩
def rleaL (x : Tk) (n : Nat) (all : List Cu) : List Cu := chL all ((rBT x n all (2 ^ all.length)).getD 0)
def rleaS : Spec := fnS (fun y : Nat × Tk => [kA y.2]) (fun y => y.1 ≤ 6 ∧ y.2.on.n = y.1 ∧ (primesL y.1 y.2).length ≤ 10 ∧ covQ y.2 y.1 (primesL y.1 y.2) = true) (fun y => csP (rleaL y.2 y.1 (primesL y.1 y.2)))
theorem rlea_ok : FnOk Tryz.prog 44 rleaS := by
  refine fnOk (Tb := tab) mixed tab_ok Tryz.func44 rfl rfl ?_
  rintro ⟨n, x⟩ hpre
  refine ai (ai rfl (ai rfl rfl)) ?_
  obtain ⟨hn, hx, h10, hcq⟩ : n ≤ 6 ∧ x.on.n = n ∧ (primesL n x).length ≤ 10 ∧ covQ x n (primesL n x) = true := hpre
  have hok : ∀ c ∈ primesL n x, c.Ok n := fun c hc => ((mem_primes hn).1 hc).1
  obtain ⟨all, hall⟩ : ∃ L, primesL n x = L := ⟨_, rfl⟩
  have c2 := fnS_at all_ok' (n, x) ⟨hn, hx⟩ (r := csP all) (by show csP (primesL n x) = _; rw [hall])
  have hres : rleaL x n (primesL n x) = rleaL x n all := by rw [hall]
  rw [hall] at h10 hcq hok
  have hp := pow16 (show all.length ≤ 16 by omega)
  have hpos := Nat.two_pow_pos all.length
  have epow := pow_i (show all.length ≤ 16 by omega)
  refine ei _ (ai c2 (ei (()) (ei [] (ai (ai rfl (ai rfl (ai rfl (ai rfl (ai (fun _ => Or.inl rfl) (ai (by first | exact nof | exact (fun _ => ai rfl rfl)) (by first | exact Or.inl rfl | exact Or.inr rfl))))))) (ai (by (repeat' (first | with_reducible rfl | exact trivial | refine ai ?_ ?_ | (show (_ : Int) = _; first | with_reducible rfl | exact wr1 (by omega) | (simp only [zz, reduceCtorEq] <;> first | done | rfl | omega) | omega | rfl) | exact rfl | exact (fun _ => rfl) | exact (fun _ _ => rfl) | exact nof))) (ai trivial (ai (trivial) ?_)))))))
  refine ei (LAnn.inv { X := Nat, up := fun w => [(5, .s (iA w)), (4, .s (iA (eB (rBT x n all w))))], uo := fun _ => [], inv := fun w => w ≤ 2 ^ all.length, meas := fun w => 2 ^ all.length - w, x0 := 0 }) ?_
  refine ai (ai (ai (by (repeat' (first | exact rfl | exact trivial | exact (fun _ => rfl) | exact (fun _ _ => rfl) | exact nof | refine ai ?_ ?_))) (ai ?_ ?_)) ?_) (ai ?_ ?_)
  · skip
    (repeat' (first | exact rfl | exact trivial | exact (fun _ => rfl) | exact (fun _ _ => rfl) | exact nof | refine ai ?_ ?_))
  · skip
    (repeat' (first | exact rfl | exact trivial | exact (fun _ => rfl) | exact (fun _ _ => rfl) | exact nof | refine ai ?_ ?_))
  · rfl
  · exact Nat.zero_le _
  intro (w : Nat) (hw : w ≤ 2 ^ all.length)
  repeat (refine ai (by first | exact Int.natCast_nonneg _ | omega | exact ai (Int.natCast_nonneg _) (by omega)) ?_)
  refine bcase_p (p := w < 2 ^ all.length) (by show decide ((w : Int) < IntKind.i64.wrap (1 * 2 ^ min (all.length : Int).toNat IntKind.i64.bits)) = true ↔ _; rw [epow, decide_eq_true_iff]; omega) (fun h2 => ?_) (fun h2 => ?_)
  · have hlt := rBT_lt (x := x) (n := n) (all := all) w
    have hstep : rBT x n all (w + 1) = rBs x n all w (rBT x n all w) := rfl
    generalize rBT x n all w = b at hlt hstep ⊢
    obtain ⟨l, hl⟩ : ∃ l, chL all w = l := ⟨_, rfl⟩
    have hll : l.length ≤ 16 := by rw [← hl]; have := ch_len_le all w all.length; show (chTo all w all.length).length ≤ 16; omega
    have hlok : ∀ c ∈ l, c.Ok n := fun c hc => hok c (ch_mem (by rw [hl]; exact hc))
    rw [rBs.eq_def, hl] at hstep
    have d1 := fnS_at rch_ok (all, w) ⟨by show all.length ≤ 60; omega, by show w < 1048576; omega⟩ (r := csP l) (by show csP (chL all w) = _; rw [hl])
    have s1 := fnS_at rsum_ok (n, l) ⟨hn, by show l.length ≤ 1000000; omega, hlok⟩ (r := iP (litL l : Int)) rfl
    refine ei _ (ai d1 (ei (()) (ei [] (ai (ai rfl (ai rfl (ai rfl (ai rfl (ai (fun _ => Or.inl rfl) (ai (by first | exact nof | exact (fun _ => ai rfl rfl)) (by first | exact Or.inl rfl | exact Or.inr rfl))))))) (ai (by (repeat' (first | with_reducible rfl | exact trivial | refine ai ?_ ?_ | (show (_ : Int) = _; first | with_reducible rfl | exact wr1 (by omega) | (simp only [zz, reduceCtorEq] <;> first | done | rfl | omega) | omega | rfl) | exact rfl | exact (fun _ => rfl) | exact (fun _ _ => rfl) | exact nof))) (ai trivial (ai (trivial) ?_)))))))
    refine ei _ (ai rcov_ok (ei ((n, x, l)) (ei [] (ai (ai rfl (ai rfl (ai rfl (ai rfl (ai (fun _ => Or.inl rfl) (ai (by first | exact nof | exact (fun _ => ai rfl rfl)) (by first | exact Or.inl rfl | exact Or.inr rfl))))))) (ai (by (repeat' (first | with_reducible rfl | exact trivial | refine ai ?_ ?_ | (show (_ : Int) = _; first | with_reducible rfl | exact wr1 (by omega) | (simp only [zz, reduceCtorEq] <;> first | done | rfl | omega) | omega | rfl) | exact rfl | exact (fun _ => rfl) | exact (fun _ _ => rfl) | exact nof))) (ai trivial (ai (⟨hn, hx, by show l.length ≤ 1000000; omega⟩) ?_)))))))
    refine bcase_b (b := !covQ x n l) (by first | exact rfl | (simp only [zz, reduceCtorEq] <;> first | done | exact rfl)) (fun h3 => ?_) (fun h3 => ?_)
    · have h3 : covQ x n l = false := by simpa using h3
      rw [h3, if_neg (by decide)] at hstep
      refine ei (w + 1) (ai (ai rfl rfl) (ai (ai ?_ rfl) (ai ?_ ?_)))
      · skip
        (repeat' (first | exact rfl | exact trivial | exact (fun _ => rfl) | exact (fun _ _ => rfl) | exact nof | refine ai ?_ ?_))
        · exact wr1 (by omega)
        · show eB b = eB (rBT x n all (w + 1))
          rw [hstep]
      · show w + 1 ≤ 2 ^ all.length; omega
      · show 2 ^ all.length - (w + 1) < 2 ^ all.length - w; omega
    have h3 : covQ x n l = true := by simpa using h3
    rw [if_pos h3] at hstep
    cases b with
    | none =>
      have hstep : rBT x n all (w + 1) = some w := hstep
      refine ei (w + 1) (ai (ai rfl rfl) (ai (ai ?_ rfl) (ai ?_ ?_)))
      · skip
        (repeat' (first | exact rfl | exact trivial | exact (fun _ => rfl) | exact (fun _ _ => rfl) | exact nof | refine ai ?_ ?_))
        · exact wr1 (by omega)
        · show (w : Int) = eB (rBT x n all (w + 1))
          rw [hstep, eB]
      · show w + 1 ≤ 2 ^ all.length; omega
      · show 2 ^ all.length - (w + 1) < 2 ^ all.length - w; omega
    | some b =>
      have hlt := hlt b rfl
      obtain ⟨old, hold⟩ : ∃ l, chL all b = l := ⟨_, rfl⟩
      have hol : old.length ≤ 16 := by rw [← hold]; have := ch_len_le all b all.length; show (chTo all b all.length).length ≤ 16; omega
      have hook : ∀ c ∈ old, c.Ok n := fun c hc => hok c (ch_mem (by rw [hold]; exact hc))
      have hstep : rBT x n all (w + 1) = if rBet l old w b then some w else some b := by rw [← hold]; exact hstep
      have d2 := fnS_at rch_ok (all, b) ⟨by show all.length ≤ 60; omega, by show b < 1048576; omega⟩ (r := csP old) (by show csP (chL all b) = _; rw [hold])
      have s2 := fnS_at rsum_ok (n, old) ⟨hn, by show old.length ≤ 1000000; omega, hook⟩ (r := iP (litL old : Int)) rfl
      refine ei _ (ai d2 (ei (()) (ei [] (ai (ai rfl (ai rfl (ai rfl (ai rfl (ai (fun _ => Or.inl rfl) (ai (by first | exact nof | exact (fun _ => ai rfl rfl)) (by first | exact Or.inl rfl | exact Or.inr rfl))))))) (ai (by (repeat' (first | with_reducible rfl | exact trivial | refine ai ?_ ?_ | (show (_ : Int) = _; first | with_reducible rfl | exact wr1 (by omega) | (simp only [zz, reduceCtorEq] <;> first | done | rfl | omega) | omega | rfl) | exact rfl | exact (fun _ => rfl) | exact (fun _ _ => rfl) | exact nof))) (ai trivial (ai (trivial) ?_)))))))
      refine bcase_p (p := l.length < old.length) (by first | (with_reducible refine bif_lt ?_; omega) | (with_reducible refine bif_le ?_; omega) | (with_reducible refine bif_eq ?_; omega) | (with_reducible refine bif_ne ?_; omega) | exact b8_eq rfl | exact b8_ne rfl | exact bif_lt (by omega) | exact bif_le (by omega) | exact bif_eq (by omega) | exact bif_ne (by omega) | exact Iff.rfl | (simp only [zz, reduceCtorEq] <;> first | done | omega | exact Iff.rfl) | (simp; done) | (simp; omega)) (fun h5 => ?_) (fun h5 => ?_)
      · skip
        refine ei (w + 1) (ai (ai rfl rfl) (ai (ai ?_ rfl) (ai ?_ ?_)))
        · skip
          (repeat' (first | exact rfl | exact trivial | exact (fun _ => rfl) | exact (fun _ _ => rfl) | exact nof | refine ai ?_ ?_))
          · exact wr1 (by omega)
          · show (w : Int) = eB (rBT x n all (w + 1))
            rw [hstep, if_pos (show rBet l old w b from (Or.inl h5)), eB]
        · show w + 1 ≤ 2 ^ all.length; omega
        · show 2 ^ all.length - (w + 1) < 2 ^ all.length - w; omega
      refine bcase_p (p := l.length = old.length) (by first | (with_reducible refine bif_lt ?_; omega) | (with_reducible refine bif_le ?_; omega) | (with_reducible refine bif_eq ?_; omega) | (with_reducible refine bif_ne ?_; omega) | exact b8_eq rfl | exact b8_ne rfl | exact bif_lt (by omega) | exact bif_le (by omega) | exact bif_eq (by omega) | exact bif_ne (by omega) | exact Iff.rfl | (simp only [zz, reduceCtorEq] <;> first | done | omega | exact Iff.rfl) | (simp; done) | (simp; omega)) (fun h6 => ?_) (fun h6 => ?_)
      · skip
        refine ei _ (ai s1 (ei (()) (ei [] (ai (ai rfl (ai rfl (ai rfl (ai rfl (ai (fun _ => Or.inl rfl) (ai (by first | exact nof | exact (fun _ => ai rfl rfl)) (by first | exact Or.inl rfl | exact Or.inr rfl))))))) (ai (by (repeat' (first | with_reducible rfl | exact trivial | refine ai ?_ ?_ | (show (_ : Int) = _; first | with_reducible rfl | exact wr1 (by omega) | (simp only [zz, reduceCtorEq] <;> first | done | rfl | omega) | omega | rfl) | exact rfl | exact (fun _ => rfl) | exact (fun _ _ => rfl) | exact nof))) (ai trivial (ai (trivial) ?_)))))))
        refine ei _ (ai s2 (ei (()) (ei [] (ai (ai rfl (ai rfl (ai rfl (ai rfl (ai (fun _ => Or.inl rfl) (ai (by first | exact nof | exact (fun _ => ai rfl rfl)) (by first | exact Or.inl rfl | exact Or.inr rfl))))))) (ai (by (repeat' (first | with_reducible rfl | exact trivial | refine ai ?_ ?_ | (show (_ : Int) = _; first | with_reducible rfl | exact wr1 (by omega) | (simp only [zz, reduceCtorEq] <;> first | done | rfl | omega) | omega | rfl) | exact rfl | exact (fun _ => rfl) | exact (fun _ _ => rfl) | exact nof))) (ai trivial (ai (trivial) ?_)))))))
        refine bcase_p (p := litL l < litL old) (by first | (with_reducible refine bif_lt ?_; omega) | (with_reducible refine bif_le ?_; omega) | (with_reducible refine bif_eq ?_; omega) | (with_reducible refine bif_ne ?_; omega) | exact b8_eq rfl | exact b8_ne rfl | exact bif_lt (by omega) | exact bif_le (by omega) | exact bif_eq (by omega) | exact bif_ne (by omega) | exact Iff.rfl | (simp only [zz, reduceCtorEq] <;> first | done | omega | exact Iff.rfl) | (simp; done) | (simp; omega)) (fun h7 => ?_) (fun h7 => ?_)
        · skip
          refine ei (w + 1) (ai (ai rfl rfl) (ai (ai ?_ rfl) (ai ?_ ?_)))
          · skip
            (repeat' (first | exact rfl | exact trivial | exact (fun _ => rfl) | exact (fun _ _ => rfl) | exact nof | refine ai ?_ ?_))
            · exact wr1 (by omega)
            · show (w : Int) = eB (rBT x n all (w + 1))
              rw [hstep, if_pos (show rBet l old w b from (Or.inr ⟨h6, .inl h7⟩)), eB]
          · show w + 1 ≤ 2 ^ all.length; omega
          · show 2 ^ all.length - (w + 1) < 2 ^ all.length - w; omega
        refine bcase_b (b := true) (by exact beq_iff_eq.2 (by omega)) (fun _ => ?_) (fun h => absurd h (by decide))
        refine ei _ (ai s1 (ei (()) (ei [] (ai (ai rfl (ai rfl (ai rfl (ai rfl (ai (fun _ => Or.inl rfl) (ai (by first | exact nof | exact (fun _ => ai rfl rfl)) (by first | exact Or.inl rfl | exact Or.inr rfl))))))) (ai (by (repeat' (first | with_reducible rfl | exact trivial | refine ai ?_ ?_ | (show (_ : Int) = _; first | with_reducible rfl | exact wr1 (by omega) | (simp only [zz, reduceCtorEq] <;> first | done | rfl | omega) | omega | rfl) | exact rfl | exact (fun _ => rfl) | exact (fun _ _ => rfl) | exact nof))) (ai trivial (ai (trivial) ?_)))))))
        refine ei _ (ai s2 (ei (()) (ei [] (ai (ai rfl (ai rfl (ai rfl (ai rfl (ai (fun _ => Or.inl rfl) (ai (by first | exact nof | exact (fun _ => ai rfl rfl)) (by first | exact Or.inl rfl | exact Or.inr rfl))))))) (ai (by (repeat' (first | with_reducible rfl | exact trivial | refine ai ?_ ?_ | (show (_ : Int) = _; first | with_reducible rfl | exact wr1 (by omega) | (simp only [zz, reduceCtorEq] <;> first | done | rfl | omega) | omega | rfl) | exact rfl | exact (fun _ => rfl) | exact (fun _ _ => rfl) | exact nof))) (ai trivial (ai (trivial) ?_)))))))
        refine bcase_p (p := litL l = litL old) (by first | (with_reducible refine bif_lt ?_; omega) | (with_reducible refine bif_le ?_; omega) | (with_reducible refine bif_eq ?_; omega) | (with_reducible refine bif_ne ?_; omega) | exact b8_eq rfl | exact b8_ne rfl | exact bif_lt (by omega) | exact bif_le (by omega) | exact bif_eq (by omega) | exact bif_ne (by omega) | exact Iff.rfl | (simp only [zz, reduceCtorEq] <;> first | done | omega | exact Iff.rfl) | (simp; done) | (simp; omega)) (fun h8 => ?_) (fun h8 => ?_)
        · skip
          refine ei _ (ai first7_ok (ei ((w, b)) (ei [] (ai (ai rfl (ai rfl (ai rfl (ai rfl (ai (fun _ => Or.inl rfl) (ai (by first | exact nof | exact (fun _ => ai rfl rfl)) (by first | exact Or.inl rfl | exact Or.inr rfl))))))) (ai (by (repeat' (first | with_reducible rfl | exact trivial | refine ai ?_ ?_ | (show (_ : Int) = _; first | with_reducible rfl | exact wr1 (by omega) | (simp only [zz, reduceCtorEq] <;> first | done | rfl | omega) | omega | rfl) | exact rfl | exact (fun _ => rfl) | exact (fun _ _ => rfl) | exact nof))) (ai trivial (ai (⟨by show w < 1048576; omega, by show b < 1048576; omega⟩) ?_)))))))
          refine bcase_b (b := firstB w b) (by first | exact rfl | (simp only [zz, reduceCtorEq] <;> first | done | exact rfl)) (fun h9 => ?_) (fun h9 => ?_)
          · skip
            refine ei (w + 1) (ai (ai rfl rfl) (ai (ai ?_ rfl) (ai ?_ ?_)))
            · skip
              (repeat' (first | exact rfl | exact trivial | exact (fun _ => rfl) | exact (fun _ _ => rfl) | exact nof | refine ai ?_ ?_))
              · exact wr1 (by omega)
              · show (w : Int) = eB (rBT x n all (w + 1))
                rw [hstep, if_pos (show rBet l old w b from (Or.inr ⟨h6, .inr ⟨h8, h9⟩⟩)), eB]
            · show w + 1 ≤ 2 ^ all.length; omega
            · show 2 ^ all.length - (w + 1) < 2 ^ all.length - w; omega
          · skip
            refine ei (w + 1) (ai (ai rfl rfl) (ai (ai ?_ rfl) (ai ?_ ?_)))
            · skip
              (repeat' (first | exact rfl | exact trivial | exact (fun _ => rfl) | exact (fun _ _ => rfl) | exact nof | refine ai ?_ ?_))
              · exact wr1 (by omega)
              · show (b : Int) = eB (rBT x n all (w + 1))
                rw [hstep, if_neg (show ¬ rBet l old w b from (fun h => h.elim h5 fun h => h.2.elim h7 fun h => by rw [h9] at h; exact absurd h.2 (by decide))), eB]
            · show w + 1 ≤ 2 ^ all.length; omega
            · show 2 ^ all.length - (w + 1) < 2 ^ all.length - w; omega
        · skip
          refine ei (w + 1) (ai (ai rfl rfl) (ai (ai ?_ rfl) (ai ?_ ?_)))
          · skip
            (repeat' (first | exact rfl | exact trivial | exact (fun _ => rfl) | exact (fun _ _ => rfl) | exact nof | refine ai ?_ ?_))
            · exact wr1 (by omega)
            · show (b : Int) = eB (rBT x n all (w + 1))
              rw [hstep, if_neg (show ¬ rBet l old w b from (fun h => h.elim h5 fun h => h.2.elim h7 fun h => h8 h.1)), eB]
          · show w + 1 ≤ 2 ^ all.length; omega
          · show 2 ^ all.length - (w + 1) < 2 ^ all.length - w; omega
      · skip
        refine bcase_b (b := false) (by exact beq_eq_false_iff_ne.2 (by omega)) (fun h => absurd h (by decide)) (fun _ => ?_)
        refine ei (w + 1) (ai (ai rfl rfl) (ai (ai ?_ rfl) (ai ?_ ?_)))
        · skip
          (repeat' (first | exact rfl | exact trivial | exact (fun _ => rfl) | exact (fun _ _ => rfl) | exact nof | refine ai ?_ ?_))
          · exact wr1 (by omega)
          · show (b : Int) = eB (rBT x n all (w + 1))
            rw [hstep, if_neg (show ¬ rBet l old w b from (fun h => h.elim h5 fun h => h6 h.1)), eB]
        · show w + 1 ≤ 2 ^ all.length; omega
        · show 2 ^ all.length - (w + 1) < 2 ^ all.length - w; omega
  · obtain rfl : w = 2 ^ all.length := by omega
    obtain ⟨b, hb⟩ := rBT_some (x := x) (n := n) (all := all) (w := 2 ^ all.length - 1) (by rw [ch_full]; exact hcq) (2 ^ all.length) (by omega)
    have hlt := rBT_lt _ _ hb
    rw [hb]
    refine ei _ (ai rch_ok (ei ((all, b)) (ei [] (ai (ai rfl (ai rfl (ai rfl (ai rfl (ai (fun _ => Or.inl rfl) (ai (by first | exact nof | exact (fun _ => ai rfl rfl)) (by first | exact Or.inl rfl | exact Or.inr rfl))))))) (ai (by (repeat' (first | with_reducible rfl | exact trivial | refine ai ?_ ?_ | (show (_ : Int) = _; first | with_reducible rfl | exact wr1 (by omega) | (simp only [zz, reduceCtorEq] <;> first | done | rfl | omega) | omega | rfl) | exact rfl | exact (fun _ => rfl) | exact (fun _ _ => rfl) | exact nof))) (ai trivial (ai (⟨by show all.length ≤ 60; omega, by show b < 1048576; omega⟩) ?_)))))))
    refine ai (ai (fun _ => (by (repeat' (first | exact rfl | exact trivial | exact (fun _ => rfl) | exact (fun _ _ => rfl) | exact nof | refine ai ?_ ?_)))) ?_) trivial
    show ple _ (csP (rleaL x n (primesL n x)))
    rw [hres, rleaL, hb]
    any_goals (repeat' (first | with_reducible rfl | exact trivial | refine ai ?_ ?_ | (show (_ : Int) = _; first | with_reducible rfl | exact wr1 (by omega) | (simp only [zz, reduceCtorEq] <;> first | done | rfl | omega) | omega | rfl) | exact rfl | exact (fun _ => rfl) | exact (fun _ _ => rfl) | exact nof))
def rmformR (x : Tk) : List Cu := if chkK x = 0 then rleaL x x.on.n.toNat (primesL x.on.n.toNat x) else []
def rmformS : Spec := fnS (fun x : Tk => [kA x]) (fun x => chkK x = 0 → (primesL x.on.n.toNat x).length ≤ 10 ∧ covQ x x.on.n.toNat (primesL x.on.n.toNat x) = true) (fun x => .tup [csP (rmformR x), iP (chkK x)])
theorem rmform_ok : FnOk Tryz.prog 17 rmformS := by
  refine fnOk (Tb := tab) mixed tab_ok Tryz.func17 rfl rfl ?_
  rintro (x : Tk) hpre
  refine ai (ai rfl (ai rfl rfl)) ?_
  have h : chkK x = 0 → (primesL x.on.n.toNat x).length ≤ 10 ∧ covQ x x.on.n.toNat (primesL x.on.n.toNat x) = true := hpre
  refine ei _ (ai rCheckTask_ok (ei (x) (ei [] (ai (ai rfl (ai rfl (ai rfl (ai rfl (ai (fun _ => Or.inl rfl) (ai (by first | exact nof | exact (fun _ => ai rfl rfl)) (by first | exact Or.inl rfl | exact Or.inr rfl))))))) (ai (by (repeat' (first | with_reducible rfl | exact trivial | refine ai ?_ ?_ | (show (_ : Int) = _; first | with_reducible rfl | exact wr1 (by omega) | (simp only [zz, reduceCtorEq] <;> first | done | rfl | omega) | omega | rfl) | exact rfl | exact (fun _ => rfl) | exact (fun _ _ => rfl) | exact nof))) (ai trivial (ai (trivial) ?_)))))))
  refine bcase_n (p := chkK x = 0) (by first | (with_reducible refine bif_lt ?_; omega) | (with_reducible refine bif_le ?_; omega) | (with_reducible refine bif_eq ?_; omega) | (with_reducible refine bif_ne ?_; omega) | exact b8_eq rfl | exact b8_ne rfl | exact bif_lt (by omega) | exact bif_le (by omega) | exact bif_eq (by omega) | exact bif_ne (by omega) | exact Iff.rfl | (simp only [zz, reduceCtorEq] <;> first | done | omega | exact Iff.rfl) | (simp; done) | (simp; omega)) (fun h1 => ?_) (fun h1 => ?_)
  · skip
    refine ai (ai (fun _ => (by (repeat' (first | exact rfl | exact trivial | exact (fun _ => rfl) | exact (fun _ _ => rfl) | exact nof | refine ai ?_ ?_)))) ?_) trivial
    show ple _ (.tup [csP (rmformR x), iP (chkK x)])
    rw [rmformR, if_neg h1]
    any_goals (repeat' (first | with_reducible rfl | exact trivial | refine ai ?_ ?_ | (show (_ : Int) = _; first | with_reducible rfl | exact wr1 (by omega) | (simp only [zz, reduceCtorEq] <;> first | done | rfl | omega) | omega | rfl) | exact rfl | exact (fun _ => rfl) | exact (fun _ _ => rfl) | exact nof))
  obtain ⟨n, hn, hx, _⟩ := chkT_zero (chkK_zero h1).1
  have hnn : x.on.n.toNat = n := by rw [hx]; rfl
  have h2 := h h1
  rw [hnn] at h2
  refine ei _ (ai rlea_ok (ei ((n, x)) (ei [] (ai (ai rfl (ai rfl (ai rfl (ai rfl (ai (fun _ => Or.inl rfl) (ai (by first | exact nof | exact (fun _ => ai rfl rfl)) (by first | exact Or.inl rfl | exact Or.inr rfl))))))) (ai (by (repeat' (first | with_reducible rfl | exact trivial | refine ai ?_ ?_ | (show (_ : Int) = _; first | with_reducible rfl | exact wr1 (by omega) | (simp only [zz, reduceCtorEq] <;> first | done | rfl | omega) | omega | rfl) | exact rfl | exact (fun _ => rfl) | exact (fun _ _ => rfl) | exact nof))) (ai trivial (ai (⟨hn, hx, h2.1, h2.2⟩) ?_)))))))
  refine ai (ai (fun _ => (by (repeat' (first | exact rfl | exact trivial | exact (fun _ => rfl) | exact (fun _ _ => rfl) | exact nof | refine ai ?_ ?_)))) ?_) trivial
  show ple _ (.tup [csP (rmformR x), iP (chkK x)])
  rw [rmformR, if_pos h1, h1, hnn]
  any_goals (repeat' (first | with_reducible rfl | exact trivial | refine ai ?_ ?_ | (show (_ : Int) = _; first | with_reducible rfl | exact wr1 (by omega) | (simp only [zz, reduceCtorEq] <;> first | done | rfl | omega) | omega | rfl) | exact rfl | exact (fun _ => rfl) | exact (fun _ _ => rfl) | exact nof))

end Go.Sx.Pn
