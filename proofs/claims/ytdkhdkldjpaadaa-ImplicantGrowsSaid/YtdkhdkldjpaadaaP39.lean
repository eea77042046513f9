/- The law of chapter 6 on covers, walked. -/
import Derived.Test.YtdkhdkldjpaadaaP38
import Derived.Test.YtdkhdkldjpaadaaP36
set_option maxHeartbeats 1000000
set_option maxRecDepth 4000
set_option linter.unusedSimpArgs false
set_option linter.unusedVariables false
namespace Go.Sx.Pn
open Go Go.Proofs

theorem ok_chk {n : Nat} (hn : n ≤ 6) {c : Cu} (hc : c.Ok n) : chkC (n : Int) c = 0 := by
  have h3 : ¬ (6 : Int) < n := by omega
  simp [chkC, h3, hc.care, hc.value]
theorem chkT_of {n : Nat} (hn : n ≤ 6) {b : U} (h : ∀ k, 2 ^ n ≤ k → k < 64 → b.getLsbD k = false) : chkT ⟨n, b⟩ = 0 := by
  have h3 : ¬ (6 : Int) < n := by omega
  have h0 : ¬ (n : Int) < 0 := by omega
  simp [chkT, h3, h0, (whole_iff hn b).2 h]
theorem tb_high {n : Nat} (hn : n ≤ 6) {t : Tb} (ht : t.n = n) (h : chkT t = 0) {k : Nat} (hk : 2 ^ n ≤ k) (hk2 : k < 64) : t.bits.getLsbD k = false := by
  obtain ⟨m, hm, e, hb⟩ := chkT_zero h
  obtain rfl : n = m := by omega
  exact (whole_iff hn _).1 hb k hk hk2
section
variable {z : Int} (hz : z = 0) {n : Nat} {x : Tk}
include hz
theorem primes_at (h : chkK x = 0) (hx : x.on.n = n) : FnOk Try.prog 23 (fnS (fun _ : Unit => PrimesS.args x) (fun _ => True) (fun _ => .tup [csP (primesL n x), iP z])) :=
  fnS_at Primes_ok x trivial (by rw [hz]; simp [h, hx])
theorem const_at (hn : n ≤ 6) : FnOk Try.prog 58 (fnS (fun _ : Unit => ConstS.args ((n : Int), false)) (fun _ => True) (fun _ => .tup [tP ⟨n, 0#64⟩, iP z])) :=
  fnS_at Const_ok ((n : Int), false) trivial (by
    show PV.tup [tP (constC n false).1, iP (constC n false).2] = _
    rw [hz, show constC n false = (⟨n, 0#64⟩, 0) by rw [constC, if_pos (by omega), constU_false]])
theorem implies_at {c : Cu} (h : chkK x = 0) (hx : x.on.n = n) (hc : chkC (n : Int) c = 0) {b : Bool} (hi : impliesU n x c = b) : FnOk Try.prog 35 (fnS (fun _ : Unit => ImpliesS.args (x, c)) (fun _ => True) (fun _ => .tup [bP b, iP z])) :=
  fnS_at Implies_ok (x, c) trivial (by
    show PV.tup [bP (if chkK x = 0 then (if chkC x.on.n c = 0 then impliesU x.on.n.toNat x c else false) else false), iP (if chkK x = 0 then chkC x.on.n c else chkK x)] = _
    rw [hz, if_pos h, if_pos h, hx, if_pos hc, hc, Int.toNat_natCast, hi])
theorem inside_at' {a b : Cu} (h : chk2 (n : Int) a b = 0) {r : Bool} (hr : insideC a b = r) : FnOk Try.prog 29 (fnS (fun _ : Unit => InsideS.args ((n : Int), a, b)) (fun _ => True) (fun _ => .tup [bP r, iP z])) :=
  fnS_at Inside_ok ((n : Int), a, b) trivial (by rw [hz]; simp [h, hr])
theorem or_at {u v : U} (hu : chkT ⟨n, u⟩ = 0) (hv : chkT ⟨n, v⟩ = 0) : FnOk Try.prog 59 (fnS (fun _ : Unit => OrS.args (⟨n, u⟩, ⟨n, v⟩)) (fun _ => True) (fun _ => resT (⟨n, u ||| v⟩, z))) :=
  fnS_at Or_ok (⟨n, u⟩, ⟨n, v⟩) trivial (by show resT (joinT _ _ _) = _; rw [hz]; simp [joinT, hu, hv])
end

def coversLaw : Spec := fnS (fun x : Tk => [kA x]) (fun _ => True) (fun _ => bP true)
theorem covers_law : FnOk Try.prog 11 coversLaw := by
  refine fnOk (Tb := tab) mixed tab_ok Try.func11 rfl rfl ?_
  rintro (x : Tk) hpre
  refine And.intro (And.intro rfl (And.intro rfl rfl)) ?_
  refine Exists.intro _ (And.intro rCheckTask_ok (Exists.intro (x) (Exists.intro [] (And.intro (And.intro rfl (And.intro rfl (And.intro rfl (And.intro rfl (And.intro (fun _ => Or.inl rfl) (by first | exact (fun h => absurd h Bool.false_ne_true) | exact (fun _ => And.intro rfl rfl))))))) (And.intro (by (repeat' (first | with_reducible rfl | exact trivial | refine And.intro ?_ ?_ | (show (_ : Int) = _; first | with_reducible rfl | exact wr1 (by omega) | (simp only [zA, zB, zC, zD, zE, zF, zG, zH, zI, zJ, zK, zL, zM, zN, zO, zP, zQ, zR, zS, zT, zU, zV, zW, zX, zY, zZ, yA, yB, yC, yD, yE, yF, yG, yH, yI, yJ, yK, yL, yM, reduceCtorEq] <;> first | done | rfl | omega) | omega | rfl) | exact rfl | exact (fun _ => rfl) | exact (fun _ _ => rfl) | exact (fun h => absurd h Bool.false_ne_true)))) (And.intro trivial (And.intro (trivial) ?_)))))))
  refine bcase_n (p := chkK x = 0) (by first | (with_reducible refine bif_lt ?_; omega) | (with_reducible refine bif_le ?_; omega) | (with_reducible refine bif_eq ?_; omega) | (with_reducible refine bif_ne ?_; omega) | exact b8_eq rfl | exact b8_ne rfl | exact bif_lt (by omega) | exact bif_le (by omega) | exact bif_eq (by omega) | exact bif_ne (by omega) | exact Iff.rfl | (simp only [zA, zB, zC, zD, zE, zF, zG, zH, zI, zJ, zK, zL, zM, zN, zO, zP, zQ, zR, zS, zT, zU, zV, zW, zX, zY, zZ, yA, yB, yC, yD, yE, yF, yG, yH, yI, yJ, yK, yL, yM, reduceCtorEq] <;> first | done | omega | exact Iff.rfl) | (simp; done) | (simp; omega)) (fun h1 => ?_) (fun h1 => ?_)
  · skip
    refine Exists.intro _ (And.intro awake_ok (Exists.intro (()) (Exists.intro [] (And.intro (And.intro rfl (And.intro rfl (And.intro rfl (And.intro rfl (And.intro (fun _ => Or.inl rfl) (by first | exact (fun h => absurd h Bool.false_ne_true) | exact (fun _ => And.intro rfl rfl))))))) (And.intro (by (repeat' (first | with_reducible rfl | exact trivial | refine And.intro ?_ ?_ | (show (_ : Int) = _; first | with_reducible rfl | exact wr1 (by omega) | (simp only [zA, zB, zC, zD, zE, zF, zG, zH, zI, zJ, zK, zL, zM, zN, zO, zP, zQ, zR, zS, zT, zU, zV, zW, zX, zY, zZ, yA, yB, yC, yD, yE, yF, yG, yH, yI, yJ, yK, yL, yM, reduceCtorEq] <;> first | done | rfl | omega) | omega | rfl) | exact rfl | exact (fun _ => rfl) | exact (fun _ _ => rfl) | exact (fun h => absurd h Bool.false_ne_true)))) (And.intro trivial (And.intro (trivial) ?_)))))))
    refine And.intro (And.intro (fun _ => (by (repeat' (first | exact rfl | exact trivial | exact (fun _ => rfl) | exact (fun _ _ => rfl) | exact (fun h => absurd h Bool.false_ne_true) | refine And.intro ?_ ?_)))) ?_) trivial
    any_goals (repeat' (first | with_reducible rfl | exact trivial | refine And.intro ?_ ?_ | (show (_ : Int) = _; first | with_reducible rfl | exact wr1 (by omega) | (simp only [zA, zB, zC, zD, zE, zF, zG, zH, zI, zJ, zK, zL, zM, zN, zO, zP, zQ, zR, zS, zT, zU, zV, zW, zX, zY, zZ, yA, yB, yC, yD, yE, yF, yG, yH, yI, yJ, yK, yL, yM, reduceCtorEq] <;> first | done | rfl | omega) | omega | rfl) | exact rfl | exact (fun _ => rfl) | exact (fun _ _ => rfl) | exact (fun h => absurd h Bool.false_ne_true)))
  obtain ⟨n, hn, hx, _⟩ := chkT_zero (chkK_zero h1).1
  obtain ⟨hon, hfree, hnn, hdis⟩ := chkK_zero h1
  have hl := primesL_len hn x
  have h64 := pow_le64 hn
  obtain ⟨z, hz⟩ : ∃ z : Int, z = 0 := ⟨0, rfl⟩
  refine Exists.intro _ (And.intro (primes_at hz h1 hx) (Exists.intro (()) (Exists.intro [] (And.intro (And.intro rfl (And.intro rfl (And.intro rfl (And.intro rfl (And.intro (fun _ => Or.inl rfl) (by first | exact (fun h => absurd h Bool.false_ne_true) | exact (fun _ => And.intro rfl rfl))))))) (And.intro (by (repeat' (first | with_reducible rfl | exact trivial | refine And.intro ?_ ?_ | (show (_ : Int) = _; first | with_reducible rfl | exact wr1 (by omega) | (simp only [zA, zB, zC, zD, zE, zF, zG, zH, zI, zJ, zK, zL, zM, zN, zO, zP, zQ, zR, zS, zT, zU, zV, zW, zX, zY, zZ, yA, yB, yC, yD, yE, yF, yG, yH, yI, yJ, yK, yL, yM, reduceCtorEq] <;> first | done | rfl | omega) | omega | rfl) | exact rfl | exact (fun _ => rfl) | exact (fun _ _ => rfl) | exact (fun h => absurd h Bool.false_ne_true)))) (And.intro trivial (And.intro (trivial) ?_)))))))
  refine Exists.intro _ (And.intro (const_at hz hn) (Exists.intro (()) (Exists.intro [] (And.intro (And.intro rfl (And.intro rfl (And.intro rfl (And.intro rfl (And.intro (fun _ => Or.inl rfl) (by first | exact (fun h => absurd h Bool.false_ne_true) | exact (fun _ => And.intro rfl rfl))))))) (And.intro (by (repeat' (first | with_reducible rfl | exact trivial | refine And.intro ?_ ?_ | (show (_ : Int) = _; first | with_reducible rfl | exact wr1 (by omega) | (simp only [zA, zB, zC, zD, zE, zF, zG, zH, zI, zJ, zK, zL, zM, zN, zO, zP, zQ, zR, zS, zT, zU, zV, zW, zX, zY, zZ, yA, yB, yC, yD, yE, yF, yG, yH, yI, yJ, yK, yL, yM, reduceCtorEq] <;> first | done | rfl | omega) | omega | rfl) | exact rfl | exact (fun _ => rfl) | exact (fun _ _ => rfl) | exact (fun h => absurd h Bool.false_ne_true)))) (And.intro trivial (And.intro (trivial) ?_)))))))
  refine bcase_b (b := false) (by (first | (simp only [beq_self_eq_true, Bool.and_true, Bool.and_self]; done) | (simp only [hz, Int.add_zero, wrap_z]; done) | (simp only [hz, Int.add_zero, wrap_z]; rfl) | decide | rfl | decide | (simp; done))) (fun h => absurd h (by decide)) (fun _ => ?_)
  refine bcase_b (b := false) (by (first | (simp only [beq_self_eq_true, Bool.and_true, Bool.and_self]; done) | (simp only [hz, Int.add_zero, wrap_z]; done) | (simp only [hz, Int.add_zero, wrap_z]; rfl) | decide | rfl | decide | (simp; done))) (fun h => absurd h (by decide)) (fun _ => ?_)
  refine bcase_b (b := false) (by show decide ((1000 : Int) < ((primesL n x).length : Int)) = false; simp; omega) (fun h => absurd h (by decide)) (fun _ => ?_)
  refine Exists.intro (LAnn.inv { X := Nat, up := fun i => [(48, .s (iA i))], uo := fun i => [⟨1, 38, [.s (iA n), .s (uA (onceU n (primesL n x) i))]⟩], inv := fun i => i ≤ (primesL n x).length ∧ (True), meas := fun i => (primesL n x).length - i, x0 := 0 }) ?_
  refine And.intro (And.intro (And.intro (by (repeat' (first | exact rfl | exact trivial | exact (fun _ => rfl) | exact (fun _ _ => rfl) | exact (fun h => absurd h Bool.false_ne_true) | refine And.intro ?_ ?_))) (And.intro (by (repeat' (first | with_reducible rfl | exact trivial | refine And.intro ?_ ?_ | (show (_ : Int) = _; first | with_reducible rfl | exact wr1 (by omega) | (simp only [zA, zB, zC, zD, zE, zF, zG, zH, zI, zJ, zK, zL, zM, zN, zO, zP, zQ, zR, zS, zT, zU, zV, zW, zX, zY, zZ, yA, yB, yC, yD, yE, yF, yG, yH, yI, yJ, yK, yL, yM, reduceCtorEq] <;> first | done | rfl | omega) | omega | rfl) | exact rfl | exact (fun _ => rfl) | exact (fun _ _ => rfl) | exact (fun h => absurd h Bool.false_ne_true)))) (by (repeat' (first | with_reducible rfl | exact trivial | refine And.intro ?_ ?_ | (show (_ : Int) = _; first | with_reducible rfl | exact wr1 (by omega) | (simp only [zA, zB, zC, zD, zE, zF, zG, zH, zI, zJ, zK, zL, zM, zN, zO, zP, zQ, zR, zS, zT, zU, zV, zW, zX, zY, zZ, yA, yB, yC, yD, yE, yF, yG, yH, yI, yJ, yK, yL, yM, reduceCtorEq] <;> first | done | rfl | omega) | omega | rfl) | exact rfl | exact (fun _ => rfl) | exact (fun _ _ => rfl) | exact (fun h => absurd h Bool.false_ne_true)))))) rfl) (And.intro (And.intro (Nat.zero_le _) ?_) ?_)
  · trivial
  intro (i : Nat) ⟨hi, _⟩
  refine bcase_p (p := i < (primesL n x).length) (by first | (with_reducible refine bif_lt ?_; omega) | (with_reducible refine bif_le ?_; omega) | (with_reducible refine bif_eq ?_; omega) | (with_reducible refine bif_ne ?_; omega) | exact b8_eq rfl | exact b8_ne rfl | exact bif_lt (by omega) | exact bif_le (by omega) | exact bif_eq (by omega) | exact bif_ne (by omega) | exact Iff.rfl | (simp only [zA, zB, zC, zD, zE, zF, zG, zH, zI, zJ, zK, zL, zM, zN, zO, zP, zQ, zR, zS, zT, zU, zV, zW, zX, zY, zZ, yA, yB, yC, yD, yE, yF, yG, yH, yI, yJ, yK, yL, yM, reduceCtorEq] <;> first | done | omega | exact Iff.rfl) | (simp; done) | (simp; omega)) (fun h2 => ?_) (fun h2 => ?_)
  · obtain ⟨hc, hp⟩ := prime_at hn x h2
    obtain ⟨ht, himp, _⟩ := prime_parts hp
    have hck := ok_chk hn hc
    refine And.intro (And.intro (Int.natCast_nonneg _) (by show (i : Int) < ((primesL n x).length : Int); omega)) ?_
    refine And.intro rfl ?_
    refine Exists.intro _ (And.intro (tab_at hz hck) (Exists.intro (()) (Exists.intro [] (And.intro (And.intro rfl (And.intro rfl (And.intro rfl (And.intro rfl (And.intro (fun _ => Or.inl rfl) (by first | exact (fun h => absurd h Bool.false_ne_true) | exact (fun _ => And.intro rfl rfl))))))) (And.intro (by (repeat' (first | with_reducible rfl | exact trivial | refine And.intro ?_ ?_ | (show (_ : Int) = _; first | with_reducible rfl | exact wr1 (by omega) | (simp only [zA, zB, zC, zD, zE, zF, zG, zH, zI, zJ, zK, zL, zM, zN, zO, zP, zQ, zR, zS, zT, zU, zV, zW, zX, zY, zZ, yA, yB, yC, yD, yE, yF, yG, yH, yI, yJ, yK, yL, yM, reduceCtorEq] <;> first | done | rfl | omega) | omega | rfl) | exact rfl | exact (fun _ => rfl) | exact (fun _ _ => rfl) | exact (fun h => absurd h Bool.false_ne_true)))) (And.intro trivial (And.intro (trivial) ?_)))))))
    refine Exists.intro _ (And.intro (implies_at hz h1 hx hck himp) (Exists.intro (()) (Exists.intro [] (And.intro (And.intro rfl (And.intro rfl (And.intro rfl (And.intro rfl (And.intro (fun _ => Or.inl rfl) (by first | exact (fun h => absurd h Bool.false_ne_true) | exact (fun _ => And.intro rfl rfl))))))) (And.intro (by (repeat' (first | with_reducible rfl | exact trivial | refine And.intro ?_ ?_ | (show (_ : Int) = _; first | with_reducible rfl | exact wr1 (by omega) | (simp only [zA, zB, zC, zD, zE, zF, zG, zH, zI, zJ, zK, zL, zM, zN, zO, zP, zQ, zR, zS, zT, zU, zV, zW, zX, zY, zZ, yA, yB, yC, yD, yE, yF, yG, yH, yI, yJ, yK, yL, yM, reduceCtorEq] <;> first | done | rfl | omega) | omega | rfl) | exact rfl | exact (fun _ => rfl) | exact (fun _ _ => rfl) | exact (fun h => absurd h Bool.false_ne_true)))) (And.intro trivial (And.intro (trivial) ?_)))))))
    refine bcase_b (b := false) (by (first | (simp only [beq_self_eq_true, Bool.and_true, Bool.and_self]; done) | (simp only [hz, Int.add_zero, wrap_z]; done) | (simp only [hz, Int.add_zero, wrap_z]; rfl) | decide | rfl | decide | (simp; done))) (fun h => absurd h (by decide)) (fun _ => ?_)
    refine bcase_b (b := false) (by (first | (simp only [beq_self_eq_true, Bool.and_true, Bool.and_self]; done) | (simp only [hz, Int.add_zero, wrap_z]; done) | (simp only [hz, Int.add_zero, wrap_z]; rfl) | decide | rfl | decide | (simp; done))) (fun h => absurd h (by decide)) (fun _ => ?_)
    refine bcase_b (b := false) (by show (bits .and .u64 (ptsC ((primesL n x).getD i ⟨0, 0⟩) (2 ^ n)).toNat x.on.bits.toNat == 0) = false; rw [zA, zM]; simpa using ht) (fun h => absurd h (by decide)) (fun _ => ?_)
    refine Exists.intro _ (And.intro (or_at hz (chkT_of hn fun k hk _ => once_high hn (primesL n x) hk i) (chkT_of hn fun k hk _ => by rw [pts_bit hn]; simp; omega)) (Exists.intro (()) (Exists.intro [] (And.intro (And.intro rfl (And.intro rfl (And.intro rfl (And.intro rfl (And.intro (fun _ => Or.inl rfl) (by first | exact (fun h => absurd h Bool.false_ne_true) | exact (fun _ => And.intro rfl rfl))))))) (And.intro (by (repeat' (first | with_reducible rfl | exact trivial | refine And.intro ?_ ?_ | (show (_ : Int) = _; first | with_reducible rfl | exact wr1 (by omega) | (simp only [zA, zB, zC, zD, zE, zF, zG, zH, zI, zJ, zK, zL, zM, zN, zO, zP, zQ, zR, zS, zT, zU, zV, zW, zX, zY, zZ, yA, yB, yC, yD, yE, yF, yG, yH, yI, yJ, yK, yL, yM, reduceCtorEq] <;> first | done | rfl | omega) | omega | rfl) | exact rfl | exact (fun _ => rfl) | exact (fun _ _ => rfl) | exact (fun h => absurd h Bool.false_ne_true)))) (And.intro trivial (And.intro (trivial) ?_)))))))
    refine bcase_b (b := false) (by (first | (simp only [beq_self_eq_true, Bool.and_true, Bool.and_self]; done) | (simp only [hz, Int.add_zero, wrap_z]; done) | (simp only [hz, Int.add_zero, wrap_z]; rfl) | decide | rfl | decide | (simp; done))) (fun h => absurd h (by decide)) (fun _ => ?_)
    refine And.intro (And.intro (Int.le_refl _) (And.intro (Int.natCast_nonneg _) (by show (i : Int) ≤ ((primesL n x).length : Int); omega))) ?_
    refine And.intro (fun k hk => rfl) ?_
    refine Exists.intro (LAnn.inv { X := Nat, up := fun j => [(98, .s (iA j))], uo := fun j => [], inv := fun j => j ≤ i ∧ (True), meas := fun j => i - j, x0 := 0 }) ?_
    refine And.intro (And.intro (And.intro (by (repeat' (first | exact rfl | exact trivial | exact (fun _ => rfl) | exact (fun _ _ => rfl) | exact (fun h => absurd h Bool.false_ne_true) | refine And.intro ?_ ?_))) (And.intro (by (repeat' (first | with_reducible rfl | exact trivial | refine And.intro ?_ ?_ | (show (_ : Int) = _; first | with_reducible rfl | exact wr1 (by omega) | (simp only [zA, zB, zC, zD, zE, zF, zG, zH, zI, zJ, zK, zL, zM, zN, zO, zP, zQ, zR, zS, zT, zU, zV, zW, zX, zY, zZ, yA, yB, yC, yD, yE, yF, yG, yH, yI, yJ, yK, yL, yM, reduceCtorEq] <;> first | done | rfl | omega) | omega | rfl) | exact rfl | exact (fun _ => rfl) | exact (fun _ _ => rfl) | exact (fun h => absurd h Bool.false_ne_true)))) (by (repeat' (first | with_reducible rfl | exact trivial | refine And.intro ?_ ?_ | (show (_ : Int) = _; first | with_reducible rfl | exact wr1 (by omega) | (simp only [zA, zB, zC, zD, zE, zF, zG, zH, zI, zJ, zK, zL, zM, zN, zO, zP, zQ, zR, zS, zT, zU, zV, zW, zX, zY, zZ, yA, yB, yC, yD, yE, yF, yG, yH, yI, yJ, yK, yL, yM, reduceCtorEq] <;> first | done | rfl | omega) | omega | rfl) | exact rfl | exact (fun _ => rfl) | exact (fun _ _ => rfl) | exact (fun h => absurd h Bool.false_ne_true)))))) rfl) (And.intro (And.intro (Nat.zero_le _) ?_) ?_)
    · trivial
    intro (j : Nat) ⟨hj, _⟩
    refine bcase_p (p := j < i) (by first | (with_reducible refine bif_lt ?_; omega) | (with_reducible refine bif_le ?_; omega) | (with_reducible refine bif_eq ?_; omega) | (with_reducible refine bif_ne ?_; omega) | exact b8_eq rfl | exact b8_ne rfl | exact bif_lt (by omega) | exact bif_le (by omega) | exact bif_eq (by omega) | exact bif_ne (by omega) | exact Iff.rfl | (simp only [zA, zB, zC, zD, zE, zF, zG, zH, zI, zJ, zK, zL, zM, zN, zO, zP, zQ, zR, zS, zT, zU, zV, zW, zX, zY, zZ, yA, yB, yC, yD, yE, yF, yG, yH, yI, yJ, yK, yL, yM, reduceCtorEq] <;> first | done | omega | exact Iff.rfl) | (simp; done) | (simp; omega)) (fun h3 => ?_) (fun h3 => ?_)
    · obtain ⟨hd, hq⟩ := prime_at hn x (show 0 + j < (primesL n x).length by omega)
      have hne := primes_lt hn x h2 (show 0 + j < (primesL n x).length by omega) (by omega)
      have hdk := ok_chk hn hd
      have i1 : insideC ((primesL n x).getD i ⟨0, 0⟩) ((primesL n x).getD (0 + j) ⟨0, 0⟩) = false := by
        cases h : insideC ((primesL n x).getD i ⟨0, 0⟩) ((primesL n x).getD (0 + j) ⟨0, 0⟩) with
        | false => rfl
        | true => exact absurd (prime_max hn hc hd hp hq h) hne
      have i2 : insideC ((primesL n x).getD (0 + j) ⟨0, 0⟩) ((primesL n x).getD i ⟨0, 0⟩) = false := by
        cases h : insideC ((primesL n x).getD (0 + j) ⟨0, 0⟩) ((primesL n x).getD i ⟨0, 0⟩) with
        | false => rfl
        | true => exact absurd (prime_max hn hd hc hq hp h).symm hne
      refine And.intro (And.intro (Int.natCast_nonneg _) (by show (j : Int) < (i : Int); omega)) ?_
      refine And.intro rfl ?_
      refine Exists.intro _ (And.intro (inside_at' hz (show chk2 (n : Int) _ _ = 0 by simp only [chk2, hck, hdk, if_true]) i1) (Exists.intro (()) (Exists.intro [] (And.intro (And.intro rfl (And.intro rfl (And.intro rfl (And.intro rfl (And.intro (fun _ => Or.inl rfl) (by first | exact (fun h => absurd h Bool.false_ne_true) | exact (fun _ => And.intro rfl rfl))))))) (And.intro (by (repeat' (first | with_reducible rfl | exact trivial | refine And.intro ?_ ?_ | (show (_ : Int) = _; first | with_reducible rfl | exact wr1 (by omega) | (simp only [zA, zB, zC, zD, zE, zF, zG, zH, zI, zJ, zK, zL, zM, zN, zO, zP, zQ, zR, zS, zT, zU, zV, zW, zX, zY, zZ, yA, yB, yC, yD, yE, yF, yG, yH, yI, yJ, yK, yL, yM, reduceCtorEq] <;> first | done | rfl | omega) | omega | rfl) | exact rfl | exact (fun _ => rfl) | exact (fun _ _ => rfl) | exact (fun h => absurd h Bool.false_ne_true)))) (And.intro trivial (And.intro (trivial) ?_)))))))
      refine Exists.intro _ (And.intro (inside_at' hz (show chk2 (n : Int) _ _ = 0 by simp only [chk2, hck, hdk, if_true]) i2) (Exists.intro (()) (Exists.intro [] (And.intro (And.intro rfl (And.intro rfl (And.intro rfl (And.intro rfl (And.intro (fun _ => Or.inl rfl) (by first | exact (fun h => absurd h Bool.false_ne_true) | exact (fun _ => And.intro rfl rfl))))))) (And.intro (by (repeat' (first | with_reducible rfl | exact trivial | refine And.intro ?_ ?_ | (show (_ : Int) = _; first | with_reducible rfl | exact wr1 (by omega) | (simp only [zA, zB, zC, zD, zE, zF, zG, zH, zI, zJ, zK, zL, zM, zN, zO, zP, zQ, zR, zS, zT, zU, zV, zW, zX, zY, zZ, yA, yB, yC, yD, yE, yF, yG, yH, yI, yJ, yK, yL, yM, reduceCtorEq] <;> first | done | rfl | omega) | omega | rfl) | exact rfl | exact (fun _ => rfl) | exact (fun _ _ => rfl) | exact (fun h => absurd h Bool.false_ne_true)))) (And.intro trivial (And.intro (trivial) ?_)))))))
      refine bcase_b (b := false) (by (first | (simp only [beq_self_eq_true, Bool.and_true, Bool.and_self]; done) | (simp only [hz, Int.add_zero, wrap_z]; done) | (simp only [hz, Int.add_zero, wrap_z]; rfl) | decide | rfl | decide | (simp; done))) (fun h => absurd h (by decide)) (fun _ => ?_)
      refine bcase_b (b := false) (by (first | (simp only [beq_self_eq_true, Bool.and_true, Bool.and_self]; done) | (simp only [hz, Int.add_zero, wrap_z]; done) | (simp only [hz, Int.add_zero, wrap_z]; rfl) | decide | rfl | decide | (simp; done))) (fun h => absurd h (by decide)) (fun _ => ?_)
      refine Exists.intro (j + 1) (And.intro (And.intro rfl rfl) (And.intro (And.intro ?_ rfl) (And.intro (And.intro (by show j + 1 ≤ i; omega) ?_) (by show i - (j + 1) < i - j; omega))))
      any_goals (repeat' (first | with_reducible rfl | exact trivial | refine And.intro ?_ ?_ | (show (_ : Int) = _; first | with_reducible rfl | exact wr1 (by omega) | (simp only [zA, zB, zC, zD, zE, zF, zG, zH, zI, zJ, zK, zL, zM, zN, zO, zP, zQ, zR, zS, zT, zU, zV, zW, zX, zY, zZ, yA, yB, yC, yD, yE, yF, yG, yH, yI, yJ, yK, yL, yM, reduceCtorEq] <;> first | done | rfl | omega) | omega | rfl) | exact rfl | exact (fun _ => rfl) | exact (fun _ _ => rfl) | exact (fun h => absurd h Bool.false_ne_true)))
    · obtain rfl : i = j := by omega
      refine Exists.intro (i + 1) (And.intro (And.intro rfl rfl) (And.intro (And.intro ?_ rfl) (And.intro (And.intro (by show i + 1 ≤ (primesL n x).length; omega) ?_) (by show (primesL n x).length - (i + 1) < (primesL n x).length - i; omega))))
      any_goals (repeat' (first | with_reducible rfl | exact trivial | refine And.intro ?_ ?_ | (show (_ : Int) = _; first | with_reducible rfl | exact wr1 (by omega) | (simp only [zA, zB, zC, zD, zE, zF, zG, zH, zI, zJ, zK, zL, zM, zN, zO, zP, zQ, zR, zS, zT, zU, zV, zW, zX, zY, zZ, yA, yB, yC, yD, yE, yF, yG, yH, yI, yJ, yK, yL, yM, reduceCtorEq] <;> first | done | rfl | omega) | omega | rfl) | exact rfl | exact (fun _ => rfl) | exact (fun _ _ => rfl) | exact (fun h => absurd h Bool.false_ne_true)))
  · obtain rfl : i = (primesL n x).length := by omega
    refine bcase_b (b := true) (by show (bits .andNot .u64 x.on.bits.toNat (onceU n (primesL n x) (primesL n x).length).toNat == 0) = true; rw [zD, zM, beq_iff_eq, eq0_iff]; intro k hk; rw [BitVec.getLsbD_and, BitVec.getLsbD_not]; (by_cases hk2 : k < 2 ^ n); (· cases h : x.on.bits.getLsbD k with | false => simp | true => simp [primes_cover hn x hk2 h]); (· simp [tb_high hn hx hon (Nat.le_of_not_lt hk2) hk])) (fun _ => ?_) (fun h => absurd h (by decide))
    refine bcase_b (b := x.free.bits != 0#64) (by first | exact rfl | (simp only [zA, zB, zC, zD, zE, zF, zG, zH, zI, zJ, zK, zL, zM, zN, zO, zP, zQ, zR, zS, zT, zU, zV, zW, zX, zY, zZ, yA, yB, yC, yD, yE, yF, yG, yH, yI, yJ, yK, yL, yM, reduceCtorEq] <;> first | done | exact rfl)) (fun h3 => ?_) (fun h3 => ?_)
    · skip
      refine Exists.intro _ (And.intro awake_ok (Exists.intro (()) (Exists.intro [] (And.intro (And.intro rfl (And.intro rfl (And.intro rfl (And.intro rfl (And.intro (fun _ => Or.inl rfl) (by first | exact (fun h => absurd h Bool.false_ne_true) | exact (fun _ => And.intro rfl rfl))))))) (And.intro (by (repeat' (first | with_reducible rfl | exact trivial | refine And.intro ?_ ?_ | (show (_ : Int) = _; first | with_reducible rfl | exact wr1 (by omega) | (simp only [zA, zB, zC, zD, zE, zF, zG, zH, zI, zJ, zK, zL, zM, zN, zO, zP, zQ, zR, zS, zT, zU, zV, zW, zX, zY, zZ, yA, yB, yC, yD, yE, yF, yG, yH, yI, yJ, yK, yL, yM, reduceCtorEq] <;> first | done | rfl | omega) | omega | rfl) | exact rfl | exact (fun _ => rfl) | exact (fun _ _ => rfl) | exact (fun h => absurd h Bool.false_ne_true)))) (And.intro trivial (And.intro (trivial) ?_)))))))
      refine And.intro (And.intro (fun _ => (by (repeat' (first | exact rfl | exact trivial | exact (fun _ => rfl) | exact (fun _ _ => rfl) | exact (fun h => absurd h Bool.false_ne_true) | refine And.intro ?_ ?_)))) ?_) trivial
      any_goals (repeat' (first | with_reducible rfl | exact trivial | refine And.intro ?_ ?_ | (show (_ : Int) = _; first | with_reducible rfl | exact wr1 (by omega) | (simp only [zA, zB, zC, zD, zE, zF, zG, zH, zI, zJ, zK, zL, zM, zN, zO, zP, zQ, zR, zS, zT, zU, zV, zW, zX, zY, zZ, yA, yB, yC, yD, yE, yF, yG, yH, yI, yJ, yK, yL, yM, reduceCtorEq] <;> first | done | rfl | omega) | omega | rfl) | exact rfl | exact (fun _ => rfl) | exact (fun _ _ => rfl) | exact (fun h => absurd h Bool.false_ne_true)))
    · have hf : x.free.bits = 0#64 := by simpa using h3
      have e : onceU n (primesL n x) (primesL n x).length = x.on.bits := by
        apply BitVec.eq_of_getLsbD_eq
        intro k hk
        by_cases hk2 : k < 2 ^ n
        · cases h : x.on.bits.getLsbD k with
          | true => exact primes_cover hn x hk2 h
          | false =>
            cases h4 : (onceU n (primesL n x) (primesL n x).length).getLsbD k with
            | false => rfl
            | true =>
              obtain ⟨i, hi2, hh⟩ := (once_any hn _ hk2 _).1 h4
              obtain ⟨hc, hp⟩ := prime_at hn x hi2
              have := (implies_iff hn x _).1 (prime_parts hp).2.1 k hk2 hh
              rw [BitVec.getLsbD_or, h, hf] at this
              simp at this
        · rw [once_high hn _ (Nat.le_of_not_lt hk2), tb_high hn hx hon (Nat.le_of_not_lt hk2) hk]
      refine bcase_b (b := true) (by show (((n : Int) == x.on.n) && ((((onceU n (primesL n x) (primesL n x).length).toNat : Int) == x.on.bits.toNat) && true)) = true; rw [e, hx]; simp) (fun _ => ?_) (fun h => absurd h (by decide))
      refine Exists.intro _ (And.intro awake_ok (Exists.intro (()) (Exists.intro [] (And.intro (And.intro rfl (And.intro rfl (And.intro rfl (And.intro rfl (And.intro (fun _ => Or.inl rfl) (by first | exact (fun h => absurd h Bool.false_ne_true) | exact (fun _ => And.intro rfl rfl))))))) (And.intro (by (repeat' (first | with_reducible rfl | exact trivial | refine And.intro ?_ ?_ | (show (_ : Int) = _; first | with_reducible rfl | exact wr1 (by omega) | (simp only [zA, zB, zC, zD, zE, zF, zG, zH, zI, zJ, zK, zL, zM, zN, zO, zP, zQ, zR, zS, zT, zU, zV, zW, zX, zY, zZ, yA, yB, yC, yD, yE, yF, yG, yH, yI, yJ, yK, yL, yM, reduceCtorEq] <;> first | done | rfl | omega) | omega | rfl) | exact rfl | exact (fun _ => rfl) | exact (fun _ _ => rfl) | exact (fun h => absurd h Bool.false_ne_true)))) (And.intro trivial (And.intro (trivial) ?_)))))))
      refine And.intro (And.intro (fun _ => (by (repeat' (first | exact rfl | exact trivial | exact (fun _ => rfl) | exact (fun _ _ => rfl) | exact (fun h => absurd h Bool.false_ne_true) | refine And.intro ?_ ?_)))) ?_) trivial
      any_goals (repeat' (first | with_reducible rfl | exact trivial | refine And.intro ?_ ?_ | (show (_ : Int) = _; first | with_reducible rfl | exact wr1 (by omega) | (simp only [zA, zB, zC, zD, zE, zF, zG, zH, zI, zJ, zK, zL, zM, zN, zO, zP, zQ, zR, zS, zT, zU, zV, zW, zX, zY, zZ, yA, yB, yC, yD, yE, yF, yG, yH, yI, yJ, yK, yL, yM, reduceCtorEq] <;> first | done | rfl | omega) | omega | rfl) | exact rfl | exact (fun _ => rfl) | exact (fun _ _ => rfl) | exact (fun h => absurd h Bool.false_ne_true)))

end Go.Sx.Pn
