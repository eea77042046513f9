/- Laws of chapter 8, walked: HazardSteady, HazardNotices. -/
import Derived.Test.YtdkhdkldjpaadaaP56
import Derived.Test.YtdkhdkldjpaadaaRow8
set_option maxHeartbeats 1000000
set_option maxRecDepth 4000
set_option linter.unusedSimpArgs false
set_option linter.unusedVariables false
namespace Go.Sx.Pn
open Go Go.Proofs

theorem tat_ok : FnOk Try.prog 119 atS := by
  refine fnOk (Tb := tab) mixed tab_ok Try.func119 rfl rfl ?_
  rintro ⟨t, k⟩ hpre
  refine ai (ai rfl (ai rfl rfl)) ?_
  refine ai (Int.natCast_nonneg _) ?_
  refine ai (ai (fun _ => (by (repeat' (first | exact rfl | exact trivial | exact (fun _ => rfl) | exact (fun _ _ => rfl) | exact nof | refine ai ?_ ?_)))) ?_) trivial
  show (bits .and .u64 ((t.bits.toNat : Int).fdiv (2 ^ min (k : Int).toNat IntKind.u64.bits)) 1 == 1) = atT t k
  try simp only [zz, reduceCtorEq]
  rfl
def valC (t : Tb) (p : Int) : Bool × Int := if chkT t = 0 then (if p < 0 ∨ ((2 ^ t.n.toNat : Nat) : Int) ≤ p then (false, 2) else (atT t p.toNat, 0)) else (false, chkT t)
def ValS : Spec := fnS (fun x : Tb × Int => [tA x.1, iA x.2]) (fun _ => True) (fun x => .tup [bP (valC x.1 x.2).1, iP (valC x.1 x.2).2])
theorem Val_ok : FnOk Try.prog 71 ValS := by
  refine fnOk (Tb := tab) mixed tab_ok Try.func71 rfl rfl ?_
  rintro ⟨t, p⟩ hpre
  refine ai (ai rfl (ai rfl rfl)) ?_
  refine ei _ (ai tcheck_ok (ei (t) (ei [] (ai (ai rfl (ai rfl (ai rfl (ai rfl (ai (fun _ => Or.inl rfl) (by first | exact nof | exact (fun _ => ai rfl rfl))))))) (ai (by (repeat' (first | with_reducible rfl | exact trivial | refine ai ?_ ?_ | (show (_ : Int) = _; first | with_reducible rfl | exact wr1 (by omega) | (simp only [zz, reduceCtorEq] <;> first | done | rfl | omega) | omega | rfl) | exact rfl | exact (fun _ => rfl) | exact (fun _ _ => rfl) | exact nof))) (ai trivial (ai (trivial) ?_)))))))
  refine bcase_n (p := chkT t = 0) (by first | (with_reducible refine bif_lt ?_; omega) | (with_reducible refine bif_le ?_; omega) | (with_reducible refine bif_eq ?_; omega) | (with_reducible refine bif_ne ?_; omega) | exact b8_eq rfl | exact b8_ne rfl | exact bif_lt (by omega) | exact bif_le (by omega) | exact bif_eq (by omega) | exact bif_ne (by omega) | exact Iff.rfl | (simp only [zz, reduceCtorEq] <;> first | done | omega | exact Iff.rfl) | (simp; done) | (simp; omega)) (fun h1 => ?_) (fun h1 => ?_)
  · skip
    refine ai (ai (fun _ => (by (repeat' (first | exact rfl | exact trivial | exact (fun _ => rfl) | exact (fun _ _ => rfl) | exact nof | refine ai ?_ ?_)))) ?_) trivial
    show ple _ (.tup [bP (valC t p).1, iP (valC t p).2])
    rw [show valC t p = (false, chkT t) by simp [valC, h1]]
    any_goals (repeat' (first | with_reducible rfl | exact trivial | refine ai ?_ ?_ | (show (_ : Int) = _; first | with_reducible rfl | exact wr1 (by omega) | (simp only [zz, reduceCtorEq] <;> first | done | rfl | omega) | omega | rfl) | exact rfl | exact (fun _ => rfl) | exact (fun _ _ => rfl) | exact nof))
  obtain ⟨n, hn, hx, _⟩ := chkT_zero h1
  have hv : valC t p = if p < 0 ∨ ((2 ^ n : Nat) : Int) ≤ p then (false, 2) else (atT t p.toNat, 0) := by simp [valC, h1, hx]
  refine bcase_p (p := p < 0) (by first | (with_reducible refine bif_lt ?_; omega) | (with_reducible refine bif_le ?_; omega) | (with_reducible refine bif_eq ?_; omega) | (with_reducible refine bif_ne ?_; omega) | exact b8_eq rfl | exact b8_ne rfl | exact bif_lt (by omega) | exact bif_le (by omega) | exact bif_eq (by omega) | exact bif_ne (by omega) | exact Iff.rfl | (simp only [zz, reduceCtorEq] <;> first | done | omega | exact Iff.rfl) | (simp; done) | (simp; omega)) (fun h2 => ?_) (fun h2 => ?_)
  · skip
    refine ai (ai (fun _ => (by (repeat' (first | exact rfl | exact trivial | exact (fun _ => rfl) | exact (fun _ _ => rfl) | exact nof | refine ai ?_ ?_)))) ?_) trivial
    show ple _ (.tup [bP (valC t p).1, iP (valC t p).2])
    rw [hv, if_pos (Or.inl h2)]
    any_goals (repeat' (first | with_reducible rfl | exact trivial | refine ai ?_ ?_ | (show (_ : Int) = _; first | with_reducible rfl | exact wr1 (by omega) | (simp only [zz, reduceCtorEq] <;> first | done | rfl | omega) | omega | rfl) | exact rfl | exact (fun _ => rfl) | exact (fun _ _ => rfl) | exact nof))
  refine ai (by show 0 ≤ t.n; omega) ?_
  refine bcase_p (p := ((2 ^ n : Nat) : Int) ≤ p) (by show decide (IntKind.i64.wrap (1 * 2 ^ min t.n.toNat IntKind.i64.bits) ≤ p) = true ↔ _; rw [hx]; rw [pow6 hn, decide_eq_true_iff]) (fun h3 => ?_) (fun h3 => ?_)
  · skip
    refine ai (ai (fun _ => (by (repeat' (first | exact rfl | exact trivial | exact (fun _ => rfl) | exact (fun _ _ => rfl) | exact nof | refine ai ?_ ?_)))) ?_) trivial
    show ple _ (.tup [bP (valC t p).1, iP (valC t p).2])
    rw [hv, if_pos (Or.inr h3)]
    any_goals (repeat' (first | with_reducible rfl | exact trivial | refine ai ?_ ?_ | (show (_ : Int) = _; first | with_reducible rfl | exact wr1 (by omega) | (simp only [zz, reduceCtorEq] <;> first | done | rfl | omega) | omega | rfl) | exact rfl | exact (fun _ => rfl) | exact (fun _ _ => rfl) | exact nof))
  obtain ⟨k, rfl⟩ := Int.eq_ofNat_of_zero_le (show 0 ≤ p by omega)
  refine ei _ (ai tat_ok (ei ((t, k)) (ei [] (ai (ai rfl (ai rfl (ai rfl (ai rfl (ai (fun _ => Or.inl rfl) (by first | exact nof | exact (fun _ => ai rfl rfl))))))) (ai (by (repeat' (first | with_reducible rfl | exact trivial | refine ai ?_ ?_ | (show (_ : Int) = _; first | with_reducible rfl | exact wr1 (by omega) | (simp only [zz, reduceCtorEq] <;> first | done | rfl | omega) | omega | rfl) | exact rfl | exact (fun _ => rfl) | exact (fun _ _ => rfl) | exact nof))) (ai trivial (ai (trivial) ?_)))))))
  refine ai (ai (fun _ => (by (repeat' (first | exact rfl | exact trivial | exact (fun _ => rfl) | exact (fun _ _ => rfl) | exact nof | refine ai ?_ ?_)))) ?_) trivial
  show ple _ (.tup [bP (valC t k).1, iP (valC t k).2])
  rw [hv, if_neg (show ¬ ((k : Int) < 0 ∨ ((2 ^ n : Nat) : Int) ≤ (k : Int)) by omega), Int.toNat_natCast]
  any_goals (repeat' (first | with_reducible rfl | exact trivial | refine ai ?_ ?_ | (show (_ : Int) = _; first | with_reducible rfl | exact wr1 (by omega) | (simp only [zz, reduceCtorEq] <;> first | done | rfl | omega) | omega | rfl) | exact rfl | exact (fun _ => rfl) | exact (fun _ _ => rfl) | exact nof))
theorem val_at {z : Int} (hz : z = 0) {n : Nat} (hn : n ≤ 6) {T : U} (hT : chkT ⟨n, T⟩ = 0) {k : Nat} (hk : k < 2 ^ n) : FnOk Try.prog 71 (fnS (fun _ : Unit => ValS.args (⟨n, T⟩, (k : Int))) (fun _ => True) (fun _ => .tup [bP (T.getLsbD k), iP z])) :=
  fnS_at Val_ok (⟨n, T⟩, (k : Int)) trivial (by
    show PV.tup [bP (valC ⟨n, T⟩ k).1, iP (valC ⟨n, T⟩ k).2] = _
    rw [show valC ⟨n, T⟩ k = (T.getLsbD k, 0) by
      rw [valC, if_pos hT, if_neg (by rw [Int.toNat_natCast]; omega)]; rfl, hz])

def steadyLaw : Spec := fnS (fun x : Int × List Cu × UInt8 × UInt8 × UInt8 => [iA x.1, csA x.2.1, u3A x.2.2]) (fun _ => True) (fun _ => bP true)
theorem steady_law : FnOk Try.prog 14 steadyLaw := by
  refine fnOk (Tb := tab) mixed tab_ok Try.func14 rfl rfl ?_
  rintro ⟨n, l, x, y, c⟩ hpre
  refine ai (ai rfl (ai rfl rfl)) ?_
  refine ei _ (ai right_ok (ei ((n, l)) (ei [] (ai (ai rfl (ai rfl (ai rfl (ai rfl (ai (fun _ => Or.inl rfl) (by first | exact nof | exact (fun _ => ai rfl rfl))))))) (ai (by (repeat' (first | with_reducible rfl | exact trivial | refine ai ?_ ?_ | (show (_ : Int) = _; first | with_reducible rfl | exact wr1 (by omega) | (simp only [zz, reduceCtorEq] <;> first | done | rfl | omega) | omega | rfl) | exact rfl | exact (fun _ => rfl) | exact (fun _ _ => rfl) | exact nof))) (ai trivial (ai (trivial) ?_)))))))
  refine bcase_b (b := !rightB n l) (by first | exact rfl | (simp only [zz, reduceCtorEq] <;> first | done | exact rfl)) (fun h1 => ?_) (fun h1 => ?_)
  · skip
    refine ei _ (ai awake8_ok (ei (()) (ei [] (ai (ai rfl (ai rfl (ai rfl (ai rfl (ai (fun _ => Or.inl rfl) (by first | exact nof | exact (fun _ => ai rfl rfl))))))) (ai (by (repeat' (first | with_reducible rfl | exact trivial | refine ai ?_ ?_ | (show (_ : Int) = _; first | with_reducible rfl | exact wr1 (by omega) | (simp only [zz, reduceCtorEq] <;> first | done | rfl | omega) | omega | rfl) | exact rfl | exact (fun _ => rfl) | exact (fun _ _ => rfl) | exact nof))) (ai trivial (ai (trivial) ?_)))))))
    refine ai (ai (fun _ => (by (repeat' (first | exact rfl | exact trivial | exact (fun _ => rfl) | exact (fun _ _ => rfl) | exact nof | refine ai ?_ ?_)))) ?_) trivial
    any_goals (repeat' (first | with_reducible rfl | exact trivial | refine ai ?_ ?_ | (show (_ : Int) = _; first | with_reducible rfl | exact wr1 (by omega) | (simp only [zz, reduceCtorEq] <;> first | done | rfl | omega) | omega | rfl) | exact rfl | exact (fun _ => rfl) | exact (fun _ _ => rfl) | exact nof))
  obtain ⟨n, hn5, rfl, hck, hl, hall⟩ := right_inv (n := n) (l := l) (by simpa using h1)
  have hn : n ≤ 6 := by omega
  have hl0 : l.length ≤ 1000000 := by omega
  have h64 := pow_le64 hn
  obtain ⟨z, hz⟩ : ∃ z : Int, z = 0 := ⟨0, rfl⟩
  obtain ⟨T, hT⟩ : ∃ T, tabU l (2 ^ n) = T := ⟨_, rfl⟩
  have hTk : chkT ⟨n, T⟩ = 0 := by rw [← hT]; exact chk_tab hn l
  have hpos : 0 < 2 ^ n := Nat.two_pow_pos n
  have ha : x.toNat % 2 ^ n < 2 ^ n := Nat.mod_lt _ hpos
  have hb : y.toNat % 2 ^ n < 2 ^ n := Nat.mod_lt _ hpos
  have ea := rem_u8 x (2 ^ n)
  have eb := rem_u8 y (2 ^ n)
  have ec := wrap_u8 c
  generalize hA : x.toNat % 2 ^ n = a at ha ea
  generalize hB : y.toNat % 2 ^ n = b at hb eb
  have hmid := mid_on hn (c := c.toNat) ha hb
  have hm := (mem_on.1 hmid).1
  have em := mid_raw (a := a) (b := b) (c := c.toNat) (by omega) (by omega) (u8_lt c)
  rw [← ea, ← eb, ← ec] at em
  have hown : betL n l (midN a b c.toNat) (midN a b c.toNat) = if T.getLsbD (midN a b c.toNat) then 1 else 0 := by rw [bet_self hm, ← tab_has hn l hm, hT]
  have hval := val_at hz hn hTk hm
  refine ei [0, 1, 2, 3, 6, 7, 8, 9, 12, 13, 14, 4, 5, 10, 11, 15, 16, 17] (ai (by kernel_rfl) ?_)
  refine ai (ai (by decide) (by decide)) ?_
  refine ai (ai (by decide) (by decide)) ?_
  refine ai (ai (by decide) (by decide)) ?_
  refine ei _ (ai size_ok (ei (n) (ei [] (ai (ai rfl (ai rfl (ai rfl (ai rfl (ai (fun _ => Or.inl rfl) (by first | exact nof | exact (fun _ => ai rfl rfl))))))) (ai (by (repeat' (first | with_reducible rfl | exact trivial | refine ai ?_ ?_ | (show (_ : Int) = _; first | with_reducible rfl | exact wr1 (by omega) | (simp only [zz, reduceCtorEq] <;> first | done | rfl | omega) | omega | rfl) | exact rfl | exact (fun _ => rfl) | exact (fun _ _ => rfl) | exact nof))) (ai trivial (ai (hn) ?_)))))))
  refine ai (by show ((2 ^ n : Nat) : Int) ≠ 0; omega) ?_
  refine ei _ (ai size_ok (ei (n) (ei [] (ai (ai rfl (ai rfl (ai rfl (ai rfl (ai (fun _ => Or.inl rfl) (by first | exact nof | exact (fun _ => ai rfl rfl))))))) (ai (by (repeat' (first | with_reducible rfl | exact trivial | refine ai ?_ ?_ | (show (_ : Int) = _; first | with_reducible rfl | exact wr1 (by omega) | (simp only [zz, reduceCtorEq] <;> first | done | rfl | omega) | omega | rfl) | exact rfl | exact (fun _ => rfl) | exact (fun _ _ => rfl) | exact nof))) (ai trivial (ai (hn) ?_)))))))
  refine ai (by show ((2 ^ n : Nat) : Int) ≠ 0; omega) ?_
  refine ei _ (ai (tab_at8 hz hck hT hl0) (ei (()) (ei [] (ai (ai rfl (ai rfl (ai rfl (ai rfl (ai (fun _ => Or.inl rfl) (by first | exact nof | exact (fun _ => ai rfl rfl))))))) (ai (by (repeat' (first | with_reducible rfl | exact trivial | refine ai ?_ ?_ | (show (_ : Int) = _; first | with_reducible rfl | exact wr1 (by omega) | (simp only [zz, reduceCtorEq] <;> first | done | rfl | omega) | omega | rfl) | exact rfl | exact (fun _ => rfl) | exact (fun _ _ => rfl) | exact nof))) (ai trivial (ai (trivial) ?_)))))))
  cases hv : T.getLsbD (midN a b c.toNat) with
  | false =>
    rw [hv] at hown hval
    have hown : betL n l (midN a b c.toNat) (midN a b c.toNat) = 0 := hown
    obtain e1 | e1 | e1 := bet_cases n l a b
    · skip
      refine ei _ (ai (bet_at8 hz hck ha hb e1 hl0) (ei (()) (ei [] (ai (ai rfl (ai rfl (ai rfl (ai rfl (ai (fun _ => Or.inl rfl) (by first | exact nof | exact (fun _ => ai rfl rfl))))))) (ai ?_ (ai trivial (ai ?_ ?_)))))))
      · skip
        (repeat' (first | exact rfl | exact trivial | exact (fun _ => rfl) | exact (fun _ _ => rfl) | exact nof | refine ai ?_ ?_))
        · exact ea
        · exact eb
      · trivial
      refine bcase_b (b := false) (by (first | (simp only [beq_self_eq_true, Bool.and_true, Bool.and_self]; done) | (simp only [hz, Int.add_zero, wrap_z]; done) | (simp only [hz, Int.add_zero, wrap_z]; rfl) | decide | rfl | decide | (simp; done))) (fun h => absurd h (by decide)) (fun _ => ?_)
      refine bcase_b (b := false) (by (first | (simp only [beq_self_eq_true, Bool.and_true, Bool.and_self]; done) | (simp only [hz, Int.add_zero, wrap_z]; done) | (simp only [hz, Int.add_zero, wrap_z]; rfl) | decide | rfl | decide | (simp; done))) (fun h => absurd h (by decide)) (fun _ => ?_)
      refine bcase_b (b := false) (by (first | (simp only [beq_self_eq_true, Bool.and_true, Bool.and_self]; done) | (simp only [hz, Int.add_zero, wrap_z]; done) | (simp only [hz, Int.add_zero, wrap_z]; rfl) | decide | rfl | decide | (simp; done))) (fun h => absurd h (by decide)) (fun _ => ?_)
      refine ei _ (ai hval (ei (()) (ei [] (ai (ai rfl (ai rfl (ai rfl (ai rfl (ai (fun _ => Or.inl rfl) (by first | exact nof | exact (fun _ => ai rfl rfl))))))) (ai ?_ (ai trivial (ai ?_ ?_)))))))
      · skip
        (repeat' (first | exact rfl | exact trivial | exact (fun _ => rfl) | exact (fun _ _ => rfl) | exact nof | refine ai ?_ ?_))
        exact em
      · trivial
      refine ei _ (ai (bet_at8 hz hck hm hm hown hl0) (ei (()) (ei [] (ai (ai rfl (ai rfl (ai rfl (ai rfl (ai (fun _ => Or.inl rfl) (by first | exact nof | exact (fun _ => ai rfl rfl))))))) (ai ?_ (ai trivial (ai ?_ ?_)))))))
      · skip
        (repeat' (first | exact rfl | exact trivial | exact (fun _ => rfl) | exact (fun _ _ => rfl) | exact nof | refine ai ?_ ?_))
        · exact em
        · exact em
      · trivial
      refine ei _ (ai (bet_at8 hz hck ha hm (bet_zero ha hmid e1).2 hl0) (ei (()) (ei [] (ai (ai rfl (ai rfl (ai rfl (ai rfl (ai (fun _ => Or.inl rfl) (by first | exact nof | exact (fun _ => ai rfl rfl))))))) (ai ?_ (ai trivial (ai ?_ ?_)))))))
      · skip
        (repeat' (first | exact rfl | exact trivial | exact (fun _ => rfl) | exact (fun _ _ => rfl) | exact nof | refine ai ?_ ?_))
        · exact ea
        · exact em
      · trivial
      refine bcase_b (b := false) (by (first | (simp only [beq_self_eq_true, Bool.and_true, Bool.and_self]; done) | (simp only [hz, Int.add_zero, wrap_z]; done) | (simp only [hz, Int.add_zero, wrap_z]; rfl) | decide | rfl | decide | (simp; done))) (fun h => absurd h (by decide)) (fun _ => ?_)
      refine ei _ (ai awake8_ok (ei (()) (ei [] (ai (ai rfl (ai rfl (ai rfl (ai rfl (ai (fun _ => Or.inl rfl) (by first | exact nof | exact (fun _ => ai rfl rfl))))))) (ai (by (repeat' (first | with_reducible rfl | exact trivial | refine ai ?_ ?_ | (show (_ : Int) = _; first | with_reducible rfl | exact wr1 (by omega) | (simp only [zz, reduceCtorEq] <;> first | done | rfl | omega) | omega | rfl) | exact rfl | exact (fun _ => rfl) | exact (fun _ _ => rfl) | exact nof))) (ai trivial (ai (trivial) ?_)))))))
      refine ai (ai (fun _ => (by (repeat' (first | exact rfl | exact trivial | exact (fun _ => rfl) | exact (fun _ _ => rfl) | exact nof | refine ai ?_ ?_)))) ?_) trivial
      any_goals (repeat' (first | with_reducible rfl | exact trivial | refine ai ?_ ?_ | (show (_ : Int) = _; first | with_reducible rfl | exact wr1 (by omega) | (simp only [zz, reduceCtorEq] <;> first | done | rfl | omega) | omega | rfl) | exact rfl | exact (fun _ => rfl) | exact (fun _ _ => rfl) | exact nof))
    · have := (bet_one hmid e1).1
      rw [hown] at this; exact absurd this (by decide)
    · skip
      refine ei _ (ai (bet_at8 hz hck ha hb e1 hl0) (ei (()) (ei [] (ai (ai rfl (ai rfl (ai rfl (ai rfl (ai (fun _ => Or.inl rfl) (by first | exact nof | exact (fun _ => ai rfl rfl))))))) (ai ?_ (ai trivial (ai ?_ ?_)))))))
      · skip
        (repeat' (first | exact rfl | exact trivial | exact (fun _ => rfl) | exact (fun _ _ => rfl) | exact nof | refine ai ?_ ?_))
        · exact ea
        · exact eb
      · trivial
      refine bcase_b (b := false) (by (first | (simp only [beq_self_eq_true, Bool.and_true, Bool.and_self]; done) | (simp only [hz, Int.add_zero, wrap_z]; done) | (simp only [hz, Int.add_zero, wrap_z]; rfl) | decide | rfl | decide | (simp; done))) (fun h => absurd h (by decide)) (fun _ => ?_)
      refine bcase_b (b := false) (by (first | (simp only [beq_self_eq_true, Bool.and_true, Bool.and_self]; done) | (simp only [hz, Int.add_zero, wrap_z]; done) | (simp only [hz, Int.add_zero, wrap_z]; rfl) | decide | rfl | decide | (simp; done))) (fun h => absurd h (by decide)) (fun _ => ?_)
      refine bcase_b (b := false) (by (first | (simp only [beq_self_eq_true, Bool.and_true, Bool.and_self]; done) | (simp only [hz, Int.add_zero, wrap_z]; done) | (simp only [hz, Int.add_zero, wrap_z]; rfl) | decide | rfl | decide | (simp; done))) (fun h => absurd h (by decide)) (fun _ => ?_)
      refine ei _ (ai hval (ei (()) (ei [] (ai (ai rfl (ai rfl (ai rfl (ai rfl (ai (fun _ => Or.inl rfl) (by first | exact nof | exact (fun _ => ai rfl rfl))))))) (ai ?_ (ai trivial (ai ?_ ?_)))))))
      · skip
        (repeat' (first | exact rfl | exact trivial | exact (fun _ => rfl) | exact (fun _ _ => rfl) | exact nof | refine ai ?_ ?_))
        exact em
      · trivial
      refine ei _ (ai (bet_at8 hz hck hm hm hown hl0) (ei (()) (ei [] (ai (ai rfl (ai rfl (ai rfl (ai rfl (ai (fun _ => Or.inl rfl) (by first | exact nof | exact (fun _ => ai rfl rfl))))))) (ai ?_ (ai trivial (ai ?_ ?_)))))))
      · skip
        (repeat' (first | exact rfl | exact trivial | exact (fun _ => rfl) | exact (fun _ _ => rfl) | exact nof | refine ai ?_ ?_))
        · exact em
        · exact em
      · trivial
      refine ei _ (ai (bet_at8 hz hck ha hm rfl hl0) (ei (()) (ei [] (ai (ai rfl (ai rfl (ai rfl (ai rfl (ai (fun _ => Or.inl rfl) (by first | exact nof | exact (fun _ => ai rfl rfl))))))) (ai ?_ (ai trivial (ai ?_ ?_)))))))
      · skip
        (repeat' (first | exact rfl | exact trivial | exact (fun _ => rfl) | exact (fun _ _ => rfl) | exact nof | refine ai ?_ ?_))
        · exact ea
        · exact em
      · trivial
      refine bcase_b (b := false) (by (first | (simp only [beq_self_eq_true, Bool.and_true, Bool.and_self]; done) | (simp only [hz, Int.add_zero, wrap_z]; done) | (simp only [hz, Int.add_zero, wrap_z]; rfl) | decide | rfl | decide | (simp; done))) (fun h => absurd h (by decide)) (fun _ => ?_)
      refine ei _ (ai awake8_ok (ei (()) (ei [] (ai (ai rfl (ai rfl (ai rfl (ai rfl (ai (fun _ => Or.inl rfl) (by first | exact nof | exact (fun _ => ai rfl rfl))))))) (ai (by (repeat' (first | with_reducible rfl | exact trivial | refine ai ?_ ?_ | (show (_ : Int) = _; first | with_reducible rfl | exact wr1 (by omega) | (simp only [zz, reduceCtorEq] <;> first | done | rfl | omega) | omega | rfl) | exact rfl | exact (fun _ => rfl) | exact (fun _ _ => rfl) | exact nof))) (ai trivial (ai (trivial) ?_)))))))
      refine ai (ai (fun _ => (by (repeat' (first | exact rfl | exact trivial | exact (fun _ => rfl) | exact (fun _ _ => rfl) | exact nof | refine ai ?_ ?_)))) ?_) trivial
      any_goals (repeat' (first | with_reducible rfl | exact trivial | refine ai ?_ ?_ | (show (_ : Int) = _; first | with_reducible rfl | exact wr1 (by omega) | (simp only [zz, reduceCtorEq] <;> first | done | rfl | omega) | omega | rfl) | exact rfl | exact (fun _ => rfl) | exact (fun _ _ => rfl) | exact nof))
  | true =>
    rw [hv] at hown hval
    have hown : betL n l (midN a b c.toNat) (midN a b c.toNat) = 1 := hown
    obtain e1 | e1 | e1 := bet_cases n l a b
    · have := (bet_zero ha hmid e1).1
      rw [hown] at this; exact absurd this (by decide)
    · skip
      refine ei _ (ai (bet_at8 hz hck ha hb e1 hl0) (ei (()) (ei [] (ai (ai rfl (ai rfl (ai rfl (ai rfl (ai (fun _ => Or.inl rfl) (by first | exact nof | exact (fun _ => ai rfl rfl))))))) (ai ?_ (ai trivial (ai ?_ ?_)))))))
      · skip
        (repeat' (first | exact rfl | exact trivial | exact (fun _ => rfl) | exact (fun _ _ => rfl) | exact nof | refine ai ?_ ?_))
        · exact ea
        · exact eb
      · trivial
      refine bcase_b (b := false) (by (first | (simp only [beq_self_eq_true, Bool.and_true, Bool.and_self]; done) | (simp only [hz, Int.add_zero, wrap_z]; done) | (simp only [hz, Int.add_zero, wrap_z]; rfl) | decide | rfl | decide | (simp; done))) (fun h => absurd h (by decide)) (fun _ => ?_)
      refine bcase_b (b := false) (by (first | (simp only [beq_self_eq_true, Bool.and_true, Bool.and_self]; done) | (simp only [hz, Int.add_zero, wrap_z]; done) | (simp only [hz, Int.add_zero, wrap_z]; rfl) | decide | rfl | decide | (simp; done))) (fun h => absurd h (by decide)) (fun _ => ?_)
      refine bcase_b (b := false) (by (first | (simp only [beq_self_eq_true, Bool.and_true, Bool.and_self]; done) | (simp only [hz, Int.add_zero, wrap_z]; done) | (simp only [hz, Int.add_zero, wrap_z]; rfl) | decide | rfl | decide | (simp; done))) (fun h => absurd h (by decide)) (fun _ => ?_)
      refine ei _ (ai hval (ei (()) (ei [] (ai (ai rfl (ai rfl (ai rfl (ai rfl (ai (fun _ => Or.inl rfl) (by first | exact nof | exact (fun _ => ai rfl rfl))))))) (ai ?_ (ai trivial (ai ?_ ?_)))))))
      · skip
        (repeat' (first | exact rfl | exact trivial | exact (fun _ => rfl) | exact (fun _ _ => rfl) | exact nof | refine ai ?_ ?_))
        exact em
      · trivial
      refine ei _ (ai (bet_at8 hz hck hm hm hown hl0) (ei (()) (ei [] (ai (ai rfl (ai rfl (ai rfl (ai rfl (ai (fun _ => Or.inl rfl) (by first | exact nof | exact (fun _ => ai rfl rfl))))))) (ai ?_ (ai trivial (ai ?_ ?_)))))))
      · skip
        (repeat' (first | exact rfl | exact trivial | exact (fun _ => rfl) | exact (fun _ _ => rfl) | exact nof | refine ai ?_ ?_))
        · exact em
        · exact em
      · trivial
      refine ei _ (ai (bet_at8 hz hck ha hm (bet_one hmid e1).2 hl0) (ei (()) (ei [] (ai (ai rfl (ai rfl (ai rfl (ai rfl (ai (fun _ => Or.inl rfl) (by first | exact nof | exact (fun _ => ai rfl rfl))))))) (ai ?_ (ai trivial (ai ?_ ?_)))))))
      · skip
        (repeat' (first | exact rfl | exact trivial | exact (fun _ => rfl) | exact (fun _ _ => rfl) | exact nof | refine ai ?_ ?_))
        · exact ea
        · exact em
      · trivial
      refine bcase_b (b := false) (by (first | (simp only [beq_self_eq_true, Bool.and_true, Bool.and_self]; done) | (simp only [hz, Int.add_zero, wrap_z]; done) | (simp only [hz, Int.add_zero, wrap_z]; rfl) | decide | rfl | decide | (simp; done))) (fun h => absurd h (by decide)) (fun _ => ?_)
      refine ei _ (ai awake8_ok (ei (()) (ei [] (ai (ai rfl (ai rfl (ai rfl (ai rfl (ai (fun _ => Or.inl rfl) (by first | exact nof | exact (fun _ => ai rfl rfl))))))) (ai (by (repeat' (first | with_reducible rfl | exact trivial | refine ai ?_ ?_ | (show (_ : Int) = _; first | with_reducible rfl | exact wr1 (by omega) | (simp only [zz, reduceCtorEq] <;> first | done | rfl | omega) | omega | rfl) | exact rfl | exact (fun _ => rfl) | exact (fun _ _ => rfl) | exact nof))) (ai trivial (ai (trivial) ?_)))))))
      refine ai (ai (fun _ => (by (repeat' (first | exact rfl | exact trivial | exact (fun _ => rfl) | exact (fun _ _ => rfl) | exact nof | refine ai ?_ ?_)))) ?_) trivial
      any_goals (repeat' (first | with_reducible rfl | exact trivial | refine ai ?_ ?_ | (show (_ : Int) = _; first | with_reducible rfl | exact wr1 (by omega) | (simp only [zz, reduceCtorEq] <;> first | done | rfl | omega) | omega | rfl) | exact rfl | exact (fun _ => rfl) | exact (fun _ _ => rfl) | exact nof))
    · skip
      refine ei _ (ai (bet_at8 hz hck ha hb e1 hl0) (ei (()) (ei [] (ai (ai rfl (ai rfl (ai rfl (ai rfl (ai (fun _ => Or.inl rfl) (by first | exact nof | exact (fun _ => ai rfl rfl))))))) (ai ?_ (ai trivial (ai ?_ ?_)))))))
      · skip
        (repeat' (first | exact rfl | exact trivial | exact (fun _ => rfl) | exact (fun _ _ => rfl) | exact nof | refine ai ?_ ?_))
        · exact ea
        · exact eb
      · trivial
      refine bcase_b (b := false) (by (first | (simp only [beq_self_eq_true, Bool.and_true, Bool.and_self]; done) | (simp only [hz, Int.add_zero, wrap_z]; done) | (simp only [hz, Int.add_zero, wrap_z]; rfl) | decide | rfl | decide | (simp; done))) (fun h => absurd h (by decide)) (fun _ => ?_)
      refine bcase_b (b := false) (by (first | (simp only [beq_self_eq_true, Bool.and_true, Bool.and_self]; done) | (simp only [hz, Int.add_zero, wrap_z]; done) | (simp only [hz, Int.add_zero, wrap_z]; rfl) | decide | rfl | decide | (simp; done))) (fun h => absurd h (by decide)) (fun _ => ?_)
      refine bcase_b (b := false) (by (first | (simp only [beq_self_eq_true, Bool.and_true, Bool.and_self]; done) | (simp only [hz, Int.add_zero, wrap_z]; done) | (simp only [hz, Int.add_zero, wrap_z]; rfl) | decide | rfl | decide | (simp; done))) (fun h => absurd h (by decide)) (fun _ => ?_)
      refine ei _ (ai hval (ei (()) (ei [] (ai (ai rfl (ai rfl (ai rfl (ai rfl (ai (fun _ => Or.inl rfl) (by first | exact nof | exact (fun _ => ai rfl rfl))))))) (ai ?_ (ai trivial (ai ?_ ?_)))))))
      · skip
        (repeat' (first | exact rfl | exact trivial | exact (fun _ => rfl) | exact (fun _ _ => rfl) | exact nof | refine ai ?_ ?_))
        exact em
      · trivial
      refine ei _ (ai (bet_at8 hz hck hm hm hown hl0) (ei (()) (ei [] (ai (ai rfl (ai rfl (ai rfl (ai rfl (ai (fun _ => Or.inl rfl) (by first | exact nof | exact (fun _ => ai rfl rfl))))))) (ai ?_ (ai trivial (ai ?_ ?_)))))))
      · skip
        (repeat' (first | exact rfl | exact trivial | exact (fun _ => rfl) | exact (fun _ _ => rfl) | exact nof | refine ai ?_ ?_))
        · exact em
        · exact em
      · trivial
      refine ei _ (ai (bet_at8 hz hck ha hm rfl hl0) (ei (()) (ei [] (ai (ai rfl (ai rfl (ai rfl (ai rfl (ai (fun _ => Or.inl rfl) (by first | exact nof | exact (fun _ => ai rfl rfl))))))) (ai ?_ (ai trivial (ai ?_ ?_)))))))
      · skip
        (repeat' (first | exact rfl | exact trivial | exact (fun _ => rfl) | exact (fun _ _ => rfl) | exact nof | refine ai ?_ ?_))
        · exact ea
        · exact em
      · trivial
      refine bcase_b (b := false) (by (first | (simp only [beq_self_eq_true, Bool.and_true, Bool.and_self]; done) | (simp only [hz, Int.add_zero, wrap_z]; done) | (simp only [hz, Int.add_zero, wrap_z]; rfl) | decide | rfl | decide | (simp; done))) (fun h => absurd h (by decide)) (fun _ => ?_)
      refine ei _ (ai awake8_ok (ei (()) (ei [] (ai (ai rfl (ai rfl (ai rfl (ai rfl (ai (fun _ => Or.inl rfl) (by first | exact nof | exact (fun _ => ai rfl rfl))))))) (ai (by (repeat' (first | with_reducible rfl | exact trivial | refine ai ?_ ?_ | (show (_ : Int) = _; first | with_reducible rfl | exact wr1 (by omega) | (simp only [zz, reduceCtorEq] <;> first | done | rfl | omega) | omega | rfl) | exact rfl | exact (fun _ => rfl) | exact (fun _ _ => rfl) | exact nof))) (ai trivial (ai (trivial) ?_)))))))
      refine ai (ai (fun _ => (by (repeat' (first | exact rfl | exact trivial | exact (fun _ => rfl) | exact (fun _ _ => rfl) | exact nof | refine ai ?_ ?_)))) ?_) trivial
      any_goals (repeat' (first | with_reducible rfl | exact trivial | refine ai ?_ ?_ | (show (_ : Int) = _; first | with_reducible rfl | exact wr1 (by omega) | (simp only [zz, reduceCtorEq] <;> first | done | rfl | omega) | omega | rfl) | exact rfl | exact (fun _ => rfl) | exact (fun _ _ => rfl) | exact nof))

/-- is a pair in a list -/
theorem eqPr (p q : Nat × Nat) : ((((p.1 : Int) == (q.1 : Int)) && (((p.2 : Int) == (q.2 : Int)) && true))) = (p == q) := by
  rw [Bool.and_true, Bool.eq_iff_iff, Bool.and_eq_true, beq_iff_eq, beq_iff_eq, beq_iff_eq, Prod.ext_iff]
  omega
def idxPS : Spec := fnS (fun x : List (Nat × Nat) × Nat × Nat => [prsA x.1, ppA x.2]) (fun x => x.1.length ≤ 1000000) (fun x => iP (firstP (fun s => x.2 == s) x.1))
theorem idxP_ok : FnOk Try.prog 120 idxPS := by
  refine fnOk (Tb := tab) mixed tab_ok Try.func120 rfl rfl ?_
  rintro ⟨L, p⟩ hpre
  refine ai (ai rfl (ai rfl rfl)) ?_
  have hl : L.length ≤ 1000000 := hpre
  obtain ⟨q, hq⟩ : ∃ q : Nat × Nat → Bool, q = fun s => p == s := ⟨_, rfl⟩
  have hqe : ∀ s, q s = (p == s) := fun s => by rw [hq]
  refine ei (LAnn.inv { X := Nat, up := fun k => [(8, .s (iA k))], uo := fun k => [], inv := fun k => k ≤ L.length ∧ (∀ j, j < k → q (L.getD j (0, 0)) = false), meas := fun k => L.length - k, x0 := 0 }) ?_
  refine ai (ai (ai (by (repeat' (first | exact rfl | exact trivial | exact (fun _ => rfl) | exact (fun _ _ => rfl) | exact nof | refine ai ?_ ?_))) (ai (by (repeat' (first | with_reducible rfl | exact trivial | refine ai ?_ ?_ | (show (_ : Int) = _; first | with_reducible rfl | exact wr1 (by omega) | (simp only [zz, reduceCtorEq] <;> first | done | rfl | omega) | omega | rfl) | exact rfl | exact (fun _ => rfl) | exact (fun _ _ => rfl) | exact nof))) (by (repeat' (first | with_reducible rfl | exact trivial | refine ai ?_ ?_ | (show (_ : Int) = _; first | with_reducible rfl | exact wr1 (by omega) | (simp only [zz, reduceCtorEq] <;> first | done | rfl | omega) | omega | rfl) | exact rfl | exact (fun _ => rfl) | exact (fun _ _ => rfl) | exact nof))))) rfl) (ai (ai (Nat.zero_le _) ?_) ?_)
  · exact fun j hj => absurd hj (Nat.not_lt_zero _)
  intro (k : Nat) ⟨hk, hno⟩
  refine bcase_p (p := k < L.length) (by first | (with_reducible refine bif_lt ?_; omega) | (with_reducible refine bif_le ?_; omega) | (with_reducible refine bif_eq ?_; omega) | (with_reducible refine bif_ne ?_; omega) | exact b8_eq rfl | exact b8_ne rfl | exact bif_lt (by omega) | exact bif_le (by omega) | exact bif_eq (by omega) | exact bif_ne (by omega) | exact Iff.rfl | (simp only [zz, reduceCtorEq] <;> first | done | omega | exact Iff.rfl) | (simp; done) | (simp; omega)) (fun h1 => ?_) (fun h1 => ?_)
  · skip
    refine ei [0, 1, 2, 3, 4, 5] (ai (by kernel_rfl) ?_)
    refine ai (ai (Int.natCast_nonneg _) (by show (k : Int) < (L.length : Int); omega)) ?_
    refine ai rfl ?_
    refine bcase_p (p := q (L.getD k (0, 0)) = true) (by show ((((p.1 : Int) == ((L.getD k (0, 0)).1 : Int)) && (((p.2 : Int) == ((L.getD k (0, 0)).2 : Int)) && true))) = true ↔ _; rw [eqPr, hqe]) (fun h2 => ?_) (fun h2 => ?_)
    · refine ai (ai (fun _ => trivial) ?_) trivial
      show (k : Int) = firstP (fun s => p == s) L
      rw [← hq]
      exact (firstP_at h1 h2 hno).symm
    · skip
      refine ei (k + 1) (ai (ai rfl rfl) (ai (ai ?_ rfl) (ai (ai (by show k + 1 ≤ L.length; omega) ?_) (by show L.length - (k + 1) < L.length - k; omega))))
      any_goals (repeat' (first | with_reducible rfl | exact trivial | refine ai ?_ ?_ | (show (_ : Int) = _; first | with_reducible rfl | exact wr1 (by omega) | (simp only [zz, reduceCtorEq] <;> first | done | rfl | omega) | omega | rfl) | exact rfl | exact (fun _ => rfl) | exact (fun _ _ => rfl) | exact nof))
      exact upto_succ hno (by simpa using h2)
  · obtain rfl : k = L.length := by omega
    refine ai (ai (fun _ => trivial) ?_) trivial
    show (-1 : Int) = firstP (fun s => p == s) L
    rw [← hq, firstP, noneP hno]; rfl
def contPS : Spec := fnS (fun x : List (Nat × Nat) × Nat × Nat => [prsA x.1, ppA x.2]) (fun x => x.1.length ≤ 1000000) (fun x => bP (decide (x.2 ∈ x.1)))
theorem contP_ok : FnOk Try.prog 72 contPS := by
  refine fnOk (Tb := tab) mixed tab_ok Try.func72 rfl rfl ?_
  rintro ⟨L, p⟩ hpre
  refine ai (ai rfl (ai rfl rfl)) ?_
  refine ei _ (ai idxP_ok (ei ((L, p)) (ei [] (ai (ai rfl (ai rfl (ai rfl (ai rfl (ai (fun _ => Or.inl rfl) (by first | exact nof | exact (fun _ => ai rfl rfl))))))) (ai (by (repeat' (first | with_reducible rfl | exact trivial | refine ai ?_ ?_ | (show (_ : Int) = _; first | with_reducible rfl | exact wr1 (by omega) | (simp only [zz, reduceCtorEq] <;> first | done | rfl | omega) | omega | rfl) | exact rfl | exact (fun _ => rfl) | exact (fun _ _ => rfl) | exact nof))) (ai trivial (ai (hpre) ?_)))))))
  refine ai (ai (fun _ => trivial) ?_) trivial
  show decide (0 ≤ firstP (fun s => p == s) L) = decide (p ∈ L)
  apply decide_eq_decide.2
  unfold firstP
  cases h : L.any (fun s => p == s) with
  | true =>
    obtain ⟨s, hs, e⟩ := List.any_eq_true.1 h
    rw [beq_iff_eq] at e
    subst e
    simp [hs]
  | false =>
    have : p ∉ L := fun hp => by
      rw [List.any_eq_true.2 ⟨p, hp, by simp⟩] at h; cases h
    simp [this]

theorem min_raw {p q : Int} {a b : Nat} (hp : p = a) (hq : q = b) : (if q < p then q else p) = ((min a b : Nat) : Int) := by
  subst hp hq; split <;> omega
theorem max_raw {p q : Int} {a b : Nat} (hp : p = a) (hq : q = b) : (if q > p then q else p) = ((max a b : Nat) : Int) := by
  subst hp hq; split <;> omega
def noticesLaw : Spec := fnS (fun x : Int × List Cu × UInt8 × UInt8 => [iA x.1, csA x.2.1, u2A x.2.2]) (fun _ => True) (fun _ => bP true)
theorem notices_law : FnOk Try.prog 15 noticesLaw := by
  refine fnOk (Tb := tab) mixed tab_ok Try.func15 rfl rfl ?_
  rintro ⟨n, l, x, y⟩ hpre
  refine ai (ai rfl (ai rfl rfl)) ?_
  refine ei _ (ai right_ok (ei ((n, l)) (ei [] (ai (ai rfl (ai rfl (ai rfl (ai rfl (ai (fun _ => Or.inl rfl) (by first | exact nof | exact (fun _ => ai rfl rfl))))))) (ai (by (repeat' (first | with_reducible rfl | exact trivial | refine ai ?_ ?_ | (show (_ : Int) = _; first | with_reducible rfl | exact wr1 (by omega) | (simp only [zz, reduceCtorEq] <;> first | done | rfl | omega) | omega | rfl) | exact rfl | exact (fun _ => rfl) | exact (fun _ _ => rfl) | exact nof))) (ai trivial (ai (trivial) ?_)))))))
  refine bcase_b (b := !rightB n l) (by first | exact rfl | (simp only [zz, reduceCtorEq] <;> first | done | exact rfl)) (fun h1 => ?_) (fun h1 => ?_)
  · skip
    refine ei _ (ai awake8_ok (ei (()) (ei [] (ai (ai rfl (ai rfl (ai rfl (ai rfl (ai (fun _ => Or.inl rfl) (by first | exact nof | exact (fun _ => ai rfl rfl))))))) (ai (by (repeat' (first | with_reducible rfl | exact trivial | refine ai ?_ ?_ | (show (_ : Int) = _; first | with_reducible rfl | exact wr1 (by omega) | (simp only [zz, reduceCtorEq] <;> first | done | rfl | omega) | omega | rfl) | exact rfl | exact (fun _ => rfl) | exact (fun _ _ => rfl) | exact nof))) (ai trivial (ai (trivial) ?_)))))))
    refine ai (ai (fun _ => (by (repeat' (first | exact rfl | exact trivial | exact (fun _ => rfl) | exact (fun _ _ => rfl) | exact nof | refine ai ?_ ?_)))) ?_) trivial
    any_goals (repeat' (first | with_reducible rfl | exact trivial | refine ai ?_ ?_ | (show (_ : Int) = _; first | with_reducible rfl | exact wr1 (by omega) | (simp only [zz, reduceCtorEq] <;> first | done | rfl | omega) | omega | rfl) | exact rfl | exact (fun _ => rfl) | exact (fun _ _ => rfl) | exact nof))
  refine bcase_p (p := n = 0) (by first | (with_reducible refine bif_lt ?_; omega) | (with_reducible refine bif_le ?_; omega) | (with_reducible refine bif_eq ?_; omega) | (with_reducible refine bif_ne ?_; omega) | exact b8_eq rfl | exact b8_ne rfl | exact bif_lt (by omega) | exact bif_le (by omega) | exact bif_eq (by omega) | exact bif_ne (by omega) | exact Iff.rfl | (simp only [zz, reduceCtorEq] <;> first | done | omega | exact Iff.rfl) | (simp; done) | (simp; omega)) (fun h2 => ?_) (fun h2 => ?_)
  · skip
    refine ei _ (ai awake8_ok (ei (()) (ei [] (ai (ai rfl (ai rfl (ai rfl (ai rfl (ai (fun _ => Or.inl rfl) (by first | exact nof | exact (fun _ => ai rfl rfl))))))) (ai (by (repeat' (first | with_reducible rfl | exact trivial | refine ai ?_ ?_ | (show (_ : Int) = _; first | with_reducible rfl | exact wr1 (by omega) | (simp only [zz, reduceCtorEq] <;> first | done | rfl | omega) | omega | rfl) | exact rfl | exact (fun _ => rfl) | exact (fun _ _ => rfl) | exact nof))) (ai trivial (ai (trivial) ?_)))))))
    refine ai (ai (fun _ => (by (repeat' (first | exact rfl | exact trivial | exact (fun _ => rfl) | exact (fun _ _ => rfl) | exact nof | refine ai ?_ ?_)))) ?_) trivial
    any_goals (repeat' (first | with_reducible rfl | exact trivial | refine ai ?_ ?_ | (show (_ : Int) = _; first | with_reducible rfl | exact wr1 (by omega) | (simp only [zz, reduceCtorEq] <;> first | done | rfl | omega) | omega | rfl) | exact rfl | exact (fun _ => rfl) | exact (fun _ _ => rfl) | exact nof))
  obtain ⟨n, hn5, rfl, hck, hl, hall⟩ := right_inv (n := n) (l := l) (by simpa using h1)
  have hn : n ≤ 6 := by omega
  have hn0 : 0 < n := by omega
  have hl0 : l.length ≤ 1000000 := by omega
  have h64 := pow_le64 hn
  obtain ⟨z, hz⟩ : ∃ z : Int, z = 0 := ⟨0, rfl⟩
  obtain ⟨T, hT⟩ : ∃ T, tabU l (2 ^ n) = T := ⟨_, rfl⟩
  have hpos : 0 < 2 ^ n := Nat.two_pow_pos n
  have ha : x.toNat % 2 ^ n < 2 ^ n := Nat.mod_lt _ hpos
  have hi : y.toNat % n < n := Nat.mod_lt _ hn0
  have ea := rem_u8 x (2 ^ n)
  have ey := rem_u8 y n
  generalize hA : x.toNat % 2 ^ n = a at ha ea
  generalize hI : y.toNat % n = i at hi ey
  have hb := flip_lt ha hi
  have hpi : 2 ^ i ≤ 2 ^ 6 := Nat.pow_le_pow_right (by decide) (by omega)
  have eb : bits .xor .i64 ((IntKind.i64.wrap (x.toNat : Int)).tmod ((2 ^ n : Nat) : Int)) (IntKind.i64.wrap (1 * 2 ^ min ((IntKind.i64.wrap (y.toNat : Int)).tmod (n : Int)).toNat IntKind.i64.bits)) = ((flip a i : Nat) : Int) := by
    rw [ea, ey, pow6 (show i ≤ 6 by omega), i_xor (by omega) (by omega)]; rfl
  have hBl := bad_len hn l
  obtain ⟨L0, hL0⟩ : ∃ L0, logL n l a (flip a i) = L0 := ⟨_, rfl⟩
  have hmem := (notice hn l ha hi).symm.trans hL0
  have hcont := fnS_at contP_ok (badL n l, min a (flip a i), max a (flip a i)) (show (badL n l).length ≤ 1000000 by omega) (r := bP L0) (congrArg bP hmem)
  refine ei [0, 1, 2, 3, 4, 5, 6] (ai (by kernel_rfl) ?_)
  refine ai (ai (by decide) (by decide)) ?_
  refine ei _ (ai size_ok (ei (n) (ei [] (ai (ai rfl (ai rfl (ai rfl (ai rfl (ai (fun _ => Or.inl rfl) (by first | exact nof | exact (fun _ => ai rfl rfl))))))) (ai (by (repeat' (first | with_reducible rfl | exact trivial | refine ai ?_ ?_ | (show (_ : Int) = _; first | with_reducible rfl | exact wr1 (by omega) | (simp only [zz, reduceCtorEq] <;> first | done | rfl | omega) | omega | rfl) | exact rfl | exact (fun _ => rfl) | exact (fun _ _ => rfl) | exact nof))) (ai trivial (ai (hn) ?_)))))))
  refine ai (by show ((2 ^ n : Nat) : Int) ≠ 0; omega) ?_
  refine ai (ai (by decide) (by decide)) ?_
  refine ai (by show (n : Int) ≠ 0; omega) ?_
  refine ai (by show 0 ≤ (IntKind.i64.wrap (y.toNat : Int)).tmod (n : Int); rw [ey]; exact Int.natCast_nonneg _) ?_
  refine ei _ (ai (tab_at8 hz hck hT hl0) (ei (()) (ei [] (ai (ai rfl (ai rfl (ai rfl (ai rfl (ai (fun _ => Or.inl rfl) (by first | exact nof | exact (fun _ => ai rfl rfl))))))) (ai (by (repeat' (first | with_reducible rfl | exact trivial | refine ai ?_ ?_ | (show (_ : Int) = _; first | with_reducible rfl | exact wr1 (by omega) | (simp only [zz, reduceCtorEq] <;> first | done | rfl | omega) | omega | rfl) | exact rfl | exact (fun _ => rfl) | exact (fun _ _ => rfl) | exact nof))) (ai trivial (ai (trivial) ?_)))))))
  refine ei _ (ai (haz_at8 hz hck rfl hl0) (ei (()) (ei [] (ai (ai rfl (ai rfl (ai rfl (ai rfl (ai (fun _ => Or.inl rfl) (by first | exact nof | exact (fun _ => ai rfl rfl))))))) (ai (by (repeat' (first | with_reducible rfl | exact trivial | refine ai ?_ ?_ | (show (_ : Int) = _; first | with_reducible rfl | exact wr1 (by omega) | (simp only [zz, reduceCtorEq] <;> first | done | rfl | omega) | omega | rfl) | exact rfl | exact (fun _ => rfl) | exact (fun _ _ => rfl) | exact nof))) (ai trivial (ai (trivial) ?_)))))))
  refine ei _ (ai (log_at8 hz hck ha hb hL0 hl0) (ei (()) (ei [] (ai (ai rfl (ai rfl (ai rfl (ai rfl (ai (fun _ => Or.inl rfl) (by first | exact nof | exact (fun _ => ai rfl rfl))))))) (ai ?_ (ai trivial (ai ?_ ?_)))))))
  · skip
    (repeat' (first | exact rfl | exact trivial | exact (fun _ => rfl) | exact (fun _ _ => rfl) | exact nof | refine ai ?_ ?_))
    · exact ea
    · exact eb
  · trivial
  refine bcase_b (b := false) (by (first | (simp only [beq_self_eq_true, Bool.and_true, Bool.and_self]; done) | (simp only [hz, Int.add_zero, wrap_z]; done) | (simp only [hz, Int.add_zero, wrap_z]; rfl) | decide | rfl | decide | (simp; done))) (fun h => absurd h (by decide)) (fun _ => ?_)
  refine bcase_b (b := false) (by (first | (simp only [beq_self_eq_true, Bool.and_true, Bool.and_self]; done) | (simp only [hz, Int.add_zero, wrap_z]; done) | (simp only [hz, Int.add_zero, wrap_z]; rfl) | decide | rfl | decide | (simp; done))) (fun h => absurd h (by decide)) (fun _ => ?_)
  refine ei _ (ai hcont (ei (()) (ei [] (ai (ai rfl (ai rfl (ai rfl (ai rfl (ai (fun _ => Or.inl rfl) (by first | exact nof | exact (fun _ => ai rfl rfl))))))) (ai ?_ (ai trivial (ai ?_ ?_)))))))
  · skip
    (repeat' (first | exact rfl | exact trivial | exact (fun _ => rfl) | exact (fun _ _ => rfl) | exact nof | refine ai ?_ ?_))
    · exact min_raw ea eb
    · exact max_raw ea eb
  · trivial
  refine bcase_b (b := true) (by (first | (simp only [beq_self_eq_true, Bool.and_true, Bool.and_self]; done) | (simp only [hz, Int.add_zero, wrap_z]; done) | (simp only [hz, Int.add_zero, wrap_z]; rfl) | decide | rfl | decide | (simp; done))) (fun _ => ?_) (fun h => absurd h (by decide))
  refine bcase_b (b := !L0) (by first | exact rfl | (simp only [zz, reduceCtorEq] <;> first | done | exact rfl)) (fun h3 => ?_) (fun h3 => ?_)
  · skip
    refine ei _ (ai awake8_ok (ei (()) (ei [] (ai (ai rfl (ai rfl (ai rfl (ai rfl (ai (fun _ => Or.inl rfl) (by first | exact nof | exact (fun _ => ai rfl rfl))))))) (ai (by (repeat' (first | with_reducible rfl | exact trivial | refine ai ?_ ?_ | (show (_ : Int) = _; first | with_reducible rfl | exact wr1 (by omega) | (simp only [zz, reduceCtorEq] <;> first | done | rfl | omega) | omega | rfl) | exact rfl | exact (fun _ => rfl) | exact (fun _ _ => rfl) | exact nof))) (ai trivial (ai (trivial) ?_)))))))
    refine ai (ai (fun _ => (by (repeat' (first | exact rfl | exact trivial | exact (fun _ => rfl) | exact (fun _ _ => rfl) | exact nof | refine ai ?_ ?_)))) ?_) trivial
    any_goals (repeat' (first | with_reducible rfl | exact trivial | refine ai ?_ ?_ | (show (_ : Int) = _; first | with_reducible rfl | exact wr1 (by omega) | (simp only [zz, reduceCtorEq] <;> first | done | rfl | omega) | omega | rfl) | exact rfl | exact (fun _ => rfl) | exact (fun _ _ => rfl) | exact nof))
  · refine ai (by show 0 ≤ (IntKind.i64.wrap (x.toNat : Int)).tmod ((2 ^ n : Nat) : Int); rw [ea]; exact Int.natCast_nonneg _) ?_
    have hTa : T.getLsbD a = true := by
      have h4 : L0 = true := by simpa using h3
      rw [← hL0, log_flip hn l ha hi, hT, Bool.and_eq_true, Bool.and_eq_true] at h4
      exact h4.1.1
    refine bcase_b (b := true) (by show (bits .and .u64 ((T.toNat : Int).fdiv (2 ^ min ((IntKind.i64.wrap (x.toNat : Int)).tmod ((2 ^ n : Nat) : Int)).toNat IntKind.u64.bits)) 1 == 1) = true; rw [ea, Int.toNat_natCast, zL, zE, zO, zX]; exact hTa) (fun _ => ?_) (fun h => absurd h (by decide))
    refine ei _ (ai awake8_ok (ei (()) (ei [] (ai (ai rfl (ai rfl (ai rfl (ai rfl (ai (fun _ => Or.inl rfl) (by first | exact nof | exact (fun _ => ai rfl rfl))))))) (ai (by (repeat' (first | with_reducible rfl | exact trivial | refine ai ?_ ?_ | (show (_ : Int) = _; first | with_reducible rfl | exact wr1 (by omega) | (simp only [zz, reduceCtorEq] <;> first | done | rfl | omega) | omega | rfl) | exact rfl | exact (fun _ => rfl) | exact (fun _ _ => rfl) | exact nof))) (ai trivial (ai (trivial) ?_)))))))
    refine ai (ai (fun _ => (by (repeat' (first | exact rfl | exact trivial | exact (fun _ => rfl) | exact (fun _ _ => rfl) | exact nof | refine ai ?_ ?_)))) ?_) trivial
    any_goals (repeat' (first | with_reducible rfl | exact trivial | refine ai ?_ ?_ | (show (_ : Int) = _; first | with_reducible rfl | exact wr1 (by omega) | (simp only [zz, reduceCtorEq] <;> first | done | rfl | omega) | omega | rfl) | exact rfl | exact (fun _ => rfl) | exact (fun _ _ => rfl) | exact nof))

end Go.Sx.Pn
