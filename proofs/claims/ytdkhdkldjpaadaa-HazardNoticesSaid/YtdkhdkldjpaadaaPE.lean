/- The examples of chapter 6. -/
import Derived.Test.YtdkhdkldjpaadaaPD
set_option maxHeartbeats 1000000
set_option maxRecDepth 4000
set_option linter.unusedSimpArgs false
set_option linter.unusedVariables false
namespace Go.Sx.Pn
open Go Go.Proofs

def two : Tk := ⟨⟨3, 232#64⟩, ⟨3, 0#64⟩⟩
def two6 : Tk := ⟨⟨3, 232#64⟩, ⟨3, 6#64⟩⟩
def twoS : Spec := fnS (fun _ : Unit => []) (fun _ => True) (fun _ => kP two)
theorem two_ok : FnOk Try.prog 75 twoS := by
  refine fnOk (Tb := tab) mixed tab_ok Try.func75 rfl rfl ?_
  rintro ⟨⟩ hpre
  refine ai (ai rfl (ai rfl rfl)) ?_
  refine ai (ai (fun _ => (by (repeat' (first | exact rfl | exact trivial | exact (fun _ => rfl) | exact (fun _ _ => rfl) | exact nof | refine ai ?_ ?_)))) ?_) trivial
  any_goals (repeat' (first | with_reducible rfl | exact trivial | refine ai ?_ ?_ | (show (_ : Int) = _; first | with_reducible rfl | exact wr1 (by omega) | (simp only [zz, reduceCtorEq] <;> first | done | rfl | omega) | omega | rfl) | exact rfl | exact (fun _ => rfl) | exact (fun _ _ => rfl) | exact nof))

section
variable {z : Int} (hz : z = 0)
include hz
theorem parse1 : FnOk Try.prog 20 (fnS (fun _ : Unit => ParseS.args [49, 45, 48]) (fun _ => True) (fun _ => resP (3, ⟨5, 1⟩, z))) :=
  fnS_at Parse_ok [49, 45, 48] (by decide) (by rw [hz, show parseC [49, 45, 48] = (3, ⟨5, 1⟩, 0) by decide +kernel])
theorem parse2 : FnOk Try.prog 20 (fnS (fun _ : Unit => ParseS.args [45, 49, 48]) (fun _ => True) (fun _ => resP (3, ⟨6, 2⟩, z))) :=
  fnS_at Parse_ok [45, 49, 48] (by decide) (by rw [hz, show parseC [45, 49, 48] = (3, ⟨6, 2⟩, 0) by decide +kernel])
theorem parse3 : FnOk Try.prog 20 (fnS (fun _ : Unit => ParseS.args [45, 45, 49]) (fun _ => True) (fun _ => resP (3, ⟨4, 4⟩, z))) :=
  fnS_at Parse_ok [45, 45, 49] (by decide) (by rw [hz, show parseC [45, 45, 49] = (3, ⟨4, 4⟩, 0) by decide +kernel])
theorem meet1 : FnOk Try.prog 31 (fnS (fun _ : Unit => MeetS.args (3, ⟨5, 1⟩, ⟨6, 2⟩)) (fun _ => True) (fun _ => res3 (⟨7, 3⟩, true, z))) :=
  fnS_at Meet_ok (3, ⟨5, 1⟩, ⟨6, 2⟩) trivial (by show res3 (meetC 3 ⟨5, 1⟩ ⟨6, 2⟩) = _; rw [hz, show meetC 3 ⟨5, 1⟩ ⟨6, 2⟩ = (⟨7, 3⟩, true, 0) by decide +kernel])
theorem cons1 : FnOk Try.prog 33 (fnS (fun _ : Unit => ConsS.args (3, ⟨5, 1⟩, ⟨6, 2⟩)) (fun _ => True) (fun _ => res3 (⟨0, 0⟩, false, z))) :=
  fnS_at Cons_ok (3, ⟨5, 1⟩, ⟨6, 2⟩) trivial (by show res3 (consC 3 ⟨5, 1⟩ ⟨6, 2⟩) = _; rw [hz, show consC 3 ⟨5, 1⟩ ⟨6, 2⟩ = (⟨0, 0⟩, false, 0) by unfold consC popU; decide +kernel])
theorem cons2 : FnOk Try.prog 33 (fnS (fun _ : Unit => ConsS.args (3, ⟨5, 1⟩, ⟨4, 4⟩)) (fun _ => True) (fun _ => res3 (⟨1, 1⟩, true, z))) :=
  fnS_at Cons_ok (3, ⟨5, 1⟩, ⟨4, 4⟩) trivial (by show res3 (consC 3 ⟨5, 1⟩ ⟨4, 4⟩) = _; rw [hz, show consC 3 ⟨5, 1⟩ ⟨4, 4⟩ = (⟨1, 1⟩, true, 0) by unfold consC popU; decide +kernel])
theorem text1 : FnOk Try.prog 18 (fnS (fun _ : Unit => TextS.args (3, ⟨7, 3⟩)) (fun _ => True) (fun _ => .tup [strP [49, 49, 48], iP z])) :=
  fnS_at Text_ok (3, ⟨7, 3⟩) trivial (by show PV.tup [strP (txtC 3 ⟨7, 3⟩).1, iP (txtC 3 ⟨7, 3⟩).2] = _; rw [hz, show txtC 3 ⟨7, 3⟩ = ([49, 49, 48], 0) by decide +kernel])
theorem text2 : FnOk Try.prog 18 (fnS (fun _ : Unit => TextS.args (3, ⟨1, 1⟩)) (fun _ => True) (fun _ => .tup [strP [49, 45, 45], iP z])) :=
  fnS_at Text_ok (3, ⟨1, 1⟩) trivial (by show PV.tup [strP (txtC 3 ⟨1, 1⟩).1, iP (txtC 3 ⟨1, 1⟩).2] = _; rw [hz, show txtC 3 ⟨1, 1⟩ = ([49, 45, 45], 0) by decide +kernel])
theorem prim1 : FnOk Try.prog 23 (fnS (fun _ : Unit => PrimesS.args two) (fun _ => True) (fun _ => .tup [csP [⟨3, 3⟩, ⟨5, 5⟩, ⟨6, 6⟩], iP z])) :=
  fnS_at Primes_ok two trivial (by rw [hz, primesC_eq, show primesC two = ([⟨3, 3⟩, ⟨5, 5⟩, ⟨6, 6⟩], 0) by decide +kernel])
theorem prim2 : FnOk Try.prog 23 (fnS (fun _ : Unit => PrimesS.args two6) (fun _ => True) (fun _ => .tup [csP [⟨1, 1⟩, ⟨2, 2⟩], iP z])) :=
  fnS_at Primes_ok two6 trivial (by rw [hz, primesC_eq, show primesC two6 = ([⟨1, 1⟩, ⟨2, 2⟩], 0) by decide +kernel])
theorem ess1 : FnOk Try.prog 25 (fnS (fun _ : Unit => EssS.args two) (fun _ => True) (fun _ => .tup [nsP [0, 1, 2], iP z])) :=
  fnS_at Ess_ok two trivial (by show PV.tup [nsP (essC two).1, iP (essC two).2] = _; rw [hz, show essC two = ([0, 1, 2], 0) by decide +kernel])
end
theorem same1 : FnOk Try.prog 27 (fnS (fun _ : Unit => sameS.args ([⟨3, 3⟩, ⟨5, 5⟩, ⟨6, 6⟩], [⟨3, 3⟩, ⟨5, 5⟩, ⟨6, 6⟩])) (fun _ => True) (fun _ => bP true)) :=
  fnS_at same_ok ([⟨3, 3⟩, ⟨5, 5⟩, ⟨6, 6⟩], [⟨3, 3⟩, ⟨5, 5⟩, ⟨6, 6⟩]) (by decide) (by simp)
theorem same2 : FnOk Try.prog 27 (fnS (fun _ : Unit => sameS.args ([⟨1, 1⟩, ⟨2, 2⟩], [⟨1, 1⟩, ⟨2, 2⟩])) (fun _ => True) (fun _ => bP true)) :=
  fnS_at same_ok ([⟨1, 1⟩, ⟨2, 2⟩], [⟨1, 1⟩, ⟨2, 2⟩]) (by decide) (by simp)
theorem eqn1 : FnOk Try.prog 28 (fnS (fun _ : Unit => eqNS.args ([0, 1, 2], [0, 1, 2])) (fun _ => True) (fun _ => bP true)) :=
  fnS_at eqN_ok ([0, 1, 2], [0, 1, 2]) (by decide) (by simp)

end Go.Sx.Pn

namespace Go.Sx.Pn
open Go Go.Proofs

def trueS : Spec := fnS (fun _ : Unit => []) (fun _ => True) (fun _ => bP true)
theorem awake_ok : FnOk Try.prog 17 trueS := by
  refine fnOk (Tb := tab) mixed tab_ok Try.func17 rfl rfl ?_
  rintro ⟨⟩ hpre
  refine ai (ai rfl (ai rfl rfl)) ?_
  obtain ⟨z, hz⟩ : ∃ z : Int, z = 0 := ⟨0, rfl⟩
  refine ei _ (ai (parse1 hz) (ei (()) (ei [] (ai (ai rfl (ai rfl (ai rfl (ai rfl (ai (fun _ => Or.inl rfl) (by first | exact nof | exact (fun _ => ai rfl rfl))))))) (ai (by (repeat' (first | with_reducible rfl | exact trivial | refine ai ?_ ?_ | (show (_ : Int) = _; first | with_reducible rfl | exact wr1 (by omega) | (simp only [zz, reduceCtorEq] <;> first | done | rfl | omega) | omega | rfl) | exact rfl | exact (fun _ => rfl) | exact (fun _ _ => rfl) | exact nof))) (ai trivial (ai (trivial) ?_)))))))
  refine ei _ (ai (parse2 hz) (ei (()) (ei [] (ai (ai rfl (ai rfl (ai rfl (ai rfl (ai (fun _ => Or.inl rfl) (by first | exact nof | exact (fun _ => ai rfl rfl))))))) (ai (by (repeat' (first | with_reducible rfl | exact trivial | refine ai ?_ ?_ | (show (_ : Int) = _; first | with_reducible rfl | exact wr1 (by omega) | (simp only [zz, reduceCtorEq] <;> first | done | rfl | omega) | omega | rfl) | exact rfl | exact (fun _ => rfl) | exact (fun _ _ => rfl) | exact nof))) (ai trivial (ai (trivial) ?_)))))))
  refine ei _ (ai (parse3 hz) (ei (()) (ei [] (ai (ai rfl (ai rfl (ai rfl (ai rfl (ai (fun _ => Or.inl rfl) (by first | exact nof | exact (fun _ => ai rfl rfl))))))) (ai (by (repeat' (first | with_reducible rfl | exact trivial | refine ai ?_ ?_ | (show (_ : Int) = _; first | with_reducible rfl | exact wr1 (by omega) | (simp only [zz, reduceCtorEq] <;> first | done | rfl | omega) | omega | rfl) | exact rfl | exact (fun _ => rfl) | exact (fun _ _ => rfl) | exact nof))) (ai trivial (ai (trivial) ?_)))))))
  refine ei _ (ai (meet1 hz) (ei (()) (ei [] (ai (ai rfl (ai rfl (ai rfl (ai rfl (ai (fun _ => Or.inl rfl) (by first | exact nof | exact (fun _ => ai rfl rfl))))))) (ai (by (repeat' (first | with_reducible rfl | exact trivial | refine ai ?_ ?_ | (show (_ : Int) = _; first | with_reducible rfl | exact wr1 (by omega) | (simp only [zz, reduceCtorEq] <;> first | done | rfl | omega) | omega | rfl) | exact rfl | exact (fun _ => rfl) | exact (fun _ _ => rfl) | exact nof))) (ai trivial (ai (trivial) ?_)))))))
  refine ei _ (ai (cons1 hz) (ei (()) (ei [] (ai (ai rfl (ai rfl (ai rfl (ai rfl (ai (fun _ => Or.inl rfl) (by first | exact nof | exact (fun _ => ai rfl rfl))))))) (ai (by (repeat' (first | with_reducible rfl | exact trivial | refine ai ?_ ?_ | (show (_ : Int) = _; first | with_reducible rfl | exact wr1 (by omega) | (simp only [zz, reduceCtorEq] <;> first | done | rfl | omega) | omega | rfl) | exact rfl | exact (fun _ => rfl) | exact (fun _ _ => rfl) | exact nof))) (ai trivial (ai (trivial) ?_)))))))
  refine ei _ (ai (cons2 hz) (ei (()) (ei [] (ai (ai rfl (ai rfl (ai rfl (ai rfl (ai (fun _ => Or.inl rfl) (by first | exact nof | exact (fun _ => ai rfl rfl))))))) (ai (by (repeat' (first | with_reducible rfl | exact trivial | refine ai ?_ ?_ | (show (_ : Int) = _; first | with_reducible rfl | exact wr1 (by omega) | (simp only [zz, reduceCtorEq] <;> first | done | rfl | omega) | omega | rfl) | exact rfl | exact (fun _ => rfl) | exact (fun _ _ => rfl) | exact nof))) (ai trivial (ai (trivial) ?_)))))))
  refine ei _ (ai (text1 hz) (ei (()) (ei [] (ai (ai rfl (ai rfl (ai rfl (ai rfl (ai (fun _ => Or.inl rfl) (by first | exact nof | exact (fun _ => ai rfl rfl))))))) (ai (by (repeat' (first | with_reducible rfl | exact trivial | refine ai ?_ ?_ | (show (_ : Int) = _; first | with_reducible rfl | exact wr1 (by omega) | (simp only [zz, reduceCtorEq] <;> first | done | rfl | omega) | omega | rfl) | exact rfl | exact (fun _ => rfl) | exact (fun _ _ => rfl) | exact nof))) (ai trivial (ai (trivial) ?_)))))))
  refine ei _ (ai (text2 hz) (ei (()) (ei [] (ai (ai rfl (ai rfl (ai rfl (ai rfl (ai (fun _ => Or.inl rfl) (by first | exact nof | exact (fun _ => ai rfl rfl))))))) (ai (by (repeat' (first | with_reducible rfl | exact trivial | refine ai ?_ ?_ | (show (_ : Int) = _; first | with_reducible rfl | exact wr1 (by omega) | (simp only [zz, reduceCtorEq] <;> first | done | rfl | omega) | omega | rfl) | exact rfl | exact (fun _ => rfl) | exact (fun _ _ => rfl) | exact nof))) (ai trivial (ai (trivial) ?_)))))))
  refine bcase_b (b := false) (by (first | (simp only [beq_self_eq_true, Bool.and_true, Bool.and_self]; done) | (simp only [hz, Int.add_zero, wrap_z]; done) | (simp only [hz, Int.add_zero, wrap_z]; rfl) | decide | rfl | decide | (simp; done))) (fun h => absurd h (by decide)) (fun _ => ?_)
  refine ei _ (ai two_ok (ei (()) (ei [] (ai (ai rfl (ai rfl (ai rfl (ai rfl (ai (fun _ => Or.inl rfl) (by first | exact nof | exact (fun _ => ai rfl rfl))))))) (ai (by (repeat' (first | with_reducible rfl | exact trivial | refine ai ?_ ?_ | (show (_ : Int) = _; first | with_reducible rfl | exact wr1 (by omega) | (simp only [zz, reduceCtorEq] <;> first | done | rfl | omega) | omega | rfl) | exact rfl | exact (fun _ => rfl) | exact (fun _ _ => rfl) | exact nof))) (ai trivial (ai (trivial) ?_)))))))
  refine ei _ (ai (prim1 hz) (ei (()) (ei [] (ai (ai rfl (ai rfl (ai rfl (ai rfl (ai (fun _ => Or.inl rfl) (by first | exact nof | exact (fun _ => ai rfl rfl))))))) (ai (by (repeat' (first | with_reducible rfl | exact trivial | refine ai ?_ ?_ | (show (_ : Int) = _; first | with_reducible rfl | exact wr1 (by omega) | (simp only [zz, reduceCtorEq] <;> first | done | rfl | omega) | omega | rfl) | exact rfl | exact (fun _ => rfl) | exact (fun _ _ => rfl) | exact nof))) (ai trivial (ai (trivial) ?_)))))))
  refine ei _ (ai two_ok (ei (()) (ei [] (ai (ai rfl (ai rfl (ai rfl (ai rfl (ai (fun _ => Or.inl rfl) (by first | exact nof | exact (fun _ => ai rfl rfl))))))) (ai (by (repeat' (first | with_reducible rfl | exact trivial | refine ai ?_ ?_ | (show (_ : Int) = _; first | with_reducible rfl | exact wr1 (by omega) | (simp only [zz, reduceCtorEq] <;> first | done | rfl | omega) | omega | rfl) | exact rfl | exact (fun _ => rfl) | exact (fun _ _ => rfl) | exact nof))) (ai trivial (ai (trivial) ?_)))))))
  refine ei _ (ai (ess1 hz) (ei (()) (ei [] (ai (ai rfl (ai rfl (ai rfl (ai rfl (ai (fun _ => Or.inl rfl) (by first | exact nof | exact (fun _ => ai rfl rfl))))))) (ai (by (repeat' (first | with_reducible rfl | exact trivial | refine ai ?_ ?_ | (show (_ : Int) = _; first | with_reducible rfl | exact wr1 (by omega) | (simp only [zz, reduceCtorEq] <;> first | done | rfl | omega) | omega | rfl) | exact rfl | exact (fun _ => rfl) | exact (fun _ _ => rfl) | exact nof))) (ai trivial (ai (trivial) ?_)))))))
  refine ei _ (ai two_ok (ei (()) (ei [] (ai (ai rfl (ai rfl (ai rfl (ai rfl (ai (fun _ => Or.inl rfl) (by first | exact nof | exact (fun _ => ai rfl rfl))))))) (ai (by (repeat' (first | with_reducible rfl | exact trivial | refine ai ?_ ?_ | (show (_ : Int) = _; first | with_reducible rfl | exact wr1 (by omega) | (simp only [zz, reduceCtorEq] <;> first | done | rfl | omega) | omega | rfl) | exact rfl | exact (fun _ => rfl) | exact (fun _ _ => rfl) | exact nof))) (ai trivial (ai (trivial) ?_)))))))
  refine ei _ (ai (prim2 hz) (ei (()) (ei [] (ai (ai rfl (ai rfl (ai rfl (ai rfl (ai (fun _ => Or.inl rfl) (by first | exact nof | exact (fun _ => ai rfl rfl))))))) (ai (by (repeat' (first | with_reducible rfl | exact trivial | refine ai ?_ ?_ | (show (_ : Int) = _; first | with_reducible rfl | exact wr1 (by omega) | (simp only [zz, reduceCtorEq] <;> first | done | rfl | omega) | omega | rfl) | exact rfl | exact (fun _ => rfl) | exact (fun _ _ => rfl) | exact nof))) (ai trivial (ai (trivial) ?_)))))))
  refine bcase_b (b := true) (by (first | (simp only [beq_self_eq_true, Bool.and_true, Bool.and_self]; done) | (simp only [hz, Int.add_zero, wrap_z]; done) | (simp only [hz, Int.add_zero, wrap_z]; rfl) | decide | rfl | decide | (simp; done))) (fun _ => ?_) (fun h => absurd h (by decide))
  refine ei _ (ai same1 (ei (()) (ei [] (ai (ai rfl (ai rfl (ai rfl (ai rfl (ai (fun _ => Or.inl rfl) (by first | exact nof | exact (fun _ => ai rfl rfl))))))) (ai ?_ (ai trivial (ai ?_ ?_)))))))
  · skip
    (repeat' (first | exact rfl | exact trivial | exact (fun _ => rfl) | exact (fun _ _ => rfl) | exact nof | refine ai ?_ ?_))
    (intro k hk; have hk : k < 3 := hk; match k, hk with | 0, _ => rfl | 1, _ => rfl | 2, _ => rfl)
  · trivial
  refine ei _ (ai eqn1 (ei (()) (ei [] (ai (ai rfl (ai rfl (ai rfl (ai rfl (ai (fun _ => Or.inl rfl) (by first | exact nof | exact (fun _ => ai rfl rfl))))))) (ai ?_ (ai trivial (ai ?_ ?_)))))))
  · skip
    (repeat' (first | exact rfl | exact trivial | exact (fun _ => rfl) | exact (fun _ _ => rfl) | exact nof | refine ai ?_ ?_))
    (intro k hk; have hk : k < 3 := hk; match k, hk with | 0, _ => rfl | 1, _ => rfl | 2, _ => rfl)
  · trivial
  refine ei _ (ai same2 (ei (()) (ei [] (ai (ai rfl (ai rfl (ai rfl (ai rfl (ai (fun _ => Or.inl rfl) (by first | exact nof | exact (fun _ => ai rfl rfl))))))) (ai ?_ (ai trivial (ai ?_ ?_)))))))
  · skip
    (repeat' (first | exact rfl | exact trivial | exact (fun _ => rfl) | exact (fun _ _ => rfl) | exact nof | refine ai ?_ ?_))
    (intro k hk; have hk : k < 2 := hk; match k, hk with | 0, _ => rfl | 1, _ => rfl)
  · trivial
  refine ai (ai (fun _ => (by (repeat' (first | exact rfl | exact trivial | exact (fun _ => rfl) | exact (fun _ _ => rfl) | exact nof | refine ai ?_ ?_)))) ?_) trivial
  any_goals (repeat' (first | with_reducible rfl | exact trivial | refine ai ?_ ?_ | (show (_ : Int) = _; first | with_reducible rfl | exact wr1 (by omega) | (simp only [zz, reduceCtorEq] <;> first | done | rfl | omega) | omega | rfl) | exact rfl | exact (fun _ => rfl) | exact (fun _ _ => rfl) | exact nof))

end Go.Sx.Pn

namespace Go.Sx.Pn
open Go Go.Proofs

def pairsLaw : Spec := fnS (fun x : Int × Cu × Cu => [iA x.1, cA x.2.1, cA x.2.2]) (fun _ => True) (fun _ => bP true)
theorem pairs_law : FnOk Try.prog 5 pairsLaw := by
  refine fnOk (Tb := tab) mixed tab_ok Try.func5 rfl rfl ?_
  rintro ⟨n, a, b⟩ hpre
  refine ai (ai rfl (ai rfl rfl)) ?_
  refine ei _ (ai Inside_ok (ei ((n, a, b)) (ei [] (ai (ai rfl (ai rfl (ai rfl (ai rfl (ai (fun _ => Or.inl rfl) (by first | exact nof | exact (fun _ => ai rfl rfl))))))) (ai (by (repeat' (first | with_reducible rfl | exact trivial | refine ai ?_ ?_ | (show (_ : Int) = _; first | with_reducible rfl | exact wr1 (by omega) | (simp only [zz, reduceCtorEq] <;> first | done | rfl | omega) | omega | rfl) | exact rfl | exact (fun _ => rfl) | exact (fun _ _ => rfl) | exact nof))) (ai trivial (ai (trivial) ?_)))))))
  refine ei _ (ai rInside_ok' (ei ((n, a, b)) (ei [] (ai (ai rfl (ai rfl (ai rfl (ai rfl (ai (fun _ => Or.inl rfl) (by first | exact nof | exact (fun _ => ai rfl rfl))))))) (ai (by (repeat' (first | with_reducible rfl | exact trivial | refine ai ?_ ?_ | (show (_ : Int) = _; first | with_reducible rfl | exact wr1 (by omega) | (simp only [zz, reduceCtorEq] <;> first | done | rfl | omega) | omega | rfl) | exact rfl | exact (fun _ => rfl) | exact (fun _ _ => rfl) | exact nof))) (ai trivial (ai (trivial) ?_)))))))
  refine ei _ (ai Meet_ok (ei ((n, a, b)) (ei [] (ai (ai rfl (ai rfl (ai rfl (ai rfl (ai (fun _ => Or.inl rfl) (by first | exact nof | exact (fun _ => ai rfl rfl))))))) (ai (by (repeat' (first | with_reducible rfl | exact trivial | refine ai ?_ ?_ | (show (_ : Int) = _; first | with_reducible rfl | exact wr1 (by omega) | (simp only [zz, reduceCtorEq] <;> first | done | rfl | omega) | omega | rfl) | exact rfl | exact (fun _ => rfl) | exact (fun _ _ => rfl) | exact nof))) (ai trivial (ai (trivial) ?_)))))))
  refine ei _ (ai rMeet_ok' (ei ((n, a, b)) (ei [] (ai (ai rfl (ai rfl (ai rfl (ai rfl (ai (fun _ => Or.inl rfl) (by first | exact nof | exact (fun _ => ai rfl rfl))))))) (ai (by (repeat' (first | with_reducible rfl | exact trivial | refine ai ?_ ?_ | (show (_ : Int) = _; first | with_reducible rfl | exact wr1 (by omega) | (simp only [zz, reduceCtorEq] <;> first | done | rfl | omega) | omega | rfl) | exact rfl | exact (fun _ => rfl) | exact (fun _ _ => rfl) | exact nof))) (ai trivial (ai (trivial) ?_)))))))
  refine ei _ (ai Cons_ok (ei ((n, a, b)) (ei [] (ai (ai rfl (ai rfl (ai rfl (ai rfl (ai (fun _ => Or.inl rfl) (by first | exact nof | exact (fun _ => ai rfl rfl))))))) (ai (by (repeat' (first | with_reducible rfl | exact trivial | refine ai ?_ ?_ | (show (_ : Int) = _; first | with_reducible rfl | exact wr1 (by omega) | (simp only [zz, reduceCtorEq] <;> first | done | rfl | omega) | omega | rfl) | exact rfl | exact (fun _ => rfl) | exact (fun _ _ => rfl) | exact nof))) (ai trivial (ai (trivial) ?_)))))))
  refine ei _ (ai rCons_ok' (ei ((n, a, b)) (ei [] (ai (ai rfl (ai rfl (ai rfl (ai rfl (ai (fun _ => Or.inl rfl) (by first | exact nof | exact (fun _ => ai rfl rfl))))))) (ai (by (repeat' (first | with_reducible rfl | exact trivial | refine ai ?_ ?_ | (show (_ : Int) = _; first | with_reducible rfl | exact wr1 (by omega) | (simp only [zz, reduceCtorEq] <;> first | done | rfl | omega) | omega | rfl) | exact rfl | exact (fun _ => rfl) | exact (fun _ _ => rfl) | exact nof))) (ai trivial (ai (trivial) ?_)))))))
  refine bcase_b (b := true) (by (first | (simp only [beq_self_eq_true, Bool.and_true, Bool.and_self]; done) | (simp only [hz, Int.add_zero, wrap_z]; done) | (simp only [hz, Int.add_zero, wrap_z]; rfl) | decide | rfl | decide | (simp; done))) (fun _ => ?_) (fun h => absurd h (by decide))
  refine bcase_b (b := true) (by (first | (simp only [beq_self_eq_true, Bool.and_true, Bool.and_self]; done) | (simp only [hz, Int.add_zero, wrap_z]; done) | (simp only [hz, Int.add_zero, wrap_z]; rfl) | decide | rfl | decide | (simp; done))) (fun _ => ?_) (fun h => absurd h (by decide))
  refine bcase_b (b := true) (by (first | (simp only [beq_self_eq_true, Bool.and_true, Bool.and_self]; done) | (simp only [hz, Int.add_zero, wrap_z]; done) | (simp only [hz, Int.add_zero, wrap_z]; rfl) | decide | rfl | decide | (simp; done))) (fun _ => ?_) (fun h => absurd h (by decide))
  refine bcase_b (b := true) (by (first | (simp only [beq_self_eq_true, Bool.and_true, Bool.and_self]; done) | (simp only [hz, Int.add_zero, wrap_z]; done) | (simp only [hz, Int.add_zero, wrap_z]; rfl) | decide | rfl | decide | (simp; done))) (fun _ => ?_) (fun h => absurd h (by decide))
  refine bcase_b (b := true) (by (first | (simp only [beq_self_eq_true, Bool.and_true, Bool.and_self]; done) | (simp only [hz, Int.add_zero, wrap_z]; done) | (simp only [hz, Int.add_zero, wrap_z]; rfl) | decide | rfl | decide | (simp; done))) (fun _ => ?_) (fun h => absurd h (by decide))
  refine bcase_b (b := true) (by (first | (simp only [beq_self_eq_true, Bool.and_true, Bool.and_self]; done) | (simp only [hz, Int.add_zero, wrap_z]; done) | (simp only [hz, Int.add_zero, wrap_z]; rfl) | decide | rfl | decide | (simp; done))) (fun _ => ?_) (fun h => absurd h (by decide))
  refine bcase_b (b := true) (by (first | (simp only [beq_self_eq_true, Bool.and_true, Bool.and_self]; done) | (simp only [hz, Int.add_zero, wrap_z]; done) | (simp only [hz, Int.add_zero, wrap_z]; rfl) | decide | rfl | decide | (simp; done))) (fun _ => ?_) (fun h => absurd h (by decide))
  refine bcase_b (b := true) (by (first | (simp only [beq_self_eq_true, Bool.and_true, Bool.and_self]; done) | (simp only [hz, Int.add_zero, wrap_z]; done) | (simp only [hz, Int.add_zero, wrap_z]; rfl) | decide | rfl | decide | (simp; done))) (fun _ => ?_) (fun h => absurd h (by decide))
  refine ei _ (ai awake_ok (ei (()) (ei [] (ai (ai rfl (ai rfl (ai rfl (ai rfl (ai (fun _ => Or.inl rfl) (by first | exact nof | exact (fun _ => ai rfl rfl))))))) (ai (by (repeat' (first | with_reducible rfl | exact trivial | refine ai ?_ ?_ | (show (_ : Int) = _; first | with_reducible rfl | exact wr1 (by omega) | (simp only [zz, reduceCtorEq] <;> first | done | rfl | omega) | omega | rfl) | exact rfl | exact (fun _ => rfl) | exact (fun _ _ => rfl) | exact nof))) (ai trivial (ai (trivial) ?_)))))))
  refine ai (ai (fun _ => (by (repeat' (first | exact rfl | exact trivial | exact (fun _ => rfl) | exact (fun _ _ => rfl) | exact nof | refine ai ?_ ?_)))) ?_) trivial
  any_goals (repeat' (first | with_reducible rfl | exact trivial | refine ai ?_ ?_ | (show (_ : Int) = _; first | with_reducible rfl | exact wr1 (by omega) | (simp only [zz, reduceCtorEq] <;> first | done | rfl | omega) | omega | rfl) | exact rfl | exact (fun _ => rfl) | exact (fun _ _ => rfl) | exact nof))

def textsLaw : Spec := fnS (fun x : Int × Cu × List UInt8 => [iA x.1, cA x.2.1, strA x.2.2]) (fun _ => True) (fun _ => bP true)
theorem texts_law : FnOk Try.prog 3 textsLaw := by
  refine fnOk (Tb := tab) mixed tab_ok Try.func3 rfl rfl ?_
  rintro ⟨n, c, s⟩ hpre
  refine ai (ai rfl (ai rfl rfl)) ?_
  have hsz := strOf_size s
  refine bcase_p (p := 100 < s.length) (by first | (with_reducible refine bif_lt ?_; omega) | (with_reducible refine bif_le ?_; omega) | (with_reducible refine bif_eq ?_; omega) | (with_reducible refine bif_ne ?_; omega) | exact b8_eq rfl | exact b8_ne rfl | exact bif_lt (by omega) | exact bif_le (by omega) | exact bif_eq (by omega) | exact bif_ne (by omega) | exact Iff.rfl | (simp only [zz, reduceCtorEq] <;> first | done | omega | exact Iff.rfl) | (simp; done) | (simp; omega)) (fun h1 => ?_) (fun h1 => ?_)
  · skip
    refine ei _ (ai awake_ok (ei (()) (ei [] (ai (ai rfl (ai rfl (ai rfl (ai rfl (ai (fun _ => Or.inl rfl) (by first | exact nof | exact (fun _ => ai rfl rfl))))))) (ai (by (repeat' (first | with_reducible rfl | exact trivial | refine ai ?_ ?_ | (show (_ : Int) = _; first | with_reducible rfl | exact wr1 (by omega) | (simp only [zz, reduceCtorEq] <;> first | done | rfl | omega) | omega | rfl) | exact rfl | exact (fun _ => rfl) | exact (fun _ _ => rfl) | exact nof))) (ai trivial (ai (trivial) ?_)))))))
    refine ai (ai (fun _ => (by (repeat' (first | exact rfl | exact trivial | exact (fun _ => rfl) | exact (fun _ _ => rfl) | exact nof | refine ai ?_ ?_)))) ?_) trivial
    any_goals (repeat' (first | with_reducible rfl | exact trivial | refine ai ?_ ?_ | (show (_ : Int) = _; first | with_reducible rfl | exact wr1 (by omega) | (simp only [zz, reduceCtorEq] <;> first | done | rfl | omega) | omega | rfl) | exact rfl | exact (fun _ => rfl) | exact (fun _ _ => rfl) | exact nof))
  refine ei _ (ai Text_ok (ei ((n, c)) (ei [] (ai (ai rfl (ai rfl (ai rfl (ai rfl (ai (fun _ => Or.inl rfl) (by first | exact nof | exact (fun _ => ai rfl rfl))))))) (ai (by (repeat' (first | with_reducible rfl | exact trivial | refine ai ?_ ?_ | (show (_ : Int) = _; first | with_reducible rfl | exact wr1 (by omega) | (simp only [zz, reduceCtorEq] <;> first | done | rfl | omega) | omega | rfl) | exact rfl | exact (fun _ => rfl) | exact (fun _ _ => rfl) | exact nof))) (ai trivial (ai (trivial) ?_)))))))
  refine ei _ (ai rText_ok (ei ((n, c)) (ei [] (ai (ai rfl (ai rfl (ai rfl (ai rfl (ai (fun _ => Or.inl rfl) (by first | exact nof | exact (fun _ => ai rfl rfl))))))) (ai (by (repeat' (first | with_reducible rfl | exact trivial | refine ai ?_ ?_ | (show (_ : Int) = _; first | with_reducible rfl | exact wr1 (by omega) | (simp only [zz, reduceCtorEq] <;> first | done | rfl | omega) | omega | rfl) | exact rfl | exact (fun _ => rfl) | exact (fun _ _ => rfl) | exact nof))) (ai trivial (ai (trivial) ?_)))))))
  refine ei _ (ai Parse_ok (ei (s) (ei [] (ai (ai rfl (ai rfl (ai rfl (ai rfl (ai (fun _ => Or.inl rfl) (by first | exact nof | exact (fun _ => ai rfl rfl))))))) (ai (by (repeat' (first | with_reducible rfl | exact trivial | refine ai ?_ ?_ | (show (_ : Int) = _; first | with_reducible rfl | exact wr1 (by omega) | (simp only [zz, reduceCtorEq] <;> first | done | rfl | omega) | omega | rfl) | exact rfl | exact (fun _ => rfl) | exact (fun _ _ => rfl) | exact nof))) (ai trivial (ai ((by show s.length ≤ 1000000; omega)) ?_)))))))
  refine ei _ (ai rParse_ok (ei (s) (ei [] (ai (ai rfl (ai rfl (ai rfl (ai rfl (ai (fun _ => Or.inl rfl) (by first | exact nof | exact (fun _ => ai rfl rfl))))))) (ai (by (repeat' (first | with_reducible rfl | exact trivial | refine ai ?_ ?_ | (show (_ : Int) = _; first | with_reducible rfl | exact wr1 (by omega) | (simp only [zz, reduceCtorEq] <;> first | done | rfl | omega) | omega | rfl) | exact rfl | exact (fun _ => rfl) | exact (fun _ _ => rfl) | exact nof))) (ai trivial (ai ((by show s.length ≤ 1000000; omega)) ?_)))))))
  refine bcase_b (b := true) (by (first | (simp only [beq_self_eq_true, Bool.and_true, Bool.and_self]; done) | (simp only [hz, Int.add_zero, wrap_z]; done) | (simp only [hz, Int.add_zero, wrap_z]; rfl) | decide | rfl | decide | (simp; done))) (fun _ => ?_) (fun h => absurd h (by decide))
  refine bcase_b (b := true) (by (first | (simp only [beq_self_eq_true, Bool.and_true, Bool.and_self]; done) | (simp only [hz, Int.add_zero, wrap_z]; done) | (simp only [hz, Int.add_zero, wrap_z]; rfl) | decide | rfl | decide | (simp; done))) (fun _ => ?_) (fun h => absurd h (by decide))
  refine bcase_b (b := true) (by (first | (simp only [beq_self_eq_true, Bool.and_true, Bool.and_self]; done) | (simp only [hz, Int.add_zero, wrap_z]; done) | (simp only [hz, Int.add_zero, wrap_z]; rfl) | decide | rfl | decide | (simp; done))) (fun _ => ?_) (fun h => absurd h (by decide))
  refine bcase_b (b := true) (by (first | (simp only [beq_self_eq_true, Bool.and_true, Bool.and_self]; done) | (simp only [hz, Int.add_zero, wrap_z]; done) | (simp only [hz, Int.add_zero, wrap_z]; rfl) | decide | rfl | decide | (simp; done))) (fun _ => ?_) (fun h => absurd h (by decide))
  refine bcase_b (b := true) (by (first | (simp only [beq_self_eq_true, Bool.and_true, Bool.and_self]; done) | (simp only [hz, Int.add_zero, wrap_z]; done) | (simp only [hz, Int.add_zero, wrap_z]; rfl) | decide | rfl | decide | (simp; done))) (fun _ => ?_) (fun h => absurd h (by decide))
  refine ei _ (ai awake_ok (ei (()) (ei [] (ai (ai rfl (ai rfl (ai rfl (ai rfl (ai (fun _ => Or.inl rfl) (by first | exact nof | exact (fun _ => ai rfl rfl))))))) (ai (by (repeat' (first | with_reducible rfl | exact trivial | refine ai ?_ ?_ | (show (_ : Int) = _; first | with_reducible rfl | exact wr1 (by omega) | (simp only [zz, reduceCtorEq] <;> first | done | rfl | omega) | omega | rfl) | exact rfl | exact (fun _ => rfl) | exact (fun _ _ => rfl) | exact nof))) (ai trivial (ai (trivial) ?_)))))))
  refine ai (ai (fun _ => (by (repeat' (first | exact rfl | exact trivial | exact (fun _ => rfl) | exact (fun _ _ => rfl) | exact nof | refine ai ?_ ?_)))) ?_) trivial
  any_goals (repeat' (first | with_reducible rfl | exact trivial | refine ai ?_ ?_ | (show (_ : Int) = _; first | with_reducible rfl | exact wr1 (by omega) | (simp only [zz, reduceCtorEq] <;> first | done | rfl | omega) | omega | rfl) | exact rfl | exact (fun _ => rfl) | exact (fun _ _ => rfl) | exact nof))

def impliesLaw : Spec := fnS (fun x : Tk × Cu => [kA x.1, cA x.2]) (fun _ => True) (fun _ => bP true)
theorem implies_law : FnOk Try.prog 6 impliesLaw := by
  refine fnOk (Tb := tab) mixed tab_ok Try.func6 rfl rfl ?_
  rintro ⟨x, c⟩ hpre
  refine ai (ai rfl (ai rfl rfl)) ?_
  refine ei _ (ai Implies_ok (ei ((x, c)) (ei [] (ai (ai rfl (ai rfl (ai rfl (ai rfl (ai (fun _ => Or.inl rfl) (by first | exact nof | exact (fun _ => ai rfl rfl))))))) (ai (by (repeat' (first | with_reducible rfl | exact trivial | refine ai ?_ ?_ | (show (_ : Int) = _; first | with_reducible rfl | exact wr1 (by omega) | (simp only [zz, reduceCtorEq] <;> first | done | rfl | omega) | omega | rfl) | exact rfl | exact (fun _ => rfl) | exact (fun _ _ => rfl) | exact nof))) (ai trivial (ai (trivial) ?_)))))))
  refine ei _ (ai rImplies_ok (ei ((x, c)) (ei [] (ai (ai rfl (ai rfl (ai rfl (ai rfl (ai (fun _ => Or.inl rfl) (by first | exact nof | exact (fun _ => ai rfl rfl))))))) (ai (by (repeat' (first | with_reducible rfl | exact trivial | refine ai ?_ ?_ | (show (_ : Int) = _; first | with_reducible rfl | exact wr1 (by omega) | (simp only [zz, reduceCtorEq] <;> first | done | rfl | omega) | omega | rfl) | exact rfl | exact (fun _ => rfl) | exact (fun _ _ => rfl) | exact nof))) (ai trivial (ai (trivial) ?_)))))))
  refine ei [0, 2, 1, 3, 4, 5, 6, 7, 8, 9, 10, 11, 12, 13, 14, 15, 16, 17, 18] (ai (by kernel_rfl) ?_)
  refine ei _ (ai checkTask_ok (ei (x) (ei [] (ai (ai rfl (ai rfl (ai rfl (ai rfl (ai (fun _ => Or.inl rfl) (by first | exact nof | exact (fun _ => ai rfl rfl))))))) (ai (by (repeat' (first | with_reducible rfl | exact trivial | refine ai ?_ ?_ | (show (_ : Int) = _; first | with_reducible rfl | exact wr1 (by omega) | (simp only [zz, reduceCtorEq] <;> first | done | rfl | omega) | omega | rfl) | exact rfl | exact (fun _ => rfl) | exact (fun _ _ => rfl) | exact nof))) (ai trivial (ai (trivial) ?_)))))))
  refine ei _ (ai rCheckTask_ok (ei (x) (ei [] (ai (ai rfl (ai rfl (ai rfl (ai rfl (ai (fun _ => Or.inl rfl) (by first | exact nof | exact (fun _ => ai rfl rfl))))))) (ai (by (repeat' (first | with_reducible rfl | exact trivial | refine ai ?_ ?_ | (show (_ : Int) = _; first | with_reducible rfl | exact wr1 (by omega) | (simp only [zz, reduceCtorEq] <;> first | done | rfl | omega) | omega | rfl) | exact rfl | exact (fun _ => rfl) | exact (fun _ _ => rfl) | exact nof))) (ai trivial (ai (trivial) ?_)))))))
  refine bcase_b (b := true) (by (first | (simp only [beq_self_eq_true, Bool.and_true, Bool.and_self]; done) | (simp only [hz, Int.add_zero, wrap_z]; done) | (simp only [hz, Int.add_zero, wrap_z]; rfl) | decide | rfl | decide | (simp; done))) (fun _ => ?_) (fun h => absurd h (by decide))
  refine bcase_b (b := true) (by (first | (simp only [beq_self_eq_true, Bool.and_true, Bool.and_self]; done) | (simp only [hz, Int.add_zero, wrap_z]; done) | (simp only [hz, Int.add_zero, wrap_z]; rfl) | decide | rfl | decide | (simp; done))) (fun _ => ?_) (fun h => absurd h (by decide))
  refine bcase_b (b := true) (by (first | (simp only [beq_self_eq_true, Bool.and_true, Bool.and_self]; done) | (simp only [hz, Int.add_zero, wrap_z]; done) | (simp only [hz, Int.add_zero, wrap_z]; rfl) | decide | rfl | decide | (simp; done))) (fun _ => ?_) (fun h => absurd h (by decide))
  refine ei _ (ai awake_ok (ei (()) (ei [] (ai (ai rfl (ai rfl (ai rfl (ai rfl (ai (fun _ => Or.inl rfl) (by first | exact nof | exact (fun _ => ai rfl rfl))))))) (ai (by (repeat' (first | with_reducible rfl | exact trivial | refine ai ?_ ?_ | (show (_ : Int) = _; first | with_reducible rfl | exact wr1 (by omega) | (simp only [zz, reduceCtorEq] <;> first | done | rfl | omega) | omega | rfl) | exact rfl | exact (fun _ => rfl) | exact (fun _ _ => rfl) | exact nof))) (ai trivial (ai (trivial) ?_)))))))
  refine ai (ai (fun _ => (by (repeat' (first | exact rfl | exact trivial | exact (fun _ => rfl) | exact (fun _ _ => rfl) | exact nof | refine ai ?_ ?_)))) ?_) trivial
  any_goals (repeat' (first | with_reducible rfl | exact trivial | refine ai ?_ ?_ | (show (_ : Int) = _; first | with_reducible rfl | exact wr1 (by omega) | (simp only [zz, reduceCtorEq] <;> first | done | rfl | omega) | omega | rfl) | exact rfl | exact (fun _ => rfl) | exact (fun _ _ => rfl) | exact nof))

theorem primesL_len' (x : Tk) : (if chkK x = 0 then primesL x.on.n.toNat x else []).length ≤ 1000000 := by
  by_cases h : chkK x = 0
  · obtain ⟨n, hn, hx, _⟩ := chkT_zero (chkK_zero h).1
    have := primesL_len hn x
    rw [if_pos h, hx, Int.toNat_natCast]; omega
  · rw [if_neg h]; exact Nat.zero_le _
theorem essC_len (x : Tk) : (essC x).1.length ≤ 1000000 := by
  by_cases h : chkK x = 0
  · obtain ⟨n, hn, hx, _⟩ := chkT_zero (chkK_zero h).1
    have := primesL_len hn x
    have h2 := filt_len (essI n x (primesL n x)) (primesL n x).length
    simp only [essC, h, if_true, hx, Int.toNat_natCast]
    show ((List.range (primesL n x).length).filter (essI n x (primesL n x))).length ≤ 1000000
    omega
  · simp [essC, h]
theorem same_self (l : List Cu) (h : l.length ≤ 1000000) : FnOk Try.prog 27 (fnS (fun _ : Unit => sameS.args (l, l)) (fun _ => True) (fun _ => bP true)) :=
  fnS_at same_ok (l, l) h (by simp)
theorem eqn_self (l : List Nat) (h : l.length ≤ 1000000) : FnOk Try.prog 28 (fnS (fun _ : Unit => eqNS.args (l, l)) (fun _ => True) (fun _ => bP true)) :=
  fnS_at eqN_ok (l, l) h (by simp)
def primesLaw : Spec := fnS (fun x : Tk => [kA x]) (fun _ => True) (fun _ => bP true)
theorem primes_law : FnOk Try.prog 4 primesLaw := by
  refine fnOk (Tb := tab) mixed tab_ok Try.func4 rfl rfl ?_
  rintro (x : Tk) hpre
  refine ai (ai rfl (ai rfl rfl)) ?_
  refine ei _ (ai few_ok (ei ((x, 5)) (ei [] (ai (ai rfl (ai rfl (ai rfl (ai rfl (ai (fun _ => Or.inl rfl) (by first | exact nof | exact (fun _ => ai rfl rfl))))))) (ai (by (repeat' (first | with_reducible rfl | exact trivial | refine ai ?_ ?_ | (show (_ : Int) = _; first | with_reducible rfl | exact wr1 (by omega) | (simp only [zz, reduceCtorEq] <;> first | done | rfl | omega) | omega | rfl) | exact rfl | exact (fun _ => rfl) | exact (fun _ _ => rfl) | exact nof))) (ai trivial (ai (trivial) ?_)))))))
  refine bcase_b (b := !fewB x 5) (by first | exact rfl | (simp only [zz, reduceCtorEq] <;> first | done | exact rfl)) (fun h1 => ?_) (fun h1 => ?_)
  · skip
    refine ei _ (ai awake_ok (ei (()) (ei [] (ai (ai rfl (ai rfl (ai rfl (ai rfl (ai (fun _ => Or.inl rfl) (by first | exact nof | exact (fun _ => ai rfl rfl))))))) (ai (by (repeat' (first | with_reducible rfl | exact trivial | refine ai ?_ ?_ | (show (_ : Int) = _; first | with_reducible rfl | exact wr1 (by omega) | (simp only [zz, reduceCtorEq] <;> first | done | rfl | omega) | omega | rfl) | exact rfl | exact (fun _ => rfl) | exact (fun _ _ => rfl) | exact nof))) (ai trivial (ai (trivial) ?_)))))))
    refine ai (ai (fun _ => (by (repeat' (first | exact rfl | exact trivial | exact (fun _ => rfl) | exact (fun _ _ => rfl) | exact nof | refine ai ?_ ?_)))) ?_) trivial
    any_goals (repeat' (first | with_reducible rfl | exact trivial | refine ai ?_ ?_ | (show (_ : Int) = _; first | with_reducible rfl | exact wr1 (by omega) | (simp only [zz, reduceCtorEq] <;> first | done | rfl | omega) | omega | rfl) | exact rfl | exact (fun _ => rfl) | exact (fun _ _ => rfl) | exact nof))
  refine ei _ (ai Primes_ok (ei (x) (ei [] (ai (ai rfl (ai rfl (ai rfl (ai rfl (ai (fun _ => Or.inl rfl) (by first | exact nof | exact (fun _ => ai rfl rfl))))))) (ai (by (repeat' (first | with_reducible rfl | exact trivial | refine ai ?_ ?_ | (show (_ : Int) = _; first | with_reducible rfl | exact wr1 (by omega) | (simp only [zz, reduceCtorEq] <;> first | done | rfl | omega) | omega | rfl) | exact rfl | exact (fun _ => rfl) | exact (fun _ _ => rfl) | exact nof))) (ai trivial (ai (trivial) ?_)))))))
  refine ei _ (ai rPrimes_ok (ei (x) (ei [] (ai (ai rfl (ai rfl (ai rfl (ai rfl (ai (fun _ => Or.inl rfl) (by first | exact nof | exact (fun _ => ai rfl rfl))))))) (ai (by (repeat' (first | with_reducible rfl | exact trivial | refine ai ?_ ?_ | (show (_ : Int) = _; first | with_reducible rfl | exact wr1 (by omega) | (simp only [zz, reduceCtorEq] <;> first | done | rfl | omega) | omega | rfl) | exact rfl | exact (fun _ => rfl) | exact (fun _ _ => rfl) | exact nof))) (ai trivial (ai (trivial) ?_)))))))
  refine ei _ (ai Ess_ok (ei (x) (ei [] (ai (ai rfl (ai rfl (ai rfl (ai rfl (ai (fun _ => Or.inl rfl) (by first | exact nof | exact (fun _ => ai rfl rfl))))))) (ai (by (repeat' (first | with_reducible rfl | exact trivial | refine ai ?_ ?_ | (show (_ : Int) = _; first | with_reducible rfl | exact wr1 (by omega) | (simp only [zz, reduceCtorEq] <;> first | done | rfl | omega) | omega | rfl) | exact rfl | exact (fun _ => rfl) | exact (fun _ _ => rfl) | exact nof))) (ai trivial (ai (trivial) ?_)))))))
  refine ei _ (ai rEss_ok (ei (x) (ei [] (ai (ai rfl (ai rfl (ai rfl (ai rfl (ai (fun _ => Or.inl rfl) (by first | exact nof | exact (fun _ => ai rfl rfl))))))) (ai (by (repeat' (first | with_reducible rfl | exact trivial | refine ai ?_ ?_ | (show (_ : Int) = _; first | with_reducible rfl | exact wr1 (by omega) | (simp only [zz, reduceCtorEq] <;> first | done | rfl | omega) | omega | rfl) | exact rfl | exact (fun _ => rfl) | exact (fun _ _ => rfl) | exact nof))) (ai trivial (ai (trivial) ?_)))))))
  refine ei _ (ai (same_self _ (primesL_len' x)) (ei (()) (ei [] (ai (ai rfl (ai rfl (ai rfl (ai rfl (ai (fun _ => Or.inl rfl) (by first | exact nof | exact (fun _ => ai rfl rfl))))))) (ai (by (repeat' (first | with_reducible rfl | exact trivial | refine ai ?_ ?_ | (show (_ : Int) = _; first | with_reducible rfl | exact wr1 (by omega) | (simp only [zz, reduceCtorEq] <;> first | done | rfl | omega) | omega | rfl) | exact rfl | exact (fun _ => rfl) | exact (fun _ _ => rfl) | exact nof))) (ai trivial (ai (trivial) ?_)))))))
  refine bcase_b (b := true) (by (first | (simp only [beq_self_eq_true, Bool.and_true, Bool.and_self]; done) | (simp only [hz, Int.add_zero, wrap_z]; done) | (simp only [hz, Int.add_zero, wrap_z]; rfl) | decide | rfl | decide | (simp; done))) (fun _ => ?_) (fun h => absurd h (by decide))
  refine ei _ (ai (eqn_self _ (essC_len x)) (ei (()) (ei [] (ai (ai rfl (ai rfl (ai rfl (ai rfl (ai (fun _ => Or.inl rfl) (by first | exact nof | exact (fun _ => ai rfl rfl))))))) (ai (by (repeat' (first | with_reducible rfl | exact trivial | refine ai ?_ ?_ | (show (_ : Int) = _; first | with_reducible rfl | exact wr1 (by omega) | (simp only [zz, reduceCtorEq] <;> first | done | rfl | omega) | omega | rfl) | exact rfl | exact (fun _ => rfl) | exact (fun _ _ => rfl) | exact nof))) (ai trivial (ai (trivial) ?_)))))))
  refine bcase_b (b := true) (by (first | (simp only [beq_self_eq_true, Bool.and_true, Bool.and_self]; done) | (simp only [hz, Int.add_zero, wrap_z]; done) | (simp only [hz, Int.add_zero, wrap_z]; rfl) | decide | rfl | decide | (simp; done))) (fun _ => ?_) (fun h => absurd h (by decide))
  refine ei _ (ai awake_ok (ei (()) (ei [] (ai (ai rfl (ai rfl (ai rfl (ai rfl (ai (fun _ => Or.inl rfl) (by first | exact nof | exact (fun _ => ai rfl rfl))))))) (ai (by (repeat' (first | with_reducible rfl | exact trivial | refine ai ?_ ?_ | (show (_ : Int) = _; first | with_reducible rfl | exact wr1 (by omega) | (simp only [zz, reduceCtorEq] <;> first | done | rfl | omega) | omega | rfl) | exact rfl | exact (fun _ => rfl) | exact (fun _ _ => rfl) | exact nof))) (ai trivial (ai (trivial) ?_)))))))
  refine ai (ai (fun _ => (by (repeat' (first | exact rfl | exact trivial | exact (fun _ => rfl) | exact (fun _ _ => rfl) | exact nof | refine ai ?_ ?_)))) ?_) trivial
  any_goals (repeat' (first | with_reducible rfl | exact trivial | refine ai ?_ ?_ | (show (_ : Int) = _; first | with_reducible rfl | exact wr1 (by omega) | (simp only [zz, reduceCtorEq] <;> first | done | rfl | omega) | omega | rfl) | exact rfl | exact (fun _ => rfl) | exact (fun _ _ => rfl) | exact nof))

def pointsLaw : Spec := fnS (fun x : Int × Cu × Int => [iA x.1, cA x.2.1, iA x.2.2]) (fun _ => True) (fun _ => bP true)
theorem points_law : FnOk Try.prog 8 pointsLaw := by
  refine fnOk (Tb := tab) mixed tab_ok Try.func8 rfl rfl ?_
  rintro ⟨n, c, p⟩ hpre
  refine ai (ai rfl (ai rfl rfl)) ?_
  refine ei _ (ai Covers_ok (ei ((n, c, p)) (ei [] (ai (ai rfl (ai rfl (ai rfl (ai rfl (ai (fun _ => Or.inl rfl) (by first | exact nof | exact (fun _ => ai rfl rfl))))))) (ai (by (repeat' (first | with_reducible rfl | exact trivial | refine ai ?_ ?_ | (show (_ : Int) = _; first | with_reducible rfl | exact wr1 (by omega) | (simp only [zz, reduceCtorEq] <;> first | done | rfl | omega) | omega | rfl) | exact rfl | exact (fun _ => rfl) | exact (fun _ _ => rfl) | exact nof))) (ai trivial (ai (trivial) ?_)))))))
  refine ei _ (ai rCovers_ok (ei ((n, c, p)) (ei [] (ai (ai rfl (ai rfl (ai rfl (ai rfl (ai (fun _ => Or.inl rfl) (by first | exact nof | exact (fun _ => ai rfl rfl))))))) (ai (by (repeat' (first | with_reducible rfl | exact trivial | refine ai ?_ ?_ | (show (_ : Int) = _; first | with_reducible rfl | exact wr1 (by omega) | (simp only [zz, reduceCtorEq] <;> first | done | rfl | omega) | omega | rfl) | exact rfl | exact (fun _ => rfl) | exact (fun _ _ => rfl) | exact nof))) (ai trivial (ai (trivial) ?_)))))))
  refine ei _ (ai Table_ok (ei ((n, c)) (ei [] (ai (ai rfl (ai rfl (ai rfl (ai rfl (ai (fun _ => Or.inl rfl) (by first | exact nof | exact (fun _ => ai rfl rfl))))))) (ai (by (repeat' (first | with_reducible rfl | exact trivial | refine ai ?_ ?_ | (show (_ : Int) = _; first | with_reducible rfl | exact wr1 (by omega) | (simp only [zz, reduceCtorEq] <;> first | done | rfl | omega) | omega | rfl) | exact rfl | exact (fun _ => rfl) | exact (fun _ _ => rfl) | exact nof))) (ai trivial (ai (trivial) ?_)))))))
  refine ei _ (ai rTable_ok (ei ((n, c)) (ei [] (ai (ai rfl (ai rfl (ai rfl (ai rfl (ai (fun _ => Or.inl rfl) (by first | exact nof | exact (fun _ => ai rfl rfl))))))) (ai (by (repeat' (first | with_reducible rfl | exact trivial | refine ai ?_ ?_ | (show (_ : Int) = _; first | with_reducible rfl | exact wr1 (by omega) | (simp only [zz, reduceCtorEq] <;> first | done | rfl | omega) | omega | rfl) | exact rfl | exact (fun _ => rfl) | exact (fun _ _ => rfl) | exact nof))) (ai trivial (ai (trivial) ?_)))))))
  refine ei [0, 1, 3, 4, 2, 5, 6, 7, 8, 9, 10, 11, 12, 13, 14, 15, 16, 17, 18, 19, 20, 21, 22, 23, 24, 25, 26, 27, 28, 29, 30] (ai (by kernel_rfl) ?_)
  refine ei _ (ai check_ok (ei ((n, c)) (ei [] (ai (ai rfl (ai rfl (ai rfl (ai rfl (ai (fun _ => Or.inl rfl) (by first | exact nof | exact (fun _ => ai rfl rfl))))))) (ai (by (repeat' (first | with_reducible rfl | exact trivial | refine ai ?_ ?_ | (show (_ : Int) = _; first | with_reducible rfl | exact wr1 (by omega) | (simp only [zz, reduceCtorEq] <;> first | done | rfl | omega) | omega | rfl) | exact rfl | exact (fun _ => rfl) | exact (fun _ _ => rfl) | exact nof))) (ai trivial (ai (trivial) ?_)))))))
  refine ei _ (ai rcheck_ok (ei ((n, c)) (ei [] (ai (ai rfl (ai rfl (ai rfl (ai rfl (ai (fun _ => Or.inl rfl) (by first | exact nof | exact (fun _ => ai rfl rfl))))))) (ai (by (repeat' (first | with_reducible rfl | exact trivial | refine ai ?_ ?_ | (show (_ : Int) = _; first | with_reducible rfl | exact wr1 (by omega) | (simp only [zz, reduceCtorEq] <;> first | done | rfl | omega) | omega | rfl) | exact rfl | exact (fun _ => rfl) | exact (fun _ _ => rfl) | exact nof))) (ai trivial (ai (trivial) ?_)))))))
  refine bcase_b (b := true) (by (first | (simp only [beq_self_eq_true, Bool.and_true, Bool.and_self]; done) | (simp only [hz, Int.add_zero, wrap_z]; done) | (simp only [hz, Int.add_zero, wrap_z]; rfl) | decide | rfl | decide | (simp; done))) (fun _ => ?_) (fun h => absurd h (by decide))
  refine bcase_b (b := true) (by (first | (simp only [beq_self_eq_true, Bool.and_true, Bool.and_self]; done) | (simp only [hz, Int.add_zero, wrap_z]; done) | (simp only [hz, Int.add_zero, wrap_z]; rfl) | decide | rfl | decide | (simp; done))) (fun _ => ?_) (fun h => absurd h (by decide))
  refine bcase_b (b := true) (by (first | (simp only [beq_self_eq_true, Bool.and_true, Bool.and_self]; done) | (simp only [hz, Int.add_zero, wrap_z]; done) | (simp only [hz, Int.add_zero, wrap_z]; rfl) | decide | rfl | decide | (simp; done))) (fun _ => ?_) (fun h => absurd h (by decide))
  refine bcase_b (b := true) (by (first | (simp only [beq_self_eq_true, Bool.and_true, Bool.and_self]; done) | (simp only [hz, Int.add_zero, wrap_z]; done) | (simp only [hz, Int.add_zero, wrap_z]; rfl) | decide | rfl | decide | (simp; done))) (fun _ => ?_) (fun h => absurd h (by decide))
  refine bcase_b (b := true) (by (first | (simp only [beq_self_eq_true, Bool.and_true, Bool.and_self]; done) | (simp only [hz, Int.add_zero, wrap_z]; done) | (simp only [hz, Int.add_zero, wrap_z]; rfl) | decide | rfl | decide | (simp; done))) (fun _ => ?_) (fun h => absurd h (by decide))
  refine ei _ (ai awake_ok (ei (()) (ei [] (ai (ai rfl (ai rfl (ai rfl (ai rfl (ai (fun _ => Or.inl rfl) (by first | exact nof | exact (fun _ => ai rfl rfl))))))) (ai (by (repeat' (first | with_reducible rfl | exact trivial | refine ai ?_ ?_ | (show (_ : Int) = _; first | with_reducible rfl | exact wr1 (by omega) | (simp only [zz, reduceCtorEq] <;> first | done | rfl | omega) | omega | rfl) | exact rfl | exact (fun _ => rfl) | exact (fun _ _ => rfl) | exact nof))) (ai trivial (ai (trivial) ?_)))))))
  refine ai (ai (fun _ => (by (repeat' (first | exact rfl | exact trivial | exact (fun _ => rfl) | exact (fun _ _ => rfl) | exact nof | refine ai ?_ ?_)))) ?_) trivial
  any_goals (repeat' (first | with_reducible rfl | exact trivial | refine ai ?_ ?_ | (show (_ : Int) = _; first | with_reducible rfl | exact wr1 (by omega) | (simp only [zz, reduceCtorEq] <;> first | done | rfl | omega) | omega | rfl) | exact rfl | exact (fun _ => rfl) | exact (fun _ _ => rfl) | exact nof))

end Go.Sx.Pn
