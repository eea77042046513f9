/- Contracts of the reference: the common cube. -/
import Derived.Test.YtdkhdkldjpaadaaP19
set_option maxHeartbeats 1000000
set_option maxRecDepth 4000
set_option linter.unusedSimpArgs false
set_option linter.unusedVariables false
namespace Go.Sx.Pn
open Go Go.Proofs

def rMeetC (n : Int) (a b : Cu) : Cu × Bool × Int :=
  if chk2 n a b = 0 then (if (oppL a b n.toNat).length = 0 then (joinedC a b [], true, 0) else (⟨0, 0⟩, false, 0)) else (⟨0, 0⟩, false, chk2 n a b)
def rMeetS : Spec := fnS (fun x : Int × Cu × Cu => [iA x.1, cA x.2.1, cA x.2.2]) (fun _ => True) (fun x => .tup [cP (rMeetC x.1 x.2.1 x.2.2).1, bP (rMeetC x.1 x.2.1 x.2.2).2.1, iP (rMeetC x.1 x.2.1 x.2.2).2.2])
theorem rMeet_ok : FnOk Try.prog 32 rMeetS := by
  refine fnOk (Tb := tab) mixed tab_ok Try.func32 rfl rfl ?_
  rintro ⟨n, a, b⟩ hpre
  refine And.intro (And.intro rfl (And.intro rfl rfl)) ?_
  refine Exists.intro _ (And.intro both_ok (Exists.intro ((n, a, b)) (Exists.intro [] (And.intro (And.intro rfl (And.intro rfl (And.intro rfl (And.intro rfl (And.intro (fun _ => Or.inl rfl) (by first | exact (fun h => absurd h Bool.false_ne_true) | exact (fun _ => And.intro rfl rfl))))))) (And.intro ?_ (And.intro trivial (And.intro ?_ ?_)))))))
  · skip
    (repeat' (first | exact rfl | exact trivial | exact (fun _ => rfl) | exact (fun _ _ => rfl) | exact (fun h => absurd h Bool.false_ne_true) | refine And.intro ?_ ?_))
  · trivial
  refine bcase_intro (fun h1 => ?_) (fun h1 => ?_)
  · have h1 : (chk2 n a b != 0) = true := h1
    have h1 : chk2 n a b ≠ 0 := by simpa using h1
    have e : rMeetC n a b = (⟨0, 0⟩, false, chk2 n a b) := by simp [rMeetC, h1]
    refine And.intro (And.intro (fun _ => (by (repeat' (first | exact rfl | exact trivial | exact (fun _ => rfl) | exact (fun _ _ => rfl) | exact (fun h => absurd h Bool.false_ne_true) | refine And.intro ?_ ?_)))) ?_) trivial
    show ple (.tup [_, _, _]) (.tup [cP (rMeetC n a b).1, bP (rMeetC n a b).2.1, iP (rMeetC n a b).2.2])
    rw [e]
    (repeat' (first | exact rfl | exact trivial | exact (fun _ => rfl) | exact (fun _ _ => rfl) | exact (fun h => absurd h Bool.false_ne_true) | refine And.intro ?_ ?_))
  have h1 : (chk2 n a b != 0) = false := h1
  have h1 : chk2 n a b = 0 := by simpa using h1
  obtain ⟨k, hk, rfl, _⟩ := chkC_zero (chk2_zero h1).1
  refine Exists.intro _ (And.intro opposed_ok (Exists.intro ((k, a, b)) (Exists.intro [] (And.intro (And.intro rfl (And.intro rfl (And.intro rfl (And.intro rfl (And.intro (fun _ => Or.inl rfl) (by first | exact (fun h => absurd h Bool.false_ne_true) | exact (fun _ => And.intro rfl rfl))))))) (And.intro ?_ (And.intro trivial (And.intro ?_ ?_)))))))
  · skip
    (repeat' (first | exact rfl | exact trivial | exact (fun _ => rfl) | exact (fun _ _ => rfl) | exact (fun h => absurd h Bool.false_ne_true) | refine And.intro ?_ ?_))
  · exact hk
  refine bcase_intro (fun h2 => ?_) (fun h2 => ?_)
  · have h2 : (0 : Int) < ((oppL a b k).length : Int) := of_decide_eq_true h2
    have e : rMeetC k a b = (⟨0, 0⟩, false, 0) := by
      have h3 : ¬ (oppL a b k).length = 0 := by omega
      simp only [rMeetC, h1, Int.toNat_natCast, h3, if_true, if_false]
    refine And.intro (And.intro (fun _ => (by (repeat' (first | exact rfl | exact trivial | exact (fun _ => rfl) | exact (fun _ _ => rfl) | exact (fun h => absurd h Bool.false_ne_true) | refine And.intro ?_ ?_)))) ?_) trivial
    show ple (.tup [_, _, _]) (.tup [cP (rMeetC k a b).1, bP (rMeetC k a b).2.1, iP (rMeetC k a b).2.2])
    rw [e]
    (repeat' (first | exact rfl | exact trivial | exact (fun _ => rfl) | exact (fun _ _ => rfl) | exact (fun h => absurd h Bool.false_ne_true) | refine And.intro ?_ ?_))
  have h2 : ¬ (0 : Int) < ((oppL a b k).length : Int) := of_decide_eq_false h2
  have e : rMeetC k a b = (joinedC a b [], true, 0) := by
    have h3 : (oppL a b k).length = 0 := by omega
    simp only [rMeetC, h1, Int.toNat_natCast, h3, if_true]
  refine Exists.intro _ (And.intro joined_ok (Exists.intro ((a, b, [])) (Exists.intro [] (And.intro (And.intro rfl (And.intro rfl (And.intro rfl (And.intro rfl (And.intro (fun _ => Or.inl rfl) (by first | exact (fun h => absurd h Bool.false_ne_true) | exact (fun _ => And.intro rfl rfl))))))) (And.intro ?_ (And.intro trivial (And.intro ?_ ?_)))))))
  · skip
    (repeat' (first | exact rfl | exact trivial | exact (fun _ => rfl) | exact (fun _ _ => rfl) | exact (fun h => absurd h Bool.false_ne_true) | refine And.intro ?_ ?_))
  · exact Nat.zero_le _
  refine And.intro (And.intro (fun _ => (by (repeat' (first | exact rfl | exact trivial | exact (fun _ => rfl) | exact (fun _ _ => rfl) | exact (fun h => absurd h Bool.false_ne_true) | refine And.intro ?_ ?_)))) ?_) trivial
  show ple (.tup [cP (joinedC a b []), _, _]) (.tup [cP (rMeetC k a b).1, bP (rMeetC k a b).2.1, iP (rMeetC k a b).2.2])
  rw [e]
  (repeat' (first | exact rfl | exact trivial | exact (fun _ => rfl) | exact (fun _ _ => rfl) | exact (fun h => absurd h Bool.false_ne_true) | refine And.intro ?_ ?_))

end Go.Sx.Pn
