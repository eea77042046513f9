/- Contracts of the reference: lists of points; good cubes; equal lists. -/
import Derived.Test.YtdkhdkldjpaadaaP16
set_option maxHeartbeats 1000000
set_option maxRecDepth 4000
set_option linter.unusedSimpArgs false
set_option linter.unusedVariables false
namespace Go.Sx.Pn
open Go Go.Proofs

def nsP (l : List Nat) : PV := .seq l.length (fun i => [iP (l.getD i 0 : Nat)])
def nsA (l : List Nat) : SV := .p false (nsP l)
def ptsL (c : Cu) (m : Nat) : List Nat := (List.range m).filter fun k => hasC c (k : Nat)
theorem ptsL_succ (c : Cu) (m : Nat) : ptsL c (m + 1) = ptsL c m ++ (if hasC c (m : Nat) then [m] else []) := by
  unfold ptsL
  rw [List.range_succ, List.filter_append]
  by_cases h : hasC c (m : Nat) <;> simp [h]
theorem ptsL_len (c : Cu) (m : Nat) : (ptsL c m).length ≤ m := by
  have := List.length_filter_le (fun k : Nat => hasC c (k : Nat)) (List.range m)
  simpa [ptsL] using this
/-- a row with one more element -/
theorem join_one (l : List Nat) (x : Nat) (g : Nat → List PV) (hg : g 0 = [iP x]) (k : Nat) (hk : k < l.length + 1) :
    joinF l.length (fun i => [iP (l.getD i 0 : Nat)]) g k = [iP ((l ++ [x]).getD k 0 : Nat)] := by
  by_cases e : k < l.length
  · simp only [joinF, if_pos e, List.getD_eq_getElem?_getD, List.getElem?_append_left e]
  · have : k = l.length := by omega
    subst this
    simp only [joinF, if_neg e, Nat.sub_self, List.getD_eq_getElem?_getD, List.getElem?_append_right (Nat.le_refl _), hg]
    rfl

def ptsS : Spec := fnS (fun x : Nat × Cu => [iA x.1, cA x.2]) (fun x => x.1 ≤ 6) (fun x => nsP (ptsL x.2 (2 ^ x.1)))
theorem rpoints_ok : FnOk Try.prog 50 ptsS := by
  refine fnOk (Tb := tab) mixed tab_ok Try.func50 rfl rfl ?_
  rintro ⟨n, c⟩ hpre
  refine And.intro (And.intro rfl (And.intro rfl rfl)) ?_
  have hn : n ≤ 6 := hpre
  have h64 := pow_le64 hn
  refine Exists.intro (LAnn.inv { X := Nat, up := fun k => [(6, .s (iA k)), (5, .rw 3 1 (ptsL c k).length (fun i => [iP ((ptsL c k).getD i 0 : Nat)]))], uo := fun _ => [], inv := fun k => k ≤ 2 ^ n, meas := fun k => 2 ^ n - k, x0 := 0 }) ?_
  refine And.intro (And.intro (And.intro (by (repeat' (first | exact rfl | exact trivial | exact (fun _ => rfl) | exact (fun _ _ => rfl) | exact (fun h => absurd h Bool.false_ne_true) | refine And.intro ?_ ?_))) (by (repeat' (first | exact rfl | exact trivial | exact (fun _ => rfl) | exact (fun _ _ => rfl) | exact (fun h => absurd h Bool.false_ne_true) | refine And.intro ?_ ?_)))) rfl) (And.intro ?_ ?_)
  · exact Nat.zero_le _
  intro (k : Nat) (hk : k ≤ 2 ^ n)
  refine Exists.intro _ (And.intro size_ok (Exists.intro (n) (Exists.intro [] (And.intro (And.intro rfl (And.intro rfl (And.intro rfl (And.intro rfl (And.intro (fun _ => Or.inl rfl) (by first | exact (fun h => absurd h Bool.false_ne_true) | exact (fun _ => And.intro rfl rfl))))))) (And.intro ?_ (And.intro trivial (And.intro ?_ ?_)))))))
  · skip
    (repeat' (first | exact rfl | exact trivial | exact (fun _ => rfl) | exact (fun _ _ => rfl) | exact (fun h => absurd h Bool.false_ne_true) | refine And.intro ?_ ?_))
  · exact hn
  refine bcase_intro (fun h1 => ?_) (fun h1 => ?_)
  · have h1 : (k : Int) < ((2 ^ n : Nat) : Int) := of_decide_eq_true h1
    have hwr : IntKind.i64.wrap ((k : Int) + 1) = ((k + 1 : Nat) : Int) := by rw [wrap_i _ (by omega) (by omega)]; rfl
    refine Exists.intro _ (And.intro in_ok (Exists.intro ((c, (k : Int))) (Exists.intro [] (And.intro (And.intro rfl (And.intro rfl (And.intro rfl (And.intro rfl (And.intro (fun _ => Or.inl rfl) (by first | exact (fun h => absurd h Bool.false_ne_true) | exact (fun _ => And.intro rfl rfl))))))) (And.intro ?_ (And.intro trivial (And.intro ?_ ?_)))))))
    · skip
      (repeat' (first | exact rfl | exact trivial | exact (fun _ => rfl) | exact (fun _ _ => rfl) | exact (fun h => absurd h Bool.false_ne_true) | refine And.intro ?_ ?_))
    · trivial
    have hlen := ptsL_len c k
    refine bcase_intro (fun h2 => ?_) (fun h2 => ?_)
    · have h2 : hasC c k = true := h2
      have e : ptsL c (k + 1) = ptsL c k ++ [k] := by rw [ptsL_succ, h2]; rfl
      refine And.intro (And.intro (by show (ptsL c k).length + 1 ≤ maxLen; unfold maxLen; omega) (by show ((ptsL c k).length + 1) * 8 ≤ 140737488355328; omega)) ?_
      refine And.intro (fun j hj => by
        have : j = 0 := by omega
        subst this; rfl) ?_
      refine Exists.intro (k + 1) (And.intro (And.intro rfl rfl) (And.intro (And.intro ?_ rfl) (And.intro ?_ ?_)))
      · skip
        (repeat' (first | exact rfl | exact trivial | exact (fun _ => rfl) | exact (fun _ _ => rfl) | exact (fun h => absurd h Bool.false_ne_true) | refine And.intro ?_ ?_))
        · exact hwr
        · show (ptsL c k).length + 1 = (ptsL c (k + 1)).length
          rw [e]; simp
        · intro j hj
          show joinF (ptsL c k).length _ _ j = [iP ((ptsL c (k + 1)).getD j 0 : Nat)]
          rw [e]
          exact join_one (ptsL c k) k _ rfl j hj
      · show k + 1 ≤ 2 ^ n; omega
      · show 2 ^ n - (k + 1) < 2 ^ n - k; omega
    · have h2 : hasC c k = false := h2
      have e : ptsL c (k + 1) = ptsL c k := by rw [ptsL_succ, h2]; simp
      refine Exists.intro (k + 1) (And.intro (And.intro rfl rfl) (And.intro (And.intro ?_ rfl) (And.intro ?_ ?_)))
      · skip
        (repeat' (first | exact rfl | exact trivial | exact (fun _ => rfl) | exact (fun _ _ => rfl) | exact (fun h => absurd h Bool.false_ne_true) | refine And.intro ?_ ?_))
        · exact hwr
        · show (ptsL c k).length = (ptsL c (k + 1)).length
          rw [e]
        · intro j hj
          show [iP ((ptsL c k).getD j 0 : Nat)] = [iP ((ptsL c (k + 1)).getD j 0 : Nat)]
          rw [e]
      · show k + 1 ≤ 2 ^ n; omega
      · show 2 ^ n - (k + 1) < 2 ^ n - k; omega
  · have h1 : ¬ (k : Int) < ((2 ^ n : Nat) : Int) := of_decide_eq_false h1
    have : k = 2 ^ n := by omega
    subst this
    refine And.intro (And.intro (fun _ k _ => rfl) ?_) trivial
    (repeat' (first | exact rfl | exact trivial | exact (fun _ => rfl) | exact (fun _ _ => rfl) | exact (fun h => absurd h Bool.false_ne_true) | refine And.intro ?_ ?_))

end Go.Sx.Pn
