/- Contracts of the reference: joined cubes. -/
import Derived.Test.YtdkhdkldjpaadaaP18
set_option maxHeartbeats 1000000
set_option maxRecDepth 4000
set_option linter.unusedSimpArgs false
set_option linter.unusedVariables false
namespace Go.Sx.Pn
open Go Go.Proofs

def butC (c : Cu) (i : Nat) : Cu := ⟨c.care &&& ~~~ (1#64 <<< i), c.value &&& ~~~ (1#64 <<< i)⟩
def joinedC (a b : Cu) (l : List Nat) : Cu := l.foldl butC ⟨a.care ||| b.care, a.value ||| b.value⟩
theorem joinedC_succ {a b : Cu} {l : List Nat} {k i : Nat} (h : l[k]? = some i) : joinedC a b (l.take (k + 1)) = butC (joinedC a b (l.take k)) i := by
  unfold joinedC
  rw [List.take_add_one, h, List.foldl_append]
  rfl

def joinedS : Spec := fnS (fun x : Cu × Cu × List Nat => [cA x.1, cA x.2.1, nsA x.2.2]) (fun x => x.2.2.length ≤ 1000) (fun x => cP (joinedC x.1 x.2.1 x.2.2))
theorem joined_ok : FnOk Try.prog 89 joinedS := by
  refine fnOk (Tb := tab) mixed tab_ok Try.func89 rfl rfl ?_
  rintro ⟨a, b, l⟩ hpre
  refine And.intro (And.intro rfl (And.intro rfl rfl)) ?_
  have hl : l.length ≤ 1000 := hpre
  refine Exists.intro (LAnn.inv { X := Nat, up := fun k => [(8, .s (iA k))], uo := fun k => [⟨3, 24, [.s (uA (joinedC a b (l.take k)).care), .s (uA (joinedC a b (l.take k)).value)]⟩], inv := fun k => k ≤ l.length, meas := fun k => l.length - k, x0 := 0 }) ?_
  refine And.intro (And.intro (And.intro (by (repeat' (first | exact rfl | exact trivial | exact (fun _ => rfl) | exact (fun _ _ => rfl) | exact (fun h => absurd h Bool.false_ne_true) | refine And.intro ?_ ?_))) (And.intro ?_ ?_)) ?_) (And.intro ?_ ?_)
  · skip
    (repeat' (first | exact rfl | exact trivial | exact (fun _ => rfl) | exact (fun _ _ => rfl) | exact (fun h => absurd h Bool.false_ne_true) | refine And.intro ?_ ?_))
  · skip
    (repeat' (first | exact rfl | exact trivial | exact (fun _ => rfl) | exact (fun _ _ => rfl) | exact (fun h => absurd h Bool.false_ne_true) | refine And.intro ?_ ?_))
    · exact u_or _ _
    · exact u_or _ _
  · rfl
  · exact Nat.zero_le _
  intro (k : Nat) (hk : k ≤ l.length)
  refine bcase_intro (fun h1 => ?_) (fun h1 => ?_)
  · have h1 : (k : Int) < (l.length : Int) := of_decide_eq_true h1
    have hkl : k < l.length := by omega
    have hwr : IntKind.i64.wrap ((k : Int) + 1) = ((k + 1 : Nat) : Int) := by rw [wrap_i _ (by omega) (by omega)]; rfl
    have hget : l[k]? = some (l.getD k 0) := by rw [List.getD_eq_getElem?_getD, List.getElem?_eq_getElem hkl]; rfl
    refine Exists.intro [0, 1, 2, 3, 4, 5, 6, 7, 8, 9] (And.intro (by kernel_rfl) ?_)
    refine And.intro (And.intro (Int.natCast_nonneg _) h1) ?_
    refine And.intro rfl ?_
    refine And.intro (Int.natCast_nonneg _) ?_
    refine Exists.intro [0, 1, 2, 3, 4, 5, 6, 7, 8, 9] (And.intro (by kernel_rfl) ?_)
    refine And.intro (And.intro (Int.natCast_nonneg _) h1) ?_
    refine And.intro rfl ?_
    refine And.intro (Int.natCast_nonneg _) ?_
    refine Exists.intro (k + 1) (And.intro (And.intro rfl rfl) (And.intro (And.intro ?_ rfl) (And.intro ?_ ?_)))
    · skip
      (repeat' (first | exact rfl | exact trivial | exact (fun _ => rfl) | exact (fun _ _ => rfl) | exact (fun h => absurd h Bool.false_ne_true) | refine And.intro ?_ ?_))
      · exact hwr
      · show bits .andNot .u64 (joinedC a b (l.take k)).care.toNat (IntKind.u64.wrap (1 * 2 ^ min ((l.getD k 0 : Nat) : Int).toNat IntKind.u64.bits)) = ((joinedC a b (l.take (k + 1))).care.toNat : Int)
        rw [joinedC_succ hget, u_shl1, u_andNot, Int.toNat_natCast]
        rfl
      · show bits .andNot .u64 (joinedC a b (l.take k)).value.toNat (IntKind.u64.wrap (1 * 2 ^ min ((l.getD k 0 : Nat) : Int).toNat IntKind.u64.bits)) = ((joinedC a b (l.take (k + 1))).value.toNat : Int)
        rw [joinedC_succ hget, u_shl1, u_andNot, Int.toNat_natCast]
        rfl
    · show k + 1 ≤ l.length; omega
    · show l.length - (k + 1) < l.length - k; omega
  · have h1 : ¬ (k : Int) < (l.length : Int) := of_decide_eq_false h1
    have : k = l.length := by omega
    subst this
    refine And.intro (And.intro (fun _ => (by (repeat' (first | exact rfl | exact trivial | exact (fun _ => rfl) | exact (fun _ _ => rfl) | exact (fun h => absurd h Bool.false_ne_true) | refine And.intro ?_ ?_)))) ?_) trivial
    show ple (cP (joinedC a b (l.take l.length))) (cP (joinedC a b l))
    rw [List.take_length]
    (repeat' (first | exact rfl | exact trivial | exact (fun _ => rfl) | exact (fun _ _ => rfl) | exact (fun h => absurd h Bool.false_ne_true) | refine And.intro ?_ ?_))

end Go.Sx.Pn
