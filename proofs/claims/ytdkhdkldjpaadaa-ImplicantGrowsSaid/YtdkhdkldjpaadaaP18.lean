/- Contracts of the reference: opposed variables, joined cubes. -/
import Derived.Test.YtdkhdkldjpaadaaP17
set_option maxHeartbeats 1000000
set_option maxRecDepth 4000
set_option linter.unusedSimpArgs false
set_option linter.unusedVariables false
namespace Go.Sx.Pn
open Go Go.Proofs

def oppAt (a b : Cu) (i : Nat) : Bool := (a.care &&& b.care).getLsbD i && (a.value.getLsbD i != b.value.getLsbD i)
def oppL (a b : Cu) (n : Nat) : List Nat := (List.range n).filter (oppAt a b)
theorem oppL_succ (a b : Cu) (m : Nat) : oppL a b (m + 1) = oppL a b m ++ (if oppAt a b m then [m] else []) := by
  unfold oppL
  rw [List.range_succ, List.filter_append]
  by_cases h : oppAt a b m <;> simp [h]
theorem oppL_len (a b : Cu) (m : Nat) : (oppL a b m).length ≤ m := by
  have := List.length_filter_le (oppAt a b) (List.range m)
  simpa [oppL] using this
theorem bit_ne (x y : U) (i : Nat) : ((x >>> i &&& 1#64) != (y >>> i &&& 1#64)) = (x.getLsbD i != y.getLsbD i) := by
  have h : ∀ z : U, z >>> i &&& 1#64 = if z.getLsbD i then 1#64 else 0#64 := fun z => by
    have h1 := and_one_eq z i
    have h0 := and_one_zero z i
    cases hz : z.getLsbD i
    · rw [hz] at h0; simpa using h0
    · rw [hz] at h1; simpa using h1
  rw [h x, h y]
  cases x.getLsbD i <;> cases y.getLsbD i <;> rfl

def oppS : Spec := fnS (fun x : Nat × Cu × Cu => [iA x.1, cA x.2.1, cA x.2.2]) (fun x => x.1 ≤ 6) (fun x => nsP (oppL x.2.1 x.2.2 x.1))
theorem opposed_ok : FnOk Try.prog 88 oppS := by
  refine fnOk (Tb := tab) mixed tab_ok Try.func88 rfl rfl ?_
  rintro ⟨n, a, b⟩ hpre
  refine And.intro (And.intro rfl (And.intro rfl rfl)) ?_
  have hn : n ≤ 6 := hpre
  refine Exists.intro (LAnn.inv { X := Nat, up := fun k => [(8, .s (iA k)), (7, .rw 3 1 (oppL a b k).length (fun i => [iP ((oppL a b k).getD i 0 : Nat)]))], uo := fun _ => [], inv := fun k => k ≤ n, meas := fun k => n - k, x0 := 0 }) ?_
  refine And.intro (And.intro (And.intro (by (repeat' (first | exact rfl | exact trivial | exact (fun _ => rfl) | exact (fun _ _ => rfl) | exact (fun h => absurd h Bool.false_ne_true) | refine And.intro ?_ ?_))) (by (repeat' (first | exact rfl | exact trivial | exact (fun _ => rfl) | exact (fun _ _ => rfl) | exact (fun h => absurd h Bool.false_ne_true) | refine And.intro ?_ ?_)))) rfl) (And.intro ?_ ?_)
  · exact Nat.zero_le _
  intro (k : Nat) (hk : k ≤ n)
  refine bcase_intro (fun h1 => ?_) (fun h1 => ?_)
  · have h1 : (k : Int) < (n : Int) := of_decide_eq_true h1
    have hwr : IntKind.i64.wrap ((k : Int) + 1) = ((k + 1 : Nat) : Int) := by rw [wrap_i _ (by omega) (by omega)]; rfl
    have hlen := oppL_len a b k
    have skip : oppAt a b k = false → oppL a b (k + 1) = oppL a b k := fun h => by rw [oppL_succ, h]; simp
    refine Exists.intro [0, 1, 2, 3, 4, 5, 6, 7, 8, 9, 10, 11, 12, 13, 14, 15, 16, 17, 18, 19, 20, 21] (And.intro (by kernel_rfl) ?_)
    refine And.intro (Int.natCast_nonneg _) ?_
    refine bcase_intro (fun h2 => ?_) (fun h2 => ?_)
    · have h2 : (bits .and .u64 ((bits .and .u64 a.care.toNat b.care.toNat).fdiv (2 ^ min (k : Int).toNat IntKind.u64.bits)) 1 == 1) = true := h2
      rw [u_and, u_shr, u_and1, u_beq1, and_one_eq, Int.toNat_natCast] at h2
      refine And.intro (Int.natCast_nonneg _) ?_
      refine And.intro (Int.natCast_nonneg _) ?_
      refine bcase_intro (fun h3 => ?_) (fun h3 => ?_)
      · have h3 : (bits .and .u64 ((a.value.toNat : Int).fdiv (2 ^ min (k : Int).toNat IntKind.u64.bits)) 1 != bits .and .u64 ((b.value.toNat : Int).fdiv (2 ^ min (k : Int).toNat IntKind.u64.bits)) 1) = true := h3
        rw [u_shr, u_shr, u_and1, u_and1, u_bne, Int.toNat_natCast, bit_ne] at h3
        have hp : oppAt a b k = true := by rw [oppAt, h2, h3]; rfl
        have e : oppL a b (k + 1) = oppL a b k ++ [k] := by rw [oppL_succ, hp]; rfl
        refine And.intro (And.intro (by show (oppL a b k).length + 1 ≤ maxLen; unfold maxLen; omega) (by show ((oppL a b k).length + 1) * 8 ≤ 140737488355328; omega)) ?_
        refine And.intro (fun j hj => by
          have : j = 0 := by omega
          subst this; rfl) ?_
        refine Exists.intro (k + 1) (And.intro (And.intro rfl rfl) (And.intro (And.intro ?_ rfl) (And.intro ?_ ?_)))
        · skip
          (repeat' (first | exact rfl | exact trivial | exact (fun _ => rfl) | exact (fun _ _ => rfl) | exact (fun h => absurd h Bool.false_ne_true) | refine And.intro ?_ ?_))
          · exact hwr
          · show (oppL a b k).length + 1 = (oppL a b (k + 1)).length
            rw [e]; simp
          · intro j hj
            show joinF (oppL a b k).length _ _ j = [iP ((oppL a b (k + 1)).getD j 0 : Nat)]
            rw [e]
            exact join_one (oppL a b k) k _ rfl j hj
        · show k + 1 ≤ n; omega
        · show n - (k + 1) < n - k; omega
      · have h3 : (bits .and .u64 ((a.value.toNat : Int).fdiv (2 ^ min (k : Int).toNat IntKind.u64.bits)) 1 != bits .and .u64 ((b.value.toNat : Int).fdiv (2 ^ min (k : Int).toNat IntKind.u64.bits)) 1) = false := h3
        rw [u_shr, u_shr, u_and1, u_and1, u_bne, Int.toNat_natCast, bit_ne] at h3
        have e := skip (by rw [oppAt, h3, Bool.and_false])
        refine Exists.intro (k + 1) (And.intro (And.intro rfl rfl) (And.intro (And.intro ?_ rfl) (And.intro ?_ ?_)))
        · skip
          (repeat' (first | exact rfl | exact trivial | exact (fun _ => rfl) | exact (fun _ _ => rfl) | exact (fun h => absurd h Bool.false_ne_true) | refine And.intro ?_ ?_))
          · exact hwr
          · show (oppL a b k).length = (oppL a b (k + 1)).length
            rw [e]
          · intro j hj
            show [iP ((oppL a b k).getD j 0 : Nat)] = [iP ((oppL a b (k + 1)).getD j 0 : Nat)]
            rw [e]
        · show k + 1 ≤ n; omega
        · show n - (k + 1) < n - k; omega
    · have h2 : (bits .and .u64 ((bits .and .u64 a.care.toNat b.care.toNat).fdiv (2 ^ min (k : Int).toNat IntKind.u64.bits)) 1 == 1) = false := h2
      rw [u_and, u_shr, u_and1, u_beq1, and_one_eq, Int.toNat_natCast] at h2
      have e := skip (by rw [oppAt, h2, Bool.false_and])
      refine Exists.intro (k + 1) (And.intro (And.intro rfl rfl) (And.intro (And.intro ?_ rfl) (And.intro ?_ ?_)))
      · skip
        (repeat' (first | exact rfl | exact trivial | exact (fun _ => rfl) | exact (fun _ _ => rfl) | exact (fun h => absurd h Bool.false_ne_true) | refine And.intro ?_ ?_))
        · exact hwr
        · show (oppL a b k).length = (oppL a b (k + 1)).length
          rw [e]
        · intro j hj
          show [iP ((oppL a b k).getD j 0 : Nat)] = [iP ((oppL a b (k + 1)).getD j 0 : Nat)]
          rw [e]
      · show k + 1 ≤ n; omega
      · show n - (k + 1) < n - k; omega
  · have h1 : ¬ (k : Int) < (n : Int) := of_decide_eq_false h1
    have : k = n := by omega
    subst this
    refine And.intro (And.intro (fun _ k _ => rfl) ?_) trivial
    (repeat' (first | exact rfl | exact trivial | exact (fun _ => rfl) | exact (fun _ _ => rfl) | exact (fun h => absurd h Bool.false_ne_true) | refine And.intro ?_ ?_))

end Go.Sx.Pn
