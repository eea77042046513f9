/- Contracts of package truth: constants and disjunctions. -/
import Derived.Test.YtdkhdkldjpaadaaGreatPF
set_option maxHeartbeats 1000000
set_option maxRecDepth 4000
set_option linter.unusedSimpArgs false
set_option linter.unusedVariables false
namespace Go.Sx.Pn
open Go Go.Proofs

def iV (k : Nat) : Value := .int .i64 k
def pointsIt : SeqSpec := { A := Nat, capt := fun n => [.pt [iP n] 0], pre := fun n => n ≤ 6, xs := fun n => (List.range (2 ^ n)).map fun k => [iV k] }
theorem pointsIt_ok : SeqOk Tryz.prog 159 pointsIt := by
  refine seqOk (Tb := tab) mixed tab_ok Tryz.func159 rfl rfl ?_
  rintro (n : Nat) hpre
  refine ai (ai rfl ?_) ?_
  · intro x hx v hv
    obtain ⟨c, _, rfl⟩ := List.mem_map.1 hx
    simp only [List.mem_singleton] at hv
    subst hv; rfl
  have hn : n ≤ 6 := hpre
  have h64 := pow_le64 hn
  intro l
  repeat (refine ai (by first | exact Int.natCast_nonneg _ | omega | exact ai (Int.natCast_nonneg _) (by omega)) ?_)
  refine ei (LAnn.inv { X := Nat, up := fun k => [(6, .s (iA k))], uo := fun _ => [], inv := fun k => k ≤ 2 ^ n, meas := fun k => 2 ^ n - k, x0 := 0, cnt := fun k => some k }) ?_
  refine ai (ai (ai (by (repeat' (first | exact rfl | exact trivial | exact (fun _ => rfl) | exact (fun _ _ => rfl) | exact nof | refine ai ?_ ?_))) (by (repeat' (first | exact rfl | exact trivial | exact (fun _ => rfl) | exact (fun _ _ => rfl) | exact nof | refine ai ?_ ?_)))) rfl) (ai ?_ ?_)
  · exact Nat.zero_le _
  intro (k : Nat) (hk : k ≤ 2 ^ n)
  refine bcase_p (p := k < 2 ^ n) (by show decide ((k : Int) < IntKind.i64.wrap (1 * 2 ^ min (n : Int).toNat IntKind.i64.bits)) = true ↔ _; rw [pow6 hn, decide_eq_true_iff]; omega) (fun h1 => ?_) (fun h1 => ?_)
  · refine ai rfl (ei [iV k] (ai ?_ (ai ?_ (ai ?_ ?_))))
    · show ((List.range (2 ^ n)).map fun k => [iV k])[k]? = _
      simp [h1]
    · skip
      (repeat' (first | exact rfl | exact trivial | exact (fun _ => rfl) | exact (fun _ _ => rfl) | exact nof | refine ai ?_ ?_))
    · skip
      refine ei (k + 1) (ai (ai rfl rfl) (ai (ai ?_ ?_) (ai ?_ ?_)))
      · skip
        (repeat' (first | exact rfl | exact trivial | exact (fun _ => rfl) | exact (fun _ _ => rfl) | exact nof | refine ai ?_ ?_))
        exact wr1 (by omega)
      · rfl
      · show k + 1 ≤ 2 ^ n; omega
      · show 2 ^ n - (k + 1) < 2 ^ n - k; omega
    · exact ai trivial trivial
  · obtain rfl : k = 2 ^ n := by omega
    refine ai trivial ?_
    show 2 ^ n = ((List.range (2 ^ n)).map fun k => [iV k]).length
    simp
def tpointsS : Spec := fnS (fun n : Nat => [iA n]) (fun _ => True) (fun n => .fn 159 [.pt [iP n] 0])
theorem tpoints_ok : FnOk Tryz.prog 128 tpointsS := by
  refine fnOk (Tb := tab) mixed tab_ok Tryz.func128 rfl rfl ?_
  rintro (n : Nat) hpre
  refine ai (ai rfl (ai rfl rfl)) ?_
  refine ai (ai (fun _ => (by (repeat' (first | exact rfl | exact trivial | exact (fun _ => rfl) | exact (fun _ _ => rfl) | exact nof | refine ai ?_ ?_)))) ?_) trivial
  (repeat' (first | exact rfl | exact trivial | exact (fun _ => rfl) | exact (fun _ _ => rfl) | exact nof | refine ai ?_ ?_))

def boxB (b : Bool) : Ob := .cells 4 [.p false (.val (.bool b))]
def const1S : Spec := { A := Int × Bool, args := fun x => [iA x.1, .own 0 0], objs := fun x => [boxB x.2], pre := fun _ => True, res := fun x => bP x.2, objs' := fun _ => [], fresh := true, ro := 1 }
theorem const1_ok : FnOk Tryz.prog 138 const1S := by
  refine fnOk (Tb := tab) mixed tab_ok Tryz.func138 rfl rfl ?_
  rintro ⟨k, b⟩ hpre
  refine ai (ai rfl (ai rfl rfl)) ?_
  refine ai (ai (fun _ => (by (repeat' (first | exact rfl | exact trivial | exact (fun _ => rfl) | exact (fun _ _ => rfl) | exact nof | refine ai ?_ ?_)))) ?_) trivial
  (repeat' (first | exact rfl | exact trivial | exact (fun _ => rfl) | exact (fun _ _ => rfl) | exact nof | refine ai ?_ ?_))
def constU (b : Bool) : Nat → U
  | 0 => 0#64
  | k + 1 => if b then constU b k ||| 1#64 <<< k else constU b k
def madeCS : Spec := { A := Nat × Bool, args := fun x => [iA x.1, .fn 138 [.own 0 0]], objs := fun x => [boxB x.2], pre := fun x => x.1 ≤ 6, res := fun x => tP ⟨x.1, constU x.2 (2 ^ x.1)⟩, objs' := fun _ => [], fresh := true, ro := 1 }
theorem madeC_ok : FnOk Tryz.prog 72 madeCS := by
  refine fnOk (Tb := tab) mixed tab_ok Tryz.func72 rfl rfl ?_
  rintro ⟨n, b⟩ hpre
  refine ai (ai rfl (ai rfl rfl)) ?_
  have hn : n ≤ 6 := hpre
  have h64 := pow_le64 hn
  refine ei _ (ai tpoints_ok (ei (n) (ei [] (ai (ai rfl (ai rfl (ai rfl (ai rfl (ai (fun _ => Or.inl rfl) (ai (by first | exact nof | exact (fun _ => ai rfl rfl)) (by first | exact Or.inl rfl | exact Or.inr rfl))))))) (ai (by (repeat' (first | with_reducible rfl | exact trivial | refine ai ?_ ?_ | (show (_ : Int) = _; first | with_reducible rfl | exact wr1 (by omega) | (simp only [zz, reduceCtorEq] <;> first | done | rfl | omega) | omega | rfl) | exact rfl | exact (fun _ => rfl) | exact (fun _ _ => rfl) | exact nof))) (ai trivial (ai (trivial) ?_)))))))
  refine ai (ai rfl rfl) (ei pointsIt (ai pointsIt_ok (ei n (ai ?_ (ai hn (ai ?_ (ei { X := Nat, uo := fun k => [⟨3, 24, [.s (iA n), .s (uA (constU b k))]⟩], inv := fun k y => y = k, x0 := 0 } (ai ?_ (ai ?_ (ai rfl (ai ?_ ?_)))))))))))
  · skip
    (repeat' (first | exact rfl | exact trivial | exact (fun _ => rfl) | exact (fun _ _ => rfl) | exact nof | refine ai ?_ ?_))
  · intro v hv
    obtain ⟨c, _, rfl⟩ := List.mem_map.1 hv
    rfl
  · skip
    (repeat' (first | exact rfl | exact trivial | exact (fun _ => rfl) | exact (fun _ _ => rfl) | exact nof | refine ai ?_ ?_))
  · skip
    (repeat' (first | exact rfl | exact trivial | exact (fun _ => rfl) | exact (fun _ _ => rfl) | exact nof | refine ai ?_ ?_))
  · intro (k : Nat) (y : Nat) vs (hy : y = k) hvs
    subst hy
    have hvs : ((List.range (2 ^ n)).map fun k => [iV k])[y]? = some vs := hvs
    rw [List.getElem?_map] at hvs
    cases hc : (List.range (2 ^ n))[y]? with
    | none => rw [hc] at hvs; cases hvs
    | some c =>
      rw [hc] at hvs
      simp only [Option.map_some, Option.some.injEq] at hvs
      have hy : y < 2 ^ n := by simpa using (List.getElem?_eq_some_iff.1 hc).1
      have hcy : y = c := by simpa [hy] using hc
      subst hcy
      subst hvs
      refine ei _ (ai const1_ok (ei (((y : Int), b)) (ei [0] (ai (ai rfl (ai rfl (ai rfl (ai rfl (ai (by first | exact (fun _ => Or.inl rfl) | exact nof | exact (fun _ => Or.inr (by (repeat' (first | exact rfl | exact trivial | exact (fun _ => rfl) | exact (fun _ _ => rfl) | exact nof | refine ai ?_ ?_))))) (ai (by first | exact nof | exact (fun _ => ai rfl rfl)) (by first | exact Or.inl rfl | exact Or.inr rfl))))))) (ai (by (repeat' (first | with_reducible rfl | exact trivial | refine ai ?_ ?_ | (show (_ : Int) = _; first | with_reducible rfl | exact wr1 (by omega) | (simp only [zz, reduceCtorEq] <;> first | done | rfl | omega) | omega | rfl) | exact rfl | exact (fun _ => rfl) | exact (fun _ _ => rfl) | exact nof))) (ai (by (repeat' (first | with_reducible rfl | exact trivial | refine ai ?_ ?_ | (show (_ : Int) = _; first | with_reducible rfl | exact wr1 (by omega) | (simp only [zz, reduceCtorEq] <;> first | done | rfl | omega) | omega | rfl) | exact rfl | exact (fun _ => rfl) | exact (fun _ _ => rfl) | exact nof))) (ai (trivial) ?_)))))))
      refine bcase_b (b := b) (by first | exact rfl | (simp only [zz, reduceCtorEq] <;> first | done | exact rfl)) (fun h1 => ?_) (fun h1 => ?_)
      · skip
        refine ei [0, 1, 2, 3, 4, 5, 6] (ai (by kernel_rfl) ?_)
        repeat (refine ai (by first | exact Int.natCast_nonneg _ | omega | exact ai (Int.natCast_nonneg _) (by omega)) ?_)
        refine ei (y + 1) (ai rfl (ai ?_ rfl))
        (repeat' (first | exact rfl | exact trivial | exact (fun _ => rfl) | exact (fun _ _ => rfl) | exact nof | refine ai ?_ ?_))
        (rw [show constU b (y + 1) = constU b y ||| 1#64 <<< y by rw [constU, if_pos h1]]; show (_ : Int) = _; first | rfl | simp only [zz, reduceCtorEq])
      · refine ei (y + 1) (ai rfl (ai ?_ rfl))
        (repeat' (first | exact rfl | exact trivial | exact (fun _ => rfl) | exact (fun _ _ => rfl) | exact nof | refine ai ?_ ?_))
        (rw [show constU b (y + 1) = constU b y by rw [constU, h1]; rfl]; show (_ : Int) = _; first | rfl | simp only [zz, reduceCtorEq])
  · intro y (hy : y = ((List.range (2 ^ n)).map fun k => [iV k]).length)
    have hy : y = 2 ^ n := by simpa using hy
    subst hy
    refine ai (ai (fun _ => (by (repeat' (first | exact rfl | exact trivial | exact (fun _ => rfl) | exact (fun _ _ => rfl) | exact nof | refine ai ?_ ?_)))) ?_) trivial
    (repeat' (first | exact rfl | exact trivial | exact (fun _ => rfl) | exact (fun _ _ => rfl) | exact nof | refine ai ?_ ?_))

theorem constU_false : ∀ m, constU false m = 0#64
  | 0 => rfl
  | m + 1 => by rw [constU]; exact constU_false m
def constC (n : Int) (b : Bool) : Tb × Int := if 0 ≤ n ∧ n ≤ 6 then (⟨n, constU b (2 ^ n.toNat)⟩, 0) else (⟨0, 0⟩, 2)
def ConstS : Spec := fnS (fun x : Int × Bool => [iA x.1, bA x.2]) (fun _ => True) (fun x => .tup [tP (constC x.1 x.2).1, iP (constC x.1 x.2).2])
theorem Const_ok : FnOk Tryz.prog 96 ConstS := by
  refine fnOk (Tb := tab) mixed tab_ok Tryz.func96 rfl rfl ?_
  rintro ⟨n, b⟩ hpre
  refine ai (ai rfl (ai rfl rfl)) ?_
  refine ei _ (ai sized_ok (ei (n) (ei [] (ai (ai rfl (ai rfl (ai rfl (ai rfl (ai (fun _ => Or.inl rfl) (ai (by first | exact nof | exact (fun _ => ai rfl rfl)) (by first | exact Or.inl rfl | exact Or.inr rfl))))))) (ai (by (repeat' (first | with_reducible rfl | exact trivial | refine ai ?_ ?_ | (show (_ : Int) = _; first | with_reducible rfl | exact wr1 (by omega) | (simp only [zz, reduceCtorEq] <;> first | done | rfl | omega) | omega | rfl) | exact rfl | exact (fun _ => rfl) | exact (fun _ _ => rfl) | exact nof))) (ai trivial (ai (trivial) ?_)))))))
  refine bcase_n (p := (0 ≤ n ∧ n ≤ 6)) (by show (!(decide (0 ≤ n) && decide (n ≤ 6))) = true ↔ _; simp; omega) (fun h1 => ?_) (fun h1 => ?_)
  · skip
    refine ai (ai (fun _ => (by (repeat' (first | exact rfl | exact trivial | exact (fun _ => rfl) | exact (fun _ _ => rfl) | exact nof | refine ai ?_ ?_)))) ?_) trivial
    show ple _ (.tup [tP (constC n b).1, iP (constC n b).2])
    rw [show constC n b = (⟨0, 0⟩, 2) by simp [constC, h1]]
    any_goals (repeat' (first | with_reducible rfl | exact trivial | refine ai ?_ ?_ | (show (_ : Int) = _; first | with_reducible rfl | exact wr1 (by omega) | (simp only [zz, reduceCtorEq] <;> first | done | rfl | omega) | omega | rfl) | exact rfl | exact (fun _ => rfl) | exact (fun _ _ => rfl) | exact nof))
  obtain ⟨k, rfl⟩ := Int.eq_ofNat_of_zero_le h1.1
  refine ei _ (ai madeC_ok (ei ((k, b)) (ei [0] (ai (ai rfl (ai rfl (ai rfl (ai rfl (ai (by first | exact (fun _ => Or.inl rfl) | exact nof | exact (fun _ => Or.inr (by (repeat' (first | exact rfl | exact trivial | exact (fun _ => rfl) | exact (fun _ _ => rfl) | exact nof | refine ai ?_ ?_))))) (ai (by first | exact nof | exact (fun _ => ai rfl rfl)) (by first | exact Or.inl rfl | exact Or.inr rfl))))))) (ai (by (repeat' (first | with_reducible rfl | exact trivial | refine ai ?_ ?_ | (show (_ : Int) = _; first | with_reducible rfl | exact wr1 (by omega) | (simp only [zz, reduceCtorEq] <;> first | done | rfl | omega) | omega | rfl) | exact rfl | exact (fun _ => rfl) | exact (fun _ _ => rfl) | exact nof))) (ai (by (repeat' (first | with_reducible rfl | exact trivial | refine ai ?_ ?_ | (show (_ : Int) = _; first | with_reducible rfl | exact wr1 (by omega) | (simp only [zz, reduceCtorEq] <;> first | done | rfl | omega) | omega | rfl) | exact rfl | exact (fun _ => rfl) | exact (fun _ _ => rfl) | exact nof))) (ai ((by show k ≤ 6; omega)) ?_)))))))
  refine ai (ai (fun _ => (by (repeat' (first | exact rfl | exact trivial | exact (fun _ => rfl) | exact (fun _ _ => rfl) | exact nof | refine ai ?_ ?_)))) ?_) trivial
  show ple _ (.tup [tP (constC k b).1, iP (constC k b).2])
  rw [show constC k b = (⟨k, constU b (2 ^ k)⟩, 0) by rw [constC, if_pos h1]; rfl]
  any_goals (repeat' (first | with_reducible rfl | exact trivial | refine ai ?_ ?_ | (show (_ : Int) = _; first | with_reducible rfl | exact wr1 (by omega) | (simp only [zz, reduceCtorEq] <;> first | done | rfl | omega) | omega | rfl) | exact rfl | exact (fun _ => rfl) | exact (fun _ _ => rfl) | exact nof))

/-- an operation on words, joined over two tables -/
def joinT (op : U → U → U) (a b : Tb) : Tb × Int :=
  if chkT a = 0 then (if chkT b = 0 then (if a.n = b.n then (⟨a.n, op a.bits b.bits⟩, 0) else (⟨0, 0⟩, 8)) else (⟨0, 0⟩, chkT b)) else (⟨0, 0⟩, chkT a)
def opS (op : U → U → U) : Spec := fnS (fun x : U × U => [uA x.1, uA x.2]) (fun _ => True) (fun x => uP (op x.1 x.2))
def resT (x : Tb × Int) : PV := .tup [tP x.1, iP x.2]
def joinedS' (g : Nat) (op : U → U → U) : Spec := fnS (fun x : Tb × Tb => [tA x.1, tA x.2, .fn g []]) (fun _ => True) (fun x => resT (joinT op x.1 x.2))
def OrS : Spec := fnS (fun x : Tb × Tb => [tA x.1, tA x.2]) (fun _ => True) (fun x => resT (joinT (· ||| ·) x.1 x.2))
end Go.Sx.Pn

namespace Go.Sx.Pn
open Go Go.Proofs

theorem care_lt {n : Nat} (hn : n ≤ 6) {c : Cu} (hc : c.Ok n) : c.care.toNat < 2 ^ n := lt_pow hn fun i hi h => hc.care_bit hn hi h
theorem uN_self (x : U) : uN x.toNat = x := by simp [uN]
theorem mem_cubes {n : Nat} (hn : n ≤ 6) {c : Cu} (hc : c.Ok n) : c ∈ cubesL n := by
  unfold cubesL cubesTo
  rw [List.mem_flatMap]
  refine ⟨c.care.toNat, List.mem_range.2 (care_lt hn hc), ?_⟩
  unfold cubeRow
  rw [List.mem_filterMap]
  refine ⟨c.value.toNat, List.mem_range.2 (value_point hn hc).1, ?_⟩
  rw [cubeAt, uN_self, uN_self, if_pos hc.value]
theorem cubes_ok_n {n : Nat} (hn : n ≤ 6) {c : Cu} (h : c ∈ cubesL n) : c.Ok n := by
  refine ⟨?_, cubesL_ok h⟩
  unfold cubesL cubesTo at h
  obtain ⟨i, hi, h⟩ := List.mem_flatMap.1 h
  obtain ⟨j, hj, h⟩ := List.mem_filterMap.1 h
  have hi := List.mem_range.1 hi
  have h64 := pow_le64 hn
  rw [cubeAt_some h, mask_iff hn, BitVec.le_def, uN_toNat (by omega)]
  have e : (1#64 <<< n).toNat = 2 ^ n := by
    obtain rfl | rfl | rfl | rfl | rfl | rfl | rfl : n = 0 ∨ n = 1 ∨ n = 2 ∨ n = 3 ∨ n = 4 ∨ n = 5 ∨ n = 6 := by omega
    all_goals rfl
  omega
theorem mem_primes {n : Nat} (hn : n ≤ 6) {x : Tk} {c : Cu} : c ∈ primesL n x ↔ c.Ok n ∧ primeP n x c = true := by
  unfold primesL
  rw [List.mem_filter]
  exact ⟨fun h => ⟨cubes_ok_n hn h.1, h.2⟩, fun h => ⟨mem_cubes hn h.1, h.2⟩⟩
theorem prime_parts {n : Nat} {x : Tk} {c : Cu} (h : primeP n x c = true) : (ptsC c (2 ^ n) &&& x.on.bits != 0#64) = true ∧ impliesU n x c = true ∧ growsU n x c = false := by
  unfold primeP at h
  simp only [Bool.and_eq_true, Bool.not_eq_true'] at h
  exact ⟨h.1.1, h.1.2, h.2⟩

theorem wide_bits {c : Cu} {i : Nat} (hi : i < 64) (j : Nat) : (wideC c i).care.getLsbD j = (c.care.getLsbD j && !decide (j = i) && decide (j < 64)) ∧ (wideC c i).value.getLsbD j = (c.value.getLsbD j && !decide (j = i) && decide (j < 64)) := by
  simp only [wideC, BitVec.getLsbD_and, BitVec.getLsbD_not, shl1_bit hi]
  by_cases h : j < 64 <;> simp [h]
theorem wide_ok {n : Nat} {c : Cu} (hc : c.Ok n) (i : Nat) : (wideC c i).Ok n := hc.but _
theorem wide_has {n : Nat} (hn : n ≤ 6) {c : Cu} (hc : c.Ok n) {i k : Nat} (hi : i < n) (h : hasC c (k : Int) = true) : hasC (wideC c i) (k : Int) = true := by
  rw [has_iff (wide_ok hc i)]
  intro j hj hcj
  obtain ⟨h1, h2⟩ := wide_bits (c := c) (show i < 64 by omega) j
  rw [h1] at hcj
  simp only [Bool.and_eq_true, Bool.not_eq_true', decide_eq_false_iff_not, decide_eq_true_eq] at hcj
  rw [h2, (has_iff hc k).1 h j hj hcj.1.1]; simp [hcj.1.2, hj]
theorem wide_care {n : Nat} (hn : n ≤ 6) {c : Cu} (hc : c.Ok n) {i : Nat} (hi : i < n) (h : wideC c i ≠ c) : (wideC c i).care.toNat < c.care.toNat := by
  have hb := (wide_ne hc.value (show i < 64 by omega)).1 h
  have hle : (wideC c i).care.toNat ≤ c.care.toNat := by
    show (c.care &&& ~~~ (1#64 <<< i)).toNat ≤ _
    rw [BitVec.toNat_and]; exact Nat.and_le_left
  rcases Nat.lt_or_eq_of_le hle with h1 | h1
  · exact h1
  · have e := BitVec.eq_of_toNat_eq h1
    have := congrArg (fun b : U => b.getLsbD i) e
    simp only [(wide_bits (c := c) (show i < 64 by omega) i).1, hb] at this
    simp at this

theorem implies_iff {n : Nat} (hn : n ≤ 6) (x : Tk) (c : Cu) : impliesU n x c = true ↔ ∀ k, k < 2 ^ n → hasC c ((k : Nat) : Int) = true → (x.on.bits ||| x.free.bits).getLsbD k = true := by
  rw [implies_good hn, goodC, List.all_eq_true]
  constructor
  · intro h k hk hh
    have := h k (List.mem_range.2 hk)
    rw [gAt, hh] at this
    rw [BitVec.getLsbD_or]; simpa [atT] using this
  · intro h k hk
    rw [gAt]
    cases hh : hasC c ((k : Nat) : Int) with
    | false => rfl
    | true =>
      have := h k (List.mem_range.1 hk) hh
      rw [BitVec.getLsbD_or] at this
      simpa [atT] using this

/-- an implicant with a point of On is inside a prime one with this point -/
theorem prime_over {n : Nat} (hn : n ≤ 6) (x : Tk) {k : Nat} (hk : k < 2 ^ n) (hon : x.on.bits.getLsbD k = true) : ∀ (m : Nat) (c : Cu), c.care.toNat < m → c.Ok n → hasC c (k : Int) = true → impliesU n x c = true →
    ∃ p ∈ primesL n x, hasC p (k : Int) = true ∧ ∀ j : Nat, hasC c (j : Int) = true → hasC p (j : Int) = true
  | 0, _, h, _, _, _ => absurd h (Nat.not_lt_zero _)
  | m + 1, c, hm, hc, hh, himp => by
    cases hg : growsU n x c with
    | false =>
      refine ⟨c, (mem_primes hn).2 ⟨hc, ?_⟩, hh, fun _ h => h⟩
      have ht : (ptsC c (2 ^ n) &&& x.on.bits != 0#64) = true := by
        rw [touch_eq hn]; exact any_hit hk (by rw [tAt, hh, atT, hon]; rfl)
      rw [primeP, ht, himp, hg]; rfl
    | true =>
      obtain ⟨i, hi, h⟩ := List.any_eq_true.1 hg
      have hi := List.mem_range.1 hi
      rw [growsAt, Bool.and_eq_true, decide_eq_true_eq] at h
      have hlt := wide_care hn hc hi h.1
      obtain ⟨p, hp, h1, h2⟩ := prime_over hn x hk hon m (wideC c i) (by omega) (wide_ok hc i) (wide_has hn hc hi hh) h.2
      exact ⟨p, hp, h1, fun j hj => h2 j (wide_has hn hc hi hj)⟩

/-- no prime implicant is inside another one -/
theorem prime_max {n : Nat} (hn : n ≤ 6) {x : Tk} {c d : Cu} (hc : c.Ok n) (hd : d.Ok n) (pc : primeP n x c = true) (pd : primeP n x d = true) (hin : insideC c d = true) : c = d := by
  have hg := (prime_parts pc).2.2
  have hid := (prime_parts pd).2.1
  have hin' := hin
  rw [insideC, Bool.and_eq_true, beq_iff_eq, beq_iff_eq] at hin
  have hsub : ∀ i, i < 64 → d.care.getLsbD i = true → c.care.getLsbD i = true := fun i hi h => by
    have := (eq0_iff _).1 hin.1 i hi
    rw [BitVec.getLsbD_and, BitVec.getLsbD_not, h] at this
    simpa [hi] using this
  by_cases hall : ∀ i, i < 64 → c.care.getLsbD i = true → d.care.getLsbD i = true
  · have e1 : c.care = d.care := by
      apply BitVec.eq_of_getLsbD_eq
      intro i hi
      cases h1 : c.care.getLsbD i with
      | true => rw [hall i hi h1]
      | false => cases h2 : d.care.getLsbD i with
        | false => rfl
        | true => rw [hsub i hi h2] at h1; cases h1
    have e2 : c.value = d.value := by
      rw [← hin.2, ← e1]
      apply BitVec.eq_of_getLsbD_eq
      intro i hi
      rw [BitVec.getLsbD_and]
      cases h1 : c.care.getLsbD i with
      | true => simp
      | false => rw [value_off hc hi h1]; rfl
    cases c; cases d; simp only at e1 e2; rw [e1, e2]
  · exfalso
    obtain ⟨i, hi⟩ := Classical.not_forall.1 hall
    have hi64 : i < 64 := Classical.byContradiction fun h => hi fun h2 => absurd h2 h
    have hci : c.care.getLsbD i = true := Classical.byContradiction fun h => hi fun _ h2 => absurd h2 h
    have hdi : ¬ d.care.getLsbD i = true := fun h => hi fun _ _ => h
    have hin_n := hc.care_bit hn hi64 hci
    have himp : impliesU n x (wideC c i) = true := by
      rw [implies_iff hn]
      intro k hk hh
      refine (implies_iff hn x d).1 hid k hk ((has_iff hd k).2 fun j hj hdj => ?_)
      have hji : j ≠ i := fun e => hdi (e ▸ hdj)
      obtain ⟨b1, b2⟩ := wide_bits (c := c) hi64 j
      have h3 := (has_iff (wide_ok hc i) k).1 hh j hj (by rw [b1, hsub j hj hdj]; simp [hji, hj])
      rw [h3, b2]
      have h4 := congrArg (fun b : U => b.getLsbD j) hin.2
      simp only [BitVec.getLsbD_and, hdj, Bool.and_true] at h4
      rw [h4]; simp [hji, hj]
    have : growsU n x c = true := any_hit hin_n (by rw [growsAt, himp, Bool.and_true, decide_eq_true_iff]; exact (wide_ne hc.value hi64).2 hci)
    rw [hg] at this; cases this

theorem primes_lt {n : Nat} (hn : n ≤ 6) (x : Tk) {i j : Nat} (hi : i < (primesL n x).length) (hj : j < (primesL n x).length) (h : i ≠ j) : (primesL n x).getD i ⟨0, 0⟩ ≠ (primesL n x).getD j ⟨0, 0⟩ := by
  have hasc := asc_primes hn x
  have gi : (primesL n x)[i]? = some ((primesL n x).getD i ⟨0, 0⟩) := getD_some hi
  have gj : (primesL n x)[j]? = some ((primesL n x).getD j ⟨0, 0⟩) := getD_some hj
  intro e
  have self : ∀ c : Cu, ¬ cmpC c c < 0 := fun c => by simp [cmpC, cmpU_self]
  rcases Nat.lt_or_gt_of_ne h with h1 | h1
  · have := hasc i j _ _ h1 gi gj
    rw [e] at this; exact self _ this
  · have := hasc j i _ _ h1 gj gi
    rw [e] at this; exact self _ this
theorem prime_at {n : Nat} (hn : n ≤ 6) (x : Tk) {i : Nat} (hi : i < (primesL n x).length) : ((primesL n x).getD i ⟨0, 0⟩).Ok n ∧ primeP n x ((primesL n x).getD i ⟨0, 0⟩) = true :=
  (mem_primes hn).1 (List.mem_of_getElem? (getD_some hi))

/-- the points of all prime implicants -/
theorem once_any {n : Nat} (hn : n ≤ 6) (l : List Cu) {k : Nat} (hk : k < 2 ^ n) (m : Nat) : (onceU n l m).getLsbD k = true ↔ ∃ i, i < m ∧ hasC (l.getD i ⟨0, 0⟩) (k : Int) = true := by
  rw [(once_bit hn l hk m).1, decide_eq_true_iff]
  constructor
  · intro h
    obtain ⟨i, hi⟩ := List.exists_mem_of_length_pos h
    unfold ownTo at hi
    rw [List.mem_filter] at hi
    exact ⟨i, List.mem_range.1 hi.1, hi.2⟩
  · rintro ⟨i, hi, h⟩
    exact List.length_pos_of_mem (a := i) (by unfold ownTo; rw [List.mem_filter]; exact ⟨List.mem_range.2 hi, h⟩)
theorem once_high {n : Nat} (hn : n ≤ 6) (l : List Cu) {k : Nat} (hk : 2 ^ n ≤ k) : ∀ m, (onceU n l m).getLsbD k = false
  | 0 => by simp [onceU]
  | m + 1 => by
    have : ¬ k < 2 ^ n := by omega
    rw [onceU, BitVec.getLsbD_or, once_high hn l hk m, pts_bit hn]; simp [this]
theorem minterm_ok {n : Nat} (hn : n ≤ 6) {k : Nat} (hk : k < 2 ^ n) : (⟨allU n, uN k⟩ : Cu).Ok n ∧ hasC ⟨allU n, uN k⟩ (k : Int) = true ∧ ∀ j : Nat, j < 2 ^ n → hasC ⟨allU n, uN k⟩ (j : Int) = true → j = k := by
  have h64 := pow_le64 hn
  have kb : ∀ i, i < 64 → k.testBit i = true → i < n := fun i _ h => Classical.byContradiction fun hge => by
    have := Nat.testBit_lt_two_pow (Nat.lt_of_lt_of_le hk (Nat.pow_le_pow_right (by decide) (Nat.le_of_not_lt hge)))
    rw [this] at h; cases h
  have hb : ∀ j : Nat, ∀ i, i < 64 → (uN j).getLsbD i = j.testBit i := fun j i hi => by rw [uN, BitVec.getLsbD_ofNat]; simp [hi]
  have hOk : (⟨allU n, uN k⟩ : Cu).Ok n := by
    constructor
    · simp
    · rw [eq0_iff]; intro i hi
      rw [BitVec.getLsbD_and, BitVec.getLsbD_not, allU_bit hn hi, hb k i hi]
      cases h : k.testBit i with
      | false => simp
      | true => simp [kb i hi h]
  refine ⟨hOk, (has_iff hOk k).2 fun i hi _ => (hb k i hi).symm, fun j hj h => ?_⟩
  apply Nat.eq_of_testBit_eq
  intro i
  by_cases hi : i < n
  · have := (has_iff hOk j).1 h i (by omega) (by rw [allU_bit hn (by omega)]; simp [hi])
    rw [this, hb k i (by omega)]
  · have big : ∀ q : Nat, q < 2 ^ n → q.testBit i = false := fun q hq => Nat.testBit_lt_two_pow (Nat.lt_of_lt_of_le hq (Nat.pow_le_pow_right (by decide) (Nat.le_of_not_lt hi)))
    rw [big j hj, big k hk]
theorem primes_cover {n : Nat} (hn : n ≤ 6) (x : Tk) {k : Nat} (hk : k < 2 ^ n) (hon : x.on.bits.getLsbD k = true) : (onceU n (primesL n x) (primesL n x).length).getLsbD k = true := by
  obtain ⟨h1, h2, h3⟩ := minterm_ok hn hk
  obtain ⟨p, hp, hpk, _⟩ := prime_over hn x hk hon _ _ (Nat.lt_succ_self _) h1 h2 ((implies_iff hn x _).2 fun j hj hh => by
    rw [h3 j hj hh, BitVec.getLsbD_or, hon]; rfl)
  rw [once_any hn _ hk]
  obtain ⟨i, hi⟩ := List.getElem?_of_mem hp
  refine ⟨i, (List.getElem?_eq_some_iff.1 hi).1, ?_⟩
  rw [List.getD_eq_getElem?_getD, hi]; exact hpk

end Go.Sx.Pn

namespace Go.Sx.Pn
open Go Go.Proofs

theorem ok_chk {n : Nat} (hn : n ≤ 6) {c : Cu} (hc : c.Ok n) : chkC (n : Int) c = 0 := by
  have h3 : ¬ (6 : Int) < n := by omega
  simp [chkC, h3, hc.care, hc.value]
theorem chkT_of {n : Nat} (hn : n ≤ 6) {b : U} (h : ∀ k, 2 ^ n ≤ k → k < 64 → b.getLsbD k = false) : chkT ⟨n, b⟩ = 0 := by
  have h3 : ¬ (6 : Int) < n := by omega
  have h0 : ¬ (n : Int) < 0 := by omega
  simp [chkT, h3, h0, (whole_iff hn b).2 h]
theorem tb_high {n : Nat} (hn : n ≤ 6) {t : Tb} (ht : t.n = n) (h : chkT t = 0) {k : Nat} (hk : 2 ^ n ≤ k) (hk2 : k < 64) : t.bits.getLsbD k = false := by
  obtain ⟨m, hm, e, hb⟩ := chkT_zero h
  obtain rfl : n = m := by omega
  exact (whole_iff hn _).1 hb k hk hk2
section
variable {z : Int} (hz : z = 0) {n : Nat} {x : Tk}
include hz
theorem primes_at (h : chkK x = 0) (hx : x.on.n = n) : FnOk Tryz.prog 97 (fnS (fun _ : Unit => PrimesS.args x) (fun _ => True) (fun _ => .tup [csP (primesL n x), iP z])) :=
  fnS_at Primes_ok x trivial (by rw [hz]; simp [h, hx])
theorem const_at (hn : n ≤ 6) : FnOk Tryz.prog 96 (fnS (fun _ : Unit => ConstS.args ((n : Int), false)) (fun _ => True) (fun _ => .tup [tP ⟨n, 0#64⟩, iP z])) :=
  fnS_at Const_ok ((n : Int), false) trivial (by
    show PV.tup [tP (constC n false).1, iP (constC n false).2] = _
    rw [hz, show constC n false = (⟨n, 0#64⟩, 0) by rw [constC, if_pos (by omega), constU_false]])
theorem implies_at {c : Cu} (h : chkK x = 0) (hx : x.on.n = n) (hc : chkC (n : Int) c = 0) {b : Bool} (hi : impliesU n x c = b) : FnOk Tryz.prog 127 (fnS (fun _ : Unit => ImpliesS.args (x, c)) (fun _ => True) (fun _ => .tup [bP b, iP z])) :=
  fnS_at Implies_ok (x, c) trivial (by
    show PV.tup [bP (if chkK x = 0 then (if chkC x.on.n c = 0 then impliesU x.on.n.toNat x c else false) else false), iP (if chkK x = 0 then chkC x.on.n c else chkK x)] = _
    rw [hz, if_pos h, if_pos h, hx, if_pos hc, hc, Int.toNat_natCast, hi])
end

def coversLaw : Spec := fnS (fun x : Tk => [kA x]) (fun _ => True) (fun _ => bP true)
end Go.Sx.Pn
