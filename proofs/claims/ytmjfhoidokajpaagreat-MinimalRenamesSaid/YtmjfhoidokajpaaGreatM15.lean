/- Contracts of chapter 7: truth.Rename (as in chapter 4). -/
import Derived.Test.YtmjfhoidokajpaaGreatM14
set_option maxHeartbeats 1000000
set_option maxRecDepth 4000
set_option linter.unusedSimpArgs false
set_option linter.unusedVariables false
set_option linter.unusedSectionVars false
namespace Go.Sx.Pn
open Go Go.Proofs

def isP (l : List Int) : PV := .seq l.length (fun i => [iP (l.getD i 0)])
def isA (l : List Int) : SV := .p false (isP l)
theorem getI {l : List Int} {j : Nat} (hj : j < l.length) : l.getD j 0 = l[j] := by simp [List.getD_eq_getElem?_getD, hj]
theorem mem_getI {l : List Int} {v : Int} : v ∈ l ↔ ∃ j, j < l.length ∧ l.getD j 0 = v := by
  constructor
  · intro h
    obtain ⟨j, hj, rfl⟩ := List.getElem_of_mem h
    exact ⟨j, hj, getI hj⟩
  · rintro ⟨j, hj, rfl⟩
    rw [getI hj]; exact List.getElem_mem _
def idxIS : Spec := fnS (fun x : List Int × Int => [isA x.1, iA x.2]) (fun x => x.1.length ≤ 1000000) (fun x => iP (if x.2 ∈ x.1 then (x.1.findIdx (fun s => x.2 == s) : Nat) else -1))
theorem idxI_ok : FnOk Tryz.prog 61 idxIS := by
  refine fnOk (Tb := tab) mixed tab_ok Tryz.func61 rfl rfl ?_
  rintro ⟨L, v⟩ hpre
  refine ai (ai rfl (ai rfl rfl)) ?_
  have hl : L.length ≤ 1000000 := hpre
  refine ei (LAnn.inv { X := Nat, up := fun k => [(8, .s (iA k))], uo := fun k => [], inv := fun k => k ≤ L.length ∧ (∀ j, j < k → ¬ v = L.getD j 0), meas := fun k => L.length - k, x0 := 0 }) ?_
  refine ai (ai (ai (by (repeat' (first | exact rfl | exact trivial | exact (fun _ => rfl) | exact (fun _ _ => rfl) | exact nof | refine ai ?_ ?_))) (ai (by (repeat' (first | with_reducible rfl | exact trivial | refine ai ?_ ?_ | (show (_ : Int) = _; first | with_reducible rfl | exact wr1 (by omega) | (simp only [zz, reduceCtorEq] <;> first | done | rfl | omega) | omega | rfl) | exact rfl | exact (fun _ => rfl) | exact (fun _ _ => rfl) | exact nof))) (by (repeat' (first | with_reducible rfl | exact trivial | refine ai ?_ ?_ | (show (_ : Int) = _; first | with_reducible rfl | exact wr1 (by omega) | (simp only [zz, reduceCtorEq] <;> first | done | rfl | omega) | omega | rfl) | exact rfl | exact (fun _ => rfl) | exact (fun _ _ => rfl) | exact nof))))) rfl) (ai (ai (Nat.zero_le _) ?_) ?_)
  · exact fun j hj => absurd hj (Nat.not_lt_zero _)
  intro (k : Nat) ⟨hk, hno⟩
  refine bcase_p (p := k < L.length) (by first | (with_reducible refine bif_lt ?_; omega) | (with_reducible refine bif_le ?_; omega) | (with_reducible refine bif_eq ?_; omega) | (with_reducible refine bif_ne ?_; omega) | exact b8_eq rfl | exact b8_ne rfl | exact bif_lt (by omega) | exact bif_le (by omega) | exact bif_eq (by omega) | exact bif_ne (by omega) | exact Iff.rfl | (simp only [zz, reduceCtorEq] <;> first | done | omega | exact Iff.rfl) | (simp; done) | (simp; omega)) (fun h1 => ?_) (fun h1 => ?_)
  · refine ai (ai (Int.natCast_nonneg _) (by show (k : Int) < (L.length : Int); omega)) ?_
    refine ai rfl ?_
    refine bcase_p (p := v = L.getD k 0) (by first | (with_reducible refine bif_lt ?_; omega) | (with_reducible refine bif_le ?_; omega) | (with_reducible refine bif_eq ?_; omega) | (with_reducible refine bif_ne ?_; omega) | exact b8_eq rfl | exact b8_ne rfl | exact bif_lt (by omega) | exact bif_le (by omega) | exact bif_eq (by omega) | exact bif_ne (by omega) | exact Iff.rfl | (simp only [zz, reduceCtorEq] <;> first | done | omega | exact Iff.rfl) | (simp; done) | (simp; omega)) (fun h2 => ?_) (fun h2 => ?_)
    · refine ai (ai (fun _ => trivial) ?_) trivial
      show (k : Int) = if v ∈ L then _ else _
      rw [if_pos (mem_getI.2 ⟨k, h1, h2.symm⟩)]
      have : L.findIdx (fun s => v == s) = k := (List.findIdx_eq h1).2 ⟨by rw [← getI h1, ← h2]; simp, fun j hj => by
        have := hno j hj
        rw [getI (by omega)] at this
        simpa using this⟩
      rw [this]
    · skip
      refine ei (k + 1) (ai (ai rfl rfl) (ai (ai ?_ rfl) (ai (ai (by show k + 1 ≤ L.length; omega) ?_) (by show L.length - (k + 1) < L.length - k; omega))))
      any_goals (repeat' (first | with_reducible rfl | exact trivial | refine ai ?_ ?_ | (show (_ : Int) = _; first | with_reducible rfl | exact wr1 (by omega) | (simp only [zz, reduceCtorEq] <;> first | done | rfl | omega) | omega | rfl) | exact rfl | exact (fun _ => rfl) | exact (fun _ _ => rfl) | exact nof))
      exact upto_succ hno h2
  · obtain rfl : k = L.length := by omega
    refine ai (ai (fun _ => trivial) ?_) trivial
    show (-1 : Int) = if v ∈ L then _ else _
    rw [if_neg fun h => by obtain ⟨j, hj, e⟩ := mem_getI.1 h; exact hno j hj e.symm]
def contIS : Spec := fnS (fun x : List Int × Int => [isA x.1, iA x.2]) (fun x => x.1.length ≤ 1000000) (fun x => bP (decide (x.2 ∈ x.1)))
theorem contI_ok : FnOk Tryz.prog 29 contIS := by
  refine fnOk (Tb := tab) mixed tab_ok Tryz.func29 rfl rfl ?_
  rintro ⟨L, v⟩ hpre
  refine ai (ai rfl (ai rfl rfl)) ?_
  refine ei _ (ai idxI_ok (ei ((L, v)) (ei [] (ai (ai rfl (ai rfl (ai rfl (ai rfl (ai (fun _ => Or.inl rfl) (ai (by first | exact nof | exact (fun _ => ai rfl rfl)) (by first | exact Or.inl rfl | exact Or.inr rfl))))))) (ai (by (repeat' (first | with_reducible rfl | exact trivial | refine ai ?_ ?_ | (show (_ : Int) = _; first | with_reducible rfl | exact wr1 (by omega) | (simp only [zz, reduceCtorEq] <;> first | done | rfl | omega) | omega | rfl) | exact rfl | exact (fun _ => rfl) | exact (fun _ _ => rfl) | exact nof))) (ai trivial (ai (hpre) ?_)))))))
  refine ai (ai (fun _ => trivial) ?_) trivial
  show decide (0 ≤ (if v ∈ L then _ else (-1 : Int))) = decide (v ∈ L)
  apply decide_eq_decide.2
  by_cases h : v ∈ L
  · rw [if_pos h]; simp [h]
  · rw [if_neg h]; simp [h]

/-- the first fault of an order -/
def renE (n : Int) (l : List Int) : Nat → Int
  | 0 => 0
  | k + 1 => if renE n l k = 0 then (if l.getD k 0 < 0 ∨ n ≤ l.getD k 0 then 2 else if l.getD k 0 ∈ l.take k then 7 else 0) else renE n l k
theorem renE_stay {n : Int} {l : List Int} {k : Nat} (h : renE n l k ≠ 0) : ∀ m, k ≤ m → renE n l m = renE n l k
  | 0, hm => by obtain rfl : k = 0 := by omega
                rfl
  | m + 1, hm => by
    by_cases e : k = m + 1
    · rw [e]
    · have := renE_stay h m (by omega)
      rw [renE, if_neg (by rw [this]; exact h), this]
theorem renE_all {n : Int} {l : List Int} {m : Nat} (h : renE n l m = 0) {k : Nat} (hk : k < m) : 0 ≤ l.getD k 0 ∧ l.getD k 0 < n := by
  have h1 : renE n l (k + 1) = 0 := Classical.byContradiction fun hne => by
    have := renE_stay hne m hk
    rw [h] at this; exact hne this.symm
  rw [renE] at h1
  split at h1
  · split at h1
    · cases h1
    · rename_i h2; omega
  · rename_i h2; exact absurd h1 h2
/-- a point, its bits in another order -/
def renY (l : List Int) (x : Nat) : Nat → Nat
  | 0 => 0
  | k + 1 => renY l x k ||| (if x.testBit (l.getD k 0).toNat then 2 ^ k else 0)
theorem renY_lt (l : List Int) (x : Nat) : ∀ k, renY l x k < 2 ^ k
  | 0 => Nat.zero_lt_one
  | k + 1 => by
    rw [renY]
    refine Nat.or_lt_two_pow (Nat.lt_of_lt_of_le (renY_lt l x k) (Nat.pow_le_pow_right (by decide) (by omega))) ?_
    split
    · exact Nat.pow_lt_pow_right (by decide) (by omega)
    · exact Nat.two_pow_pos _
/-- the word of what holds below a number -/
def bitsU (q : Nat → Bool) : Nat → U
  | 0 => 0#64
  | m + 1 => if q m then bitsU q m ||| 1#64 <<< m else bitsU q m
theorem made_bits (q : Nat → Bool) (N : Nat) : madeU ((List.range N).filter q) N = bitsU q N := by
  have step : ∀ m, m ≤ N → madeU ((List.range N).filter q) m = bitsU q m := fun m => by
    induction m with
    | zero => intro _; rfl
    | succ m ih =>
      intro hm
      rw [madeU, bitsU, ih (by omega)]
      have hmem : m ∈ (List.range N).filter q ↔ q m = true := by
        rw [List.mem_filter]
        exact ⟨fun h => h.2, fun h => ⟨List.mem_range.2 (by omega), h⟩⟩
      by_cases hh : q m = true
      · rw [if_pos (hmem.2 hh), if_pos hh]
      · rw [if_neg (fun q => hh (hmem.1 q)), if_neg hh]
  exact step _ (Nat.le_refl _)

theorem and1_i {k i : Nat} (hk : k < 9223372036854775808) (hi : i ≤ 63) : bits .and .i64 ((k : Int).fdiv (2 ^ min i IntKind.i64.bits)) 1 = ((if k.testBit i then 1 else 0 : Nat) : Int) := by
  have e1 : (k : Int).fdiv (2 ^ min i IntKind.i64.bits) = ((k / 2 ^ i : Nat) : Int) := by
    have : min i IntKind.i64.bits = i := by show min i 64 = i; omega
    rw [this, show ((2 : Int) ^ i) = ((2 ^ i : Nat) : Int) by rw [Int.natCast_pow]; rfl]
    exact (Int.ofNat_fdiv k (2 ^ i)).symm
  have e2 := i_and (a := k / 2 ^ i) (b := 1) (Nat.lt_of_le_of_lt (Nat.div_le_self _ _) hk)
  rw [e1]
  show bits .and .i64 ((k / 2 ^ i : Nat) : Int) ((1 : Nat) : Int) = _
  rw [e2, BitVec.toNat_and, BitVec.toNat_ofNat, BitVec.toNat_ofNat, Nat.testBit_eq_decide_div_mod_eq]
  rw [Nat.mod_eq_of_lt (show k / 2 ^ i < 2 ^ 64 from Nat.lt_of_le_of_lt (Nat.div_le_self _ _) (by omega)), show 1 % 2 ^ 64 = 1 from rfl, Nat.and_one_is_mod]
  by_cases h : k / 2 ^ i % 2 = 1
  · simp [h]
  · have h0 : k / 2 ^ i % 2 = 0 := by omega
    simp [h0]
theorem ren_step {x k y v : Nat} (hx : x < 64) (hk : k < 6) (hy : y < 64) (hv : v ≤ 63) :
    bits .or .i64 (y : Int) (IntKind.i64.wrap (bits .and .i64 ((x : Int).fdiv (2 ^ min v IntKind.i64.bits)) 1 * 2 ^ min (k : Int).toNat IntKind.i64.bits)) = ((y ||| (if x.testBit v then 2 ^ k else 0) : Nat) : Int) := by
  have h2 : 2 ^ k ≤ 2 ^ 6 := Nat.pow_le_pow_right (by decide) (by omega)
  rw [and1_i (by omega) hv]
  cases x.testBit v with
  | true =>
    show bits .or .i64 (y : Int) (IntKind.i64.wrap (1 * 2 ^ min (k : Int).toNat IntKind.i64.bits)) = _
    rw [pow6 (show k ≤ 6 by omega), i_or (by omega) (by omega)]; rfl
  | false =>
    show bits .or .i64 (y : Int) (IntKind.i64.wrap (0 * 2 ^ min (k : Int).toNat IntKind.i64.bits)) = _
    rw [Int.zero_mul, show IntKind.i64.wrap 0 = ((0 : Nat) : Int) from i_wrap_nat (by decide), i_or (by omega) (by decide)]; rfl

theorem tat_ok : FnOk Tryz.prog 49 atS := by
  refine fnOk (Tb := tab) mixed tab_ok Tryz.func49 rfl rfl ?_
  rintro ⟨t, k⟩ hpre
  refine ai (ai rfl (ai rfl rfl)) ?_
  refine ai (Int.natCast_nonneg _) ?_
  refine ai (ai (fun _ => (by (repeat' (first | exact rfl | exact trivial | exact (fun _ => rfl) | exact (fun _ _ => rfl) | exact nof | refine ai ?_ ?_)))) ?_) trivial
  show (bits .and .u64 ((t.bits.toNat : Int).fdiv (2 ^ min (k : Int).toNat IntKind.u64.bits)) 1 == 1) = atT t k
  try simp only [zz, reduceCtorEq]
  rfl
def ordB (l : List Int) : Ob := .cells 36 [isA l]
def tabB (n : Int) (b : U) : Ob := .cells 25 [iA n, uA b]
def renQ (l : List Int) (n : Int) (b : U) (x : Nat) : Bool := b.getLsbD (renY l x l.length)
def renCl (l : List Int) (n : Int) (b : U) : Spec := { A := Nat, args := fun x => [iA x, .own 0 0, .own 1 0], objs := fun _ => [ordB l, tabB n b], pre := fun x => x < 64, res := fun x => bP (renQ l n b x), objs' := fun _ => [], fresh := true, ro := 2 }
theorem ren1_ok {l : List Int} {n : Int} {b : U} (hl : l.length ≤ 6) (hv : ∀ k, k < l.length → 0 ≤ l.getD k 0 ∧ l.getD k 0 < 64) : FnOk Tryz.prog 48 (renCl l n b) := by
  refine fnOk (Tb := tab) mixed tab_ok Tryz.func48 rfl rfl ?_
  rintro (x : Nat) hpre
  refine ai (ai rfl (ai rfl rfl)) ?_
  have hx : x < 64 := hpre
  refine ei (LAnn.inv { X := Nat, up := fun k => [(10, .s (iA k)), (5, .s (iA (renY l x k)))], uo := fun k => [], inv := fun k => k ≤ l.length ∧ (True), meas := fun k => l.length - k, x0 := 0 }) ?_
  refine ai (ai (ai (by (repeat' (first | exact rfl | exact trivial | exact (fun _ => rfl) | exact (fun _ _ => rfl) | exact nof | refine ai ?_ ?_))) (ai (by (repeat' (first | with_reducible rfl | exact trivial | refine ai ?_ ?_ | (show (_ : Int) = _; first | with_reducible rfl | exact wr1 (by omega) | (simp only [zz, reduceCtorEq] <;> first | done | rfl | omega) | omega | rfl) | exact rfl | exact (fun _ => rfl) | exact (fun _ _ => rfl) | exact nof))) (by (repeat' (first | with_reducible rfl | exact trivial | refine ai ?_ ?_ | (show (_ : Int) = _; first | with_reducible rfl | exact wr1 (by omega) | (simp only [zz, reduceCtorEq] <;> first | done | rfl | omega) | omega | rfl) | exact rfl | exact (fun _ => rfl) | exact (fun _ _ => rfl) | exact nof))))) rfl) (ai (ai (Nat.zero_le _) ?_) ?_)
  · trivial
  intro (k : Nat) ⟨hk, _⟩
  refine bcase_p (p := k < l.length) (by first | (with_reducible refine bif_lt ?_; omega) | (with_reducible refine bif_le ?_; omega) | (with_reducible refine bif_eq ?_; omega) | (with_reducible refine bif_ne ?_; omega) | exact b8_eq rfl | exact b8_ne rfl | exact bif_lt (by omega) | exact bif_le (by omega) | exact bif_eq (by omega) | exact bif_ne (by omega) | exact Iff.rfl | (simp only [zz, reduceCtorEq] <;> first | done | omega | exact Iff.rfl) | (simp; done) | (simp; omega)) (fun h1 => ?_) (fun h1 => ?_)
  · refine ai (ai (Int.natCast_nonneg _) (by show (k : Int) < (l.length : Int); omega)) ?_
    refine ai rfl ?_
    obtain ⟨h2, h3⟩ := hv k h1
    refine ai h2 ?_
    refine ai (Int.natCast_nonneg _) ?_
    have hy := renY_lt l x k
    have hp : 2 ^ k ≤ 2 ^ 6 := Nat.pow_le_pow_right (by decide) (by omega)
    refine ei (k + 1) (ai (ai rfl rfl) (ai (ai ?_ rfl) (ai (ai (by show k + 1 ≤ l.length; omega) ?_) (by show l.length - (k + 1) < l.length - k; omega))))
    any_goals (repeat' (first | with_reducible rfl | exact trivial | refine ai ?_ ?_ | (show (_ : Int) = _; first | with_reducible rfl | exact wr1 (by omega) | (simp only [zz, reduceCtorEq] <;> first | done | rfl | omega) | omega | rfl) | exact rfl | exact (fun _ => rfl) | exact (fun _ _ => rfl) | exact nof))
    exact ren_step hx (show k < 6 by omega) (show renY l x k < 64 by omega) (show (l.getD k 0).toNat ≤ 63 by omega)
  · obtain rfl : k = l.length := by omega
    refine ei _ (ai tat_ok (ei ((⟨n, b⟩, renY l x l.length)) (ei [] (ai (ai rfl (ai rfl (ai rfl (ai rfl (ai (fun _ => Or.inl rfl) (ai (by first | exact nof | exact (fun _ => ai rfl rfl)) (by first | exact Or.inl rfl | exact Or.inr rfl))))))) (ai (by (repeat' (first | with_reducible rfl | exact trivial | refine ai ?_ ?_ | (show (_ : Int) = _; first | with_reducible rfl | exact wr1 (by omega) | (simp only [zz, reduceCtorEq] <;> first | done | rfl | omega) | omega | rfl) | exact rfl | exact (fun _ => rfl) | exact (fun _ _ => rfl) | exact nof))) (ai trivial (ai (trivial) ?_)))))))
    refine ai (ai (fun _ => (by (repeat' (first | exact rfl | exact trivial | exact (fun _ => rfl) | exact (fun _ _ => rfl) | exact nof | refine ai ?_ ?_)))) ?_) trivial
    any_goals (repeat' (first | with_reducible rfl | exact trivial | refine ai ?_ ?_ | (show (_ : Int) = _; first | with_reducible rfl | exact wr1 (by omega) | (simp only [zz, reduceCtorEq] <;> first | done | rfl | omega) | omega | rfl) | exact rfl | exact (fun _ => rfl) | exact (fun _ _ => rfl) | exact nof))
def madeRS (g : Nat) (l : List Int) (n : Int) (b : U) : Spec := { A := Nat, args := fun m => [iA m, .fn g [.own 0 0, .own 1 0]], objs := fun _ => [ordB l, tabB n b], pre := fun m => m ≤ 6, res := fun m => tP ⟨m, bitsU (renQ l n b) (2 ^ m)⟩, objs' := fun _ => [], fresh := true, ro := 2 }
theorem madeR_ok {l : List Int} {N : Int} {b : U} (hl : l.length ≤ 6) (hv : ∀ k, k < l.length → 0 ≤ l.getD k 0 ∧ l.getD k 0 < 64) : FnOk Tryz.prog 47 (madeRS 48 l N b) := by
  refine fnOk (Tb := tab) mixed tab_ok Tryz.func47 rfl rfl ?_
  rintro (n : Nat) hpre
  refine ai (ai rfl (ai rfl rfl)) ?_
  have hn : n ≤ 6 := hpre
  have h64 := pow_le64 hn
  refine ei _ (ai tpoints_ok (ei (n) (ei [] (ai (ai rfl (ai rfl (ai rfl (ai rfl (ai (fun _ => Or.inl rfl) (ai (by first | exact nof | exact (fun _ => ai rfl rfl)) (by first | exact Or.inl rfl | exact Or.inr rfl))))))) (ai (by (repeat' (first | with_reducible rfl | exact trivial | refine ai ?_ ?_ | (show (_ : Int) = _; first | with_reducible rfl | exact wr1 (by omega) | (simp only [zz, reduceCtorEq] <;> first | done | rfl | omega) | omega | rfl) | exact rfl | exact (fun _ => rfl) | exact (fun _ _ => rfl) | exact nof))) (ai trivial (ai (trivial) ?_)))))))
  refine ai (ai rfl rfl) (ei pointsIt (ai pointsIt_ok (ei n (ai ?_ (ai hn (ai ?_ (ei { X := Nat, uo := fun k => [⟨4, 25, [.s (iA n), .s (uA (bitsU (renQ l N b) k))]⟩], inv := fun k y => y = k, x0 := 0 } (ai ?_ (ai ?_ (ai rfl (ai ?_ ?_)))))))))))
  · skip
    (repeat' (first | exact rfl | exact trivial | exact (fun _ => rfl) | exact (fun _ _ => rfl) | exact nof | refine ai ?_ ?_))
  · intro v hv
    obtain ⟨c, _, rfl⟩ := List.mem_map.1 hv
    rfl
  · skip
    (repeat' (first | exact rfl | exact trivial | exact (fun _ => rfl) | exact (fun _ _ => rfl) | exact nof | refine ai ?_ ?_))
  · skip
    (repeat' (first | exact rfl | exact trivial | exact (fun _ => rfl) | exact (fun _ _ => rfl) | exact nof | refine ai ?_ ?_))
  · intro (k : Nat) (y : Nat) vs (hy : y = k) hvs
    subst hy
    have hvs : ((List.range (2 ^ n)).map fun k => [iV k])[y]? = some vs := hvs
    rw [List.getElem?_map] at hvs
    cases hc : (List.range (2 ^ n))[y]? with
    | none => rw [hc] at hvs; cases hvs
    | some c =>
      rw [hc] at hvs
      simp only [Option.map_some, Option.some.injEq] at hvs
      have hy : y < 2 ^ n := by simpa using (List.getElem?_eq_some_iff.1 hc).1
      have hcy : y = c := by simpa [hy] using hc
      subst hcy
      subst hvs
      refine ei _ (ai (ren1_ok hl hv) (ei (y) (ei [0, 1] (ai (ai rfl (ai rfl (ai rfl (ai rfl (ai (by first | exact (fun _ => Or.inl rfl) | exact nof | exact (fun _ => Or.inr (by (repeat' (first | exact rfl | exact trivial | exact (fun _ => rfl) | exact (fun _ _ => rfl) | exact nof | refine ai ?_ ?_))))) (ai (by first | exact nof | exact (fun _ => ai rfl rfl)) (by first | exact Or.inl rfl | exact Or.inr rfl))))))) (ai (by (repeat' (first | with_reducible rfl | exact trivial | refine ai ?_ ?_ | (show (_ : Int) = _; first | with_reducible rfl | exact wr1 (by omega) | (simp only [zz, reduceCtorEq] <;> first | done | rfl | omega) | omega | rfl) | exact rfl | exact (fun _ => rfl) | exact (fun _ _ => rfl) | exact nof))) (ai (by (repeat' (first | with_reducible rfl | exact trivial | refine ai ?_ ?_ | (show (_ : Int) = _; first | with_reducible rfl | exact wr1 (by omega) | (simp only [zz, reduceCtorEq] <;> first | done | rfl | omega) | omega | rfl) | exact rfl | exact (fun _ => rfl) | exact (fun _ _ => rfl) | exact nof))) (ai ((by show y < 64; omega)) ?_)))))))
      refine bcase_b (b := renQ l N b y) (by first | exact rfl | (simp only [zz, reduceCtorEq] <;> first | done | exact rfl)) (fun h1 => ?_) (fun h1 => ?_)
      · skip
        refine ei (.seq [0, 1, 2, 3, 4, 5, 6]) (ai (by kernel_rfl) ?_)
        repeat (refine ai (by first | exact Int.natCast_nonneg _ | omega | exact ai (Int.natCast_nonneg _) (by omega)) ?_)
        refine ei (y + 1) (ai rfl (ai ?_ rfl))
        (repeat' (first | exact rfl | exact trivial | exact (fun _ => rfl) | exact (fun _ _ => rfl) | exact nof | refine ai ?_ ?_))
        (rw [show bitsU (renQ l N b) (y + 1) = bitsU (renQ l N b) y ||| 1#64 <<< y by rw [bitsU, if_pos h1]]; show (_ : Int) = _; first | rfl | simp only [zz, reduceCtorEq])
      · refine ei (y + 1) (ai rfl (ai ?_ rfl))
        (repeat' (first | exact rfl | exact trivial | exact (fun _ => rfl) | exact (fun _ _ => rfl) | exact nof | refine ai ?_ ?_))
        (rw [show bitsU (renQ l N b) (y + 1) = bitsU (renQ l N b) y by rw [bitsU, h1]; rfl]; show (_ : Int) = _; first | rfl | simp only [zz, reduceCtorEq])
  · intro y (hy : y = ((List.range (2 ^ n)).map fun k => [iV k]).length)
    have hy : y = 2 ^ n := by simpa using hy
    subst hy
    refine ai (ai (fun _ => (by (repeat' (first | exact rfl | exact trivial | exact (fun _ => rfl) | exact (fun _ _ => rfl) | exact nof | refine ai ?_ ?_)))) ?_) trivial
    (repeat' (first | exact rfl | exact trivial | exact (fun _ => rfl) | exact (fun _ _ => rfl) | exact nof | refine ai ?_ ?_))

def renC (t : Tb) (l : List Int) : Tb × Int :=
  if chkT t = 0 then (if (l.length : Int) = t.n then (if renE t.n l l.length = 0 then (⟨t.n, bitsU (renQ l t.n t.bits) (2 ^ t.n.toNat)⟩, 0) else (⟨0, 0#64⟩, renE t.n l l.length)) else (⟨0, 0#64⟩, 8)) else (⟨0, 0#64⟩, chkT t)
def renS : Spec := fnS (fun x : Tb × List Int => [tA x.1, isA x.2]) (fun x => x.2.length ≤ 1000000) (fun x => resT (renC x.1 x.2))
theorem ren_ok : FnOk Tryz.prog 21 renS := by
  refine fnOk (Tb := tab) mixed tab_ok Tryz.func21 rfl rfl ?_
  rintro ⟨t, l⟩ hpre
  refine ai (ai rfl (ai rfl rfl)) ?_
  have hl : l.length ≤ 1000000 := hpre
  refine ei _ (ai tcheck_ok (ei (t) (ei [] (ai (ai rfl (ai rfl (ai rfl (ai rfl (ai (fun _ => Or.inl rfl) (ai (by first | exact nof | exact (fun _ => ai rfl rfl)) (by first | exact Or.inl rfl | exact Or.inr rfl))))))) (ai (by (repeat' (first | with_reducible rfl | exact trivial | refine ai ?_ ?_ | (show (_ : Int) = _; first | with_reducible rfl | exact wr1 (by omega) | (simp only [zz, reduceCtorEq] <;> first | done | rfl | omega) | omega | rfl) | exact rfl | exact (fun _ => rfl) | exact (fun _ _ => rfl) | exact nof))) (ai trivial (ai (trivial) ?_)))))))
  refine bcase_n (p := chkT t = 0) (by first | (with_reducible refine bif_lt ?_; omega) | (with_reducible refine bif_le ?_; omega) | (with_reducible refine bif_eq ?_; omega) | (with_reducible refine bif_ne ?_; omega) | exact b8_eq rfl | exact b8_ne rfl | exact bif_lt (by omega) | exact bif_le (by omega) | exact bif_eq (by omega) | exact bif_ne (by omega) | exact Iff.rfl | (simp only [zz, reduceCtorEq] <;> first | done | omega | exact Iff.rfl) | (simp; done) | (simp; omega)) (fun h1 => ?_) (fun h1 => ?_)
  · skip
    refine ai (ai (fun _ => (by (repeat' (first | exact rfl | exact trivial | exact (fun _ => rfl) | exact (fun _ _ => rfl) | exact nof | refine ai ?_ ?_)))) ?_) trivial
    show ple _ (resT (renC t l))
    rw [show renC t l = (⟨0, 0#64⟩, chkT t) by simp [renC, h1]]
    any_goals (repeat' (first | with_reducible rfl | exact trivial | refine ai ?_ ?_ | (show (_ : Int) = _; first | with_reducible rfl | exact wr1 (by omega) | (simp only [zz, reduceCtorEq] <;> first | done | rfl | omega) | omega | rfl) | exact rfl | exact (fun _ => rfl) | exact (fun _ _ => rfl) | exact nof))
  refine bcase_n (p := (l.length : Int) = t.n) (by first | (with_reducible refine bif_lt ?_; omega) | (with_reducible refine bif_le ?_; omega) | (with_reducible refine bif_eq ?_; omega) | (with_reducible refine bif_ne ?_; omega) | exact b8_eq rfl | exact b8_ne rfl | exact bif_lt (by omega) | exact bif_le (by omega) | exact bif_eq (by omega) | exact bif_ne (by omega) | exact Iff.rfl | (simp only [zz, reduceCtorEq] <;> first | done | omega | exact Iff.rfl) | (simp; done) | (simp; omega)) (fun h2 => ?_) (fun h2 => ?_)
  · skip
    refine ai (ai (fun _ => (by (repeat' (first | exact rfl | exact trivial | exact (fun _ => rfl) | exact (fun _ _ => rfl) | exact nof | refine ai ?_ ?_)))) ?_) trivial
    show ple _ (resT (renC t l))
    rw [show renC t l = (⟨0, 0#64⟩, 8) by simp [renC, h1, h2]]
    any_goals (repeat' (first | with_reducible rfl | exact trivial | refine ai ?_ ?_ | (show (_ : Int) = _; first | with_reducible rfl | exact wr1 (by omega) | (simp only [zz, reduceCtorEq] <;> first | done | rfl | omega) | omega | rfl) | exact rfl | exact (fun _ => rfl) | exact (fun _ _ => rfl) | exact nof))
  obtain ⟨n, hn, hx, _⟩ := chkT_zero h1
  have hln : l.length = n := by omega
  refine ei (LAnn.inv { X := Nat, up := fun k => [(23, .s (iA k))], uo := fun k => [], inv := fun k => k ≤ l.length ∧ (renE t.n l k = 0), meas := fun k => l.length - k, x0 := 0 }) ?_
  refine ai (ai (ai (by (repeat' (first | exact rfl | exact trivial | exact (fun _ => rfl) | exact (fun _ _ => rfl) | exact nof | refine ai ?_ ?_))) (ai (by (repeat' (first | with_reducible rfl | exact trivial | refine ai ?_ ?_ | (show (_ : Int) = _; first | with_reducible rfl | exact wr1 (by omega) | (simp only [zz, reduceCtorEq] <;> first | done | rfl | omega) | omega | rfl) | exact rfl | exact (fun _ => rfl) | exact (fun _ _ => rfl) | exact nof))) (by (repeat' (first | with_reducible rfl | exact trivial | refine ai ?_ ?_ | (show (_ : Int) = _; first | with_reducible rfl | exact wr1 (by omega) | (simp only [zz, reduceCtorEq] <;> first | done | rfl | omega) | omega | rfl) | exact rfl | exact (fun _ => rfl) | exact (fun _ _ => rfl) | exact nof))))) rfl) (ai (ai (Nat.zero_le _) ?_) ?_)
  · rfl
  intro (k : Nat) ⟨hk, hz⟩
  have stop : ∀ e : Int, renE t.n l (k + 1) = e → e ≠ 0 → k < l.length → renC t l = (⟨0, 0#64⟩, e) := fun e he hne hlt => by
    have := renE_stay (by rw [he]; exact hne) l.length hlt
    rw [renC, if_pos h1, if_pos h2, this, he, if_neg hne]
  refine bcase_p (p := k < l.length) (by first | (with_reducible refine bif_lt ?_; omega) | (with_reducible refine bif_le ?_; omega) | (with_reducible refine bif_eq ?_; omega) | (with_reducible refine bif_ne ?_; omega) | exact b8_eq rfl | exact b8_ne rfl | exact bif_lt (by omega) | exact bif_le (by omega) | exact bif_eq (by omega) | exact bif_ne (by omega) | exact Iff.rfl | (simp only [zz, reduceCtorEq] <;> first | done | omega | exact Iff.rfl) | (simp; done) | (simp; omega)) (fun h3 => ?_) (fun h3 => ?_)
  · refine ai (ai (Int.natCast_nonneg _) (by show (k : Int) < (l.length : Int); omega)) ?_
    refine ai rfl ?_
    have hs : renE t.n l (k + 1) = if l.getD k 0 < 0 ∨ t.n ≤ l.getD k 0 then 2 else if l.getD k 0 ∈ l.take k then 7 else 0 := by rw [renE, if_pos hz]
    refine bcase_p (p := l.getD k 0 < 0) (by first | (with_reducible refine bif_lt ?_; omega) | (with_reducible refine bif_le ?_; omega) | (with_reducible refine bif_eq ?_; omega) | (with_reducible refine bif_ne ?_; omega) | exact b8_eq rfl | exact b8_ne rfl | exact bif_lt (by omega) | exact bif_le (by omega) | exact bif_eq (by omega) | exact bif_ne (by omega) | exact Iff.rfl | (simp only [zz, reduceCtorEq] <;> first | done | omega | exact Iff.rfl) | (simp; done) | (simp; omega)) (fun h4 => ?_) (fun h4 => ?_)
    · skip
      refine ai (ai (fun _ => (by (repeat' (first | exact rfl | exact trivial | exact (fun _ => rfl) | exact (fun _ _ => rfl) | exact nof | refine ai ?_ ?_)))) ?_) trivial
      show ple _ (resT (renC t l))
      rw [stop 2 (by rw [hs, if_pos (.inl h4)]) (by decide) h3]
      any_goals (repeat' (first | with_reducible rfl | exact trivial | refine ai ?_ ?_ | (show (_ : Int) = _; first | with_reducible rfl | exact wr1 (by omega) | (simp only [zz, reduceCtorEq] <;> first | done | rfl | omega) | omega | rfl) | exact rfl | exact (fun _ => rfl) | exact (fun _ _ => rfl) | exact nof))
    refine bcase_p (p := t.n ≤ l.getD k 0) (by first | (with_reducible refine bif_lt ?_; omega) | (with_reducible refine bif_le ?_; omega) | (with_reducible refine bif_eq ?_; omega) | (with_reducible refine bif_ne ?_; omega) | exact b8_eq rfl | exact b8_ne rfl | exact bif_lt (by omega) | exact bif_le (by omega) | exact bif_eq (by omega) | exact bif_ne (by omega) | exact Iff.rfl | (simp only [zz, reduceCtorEq] <;> first | done | omega | exact Iff.rfl) | (simp; done) | (simp; omega)) (fun h5 => ?_) (fun h5 => ?_)
    · skip
      refine ai (ai (fun _ => (by (repeat' (first | exact rfl | exact trivial | exact (fun _ => rfl) | exact (fun _ _ => rfl) | exact nof | refine ai ?_ ?_)))) ?_) trivial
      show ple _ (resT (renC t l))
      rw [stop 2 (by rw [hs, if_pos (.inr h5)]) (by decide) h3]
      any_goals (repeat' (first | with_reducible rfl | exact trivial | refine ai ?_ ?_ | (show (_ : Int) = _; first | with_reducible rfl | exact wr1 (by omega) | (simp only [zz, reduceCtorEq] <;> first | done | rfl | omega) | omega | rfl) | exact rfl | exact (fun _ => rfl) | exact (fun _ _ => rfl) | exact nof))
    rw [if_neg (show ¬ (l.getD k 0 < 0 ∨ t.n ≤ l.getD k 0) from fun h => h.elim h4 h5)] at hs
    refine ai (ai (Int.le_refl _) (ai (Int.natCast_nonneg _) (by show (k : Int) ≤ (l.length : Int); omega))) ?_
    refine ai (fun _ _ => rfl) ?_
    refine ei _ (ai contI_ok (ei ((l.take k, l.getD k 0)) (ei [] (ai (ai rfl (ai rfl (ai rfl (ai rfl (ai (fun _ => Or.inl rfl) (ai (by first | exact nof | exact (fun _ => ai rfl rfl)) (by first | exact Or.inl rfl | exact Or.inr rfl))))))) (ai ?_ (ai trivial (ai ?_ ?_)))))))
    · skip
      (repeat' (first | exact rfl | exact trivial | exact (fun _ => rfl) | exact (fun _ _ => rfl) | exact nof | refine ai ?_ ?_))
      · show k - 0 = (l.take k).length
        rw [List.length_take]; omega
      · intro j hj
        have hj : j < k - 0 := hj
        show [iP (l.getD (0 + j) 0)] = [iP ((l.take k).getD j 0)]
        rw [Nat.zero_add, List.getD_eq_getElem?_getD, List.getD_eq_getElem?_getD, List.getElem?_take, if_pos (by omega)]
    · show (l.take k).length ≤ 1000000
      rw [List.length_take]; omega
    refine bcase_p (p := l.getD k 0 ∈ l.take k) (by first | (with_reducible refine bif_lt ?_; omega) | (with_reducible refine bif_le ?_; omega) | (with_reducible refine bif_eq ?_; omega) | (with_reducible refine bif_ne ?_; omega) | exact b8_eq rfl | exact b8_ne rfl | exact bif_lt (by omega) | exact bif_le (by omega) | exact bif_eq (by omega) | exact bif_ne (by omega) | exact Iff.rfl | (simp only [zz, reduceCtorEq] <;> first | done | omega | exact Iff.rfl) | (simp; done) | (simp; omega)) (fun h6 => ?_) (fun h6 => ?_)
    · skip
      refine ai (ai (fun _ => (by (repeat' (first | exact rfl | exact trivial | exact (fun _ => rfl) | exact (fun _ _ => rfl) | exact nof | refine ai ?_ ?_)))) ?_) trivial
      show ple _ (resT (renC t l))
      rw [stop 7 (by rw [hs, if_pos h6]) (by decide) h3]
      any_goals (repeat' (first | with_reducible rfl | exact trivial | refine ai ?_ ?_ | (show (_ : Int) = _; first | with_reducible rfl | exact wr1 (by omega) | (simp only [zz, reduceCtorEq] <;> first | done | rfl | omega) | omega | rfl) | exact rfl | exact (fun _ => rfl) | exact (fun _ _ => rfl) | exact nof))
    refine ei (k + 1) (ai (ai rfl rfl) (ai (ai ?_ rfl) (ai (ai (by show k + 1 ≤ l.length; omega) ?_) (by show l.length - (k + 1) < l.length - k; omega))))
    any_goals (repeat' (first | with_reducible rfl | exact trivial | refine ai ?_ ?_ | (show (_ : Int) = _; first | with_reducible rfl | exact wr1 (by omega) | (simp only [zz, reduceCtorEq] <;> first | done | rfl | omega) | omega | rfl) | exact rfl | exact (fun _ => rfl) | exact (fun _ _ => rfl) | exact nof))
    rw [hs, if_neg h6]
  · obtain rfl : k = l.length := by omega
    have hv : ∀ j, j < l.length → 0 ≤ l.getD j 0 ∧ l.getD j 0 < 64 := fun j hj => by
      have := renE_all hz hj; omega
    refine ei _ (ai (madeR_ok (N := t.n) (b := t.bits) (by omega) hv) (ei (n) (ei [1, 0] (ai (ai rfl (ai rfl (ai rfl (ai rfl (ai (by first | exact (fun _ => Or.inl rfl) | exact nof | exact (fun _ => Or.inr (by (repeat' (first | exact rfl | exact trivial | exact (fun _ => rfl) | exact (fun _ _ => rfl) | exact nof | refine ai ?_ ?_))))) (ai (by first | exact nof | exact (fun _ => ai rfl rfl)) (by first | exact Or.inl rfl | exact Or.inr rfl))))))) (ai (by (repeat' (first | with_reducible rfl | exact trivial | refine ai ?_ ?_ | (show (_ : Int) = _; first | with_reducible rfl | exact wr1 (by omega) | (simp only [zz, reduceCtorEq] <;> first | done | rfl | omega) | omega | rfl) | exact rfl | exact (fun _ => rfl) | exact (fun _ _ => rfl) | exact nof))) (ai (by (repeat' (first | with_reducible rfl | exact trivial | refine ai ?_ ?_ | (show (_ : Int) = _; first | with_reducible rfl | exact wr1 (by omega) | (simp only [zz, reduceCtorEq] <;> first | done | rfl | omega) | omega | rfl) | exact rfl | exact (fun _ => rfl) | exact (fun _ _ => rfl) | exact nof))) (ai (hn) ?_)))))))
    refine ai (ai (fun _ => (by (repeat' (first | exact rfl | exact trivial | exact (fun _ => rfl) | exact (fun _ _ => rfl) | exact nof | refine ai ?_ ?_)))) ?_) trivial
    show ple _ (resT (renC t l))
    rw [show renC t l = (⟨t.n, bitsU (renQ l t.n t.bits) (2 ^ n)⟩, 0) by rw [renC, if_pos h1, if_pos h2, if_pos hz, hx, Int.toNat_natCast]]
    any_goals (repeat' (first | with_reducible rfl | exact trivial | refine ai ?_ ?_ | (show (_ : Int) = _; first | with_reducible rfl | exact wr1 (by omega) | (simp only [zz, reduceCtorEq] <;> first | done | rfl | omega) | omega | rfl) | exact rfl | exact (fun _ => rfl) | exact (fun _ _ => rfl) | exact nof))

end Go.Sx.Pn
