/- Contracts of chapter 4 by the executor: tables, points, constants. -/
import Derived.Test.YtmncplgccielbaaDoorTab
import Derived.Test.YtmncplgccielbaaDoorSxF
set_option maxHeartbeats 1000000
set_option maxRecDepth 4000
set_option linter.unusedSimpArgs false
set_option linter.unusedVariables false
set_option linter.unusedSectionVars false
namespace Go.Sx.Pn
open Go Go.Proofs

def iP (n : Int) : PV := .val (.int .i64 n)
def uP (n : U) : PV := .val (.int .u64 n.toNat)
def bP (b : Bool) : PV := .val (.bool b)
def iA (n : Int) : SV := .p false (.val (.int .i64 n))
def uA (n : U) : SV := .p false (.val (.int .u64 n.toNat))
def fnS {α : Type} (args : α → List SV) (pre : α → Prop) (res : α → PV) : Spec := { A := α, args := args, objs := fun _ => [], pre := pre, res := res, objs' := fun _ => [], fresh := true, ro := 0 }
theorem k1 : (1 : Int) = ((1#64 : U).toNat : Int) := rfl
theorem k0 : (0 : Int) = ((0#64 : U).toNat : Int) := rfl
theorem pow6 {n : Nat} (h : n ≤ 6) : IntKind.i64.wrap (1 * 2 ^ min (↑n : Int).toNat IntKind.i64.bits) = ((2 ^ n : Nat) : Int) := by
  obtain rfl | rfl | rfl | rfl | rfl | rfl | rfl : n = 0 ∨ n = 1 ∨ n = 2 ∨ n = 3 ∨ n = 4 ∨ n = 5 ∨ n = 6 := by omega
  all_goals rfl
theorem pow_le64 {n : Nat} (h : n ≤ 6) : 2 ^ n ≤ 64 := Nat.pow_le_pow_right (by omega) (show n ≤ 6 from h)
theorem wrap_i (n : Int) (h1 : -9223372036854775808 ≤ n) (h2 : n < 9223372036854775808) : IntKind.i64.wrap n = n := i_wrap h1 h2
structure Tb where
  n : Int
  bits : U
deriving DecidableEq
def tA (t : Tb) : SV := .p false (.agg [.val (.int .i64 t.n), .val (.int .u64 t.bits.toNat)])
def tP (t : Tb) : PV := .agg [.val (.int .i64 t.n), .val (.int .u64 t.bits.toNat)]
def sizedS : Spec := fnS (fun n : Int => [iA n]) (fun _ => True) (fun n => bP (decide (0 ≤ n) && decide (n ≤ 6)))
theorem sized_ok : FnOk Tryd.prog 26 sizedS := by
  refine fnOk (Tb := tab) mixed tab_ok Tryd.func26 rfl rfl ?_
  rintro (n : Int) hpre
  refine ai (ai rfl (ai rfl rfl)) ?_
  refine bcase_intro (fun h1 => ?_) (fun h1 => ?_)
  · skip
    refine ai (ai (fun _ => (by (repeat' (first | exact rfl | exact trivial | exact (fun _ => rfl) | exact (fun _ _ => rfl) | exact nof | refine ai ?_ ?_)))) ?_) trivial
    show decide (n ≤ 6) = (decide (0 ≤ n) && decide (n ≤ 6))
    have h1 : decide (0 ≤ n) = true := h1
    rw [h1]; rfl
  · skip
    refine ai (ai (fun _ => (by (repeat' (first | exact rfl | exact trivial | exact (fun _ => rfl) | exact (fun _ _ => rfl) | exact nof | refine ai ?_ ?_)))) ?_) trivial
    show false = (decide (0 ≤ n) && decide (n ≤ 6))
    have h1 : decide (0 ≤ n) = false := h1
    rw [h1]; rfl
/-- the points of n variables, as bits -/
def wholeU (n : Nat) : U := if n = 6 then 18446744073709551615#64 else (1#64 <<< (2 ^ n)) - 1#64
def wholeS : Spec := fnS (fun n : Nat => [iA n]) (fun n => n ≤ 6) (fun n => uP (wholeU n))
theorem whole_ok : FnOk Tryd.prog 33 wholeS := by
  refine fnOk (Tb := tab) mixed tab_ok Tryd.func33 rfl rfl ?_
  rintro (n : Nat) hpre
  refine ai (ai rfl (ai rfl rfl)) ?_
  have hn : n ≤ 6 := hpre
  refine bcase_intro (fun h1 => ?_) (fun h1 => ?_)
  · skip
    refine ai (ai (fun _ => (by (repeat' (first | exact rfl | exact trivial | exact (fun _ => rfl) | exact (fun _ _ => rfl) | exact nof | refine ai ?_ ?_)))) ?_) trivial
    show (18446744073709551615 : Int) = ((wholeU n).toNat : Int)
    have h1 : ((n : Int) == 6) = true := h1
    have : n = 6 := by have := eq_of_beq h1; omega
    subst this; rfl
  · have h1 : ((n : Int) == 6) = false := h1
    have h6 : n ≠ 6 := by intro e; subst e; cases h1
    refine ai (Int.natCast_nonneg _) ?_
    refine ai ?_ ?_
    · show (0 : Int) ≤ IntKind.u64.wrap _
      exact wrap_u64_nonneg _
    refine ai (ai (fun _ => (by (repeat' (first | exact rfl | exact trivial | exact (fun _ => rfl) | exact (fun _ _ => rfl) | exact nof | refine ai ?_ ?_)))) ?_) trivial
    show IntKind.u64.wrap (IntKind.u64.wrap (1 * 2 ^ min (IntKind.u64.wrap (1 * 2 ^ min (n : Int).toNat IntKind.u64.bits)).toNat IntKind.u64.bits) - 1) = ((wholeU n).toNat : Int)
    try simp only [zz, reduceCtorEq]
    simp only [wholeU, h6, if_false]
    congr 3
    obtain rfl | rfl | rfl | rfl | rfl | rfl : n = 0 ∨ n = 1 ∨ n = 2 ∨ n = 3 ∨ n = 4 ∨ n = 5 := by omega
    all_goals rfl
def chkT (t : Tb) : Int := if t.n < 0 then 2 else if 6 < t.n then 2 else if t.bits &&& ~~~ wholeU t.n.toNat = 0#64 then 0 else 3
def tcheckS : Spec := fnS (fun t : Tb => [tA t]) (fun _ => True) (fun t => iP (chkT t))
theorem tcheck_ok : FnOk Tryd.prog 16 tcheckS := by
  refine fnOk (Tb := tab) mixed tab_ok Tryd.func16 rfl rfl ?_
  rintro ⟨n, b⟩ hpre
  refine ai (ai rfl (ai rfl rfl)) ?_
  refine ei _ (ai sized_ok (ei (n) (ei [] (ai (ai rfl (ai rfl (ai rfl (ai rfl (ai (fun _ => Or.inl rfl) (ai (by first | exact nof | exact (fun _ => ai rfl rfl)) (by first | exact Or.inl rfl | exact Or.inr rfl))))))) (ai ?_ (ai trivial (ai ?_ ?_)))))))
  · skip
    (repeat' (first | exact rfl | exact trivial | exact (fun _ => rfl) | exact (fun _ _ => rfl) | exact nof | refine ai ?_ ?_))
  · trivial
  refine bcase_intro (fun h1 => ?_) (fun h1 => ?_)
  · skip
    refine ai (ai (fun _ => (by (repeat' (first | exact rfl | exact trivial | exact (fun _ => rfl) | exact (fun _ _ => rfl) | exact nof | refine ai ?_ ?_)))) ?_) trivial
    show (2 : Int) = chkT ⟨n, b⟩
    have h1 : (!(decide (0 ≤ n) && decide (n ≤ 6))) = true := h1
    simp only [chkT]
    by_cases h : n < 0
    · simp [h]
    · have : ¬ n ≤ 6 := by intro h6; simp [show 0 ≤ n by omega, h6] at h1
      simp [h, show 6 < n by omega]
  · have h1 : (!(decide (0 ≤ n) && decide (n ≤ 6))) = false := h1
    have h2 : 0 ≤ n ∧ n ≤ 6 := by simpa using h1
    refine ei (.seq [0, 1, 2, 3, 4, 5, 6, 7]) (ai (by kernel_rfl) ?_)
    refine ei _ (ai whole_ok (ei (n.toNat) (ei [] (ai (ai rfl (ai rfl (ai rfl (ai rfl (ai (fun _ => Or.inl rfl) (ai (by first | exact nof | exact (fun _ => ai rfl rfl)) (by first | exact Or.inl rfl | exact Or.inr rfl))))))) (ai ?_ (ai trivial (ai ?_ ?_)))))))
    · show n = (n.toNat : Int); omega
    · show n.toNat ≤ 6; omega
    have e1 : ¬ n < 0 := by omega
    have e2 : ¬ 6 < n := by omega
    refine bcase_intro (fun h3 => ?_) (fun h3 => ?_)
    · skip
      refine ai (ai (fun _ => (by (repeat' (first | exact rfl | exact trivial | exact (fun _ => rfl) | exact (fun _ _ => rfl) | exact nof | refine ai ?_ ?_)))) ?_) trivial
      show (3 : Int) = chkT ⟨n, b⟩
      have h3 : (bits .andNot .u64 b.toNat (wholeU n.toNat).toNat != 0) = true := h3
      try simp only [zz, reduceCtorEq] at h3
      simp [chkT, e1, e2, h3]
    · skip
      refine ai (ai (fun _ => (by (repeat' (first | exact rfl | exact trivial | exact (fun _ => rfl) | exact (fun _ _ => rfl) | exact nof | refine ai ?_ ?_)))) ?_) trivial
      show (0 : Int) = chkT ⟨n, b⟩
      have h3 : (bits .andNot .u64 b.toNat (wholeU n.toNat).toNat != 0) = false := h3
      try simp only [zz, reduceCtorEq] at h3
      simp [chkT, e1, e2, h3]
theorem chkT_zero {t : Tb} (h : chkT t = 0) : ∃ n : Nat, n ≤ 6 ∧ t.n = n ∧ t.bits &&& ~~~ wholeU n = 0#64 := by
  unfold chkT at h
  split at h
  · cases h
  · split at h
    · cases h
    · split at h
      · rename_i h1 h2 h3
        exact ⟨t.n.toNat, by omega, by omega, h3⟩
      · cases h
def sizeS : Spec := fnS (fun n : Nat => [iA n]) (fun n => n ≤ 6) (fun n => iP (2 ^ n : Nat))
theorem size_ok : FnOk Tryd.prog 10 sizeS := by
  refine fnOk (Tb := tab) mixed tab_ok Tryd.func10 rfl rfl ?_
  rintro (n : Nat) hpre
  refine ai (ai rfl (ai rfl rfl)) ?_
  refine ai (Int.natCast_nonneg _) ?_
  refine ai (ai (fun _ => (by (repeat' (first | exact rfl | exact trivial | exact (fun _ => rfl) | exact (fun _ _ => rfl) | exact nof | refine ai ?_ ?_)))) ?_) trivial
  exact pow6 hpre
def atT (t : Tb) (k : Nat) : Bool := t.bits.getLsbD k
def atS : Spec := fnS (fun x : Tb × Nat => [tA x.1, iA x.2]) (fun _ => True) (fun x => bP (atT x.1 x.2))
theorem wholeU_bit {n i : Nat} (h : n ≤ 6) (hi : i < 64) : (wholeU n).getLsbD i = decide (i < 2 ^ n) := by
  have e : wholeU n = BitVec.ofNat 64 (2 ^ (2 ^ n) - 1) := by
    obtain rfl | rfl | rfl | rfl | rfl | rfl | rfl : n = 0 ∨ n = 1 ∨ n = 2 ∨ n = 3 ∨ n = 4 ∨ n = 5 ∨ n = 6 := by omega
    all_goals rfl
  rw [e, BitVec.getLsbD_ofNat]
  simp [hi, Nat.testBit_two_pow_sub_one]
theorem whole_iff {n : Nat} (h : n ≤ 6) (b : U) : b &&& ~~~ wholeU n = 0#64 ↔ ∀ i, 2 ^ n ≤ i → i < 64 → b.getLsbD i = false := by
  constructor
  · intro hz i hi h64
    have := congrArg (fun b : U => b.getLsbD i) hz
    simp only [BitVec.getLsbD_and, BitVec.getLsbD_not, wholeU_bit h h64, BitVec.getLsbD_zero, h64] at this
    have hn : ¬ i < 2 ^ n := by omega
    simpa [hn] using this
  · intro hall
    apply BitVec.eq_of_getLsbD_eq
    intro i hi
    simp only [BitVec.getLsbD_and, BitVec.getLsbD_not, wholeU_bit h hi, BitVec.getLsbD_zero, hi]
    by_cases hn : i < 2 ^ n
    · simp [hn]
    · simp [hall i (by omega) hi]
theorem rtcheck_ok : FnOk Tryd.prog 4 tcheckS := by
  refine fnOk (Tb := tab) mixed tab_ok Tryd.func4 rfl rfl ?_
  rintro ⟨n, b⟩ hpre
  refine ai (ai rfl (ai rfl rfl)) ?_
  refine bcase_intro (fun h1 => ?_) (fun h1 => ?_)
  · skip
    refine ai (ai (fun _ => (by (repeat' (first | exact rfl | exact trivial | exact (fun _ => rfl) | exact (fun _ _ => rfl) | exact nof | refine ai ?_ ?_)))) ?_) trivial
    show (2 : Int) = chkT ⟨n, b⟩
    try simp only [zz, reduceCtorEq] at h1
    simp [chkT, h1]
  refine bcase_intro (fun h2 => ?_) (fun h2 => ?_)
  · skip
    refine ai (ai (fun _ => (by (repeat' (first | exact rfl | exact trivial | exact (fun _ => rfl) | exact (fun _ _ => rfl) | exact nof | refine ai ?_ ?_)))) ?_) trivial
    show (2 : Int) = chkT ⟨n, b⟩
    try simp only [zz, reduceCtorEq] at h1 h2
    simp [chkT, h1, h2]
  try simp only [zz, reduceCtorEq] at h1 h2
  obtain ⟨k, hk, rfl⟩ : ∃ k : Nat, k ≤ 6 ∧ n = k := ⟨n.toNat, by omega, by omega⟩
  have h64 := pow_le64 hk
  refine ei _ (ai size_ok (ei (k) (ei [] (ai (ai rfl (ai rfl (ai rfl (ai rfl (ai (fun _ => Or.inl rfl) (ai (by first | exact nof | exact (fun _ => ai rfl rfl)) (by first | exact Or.inl rfl | exact Or.inr rfl))))))) (ai ?_ (ai trivial (ai ?_ ?_)))))))
  · skip
    (repeat' (first | exact rfl | exact trivial | exact (fun _ => rfl) | exact (fun _ _ => rfl) | exact nof | refine ai ?_ ?_))
  · exact hk
  refine ei (LAnn.inv { X := Nat, up := fun i => [(3, .s (iA i))], uo := fun _ => [], inv := fun i => 2 ^ k ≤ i ∧ i ≤ 64 ∧ ∀ j, 2 ^ k ≤ j → j < i → b.getLsbD j = false, meas := fun i => 64 - i, x0 := 2 ^ k }) ?_
  refine ai (ai (ai (by (repeat' (first | exact rfl | exact trivial | exact (fun _ => rfl) | exact (fun _ _ => rfl) | exact nof | refine ai ?_ ?_))) (by (repeat' (first | exact rfl | exact trivial | exact (fun _ => rfl) | exact (fun _ _ => rfl) | exact nof | refine ai ?_ ?_)))) rfl) (ai ?_ ?_)
  · exact ⟨Nat.le_refl _, h64, fun j h h' => absurd h' (by have h'' : j < 2 ^ k := h'; omega)⟩
  intro (i : Nat) ⟨(hi : 2 ^ k ≤ i), (hi2 : i ≤ 64), hall⟩
  refine bcase_intro (fun h3 => ?_) (fun h3 => ?_)
  · have h3 : (i : Int) < 64 := of_decide_eq_true h3
    have hwr : IntKind.i64.wrap ((i : Int) + 1) = ((i + 1 : Nat) : Int) := by rw [wrap_i _ (by omega) (by omega)]; rfl
    refine ai (Int.natCast_nonneg _) ?_
    refine bcase_intro (fun h4 => ?_) (fun h4 => ?_)
    · have h4 : (bits .and .u64 ((b.toNat : Int).fdiv (2 ^ min (i : Int).toNat IntKind.u64.bits)) 1 == 1) = true := h4
      rw [u_shr, u_and1, u_beq1, and_one_eq, Int.toNat_natCast] at h4
      refine ai (ai (fun _ => (by (repeat' (first | exact rfl | exact trivial | exact (fun _ => rfl) | exact (fun _ _ => rfl) | exact nof | refine ai ?_ ?_)))) ?_) trivial
      show (3 : Int) = chkT ⟨k, b⟩
      have hne : ¬ b &&& ~~~ wholeU k = 0#64 := fun hz => by
        rw [(whole_iff hk b).1 hz i hi (by omega)] at h4; cases h4
      simp [chkT, h1, h2, hne]
    · have h4 : (bits .and .u64 ((b.toNat : Int).fdiv (2 ^ min (i : Int).toNat IntKind.u64.bits)) 1 == 1) = false := h4
      rw [u_shr, u_and1, u_beq1, and_one_eq, Int.toNat_natCast] at h4
      refine ei (i + 1) (ai (ai rfl rfl) (ai (ai ?_ rfl) (ai ?_ ?_)))
      · skip
        (repeat' (first | exact rfl | exact trivial | exact (fun _ => rfl) | exact (fun _ _ => rfl) | exact nof | refine ai ?_ ?_))
        exact hwr
      · refine ⟨by show 2 ^ k ≤ i + 1; omega, by show i + 1 ≤ 64; omega, fun j hj hj2 => ?_⟩
        by_cases e : j = i
        · subst e; exact h4
        · exact hall j hj (by have hj3 : j < i + 1 := hj2; omega)
      · show 64 - (i + 1) < 64 - i; omega
  · have h3 : ¬ (i : Int) < 64 := of_decide_eq_false h3
    refine ai (ai (fun _ => (by (repeat' (first | exact rfl | exact trivial | exact (fun _ => rfl) | exact (fun _ _ => rfl) | exact nof | refine ai ?_ ?_)))) ?_) trivial
    show (0 : Int) = chkT ⟨k, b⟩
    have hz : b &&& ~~~ wholeU k = 0#64 := (whole_iff hk b).2 fun j hj h64 => hall j hj (by omega)
    simp [chkT, h1, h2, hz]
def nsP (l : List Nat) : PV := .seq l.length (fun i => [iP (l.getD i 0 : Nat)])
def nsA (l : List Nat) : SV := .p false (nsP l)
theorem upto_succ {p : Nat → Prop} {k : Nat} (h : ∀ j, j < k → p j) (hk : p k) : ∀ j, j < k + 1 → p j := fun j hj => by
  by_cases e : j = k
  · subst e; exact hk
  · exact h j (by omega)
def rowN (L : List Nat) : LV := .rw 3 1 L.length (fun i => [iP (L.getD i 0 : Nat)])
theorem join_app {α : Type} (enc : α → List PV) (d : α) {L L' : List α} {x : α} (h : L' = L ++ [x]) (g : Nat → List PV) (hg : g 0 = enc x) : ∀ j, j < L.length + 1 → joinF L.length (fun i => enc (L.getD i d)) g j = enc (L'.getD j d) := by
  intro j hj
  subst h
  unfold joinF
  by_cases e : j < L.length
  · rw [if_pos e]; simp only [List.getD_eq_getElem?_getD, List.getElem?_append_left e]
  · obtain rfl : j = L.length := by omega
    rw [if_neg e, Nat.sub_self, hg]
    simp
theorem app_len {α : Type} {L L' : List α} {x : α} (h : L' = L ++ [x]) : L.length + 1 = L'.length := by subst h; simp
theorem row_same {α : Type} (enc : α → List PV) (d : α) {L L' : List α} (h : L = L') : ∀ j, j < L.length → enc (L.getD j d) = enc (L'.getD j d) := fun j _ => by rw [h]
theorem filt_yes {f : Nat → Bool} {k : Nat} (h : f k = true) : (List.range (k + 1)).filter f = (List.range k).filter f ++ [k] := by
  rw [List.range_succ, List.filter_append]; simp [h]
theorem filt_no {f : Nat → Bool} {k : Nat} (h : f k = false) : (List.range k).filter f = (List.range (k + 1)).filter f := by
  rw [List.range_succ, List.filter_append]; simp [h]
theorem filt_len (f : Nat → Bool) (k : Nat) : ((List.range k).filter f).length ≤ k := by
  have := List.length_filter_le f (List.range k); simpa using this
def madeU (l : List Nat) : Nat → U
  | 0 => 0
  | k + 1 => if k ∈ l then madeU l k ||| (1#64 <<< k) else madeU l k
def madeS : Spec := fnS (fun x : Nat × List Nat => [iA x.1, nsA x.2]) (fun x => x.1 ≤ 6 ∧ x.2.length ≤ 1000) (fun x => tP ⟨x.1, madeU x.2 (2 ^ x.1)⟩)
theorem fnS_at {P : Program} {f : Nat} {α : Type} {args : α → List SV} {pre : α → Prop} {res : α → PV} (h : FnOk P f (fnS args pre res)) (a : α) (hp : pre a) {r : PV} (e : res a = r) :
    FnOk P f (fnS (fun _ : Unit => args a) (fun _ => True) (fun _ => r)) := by
  subst e
  exact ⟨h.1, fun _ _ E vs w hh hA => h.2 a hp E vs w hh hA⟩
def bA (b : Bool) : SV := .p false (.val (.bool b))
def iV (k : Nat) : Value := .int .i64 k
def pointsIt : SeqSpec := { A := Nat, capt := fun n => [.pt [iP n] 0], pre := fun n => n ≤ 6, xs := fun n => (List.range (2 ^ n)).map fun k => [iV k] }
theorem pointsIt_ok : SeqOk Tryd.prog 35 pointsIt := by
  refine seqOk (Tb := tab) mixed tab_ok Tryd.func35 rfl rfl ?_
  rintro (n : Nat) hpre
  refine ai (ai rfl ?_) ?_
  · intro x hx v hv
    obtain ⟨c, _, rfl⟩ := List.mem_map.1 hx
    simp only [List.mem_singleton] at hv
    subst hv; rfl
  have hn : n ≤ 6 := hpre
  have h64 := pow_le64 hn
  intro l
  repeat (refine ai (by first | exact Int.natCast_nonneg _ | omega | exact ai (Int.natCast_nonneg _) (by omega)) ?_)
  refine ei (LAnn.inv { X := Nat, up := fun k => [(6, .s (iA k))], uo := fun _ => [], inv := fun k => k ≤ 2 ^ n, meas := fun k => 2 ^ n - k, x0 := 0, cnt := fun k => some k }) ?_
  refine ai (ai (ai (by (repeat' (first | exact rfl | exact trivial | exact (fun _ => rfl) | exact (fun _ _ => rfl) | exact nof | refine ai ?_ ?_))) (by (repeat' (first | exact rfl | exact trivial | exact (fun _ => rfl) | exact (fun _ _ => rfl) | exact nof | refine ai ?_ ?_)))) rfl) (ai ?_ ?_)
  · exact Nat.zero_le _
  intro (k : Nat) (hk : k ≤ 2 ^ n)
  refine bcase_p (p := k < 2 ^ n) (by show decide ((k : Int) < IntKind.i64.wrap (1 * 2 ^ min (n : Int).toNat IntKind.i64.bits)) = true ↔ _; rw [pow6 hn, decide_eq_true_iff]; omega) (fun h1 => ?_) (fun h1 => ?_)
  · refine ai rfl (ei [iV k] (ai ?_ (ai ?_ (ai ?_ ?_))))
    · show ((List.range (2 ^ n)).map fun k => [iV k])[k]? = _
      simp [h1]
    · skip
      (repeat' (first | exact rfl | exact trivial | exact (fun _ => rfl) | exact (fun _ _ => rfl) | exact nof | refine ai ?_ ?_))
    · skip
      refine ei (k + 1) (ai (ai rfl rfl) (ai (ai ?_ ?_) (ai ?_ ?_)))
      · skip
        (repeat' (first | exact rfl | exact trivial | exact (fun _ => rfl) | exact (fun _ _ => rfl) | exact nof | refine ai ?_ ?_))
        exact wr1 (by omega)
      · rfl
      · show k + 1 ≤ 2 ^ n; omega
      · show 2 ^ n - (k + 1) < 2 ^ n - k; omega
    · exact ai trivial trivial
  · obtain rfl : k = 2 ^ n := by omega
    refine ai trivial ?_
    show 2 ^ n = ((List.range (2 ^ n)).map fun k => [iV k]).length
    simp
def tpointsS : Spec := fnS (fun n : Nat => [iA n]) (fun _ => True) (fun n => .fn 35 [.pt [iP n] 0])
theorem tpoints_ok : FnOk Tryd.prog 21 tpointsS := by
  refine fnOk (Tb := tab) mixed tab_ok Tryd.func21 rfl rfl ?_
  rintro (n : Nat) hpre
  refine ai (ai rfl (ai rfl rfl)) ?_
  refine ai (ai (fun _ => (by (repeat' (first | exact rfl | exact trivial | exact (fun _ => rfl) | exact (fun _ _ => rfl) | exact nof | refine ai ?_ ?_)))) ?_) trivial
  (repeat' (first | exact rfl | exact trivial | exact (fun _ => rfl) | exact (fun _ _ => rfl) | exact nof | refine ai ?_ ?_))
def boxB (b : Bool) : Ob := .cells 4 [.p false (.val (.bool b))]
def const1S : Spec := { A := Int × Bool, args := fun x => [iA x.1, .own 0 0], objs := fun x => [boxB x.2], pre := fun _ => True, res := fun x => bP x.2, objs' := fun _ => [], fresh := true, ro := 1 }
def constU (b : Bool) : Nat → U
  | 0 => 0#64
  | k + 1 => if b then constU b k ||| 1#64 <<< k else constU b k
def constC (n : Int) (b : Bool) : Tb × Int := if 0 ≤ n ∧ n ≤ 6 then (⟨n, constU b (2 ^ n.toNat)⟩, 0) else (⟨0, 0⟩, 2)
def ConstS : Spec := fnS (fun x : Int × Bool => [iA x.1, bA x.2]) (fun _ => True) (fun x => .tup [tP (constC x.1 x.2).1, iP (constC x.1 x.2).2])
/-- an operation on words, joined over two tables -/
def joinT (op : U → U → U) (a b : Tb) : Tb × Int :=
  if chkT a = 0 then (if chkT b = 0 then (if a.n = b.n then (⟨a.n, op a.bits b.bits⟩, 0) else (⟨0, 0⟩, 8)) else (⟨0, 0⟩, chkT b)) else (⟨0, 0⟩, chkT a)
def opS (op : U → U → U) : Spec := fnS (fun x : U × U => [uA x.1, uA x.2]) (fun _ => True) (fun x => uP (op x.1 x.2))
def resT (x : Tb × Int) : PV := .tup [tP x.1, iP x.2]
def joinedS' (g : Nat) (op : U → U → U) : Spec := fnS (fun x : Tb × Tb => [tA x.1, tA x.2, .fn g []]) (fun _ => True) (fun x => resT (joinT op x.1 x.2))
theorem tjoined_ok (g : Nat) (op : U → U → U) (hg : FnOk Tryd.prog g (opS op)) : FnOk Tryd.prog 28 (joinedS' g op) := by
  refine fnOk (Tb := tab) mixed tab_ok Tryd.func28 rfl rfl ?_
  rintro ⟨a, b⟩ hpre
  refine ai (ai rfl (ai rfl rfl)) ?_
  refine ei (LAnn.unroll 3) ?_
  refine ai (ai (by decide) (by decide)) ?_
  refine ai (by decide) ?_
  refine ei _ (ai tcheck_ok (ei (a) (ei [] (ai (ai rfl (ai rfl (ai rfl (ai rfl (ai (fun _ => Or.inl rfl) (ai (by first | exact nof | exact (fun _ => ai rfl rfl)) (by first | exact Or.inl rfl | exact Or.inr rfl))))))) (ai (by (repeat' (first | with_reducible rfl | exact trivial | refine ai ?_ ?_ | (show (_ : Int) = _; first | with_reducible rfl | exact wr1 (by omega) | (simp only [zz, reduceCtorEq] <;> first | done | rfl | omega) | omega | rfl) | exact rfl | exact (fun _ => rfl) | exact (fun _ _ => rfl) | exact nof))) (ai trivial (ai (trivial) ?_)))))))
  refine bcase_n (p := chkT a = 0) (by first | (with_reducible refine bif_lt ?_; omega) | (with_reducible refine bif_le ?_; omega) | (with_reducible refine bif_eq ?_; omega) | (with_reducible refine bif_ne ?_; omega) | exact b8_eq rfl | exact b8_ne rfl | exact bif_lt (by omega) | exact bif_le (by omega) | exact bif_eq (by omega) | exact bif_ne (by omega) | exact Iff.rfl | (simp only [zz, reduceCtorEq] <;> first | done | omega | exact Iff.rfl) | (simp; done) | (simp; omega)) (fun h1 => ?_) (fun h1 => ?_)
  · skip
    refine ai (ai (fun _ => (by (repeat' (first | exact rfl | exact trivial | exact (fun _ => rfl) | exact (fun _ _ => rfl) | exact nof | refine ai ?_ ?_)))) ?_) trivial
    show ple _ (resT (joinT op a b))
    rw [show joinT op a b = (⟨0, 0⟩, chkT a) by simp [joinT, h1]]
    any_goals (repeat' (first | with_reducible rfl | exact trivial | refine ai ?_ ?_ | (show (_ : Int) = _; first | with_reducible rfl | exact wr1 (by omega) | (simp only [zz, reduceCtorEq] <;> first | done | rfl | omega) | omega | rfl) | exact rfl | exact (fun _ => rfl) | exact (fun _ _ => rfl) | exact nof))
  refine ai (ai (by decide) (by decide)) ?_
  refine ai (by decide) ?_
  refine ei _ (ai tcheck_ok (ei (b) (ei [] (ai (ai rfl (ai rfl (ai rfl (ai rfl (ai (fun _ => Or.inl rfl) (ai (by first | exact nof | exact (fun _ => ai rfl rfl)) (by first | exact Or.inl rfl | exact Or.inr rfl))))))) (ai (by (repeat' (first | with_reducible rfl | exact trivial | refine ai ?_ ?_ | (show (_ : Int) = _; first | with_reducible rfl | exact wr1 (by omega) | (simp only [zz, reduceCtorEq] <;> first | done | rfl | omega) | omega | rfl) | exact rfl | exact (fun _ => rfl) | exact (fun _ _ => rfl) | exact nof))) (ai trivial (ai (trivial) ?_)))))))
  refine bcase_n (p := chkT b = 0) (by first | (with_reducible refine bif_lt ?_; omega) | (with_reducible refine bif_le ?_; omega) | (with_reducible refine bif_eq ?_; omega) | (with_reducible refine bif_ne ?_; omega) | exact b8_eq rfl | exact b8_ne rfl | exact bif_lt (by omega) | exact bif_le (by omega) | exact bif_eq (by omega) | exact bif_ne (by omega) | exact Iff.rfl | (simp only [zz, reduceCtorEq] <;> first | done | omega | exact Iff.rfl) | (simp; done) | (simp; omega)) (fun h2 => ?_) (fun h2 => ?_)
  · skip
    refine ai (ai (fun _ => (by (repeat' (first | exact rfl | exact trivial | exact (fun _ => rfl) | exact (fun _ _ => rfl) | exact nof | refine ai ?_ ?_)))) ?_) trivial
    show ple _ (resT (joinT op a b))
    rw [show joinT op a b = (⟨0, 0⟩, chkT b) by simp [joinT, h1, h2]]
    any_goals (repeat' (first | with_reducible rfl | exact trivial | refine ai ?_ ?_ | (show (_ : Int) = _; first | with_reducible rfl | exact wr1 (by omega) | (simp only [zz, reduceCtorEq] <;> first | done | rfl | omega) | omega | rfl) | exact rfl | exact (fun _ => rfl) | exact (fun _ _ => rfl) | exact nof))
  refine bcase_n (p := a.n = b.n) (by first | (with_reducible refine bif_lt ?_; omega) | (with_reducible refine bif_le ?_; omega) | (with_reducible refine bif_eq ?_; omega) | (with_reducible refine bif_ne ?_; omega) | exact b8_eq rfl | exact b8_ne rfl | exact bif_lt (by omega) | exact bif_le (by omega) | exact bif_eq (by omega) | exact bif_ne (by omega) | exact Iff.rfl | (simp only [zz, reduceCtorEq] <;> first | done | omega | exact Iff.rfl) | (simp; done) | (simp; omega)) (fun h3 => ?_) (fun h3 => ?_)
  · skip
    refine ai (ai (fun _ => (by (repeat' (first | exact rfl | exact trivial | exact (fun _ => rfl) | exact (fun _ _ => rfl) | exact nof | refine ai ?_ ?_)))) ?_) trivial
    show ple _ (resT (joinT op a b))
    rw [show joinT op a b = (⟨0, 0⟩, 8) by simp [joinT, h1, h2, h3]]
    any_goals (repeat' (first | with_reducible rfl | exact trivial | refine ai ?_ ?_ | (show (_ : Int) = _; first | with_reducible rfl | exact wr1 (by omega) | (simp only [zz, reduceCtorEq] <;> first | done | rfl | omega) | omega | rfl) | exact rfl | exact (fun _ => rfl) | exact (fun _ _ => rfl) | exact nof))
  refine ei (.seq [0, 1, 2, 3, 4, 5, 6, 7, 8, 9, 10]) (ai (by kernel_rfl) ?_)
  refine ei _ (ai hg (ei ((a.bits, b.bits)) (ei [] (ai (ai rfl (ai rfl (ai rfl (ai rfl (ai (fun _ => Or.inl rfl) (ai (by first | exact nof | exact (fun _ => ai rfl rfl)) (by first | exact Or.inl rfl | exact Or.inr rfl))))))) (ai (by (repeat' (first | with_reducible rfl | exact trivial | refine ai ?_ ?_ | (show (_ : Int) = _; first | with_reducible rfl | exact wr1 (by omega) | (simp only [zz, reduceCtorEq] <;> first | done | rfl | omega) | omega | rfl) | exact rfl | exact (fun _ => rfl) | exact (fun _ _ => rfl) | exact nof))) (ai trivial (ai (trivial) ?_)))))))
  refine ai (ai (fun _ => (by (repeat' (first | exact rfl | exact trivial | exact (fun _ => rfl) | exact (fun _ _ => rfl) | exact nof | refine ai ?_ ?_)))) ?_) trivial
  show ple _ (resT (joinT op a b))
  rw [show joinT op a b = (⟨a.n, op a.bits b.bits⟩, 0) by simp [joinT, h1, h2, h3]]
  any_goals (repeat' (first | with_reducible rfl | exact trivial | refine ai ?_ ?_ | (show (_ : Int) = _; first | with_reducible rfl | exact wr1 (by omega) | (simp only [zz, reduceCtorEq] <;> first | done | rfl | omega) | omega | rfl) | exact rfl | exact (fun _ => rfl) | exact (fun _ _ => rfl) | exact nof))
def OrS : Spec := fnS (fun x : Tb × Tb => [tA x.1, tA x.2]) (fun _ => True) (fun x => resT (joinT (· ||| ·) x.1 x.2))
theorem chkT_of {n : Nat} (hn : n ≤ 6) {b : U} (h : ∀ k, 2 ^ n ≤ k → k < 64 → b.getLsbD k = false) : chkT ⟨n, b⟩ = 0 := by
  have h3 : ¬ (6 : Int) < n := by omega
  have h0 : ¬ (n : Int) < 0 := by omega
  simp [chkT, h3, h0, (whole_iff hn b).2 h]
theorem hasb {k i : Nat} (hk : k < 9223372036854775808) (hi : i ≤ 63) : (bits .and .i64 ((k : Int).fdiv (2 ^ min (i : Int).toNat IntKind.i64.bits)) 1 == 1) = k.testBit i := by
  have e1 : (k : Int).fdiv (2 ^ min (i : Int).toNat IntKind.i64.bits) = ((k / 2 ^ i : Nat) : Int) := by
    have : min (i : Int).toNat IntKind.i64.bits = i := by show min i 64 = i; omega
    rw [this, show ((2 : Int) ^ i) = ((2 ^ i : Nat) : Int) by rw [Int.natCast_pow]; rfl]
    exact (Int.ofNat_fdiv k (2 ^ i)).symm
  have e2 := i_and (a := k / 2 ^ i) (b := 1) (Nat.lt_of_le_of_lt (Nat.div_le_self _ _) hk)
  rw [e1]
  show (bits .and .i64 ((k / 2 ^ i : Nat) : Int) ((1 : Nat) : Int) == 1) = _
  rw [e2, BitVec.toNat_and, BitVec.toNat_ofNat, BitVec.toNat_ofNat, Nat.testBit_eq_decide_div_mod_eq]
  rw [Nat.mod_eq_of_lt (show k / 2 ^ i < 2 ^ 64 from Nat.lt_of_le_of_lt (Nat.div_le_self _ _) (by omega)), show 1 % 2 ^ 64 = 1 from rfl, Nat.and_one_is_mod]
  rw [Bool.eq_iff_iff, beq_iff_eq, decide_eq_true_iff]
  omega
def hasBS : Spec := fnS (fun x : Nat × Nat => [iA x.1, iA x.2]) (fun x => x.1 < 64 ∧ x.2 < 64) (fun x => bP (x.1.testBit x.2))
theorem getD_ext {α : Type} (d : α) {a b : List α} (hl : a.length = b.length) (h : ∀ k, k < a.length → a.getD k d = b.getD k d) : a = b := by
  apply List.ext_getElem hl
  intro k h1 h2
  have := h k h1
  simpa [List.getD_eq_getElem?_getD, h1, h2] using this
def trueS : Spec := fnS (fun _ : Unit => []) (fun _ => True) (fun _ => bP true)

end Go.Sx.Pn
