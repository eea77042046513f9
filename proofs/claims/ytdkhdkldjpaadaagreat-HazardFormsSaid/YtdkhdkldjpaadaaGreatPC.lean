/- Contracts of the reference: a table made of points. -/
import Derived.Test.YtdkhdkldjpaadaaGreatPB
import Derived.Lib.BitFns
set_option maxHeartbeats 1000000
set_option maxRecDepth 4000
set_option linter.unusedSimpArgs false
set_option linter.unusedVariables false
namespace Go.Sx.Pn
open Go Go.Proofs

def madeU (l : List Nat) : Nat → U
  | 0 => 0
  | k + 1 => if k ∈ l then madeU l k ||| (1#64 <<< k) else madeU l k

def madeS : Spec := fnS (fun x : Nat × List Nat => [iA x.1, nsA x.2]) (fun x => x.1 ≤ 6 ∧ x.2.length ≤ 1000) (fun x => tP ⟨x.1, madeU x.2 (2 ^ x.1)⟩)
theorem made_ok : FnOk Tryz.prog 143 madeS := by
  refine fnOk (Tb := tab) mixed tab_ok Tryz.func143 rfl rfl ?_
  rintro ⟨n, l⟩ hpre
  refine ai (ai rfl (ai rfl rfl)) ?_
  obtain ⟨hn, hl⟩ : n ≤ 6 ∧ l.length ≤ 1000 := hpre
  have h64 := pow_le64 hn
  refine ei (LAnn.inv { X := Nat, up := fun k => [(6, .s (iA k))], uo := fun k => [⟨1, 24, [.s (iA n), .s (uA (madeU l k))]⟩], inv := fun k => k ≤ 2 ^ n, meas := fun k => 2 ^ n - k, x0 := 0 }) ?_
  refine ai (ai (ai (by (repeat' (first | exact rfl | exact trivial | exact (fun _ => rfl) | exact (fun _ _ => rfl) | exact nof | refine ai ?_ ?_))) (ai ?_ ?_)) ?_) (ai ?_ ?_)
  · skip
    (repeat' (first | exact rfl | exact trivial | exact (fun _ => rfl) | exact (fun _ _ => rfl) | exact nof | refine ai ?_ ?_))
  · skip
    (repeat' (first | exact rfl | exact trivial | exact (fun _ => rfl) | exact (fun _ _ => rfl) | exact nof | refine ai ?_ ?_))
  · rfl
  · exact Nat.zero_le _
  intro (k : Nat) (hk : k ≤ 2 ^ n)
  refine ei _ (ai size_ok (ei (n) (ei [] (ai (ai rfl (ai rfl (ai rfl (ai rfl (ai (fun _ => Or.inl rfl) (ai (by first | exact nof | exact (fun _ => ai rfl rfl)) (by first | exact Or.inl rfl | exact Or.inr rfl))))))) (ai ?_ (ai trivial (ai ?_ ?_)))))))
  · skip
    (repeat' (first | exact rfl | exact trivial | exact (fun _ => rfl) | exact (fun _ _ => rfl) | exact nof | refine ai ?_ ?_))
  · exact hn
  refine bcase_intro (fun h1 => ?_) (fun h1 => ?_)
  · have h1 : (k : Int) < ((2 ^ n : Nat) : Int) := of_decide_eq_true h1
    have hwr : IntKind.i64.wrap ((k : Int) + 1) = ((k + 1 : Nat) : Int) := by rw [wrap_i _ (by omega) (by omega)]; rfl
    refine ei (LAnn.inv { X := Nat, up := fun j => [(7, .s (iA j))], uo := fun _ => [], inv := fun j => j ≤ l.length ∧ ∀ i, i < j → l.getD i 0 ≠ k, meas := fun j => l.length - j, x0 := 0 }) ?_
    refine ai (ai (ai (by (repeat' (first | exact rfl | exact trivial | exact (fun _ => rfl) | exact (fun _ _ => rfl) | exact nof | refine ai ?_ ?_))) (by (repeat' (first | exact rfl | exact trivial | exact (fun _ => rfl) | exact (fun _ _ => rfl) | exact nof | refine ai ?_ ?_)))) rfl) (ai ?_ ?_)
    · exact ⟨Nat.zero_le _, fun i hi => absurd hi (Nat.not_lt_zero _)⟩
    intro (j : Nat) ⟨(hj : j ≤ l.length), hall⟩
    refine bcase_intro (fun h2 => ?_) (fun h2 => ?_)
    · have h2 : (j : Int) < (l.length : Int) := of_decide_eq_true h2
      have hjl : j < l.length := by omega
      have hwj : IntKind.i64.wrap ((j : Int) + 1) = ((j + 1 : Nat) : Int) := by rw [wrap_i _ (by omega) (by omega)]; rfl
      refine ai (ai (Int.natCast_nonneg _) h2) ?_
      refine ai rfl ?_
      refine bcase_intro (fun h3 => ?_) (fun h3 => ?_)
      · have h3 : (((l.getD j 0 : Nat) : Int) == (k : Int)) = true := h3
        have h3 : l.getD j 0 = k := by have := eq_of_beq h3; omega
        have hm : k ∈ l := by
          rw [← h3, List.getD_eq_getElem?_getD, List.getElem?_eq_getElem hjl]
          exact List.getElem_mem hjl
        refine ei [0, 1, 2, 3, 4, 5, 6] (ai (by kernel_rfl) ?_)
        refine ai (Int.natCast_nonneg _) ?_
        refine ei (k + 1) (ai (ai rfl rfl) (ai (ai ?_ rfl) (ai ?_ ?_)))
        · skip
          (repeat' (first | exact rfl | exact trivial | exact (fun _ => rfl) | exact (fun _ _ => rfl) | exact nof | refine ai ?_ ?_))
          · exact hwr
          · show bits .or .u64 (madeU l k).toNat (IntKind.u64.wrap (1 * 2 ^ min (k : Int).toNat IntKind.u64.bits)) = ((madeU l (k + 1)).toNat : Int)
            rw [u_shl1, u_or, Int.toNat_natCast, madeU, if_pos hm]
        · show k + 1 ≤ 2 ^ n; omega
        · show 2 ^ n - (k + 1) < 2 ^ n - k; omega
      · have h3 : (((l.getD j 0 : Nat) : Int) == (k : Int)) = false := h3
        have h3 : l.getD j 0 ≠ k := by
          intro e
          rw [e] at h3
          simp at h3
        refine ei (j + 1) (ai (ai rfl rfl) (ai (ai ?_ rfl) (ai ?_ ?_)))
        · skip
          (repeat' (first | exact rfl | exact trivial | exact (fun _ => rfl) | exact (fun _ _ => rfl) | exact nof | refine ai ?_ ?_))
          exact hwj
        · refine ⟨by show j + 1 ≤ l.length; omega, fun i hi => ?_⟩
          by_cases e : i = j
          · subst e; exact h3
          · exact hall i (by have hi' : i < j + 1 := hi; omega)
        · show l.length - (j + 1) < l.length - j; omega
    · have h2 : ¬ (j : Int) < (l.length : Int) := of_decide_eq_false h2
      have hm : k ∉ l := fun hm => by
        obtain ⟨i, hi⟩ := List.getElem?_of_mem hm
        have hil : i < l.length := (List.getElem?_eq_some_iff.1 hi).1
        refine hall i (by omega) ?_
        rw [List.getD_eq_getElem?_getD, hi]; rfl
      refine ei (k + 1) (ai (ai rfl rfl) (ai (ai ?_ rfl) (ai ?_ ?_)))
      · skip
        (repeat' (first | exact rfl | exact trivial | exact (fun _ => rfl) | exact (fun _ _ => rfl) | exact nof | refine ai ?_ ?_))
        · exact hwr
        · show ((madeU l k).toNat : Int) = ((madeU l (k + 1)).toNat : Int)
          rw [madeU, if_neg hm]
      · show k + 1 ≤ 2 ^ n; omega
      · show 2 ^ n - (k + 1) < 2 ^ n - k; omega
  · have h1 : ¬ (k : Int) < ((2 ^ n : Nat) : Int) := of_decide_eq_false h1
    have : k = 2 ^ n := by omega
    subst this
    refine ai (ai (fun _ => (by (repeat' (first | exact rfl | exact trivial | exact (fun _ => rfl) | exact (fun _ _ => rfl) | exact nof | refine ai ?_ ?_)))) ?_) trivial
    (repeat' (first | exact rfl | exact trivial | exact (fun _ => rfl) | exact (fun _ _ => rfl) | exact nof | refine ai ?_ ?_))

end Go.Sx.Pn

namespace Go.Sx.Pn
open Go Go.Proofs

/-- how many bits are 1 -/
@[irreducible] def popU (x : U) : Nat := Lib.onesCount x.toNat
def ones64S : Spec := fnS (fun x : U => [uA x]) (fun x => x.toNat < 64) (fun x => iP (popU x))
set_option maxRecDepth 100000 in
theorem ones64_ok : FnOk Tryz.prog 99 ones64S := by
  refine fnOk (Tb := tab) mixed tab_ok Tryz.func99 rfl rfl ?_
  rintro (x : U) hpre
  refine ai (ai rfl (ai rfl rfl)) ?_
  have hx : x.toNat < 64 := hpre
  repeat (refine ai (by first | exact Int.natCast_nonneg _ | omega | exact ai (Int.natCast_nonneg _) (by omega)) ?_)
  refine ai (ai (fun _ => (by (repeat' (first | exact rfl | exact trivial | exact (fun _ => rfl) | exact (fun _ _ => rfl) | exact nof | refine ai ?_ ?_)))) ?_) trivial
  show (_ : Int) = (popU x : Int)
  unfold popU
  generalize x.toNat = m at hx
  revert m
  decide +kernel

theorem ones_ok : FnOk Tryz.prog 46 ones64S := by
  refine fnOk (Tb := tab) mixed tab_ok Tryz.func46 rfl rfl ?_
  rintro (x : U) hpre
  refine ai (ai rfl (ai rfl rfl)) ?_
  have hx : x.toNat < 64 := hpre
  refine ei _ (ai ones64_ok (ei (x) (ei [] (ai (ai rfl (ai rfl (ai rfl (ai rfl (ai (fun _ => Or.inl rfl) (ai (by first | exact nof | exact (fun _ => ai rfl rfl)) (by first | exact Or.inl rfl | exact Or.inr rfl))))))) (ai (by (repeat' (first | with_reducible rfl | exact trivial | refine ai ?_ ?_ | (show (_ : Int) = _; first | with_reducible rfl | exact wr1 (by omega) | (simp only [zz, reduceCtorEq] <;> first | done | rfl | omega) | omega | rfl) | exact rfl | exact (fun _ => rfl) | exact (fun _ _ => rfl) | exact nof))) (ai trivial (ai (hx) ?_)))))))
  refine ai (ai (fun _ => (by (repeat' (first | exact rfl | exact trivial | exact (fun _ => rfl) | exact (fun _ _ => rfl) | exact nof | refine ai ?_ ?_)))) ?_) trivial
  any_goals (repeat' (first | with_reducible rfl | exact trivial | refine ai ?_ ?_ | (show (_ : Int) = _; first | with_reducible rfl | exact wr1 (by omega) | (simp only [zz, reduceCtorEq] <;> first | done | rfl | omega) | omega | rfl) | exact rfl | exact (fun _ => rfl) | exact (fun _ _ => rfl) | exact nof))

/-- the consensus -/
def consC (n : Int) (a b : Cu) : Cu × Bool × Int :=
  if chk2 n a b = 0 then (if popU (againstC a b) = 1 then (⟨(a.care ||| b.care) &&& ~~~ againstC a b, (a.value ||| b.value) &&& ~~~ againstC a b⟩, true, 0) else (⟨0, 0⟩, false, 0)) else (⟨0, 0⟩, false, chk2 n a b)
def res3 (x : Cu × Bool × Int) : PV := .tup [cP x.1, bP x.2.1, iP x.2.2]
def ConsS : Spec := fnS (fun x : Int × Cu × Cu => [iA x.1, cA x.2.1, cA x.2.2]) (fun _ => True) (fun x => res3 (consC x.1 x.2.1 x.2.2))

theorem against_lt {k : Nat} {a b : Cu} (hk : k ≤ 6) (h : a.care &&& ~~~ allU k = 0#64) : (againstC a b).toNat < 64 := by
  have h1 : againstC a b &&& ~~~ allU 6 = 0#64 := by
    apply BitVec.eq_of_getLsbD_eq
    intro i hi
    have h2 := congrArg (fun x : U => x.getLsbD i) h
    simp only [BitVec.getLsbD_and, BitVec.getLsbD_not, hi, decide_true, Bool.true_and, allU_bit hk hi, BitVec.getLsbD_zero, againstC, allU_bit (Nat.le_refl 6) hi] at h2 ⊢
    by_cases h3 : i < 6
    · simp [h3]
    · have : ¬ i < k := by omega
      simp [this] at h2; simp [h2]
  rw [mask_iff (Nat.le_refl 6)] at h1
  rw [BitVec.le_def] at h1
  have e : (1#64 <<< 6).toNat = 64 := by decide
  omega
/-- the reference's -/
def rConsC (n : Int) (a b : Cu) : Cu × Bool × Int :=
  if chk2 n a b = 0 then (if (oppL a b n.toNat).length = 1 then (joinedC a b (oppL a b n.toNat), true, 0) else (⟨0, 0⟩, false, 0)) else (⟨0, 0⟩, false, chk2 n a b)
def rConsS : Spec := fnS (fun x : Int × Cu × Cu => [iA x.1, cA x.2.1, cA x.2.2]) (fun _ => True) (fun x => res3 (rConsC x.1 x.2.1 x.2.2))
end Go.Sx.Pn

namespace Go.Sx.Pn
open Go Go.Proofs

def strA (l : List UInt8) : SV := .p false (.val (.string (strOf l)))
def strP (l : List UInt8) : PV := .val (.string (strOf l))

/-- the sign of a variable -/
def chAt (c : Cu) (i : Nat) : UInt8 := if c.care.getLsbD i then (if c.value.getLsbD i then 49 else 48) else 45
def txtL (c : Cu) (n : Nat) : List UInt8 := (List.range n).map (chAt c)
theorem txtL_len (c : Cu) (n : Nat) : (txtL c n).length = n := by simp [txtL]
theorem txtL_succ (c : Cu) (n : Nat) : txtL c (n + 1) = txtL c n ++ [chAt c n] := by simp [txtL, List.range_succ]
theorem txt_add (c : Cu) (n : Nat) (x : UInt8) (h : chAt c n = x) (y : ByteArray) (hy : y = strOf [x]) : strOf (txtL c n) ++ y = strOf (txtL c (n + 1)) := by
  rw [hy, strOf_append, txtL_succ, h]

def writtenS : Spec := fnS (fun x : Nat × Cu => [iA x.1, cA x.2]) (fun x => x.1 ≤ 6) (fun x => strP (txtL x.2 x.1))
def txtC (n : Int) (c : Cu) : List UInt8 × Int := if chkC n c = 0 then (txtL c n.toNat, 0) else ([], chkC n c)
def TextS : Spec := fnS (fun x : Int × Cu => [iA x.1, cA x.2]) (fun _ => True) (fun x => .tup [strP (txtC x.1 x.2).1, iP (txtC x.1 x.2).2])
end Go.Sx.Pn

namespace Go.Sx.Pn
open Go Go.Proofs

def bitC (c : Cu) (k : Nat) (x : UInt8) : Cu :=
  ⟨if x = 45 then c.care else c.care ||| 1#64 <<< k, if x = 49 then c.value ||| 1#64 <<< k else c.value⟩
def cubeTo (l : List UInt8) : Nat → Cu
  | 0 => ⟨0, 0⟩
  | k + 1 => bitC (cubeTo l k) k (bAt l k)
def okB (x : UInt8) : Bool := x == 49 || x == 48 || x == 45
def parseC (l : List UInt8) : Int × Cu × Int :=
  if 6 < l.length then (0, ⟨0, 0⟩, 17) else if (List.range l.length).all (fun k => okB (bAt l k)) then (((l.length : Nat) : Int), cubeTo l l.length, 0) else (0, ⟨0, 0⟩, 4)
theorem parse_bad {l : List UInt8} {k : Nat} (h6 : ¬ 6 < l.length) (hk : k < l.length) (h : okB (bAt l k) = false) : parseC l = (0, ⟨0, 0⟩, 4) := by
  have : (List.range l.length).all (fun k => okB (bAt l k)) = false := List.all_eq_false.2 ⟨k, List.mem_range.2 hk, by rw [h]; decide⟩
  rw [parseC, if_neg h6, this]; rfl
theorem parse_ok {l : List UInt8} (h6 : ¬ 6 < l.length) (h : ∀ k, k < l.length → okB (bAt l k) = true) : parseC l = (((l.length : Nat) : Int), cubeTo l l.length, 0) := by
  have : (List.range l.length).all (fun k => okB (bAt l k)) = true := List.all_eq_true.2 fun k hk => h k (List.mem_range.1 hk)
  rw [parseC, if_neg h6, this]; rfl
theorem all_succ {l : List UInt8} {k : Nat} (h : ∀ j, j < k → okB (bAt l j) = true) (hk : okB (bAt l k) = true) : ∀ j, j < k + 1 → okB (bAt l j) = true := fun j hj => by
  by_cases e : j = k
  · subst e; exact hk
  · exact h j (by omega)

def resP (x : Int × Cu × Int) : PV := .tup [iP x.1, cP x.2.1, iP x.2.2]
def ParseS : Spec := fnS (fun l : List UInt8 => [strA l]) (fun l => l.length ≤ 1000000) (fun l => resP (parseC l))
end Go.Sx.Pn

namespace Go.Sx.Pn
open Go Go.Proofs

theorem rCheckTask_ok : FnOk Tryz.prog 57 checkTaskS := by
  refine fnOk (Tb := tab) mixed tab_ok Tryz.func57 rfl rfl ?_
  rintro x hpre
  refine ai (ai rfl (ai rfl rfl)) ?_
  refine ei _ (ai rtcheck_ok (ei (x.on) (ei [] (ai (ai rfl (ai rfl (ai rfl (ai rfl (ai (fun _ => Or.inl rfl) (ai (by first | exact nof | exact (fun _ => ai rfl rfl)) (by first | exact Or.inl rfl | exact Or.inr rfl))))))) (ai (by (repeat' (first | with_reducible rfl | exact trivial | refine ai ?_ ?_ | (show (_ : Int) = _; first | with_reducible rfl | exact wr1 (by omega) | (simp only [zz, reduceCtorEq] <;> first | done | rfl | omega) | omega | rfl) | exact rfl | exact (fun _ => rfl) | exact (fun _ _ => rfl) | exact nof))) (ai trivial (ai (trivial) ?_)))))))
  refine bcase_n (p := chkT x.on = 0) (by first | (with_reducible refine bif_lt ?_; omega) | (with_reducible refine bif_le ?_; omega) | (with_reducible refine bif_eq ?_; omega) | (with_reducible refine bif_ne ?_; omega) | exact b8_eq rfl | exact b8_ne rfl | exact bif_lt (by omega) | exact bif_le (by omega) | exact bif_eq (by omega) | exact bif_ne (by omega) | exact Iff.rfl | (simp only [zz, reduceCtorEq] <;> first | done | omega | exact Iff.rfl) | (simp; done) | (simp; omega)) (fun h1 => ?_) (fun h1 => ?_)
  · skip
    refine ai (ai (fun _ => (by (repeat' (first | exact rfl | exact trivial | exact (fun _ => rfl) | exact (fun _ _ => rfl) | exact nof | refine ai ?_ ?_)))) ?_) trivial
    show ple _ (iP (chkK x))
    rw [show chkK x = chkT x.on by simp [chkK, h1]]
    any_goals (repeat' (first | with_reducible rfl | exact trivial | refine ai ?_ ?_ | (show (_ : Int) = _; first | with_reducible rfl | exact wr1 (by omega) | (simp only [zz, reduceCtorEq] <;> first | done | rfl | omega) | omega | rfl) | exact rfl | exact (fun _ => rfl) | exact (fun _ _ => rfl) | exact nof))
  refine ei _ (ai rtcheck_ok (ei (x.free) (ei [] (ai (ai rfl (ai rfl (ai rfl (ai rfl (ai (fun _ => Or.inl rfl) (ai (by first | exact nof | exact (fun _ => ai rfl rfl)) (by first | exact Or.inl rfl | exact Or.inr rfl))))))) (ai (by (repeat' (first | with_reducible rfl | exact trivial | refine ai ?_ ?_ | (show (_ : Int) = _; first | with_reducible rfl | exact wr1 (by omega) | (simp only [zz, reduceCtorEq] <;> first | done | rfl | omega) | omega | rfl) | exact rfl | exact (fun _ => rfl) | exact (fun _ _ => rfl) | exact nof))) (ai trivial (ai (trivial) ?_)))))))
  refine bcase_n (p := chkT x.free = 0) (by first | (with_reducible refine bif_lt ?_; omega) | (with_reducible refine bif_le ?_; omega) | (with_reducible refine bif_eq ?_; omega) | (with_reducible refine bif_ne ?_; omega) | exact b8_eq rfl | exact b8_ne rfl | exact bif_lt (by omega) | exact bif_le (by omega) | exact bif_eq (by omega) | exact bif_ne (by omega) | exact Iff.rfl | (simp only [zz, reduceCtorEq] <;> first | done | omega | exact Iff.rfl) | (simp; done) | (simp; omega)) (fun h2 => ?_) (fun h2 => ?_)
  · skip
    refine ai (ai (fun _ => (by (repeat' (first | exact rfl | exact trivial | exact (fun _ => rfl) | exact (fun _ _ => rfl) | exact nof | refine ai ?_ ?_)))) ?_) trivial
    show ple _ (iP (chkK x))
    rw [show chkK x = chkT x.free by simp [chkK, h1, h2]]
    any_goals (repeat' (first | with_reducible rfl | exact trivial | refine ai ?_ ?_ | (show (_ : Int) = _; first | with_reducible rfl | exact wr1 (by omega) | (simp only [zz, reduceCtorEq] <;> first | done | rfl | omega) | omega | rfl) | exact rfl | exact (fun _ => rfl) | exact (fun _ _ => rfl) | exact nof))
  refine bcase_n (p := x.on.n = x.free.n) (by first | (with_reducible refine bif_lt ?_; omega) | (with_reducible refine bif_le ?_; omega) | (with_reducible refine bif_eq ?_; omega) | (with_reducible refine bif_ne ?_; omega) | exact b8_eq rfl | exact b8_ne rfl | exact bif_lt (by omega) | exact bif_le (by omega) | exact bif_eq (by omega) | exact bif_ne (by omega) | exact Iff.rfl | (simp only [zz, reduceCtorEq] <;> first | done | omega | exact Iff.rfl) | (simp; done) | (simp; omega)) (fun h3 => ?_) (fun h3 => ?_)
  · skip
    refine ai (ai (fun _ => (by (repeat' (first | exact rfl | exact trivial | exact (fun _ => rfl) | exact (fun _ _ => rfl) | exact nof | refine ai ?_ ?_)))) ?_) trivial
    show ple _ (iP (chkK x))
    rw [show chkK x = 8 by simp [chkK, h1, h2, h3]]
    any_goals (repeat' (first | with_reducible rfl | exact trivial | refine ai ?_ ?_ | (show (_ : Int) = _; first | with_reducible rfl | exact wr1 (by omega) | (simp only [zz, reduceCtorEq] <;> first | done | rfl | omega) | omega | rfl) | exact rfl | exact (fun _ => rfl) | exact (fun _ _ => rfl) | exact nof))
  refine bcase_n (p := x.on.bits &&& x.free.bits = 0#64) (by first | (with_reducible refine bif_lt ?_; omega) | (with_reducible refine bif_le ?_; omega) | (with_reducible refine bif_eq ?_; omega) | (with_reducible refine bif_ne ?_; omega) | exact b8_eq rfl | exact b8_ne rfl | exact bif_lt (by omega) | exact bif_le (by omega) | exact bif_eq (by omega) | exact bif_ne (by omega) | exact Iff.rfl | (simp only [zz, reduceCtorEq] <;> first | done | omega | exact Iff.rfl) | (simp; done) | (simp; omega)) (fun h4 => ?_) (fun h4 => ?_)
  · skip
    refine ai (ai (fun _ => (by (repeat' (first | exact rfl | exact trivial | exact (fun _ => rfl) | exact (fun _ _ => rfl) | exact nof | refine ai ?_ ?_)))) ?_) trivial
    show ple _ (iP (chkK x))
    rw [show chkK x = 16 by simp [chkK, h1, h2, h3, h4]]
    any_goals (repeat' (first | with_reducible rfl | exact trivial | refine ai ?_ ?_ | (show (_ : Int) = _; first | with_reducible rfl | exact wr1 (by omega) | (simp only [zz, reduceCtorEq] <;> first | done | rfl | omega) | omega | rfl) | exact rfl | exact (fun _ => rfl) | exact (fun _ _ => rfl) | exact nof))
  · skip
    refine ai (ai (fun _ => (by (repeat' (first | exact rfl | exact trivial | exact (fun _ => rfl) | exact (fun _ _ => rfl) | exact nof | refine ai ?_ ?_)))) ?_) trivial
    show ple _ (iP (chkK x))
    rw [show chkK x = 0 by simp [chkK, h1, h2, h3, h4]]
    any_goals (repeat' (first | with_reducible rfl | exact trivial | refine ai ?_ ?_ | (show (_ : Int) = _; first | with_reducible rfl | exact wr1 (by omega) | (simp only [zz, reduceCtorEq] <;> first | done | rfl | omega) | omega | rfl) | exact rfl | exact (fun _ => rfl) | exact (fun _ _ => rfl) | exact nof))

/-- by points: a cube is an implicant -/
def gAt (x : Tk) (c : Cu) (k : Nat) : Bool := !hasC c k || atT x.on k || atT x.free k
def goodC (n : Nat) (x : Tk) (c : Cu) : Bool := (List.range (2 ^ n)).all (gAt x c)
theorem good_end {n : Nat} {x : Tk} {c : Cu} {k : Nat} (h : ∀ j, j < k → gAt x c j = true) (hk : 2 ^ n ≤ k) : goodC n x c = true :=
  List.all_eq_true.2 fun j hj => h j (by have := List.mem_range.1 hj; omega)
theorem good_bad {n : Nat} {x : Tk} {c : Cu} {k : Nat} (hk : k < 2 ^ n) (h : gAt x c k = false) : goodC n x c = false :=
  List.all_eq_false.2 ⟨k, List.mem_range.2 hk, by rw [h]; decide⟩
theorem upto_succ {p : Nat → Prop} {k : Nat} (h : ∀ j, j < k → p j) (hk : p k) : ∀ j, j < k + 1 → p j := fun j hj => by
  by_cases e : j = k
  · subst e; exact hk
  · exact h j (by omega)

def goodS : Spec := fnS (fun x : Nat × Tk × Cu => [kA x.2.1, cA x.2.2]) (fun x => x.1 ≤ 6 ∧ x.2.1.on.n = x.1) (fun x => bP (goodC x.1 x.2.1 x.2.2))
theorem good_ok : FnOk Tryz.prog 115 goodS := by
  refine fnOk (Tb := tab) mixed tab_ok Tryz.func115 rfl rfl ?_
  rintro ⟨n, x, c⟩ hpre
  refine ai (ai rfl (ai rfl rfl)) ?_
  obtain ⟨hn, hx⟩ : n ≤ 6 ∧ x.on.n = n := hpre
  have h64 := pow_le64 hn
  refine ei (LAnn.inv { X := Nat, up := fun k => [(5, .s (iA k))], uo := fun k => [], inv := fun k => k ≤ 2 ^ n ∧ (∀ j, j < k → gAt x c j = true), meas := fun k => 2 ^ n - k, x0 := 0 }) ?_
  refine ai (ai (ai (by (repeat' (first | exact rfl | exact trivial | exact (fun _ => rfl) | exact (fun _ _ => rfl) | exact nof | refine ai ?_ ?_))) (ai (by (repeat' (first | with_reducible rfl | exact trivial | refine ai ?_ ?_ | (show (_ : Int) = _; first | with_reducible rfl | exact wr1 (by omega) | (simp only [zz, reduceCtorEq] <;> first | done | rfl | omega) | omega | rfl) | exact rfl | exact (fun _ => rfl) | exact (fun _ _ => rfl) | exact nof))) (by (repeat' (first | with_reducible rfl | exact trivial | refine ai ?_ ?_ | (show (_ : Int) = _; first | with_reducible rfl | exact wr1 (by omega) | (simp only [zz, reduceCtorEq] <;> first | done | rfl | omega) | omega | rfl) | exact rfl | exact (fun _ => rfl) | exact (fun _ _ => rfl) | exact nof))))) rfl) (ai (ai (Nat.zero_le _) ?_) ?_)
  · exact fun j hj => absurd hj (Nat.not_lt_zero _)
  intro (k : Nat) ⟨hk, hall⟩
  refine ei _ (ai size_ok (ei (n) (ei [] (ai (ai rfl (ai rfl (ai rfl (ai rfl (ai (fun _ => Or.inl rfl) (ai (by first | exact nof | exact (fun _ => ai rfl rfl)) (by first | exact Or.inl rfl | exact Or.inr rfl))))))) (ai (by (repeat' (first | with_reducible rfl | exact trivial | refine ai ?_ ?_ | (show (_ : Int) = _; first | with_reducible rfl | exact wr1 (by omega) | (simp only [zz, reduceCtorEq] <;> first | done | rfl | omega) | omega | rfl) | exact rfl | exact (fun _ => rfl) | exact (fun _ _ => rfl) | exact nof))) (ai trivial (ai (hn) ?_)))))))
  refine bcase_p (p := k < 2 ^ n) (by first | (with_reducible refine bif_lt ?_; omega) | (with_reducible refine bif_le ?_; omega) | (with_reducible refine bif_eq ?_; omega) | (with_reducible refine bif_ne ?_; omega) | exact b8_eq rfl | exact b8_ne rfl | exact bif_lt (by omega) | exact bif_le (by omega) | exact bif_eq (by omega) | exact bif_ne (by omega) | exact Iff.rfl | (simp only [zz, reduceCtorEq] <;> first | done | omega | exact Iff.rfl) | (simp; done) | (simp; omega)) (fun h1 => ?_) (fun h1 => ?_)
  · skip
    refine ei _ (ai in_ok (ei ((c, (k : Int))) (ei [] (ai (ai rfl (ai rfl (ai rfl (ai rfl (ai (fun _ => Or.inl rfl) (ai (by first | exact nof | exact (fun _ => ai rfl rfl)) (by first | exact Or.inl rfl | exact Or.inr rfl))))))) (ai (by (repeat' (first | with_reducible rfl | exact trivial | refine ai ?_ ?_ | (show (_ : Int) = _; first | with_reducible rfl | exact wr1 (by omega) | (simp only [zz, reduceCtorEq] <;> first | done | rfl | omega) | omega | rfl) | exact rfl | exact (fun _ => rfl) | exact (fun _ _ => rfl) | exact nof))) (ai trivial (ai (trivial) ?_)))))))
    refine bcase_b (b := hasC c k) (by first | exact rfl | (simp only [zz, reduceCtorEq] <;> first | done | exact rfl)) (fun h2 => ?_) (fun h2 => ?_)
    · skip
      refine ei _ (ai at_ok (ei ((x.on, k)) (ei [] (ai (ai rfl (ai rfl (ai rfl (ai rfl (ai (fun _ => Or.inl rfl) (ai (by first | exact nof | exact (fun _ => ai rfl rfl)) (by first | exact Or.inl rfl | exact Or.inr rfl))))))) (ai (by (repeat' (first | with_reducible rfl | exact trivial | refine ai ?_ ?_ | (show (_ : Int) = _; first | with_reducible rfl | exact wr1 (by omega) | (simp only [zz, reduceCtorEq] <;> first | done | rfl | omega) | omega | rfl) | exact rfl | exact (fun _ => rfl) | exact (fun _ _ => rfl) | exact nof))) (ai trivial (ai (trivial) ?_)))))))
      refine bcase_b (b := !atT x.on k) (by first | exact rfl | (simp only [zz, reduceCtorEq] <;> first | done | exact rfl)) (fun h3 => ?_) (fun h3 => ?_)
      · skip
        refine ei _ (ai at_ok (ei ((x.free, k)) (ei [] (ai (ai rfl (ai rfl (ai rfl (ai rfl (ai (fun _ => Or.inl rfl) (ai (by first | exact nof | exact (fun _ => ai rfl rfl)) (by first | exact Or.inl rfl | exact Or.inr rfl))))))) (ai (by (repeat' (first | with_reducible rfl | exact trivial | refine ai ?_ ?_ | (show (_ : Int) = _; first | with_reducible rfl | exact wr1 (by omega) | (simp only [zz, reduceCtorEq] <;> first | done | rfl | omega) | omega | rfl) | exact rfl | exact (fun _ => rfl) | exact (fun _ _ => rfl) | exact nof))) (ai trivial (ai (trivial) ?_)))))))
        refine bcase_b (b := !atT x.free k) (by first | exact rfl | (simp only [zz, reduceCtorEq] <;> first | done | exact rfl)) (fun h4 => ?_) (fun h4 => ?_)
        · skip
          refine ai (ai (fun _ => (by (repeat' (first | exact rfl | exact trivial | exact (fun _ => rfl) | exact (fun _ _ => rfl) | exact nof | refine ai ?_ ?_)))) ?_) trivial
          show ple _ (bP (goodC n x c))
          rw [good_bad h1 (by simp at h3 h4; simp [gAt, h2, h3, h4])]
          any_goals (repeat' (first | with_reducible rfl | exact trivial | refine ai ?_ ?_ | (show (_ : Int) = _; first | with_reducible rfl | exact wr1 (by omega) | (simp only [zz, reduceCtorEq] <;> first | done | rfl | omega) | omega | rfl) | exact rfl | exact (fun _ => rfl) | exact (fun _ _ => rfl) | exact nof))
        · skip
          refine ei (k + 1) (ai (ai rfl rfl) (ai (ai ?_ rfl) (ai (ai (by show k + 1 ≤ 2 ^ n; omega) ?_) (by show 2 ^ n - (k + 1) < 2 ^ n - k; omega))))
          any_goals (repeat' (first | with_reducible rfl | exact trivial | refine ai ?_ ?_ | (show (_ : Int) = _; first | with_reducible rfl | exact wr1 (by omega) | (simp only [zz, reduceCtorEq] <;> first | done | rfl | omega) | omega | rfl) | exact rfl | exact (fun _ => rfl) | exact (fun _ _ => rfl) | exact nof))
          exact upto_succ hall (by simp at h4; simp [gAt, h4])
      · skip
        refine ei (k + 1) (ai (ai rfl rfl) (ai (ai ?_ rfl) (ai (ai (by show k + 1 ≤ 2 ^ n; omega) ?_) (by show 2 ^ n - (k + 1) < 2 ^ n - k; omega))))
        any_goals (repeat' (first | with_reducible rfl | exact trivial | refine ai ?_ ?_ | (show (_ : Int) = _; first | with_reducible rfl | exact wr1 (by omega) | (simp only [zz, reduceCtorEq] <;> first | done | rfl | omega) | omega | rfl) | exact rfl | exact (fun _ => rfl) | exact (fun _ _ => rfl) | exact nof))
        exact upto_succ hall (by simp at h3; simp [gAt, h3])
    · skip
      refine ei (k + 1) (ai (ai rfl rfl) (ai (ai ?_ rfl) (ai (ai (by show k + 1 ≤ 2 ^ n; omega) ?_) (by show 2 ^ n - (k + 1) < 2 ^ n - k; omega))))
      any_goals (repeat' (first | with_reducible rfl | exact trivial | refine ai ?_ ?_ | (show (_ : Int) = _; first | with_reducible rfl | exact wr1 (by omega) | (simp only [zz, reduceCtorEq] <;> first | done | rfl | omega) | omega | rfl) | exact rfl | exact (fun _ => rfl) | exact (fun _ _ => rfl) | exact nof))
      exact upto_succ hall (by simp [gAt, h2])
  · skip
    refine ai (ai (fun _ => (by (repeat' (first | exact rfl | exact trivial | exact (fun _ => rfl) | exact (fun _ _ => rfl) | exact nof | refine ai ?_ ?_)))) ?_) trivial
    show ple _ (bP (goodC n x c))
    rw [good_end hall (Nat.le_of_not_lt h1)]
    any_goals (repeat' (first | with_reducible rfl | exact trivial | refine ai ?_ ?_ | (show (_ : Int) = _; first | with_reducible rfl | exact wr1 (by omega) | (simp only [zz, reduceCtorEq] <;> first | done | rfl | omega) | omega | rfl) | exact rfl | exact (fun _ => rfl) | exact (fun _ _ => rfl) | exact nof))

def tAt (x : Tk) (c : Cu) (k : Nat) : Bool := hasC c k && atT x.on k
def touchC (n : Nat) (x : Tk) (c : Cu) : Bool := (List.range (2 ^ n)).any (tAt x c)
theorem any_end {p : Nat → Bool} {m k : Nat} (h : ∀ j, j < k → p j = false) (hk : m ≤ k) : (List.range m).any p = false :=
  List.any_eq_false.2 fun j hj => by rw [h j (by have := List.mem_range.1 hj; omega)]; decide
theorem any_hit {p : Nat → Bool} {m k : Nat} (hk : k < m) (h : p k = true) : (List.range m).any p = true :=
  List.any_eq_true.2 ⟨k, List.mem_range.2 hk, h⟩
def touchS : Spec := fnS (fun x : Nat × Tk × Cu => [kA x.2.1, cA x.2.2]) (fun x => x.1 ≤ 6 ∧ x.2.1.on.n = x.1) (fun x => bP (touchC x.1 x.2.1 x.2.2))
theorem touches_ok : FnOk Tryz.prog 114 touchS := by
  refine fnOk (Tb := tab) mixed tab_ok Tryz.func114 rfl rfl ?_
  rintro ⟨n, x, c⟩ hpre
  refine ai (ai rfl (ai rfl rfl)) ?_
  obtain ⟨hn, hx⟩ : n ≤ 6 ∧ x.on.n = n := hpre
  have h64 := pow_le64 hn
  refine ei (LAnn.inv { X := Nat, up := fun k => [(5, .s (iA k))], uo := fun k => [], inv := fun k => k ≤ 2 ^ n ∧ (∀ j, j < k → tAt x c j = false), meas := fun k => 2 ^ n - k, x0 := 0 }) ?_
  refine ai (ai (ai (by (repeat' (first | exact rfl | exact trivial | exact (fun _ => rfl) | exact (fun _ _ => rfl) | exact nof | refine ai ?_ ?_))) (ai (by (repeat' (first | with_reducible rfl | exact trivial | refine ai ?_ ?_ | (show (_ : Int) = _; first | with_reducible rfl | exact wr1 (by omega) | (simp only [zz, reduceCtorEq] <;> first | done | rfl | omega) | omega | rfl) | exact rfl | exact (fun _ => rfl) | exact (fun _ _ => rfl) | exact nof))) (by (repeat' (first | with_reducible rfl | exact trivial | refine ai ?_ ?_ | (show (_ : Int) = _; first | with_reducible rfl | exact wr1 (by omega) | (simp only [zz, reduceCtorEq] <;> first | done | rfl | omega) | omega | rfl) | exact rfl | exact (fun _ => rfl) | exact (fun _ _ => rfl) | exact nof))))) rfl) (ai (ai (Nat.zero_le _) ?_) ?_)
  · exact fun j hj => absurd hj (Nat.not_lt_zero _)
  intro (k : Nat) ⟨hk, hall⟩
  refine ei _ (ai size_ok (ei (n) (ei [] (ai (ai rfl (ai rfl (ai rfl (ai rfl (ai (fun _ => Or.inl rfl) (ai (by first | exact nof | exact (fun _ => ai rfl rfl)) (by first | exact Or.inl rfl | exact Or.inr rfl))))))) (ai (by (repeat' (first | with_reducible rfl | exact trivial | refine ai ?_ ?_ | (show (_ : Int) = _; first | with_reducible rfl | exact wr1 (by omega) | (simp only [zz, reduceCtorEq] <;> first | done | rfl | omega) | omega | rfl) | exact rfl | exact (fun _ => rfl) | exact (fun _ _ => rfl) | exact nof))) (ai trivial (ai (hn) ?_)))))))
  refine bcase_p (p := k < 2 ^ n) (by first | (with_reducible refine bif_lt ?_; omega) | (with_reducible refine bif_le ?_; omega) | (with_reducible refine bif_eq ?_; omega) | (with_reducible refine bif_ne ?_; omega) | exact b8_eq rfl | exact b8_ne rfl | exact bif_lt (by omega) | exact bif_le (by omega) | exact bif_eq (by omega) | exact bif_ne (by omega) | exact Iff.rfl | (simp only [zz, reduceCtorEq] <;> first | done | omega | exact Iff.rfl) | (simp; done) | (simp; omega)) (fun h1 => ?_) (fun h1 => ?_)
  · skip
    refine ei _ (ai in_ok (ei ((c, (k : Int))) (ei [] (ai (ai rfl (ai rfl (ai rfl (ai rfl (ai (fun _ => Or.inl rfl) (ai (by first | exact nof | exact (fun _ => ai rfl rfl)) (by first | exact Or.inl rfl | exact Or.inr rfl))))))) (ai (by (repeat' (first | with_reducible rfl | exact trivial | refine ai ?_ ?_ | (show (_ : Int) = _; first | with_reducible rfl | exact wr1 (by omega) | (simp only [zz, reduceCtorEq] <;> first | done | rfl | omega) | omega | rfl) | exact rfl | exact (fun _ => rfl) | exact (fun _ _ => rfl) | exact nof))) (ai trivial (ai (trivial) ?_)))))))
    refine bcase_b (b := hasC c k) (by first | exact rfl | (simp only [zz, reduceCtorEq] <;> first | done | exact rfl)) (fun h2 => ?_) (fun h2 => ?_)
    · skip
      refine ei _ (ai at_ok (ei ((x.on, k)) (ei [] (ai (ai rfl (ai rfl (ai rfl (ai rfl (ai (fun _ => Or.inl rfl) (ai (by first | exact nof | exact (fun _ => ai rfl rfl)) (by first | exact Or.inl rfl | exact Or.inr rfl))))))) (ai (by (repeat' (first | with_reducible rfl | exact trivial | refine ai ?_ ?_ | (show (_ : Int) = _; first | with_reducible rfl | exact wr1 (by omega) | (simp only [zz, reduceCtorEq] <;> first | done | rfl | omega) | omega | rfl) | exact rfl | exact (fun _ => rfl) | exact (fun _ _ => rfl) | exact nof))) (ai trivial (ai (trivial) ?_)))))))
      refine bcase_b (b := atT x.on k) (by first | exact rfl | (simp only [zz, reduceCtorEq] <;> first | done | exact rfl)) (fun h3 => ?_) (fun h3 => ?_)
      · skip
        refine ai (ai (fun _ => (by (repeat' (first | exact rfl | exact trivial | exact (fun _ => rfl) | exact (fun _ _ => rfl) | exact nof | refine ai ?_ ?_)))) ?_) trivial
        show ple _ (bP (touchC n x c))
        rw [show touchC n x c = true from any_hit h1 (by rw [tAt, h2, h3]; rfl)]
        any_goals (repeat' (first | with_reducible rfl | exact trivial | refine ai ?_ ?_ | (show (_ : Int) = _; first | with_reducible rfl | exact wr1 (by omega) | (simp only [zz, reduceCtorEq] <;> first | done | rfl | omega) | omega | rfl) | exact rfl | exact (fun _ => rfl) | exact (fun _ _ => rfl) | exact nof))
      · skip
        refine ei (k + 1) (ai (ai rfl rfl) (ai (ai ?_ rfl) (ai (ai (by show k + 1 ≤ 2 ^ n; omega) ?_) (by show 2 ^ n - (k + 1) < 2 ^ n - k; omega))))
        any_goals (repeat' (first | with_reducible rfl | exact trivial | refine ai ?_ ?_ | (show (_ : Int) = _; first | with_reducible rfl | exact wr1 (by omega) | (simp only [zz, reduceCtorEq] <;> first | done | rfl | omega) | omega | rfl) | exact rfl | exact (fun _ => rfl) | exact (fun _ _ => rfl) | exact nof))
        exact upto_succ hall (by rw [tAt, h3, Bool.and_false])
    · skip
      refine ei (k + 1) (ai (ai rfl rfl) (ai (ai ?_ rfl) (ai (ai (by show k + 1 ≤ 2 ^ n; omega) ?_) (by show 2 ^ n - (k + 1) < 2 ^ n - k; omega))))
      any_goals (repeat' (first | with_reducible rfl | exact trivial | refine ai ?_ ?_ | (show (_ : Int) = _; first | with_reducible rfl | exact wr1 (by omega) | (simp only [zz, reduceCtorEq] <;> first | done | rfl | omega) | omega | rfl) | exact rfl | exact (fun _ => rfl) | exact (fun _ _ => rfl) | exact nof))
      exact upto_succ hall (by rw [tAt, h2, Bool.false_and])
  · skip
    refine ai (ai (fun _ => (by (repeat' (first | exact rfl | exact trivial | exact (fun _ => rfl) | exact (fun _ _ => rfl) | exact nof | refine ai ?_ ?_)))) ?_) trivial
    show ple _ (bP (touchC n x c))
    rw [show touchC n x c = false from any_end hall (Nat.le_of_not_lt h1)]
    any_goals (repeat' (first | with_reducible rfl | exact trivial | refine ai ?_ ?_ | (show (_ : Int) = _; first | with_reducible rfl | exact wr1 (by omega) | (simp only [zz, reduceCtorEq] <;> first | done | rfl | omega) | omega | rfl) | exact rfl | exact (fun _ => rfl) | exact (fun _ _ => rfl) | exact nof))

def growAt (n : Nat) (x : Tk) (c : Cu) (i : Nat) : Bool := c.care.getLsbD i && goodC n x (joinedC c c [i])
def growC (n : Nat) (x : Tk) (c : Cu) : Bool := (List.range n).any (growAt n x c)
def growS : Spec := fnS (fun x : Nat × Tk × Cu => [kA x.2.1, cA x.2.2]) (fun x => x.1 ≤ 6 ∧ x.2.1.on.n = x.1) (fun x => bP (growC x.1 x.2.1 x.2.2))
theorem rgrows_ok : FnOk Tryz.prog 116 growS := by
  refine fnOk (Tb := tab) mixed tab_ok Tryz.func116 rfl rfl ?_
  rintro ⟨n, x, c⟩ hpre
  refine ai (ai rfl (ai rfl rfl)) ?_
  obtain ⟨hn, hx⟩ : n ≤ 6 ∧ x.on.n = n := hpre
  refine ei (LAnn.inv { X := Nat, up := fun k => [(5, .s (iA k))], uo := fun k => [], inv := fun k => k ≤ n ∧ (∀ j, j < k → growAt n x c j = false), meas := fun k => n - k, x0 := 0 }) ?_
  refine ai (ai (ai (by (repeat' (first | exact rfl | exact trivial | exact (fun _ => rfl) | exact (fun _ _ => rfl) | exact nof | refine ai ?_ ?_))) (ai (by (repeat' (first | with_reducible rfl | exact trivial | refine ai ?_ ?_ | (show (_ : Int) = _; first | with_reducible rfl | exact wr1 (by omega) | (simp only [zz, reduceCtorEq] <;> first | done | rfl | omega) | omega | rfl) | exact rfl | exact (fun _ => rfl) | exact (fun _ _ => rfl) | exact nof))) (by (repeat' (first | with_reducible rfl | exact trivial | refine ai ?_ ?_ | (show (_ : Int) = _; first | with_reducible rfl | exact wr1 (by omega) | (simp only [zz, reduceCtorEq] <;> first | done | rfl | omega) | omega | rfl) | exact rfl | exact (fun _ => rfl) | exact (fun _ _ => rfl) | exact nof))))) rfl) (ai (ai (Nat.zero_le _) ?_) ?_)
  · exact fun j hj => absurd hj (Nat.not_lt_zero _)
  intro (k : Nat) ⟨hk, hall⟩
  refine bcase_p (p := k < n) (by first | (with_reducible refine bif_lt ?_; omega) | (with_reducible refine bif_le ?_; omega) | (with_reducible refine bif_eq ?_; omega) | (with_reducible refine bif_ne ?_; omega) | exact b8_eq rfl | exact b8_ne rfl | exact bif_lt (by omega) | exact bif_le (by omega) | exact bif_eq (by omega) | exact bif_ne (by omega) | exact Iff.rfl | (simp only [zz, reduceCtorEq] <;> first | done | omega | exact Iff.rfl) | (simp; done) | (simp; omega)) (fun h1 => ?_) (fun h1 => ?_)
  · skip
    refine ei [0, 1, 2, 3, 4, 5, 6, 7, 8, 9, 10, 11, 12, 13, 14] (ai (by kernel_rfl) ?_)
    repeat (refine ai (by first | exact Int.natCast_nonneg _ | omega | exact ai (Int.natCast_nonneg _) (by omega)) ?_)
    refine bcase_b (b := c.care.getLsbD k) (by first | exact rfl | (simp only [zz, reduceCtorEq] <;> first | done | exact rfl)) (fun h2 => ?_) (fun h2 => ?_)
    · skip
      refine ei _ (ai joined_ok (ei ((c, c, [k])) (ei [] (ai (ai rfl (ai rfl (ai rfl (ai rfl (ai (fun _ => Or.inl rfl) (ai (by first | exact nof | exact (fun _ => ai rfl rfl)) (by first | exact Or.inl rfl | exact Or.inr rfl))))))) (ai ?_ (ai trivial (ai ?_ ?_)))))))
      · skip
        (repeat' (first | exact rfl | exact trivial | exact (fun _ => rfl) | exact (fun _ _ => rfl) | exact nof | refine ai ?_ ?_))
        intro j hj
        have hj : j < 1 := hj
        obtain rfl : j = 0 := by omega
        rfl
      · show 1 ≤ 1000; omega
      refine ei _ (ai good_ok (ei ((n, x, joinedC c c [k])) (ei [] (ai (ai rfl (ai rfl (ai rfl (ai rfl (ai (fun _ => Or.inl rfl) (ai (by first | exact nof | exact (fun _ => ai rfl rfl)) (by first | exact Or.inl rfl | exact Or.inr rfl))))))) (ai (by (repeat' (first | with_reducible rfl | exact trivial | refine ai ?_ ?_ | (show (_ : Int) = _; first | with_reducible rfl | exact wr1 (by omega) | (simp only [zz, reduceCtorEq] <;> first | done | rfl | omega) | omega | rfl) | exact rfl | exact (fun _ => rfl) | exact (fun _ _ => rfl) | exact nof))) (ai trivial (ai (⟨hn, hx⟩) ?_)))))))
      refine bcase_b (b := goodC n x (joinedC c c [k])) (by first | exact rfl | (simp only [zz, reduceCtorEq] <;> first | done | exact rfl)) (fun h3 => ?_) (fun h3 => ?_)
      · skip
        refine ai (ai (fun _ => (by (repeat' (first | exact rfl | exact trivial | exact (fun _ => rfl) | exact (fun _ _ => rfl) | exact nof | refine ai ?_ ?_)))) ?_) trivial
        show ple _ (bP (growC n x c))
        rw [show growC n x c = true from any_hit h1 (by rw [growAt, h2, h3]; rfl)]
        any_goals (repeat' (first | with_reducible rfl | exact trivial | refine ai ?_ ?_ | (show (_ : Int) = _; first | with_reducible rfl | exact wr1 (by omega) | (simp only [zz, reduceCtorEq] <;> first | done | rfl | omega) | omega | rfl) | exact rfl | exact (fun _ => rfl) | exact (fun _ _ => rfl) | exact nof))
      · skip
        refine ei (k + 1) (ai (ai rfl rfl) (ai (ai ?_ rfl) (ai (ai (by show k + 1 ≤ n; omega) ?_) (by show n - (k + 1) < n - k; omega))))
        any_goals (repeat' (first | with_reducible rfl | exact trivial | refine ai ?_ ?_ | (show (_ : Int) = _; first | with_reducible rfl | exact wr1 (by omega) | (simp only [zz, reduceCtorEq] <;> first | done | rfl | omega) | omega | rfl) | exact rfl | exact (fun _ => rfl) | exact (fun _ _ => rfl) | exact nof))
        exact upto_succ hall (by rw [growAt, h3, Bool.and_false])
    · skip
      refine ei (k + 1) (ai (ai rfl rfl) (ai (ai ?_ rfl) (ai (ai (by show k + 1 ≤ n; omega) ?_) (by show n - (k + 1) < n - k; omega))))
      any_goals (repeat' (first | with_reducible rfl | exact trivial | refine ai ?_ ?_ | (show (_ : Int) = _; first | with_reducible rfl | exact wr1 (by omega) | (simp only [zz, reduceCtorEq] <;> first | done | rfl | omega) | omega | rfl) | exact rfl | exact (fun _ => rfl) | exact (fun _ _ => rfl) | exact nof))
      exact upto_succ hall (by rw [growAt, h2, Bool.false_and])
  · skip
    refine ai (ai (fun _ => (by (repeat' (first | exact rfl | exact trivial | exact (fun _ => rfl) | exact (fun _ _ => rfl) | exact nof | refine ai ?_ ?_)))) ?_) trivial
    show ple _ (bP (growC n x c))
    rw [show growC n x c = false from any_end hall (Nat.le_of_not_lt h1)]
    any_goals (repeat' (first | with_reducible rfl | exact trivial | refine ai ?_ ?_ | (show (_ : Int) = _; first | with_reducible rfl | exact wr1 (by omega) | (simp only [zz, reduceCtorEq] <;> first | done | rfl | omega) | omega | rfl) | exact rfl | exact (fun _ => rfl) | exact (fun _ _ => rfl) | exact nof))

end Go.Sx.Pn
