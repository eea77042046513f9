/- Contracts of chapter 8: counting and reversing the bits of words. -/
import Derived.Test.YtdkhdkldjpaadaaGreatP58
set_option maxHeartbeats 1000000
set_option maxRecDepth 4000
set_option linter.unusedSimpArgs false
set_option linter.unusedVariables false
namespace Go.Sx.Pn
open Go Go.Proofs

theorem pop_fuel : ∀ (f : Nat), f ≤ 16 → ∀ (g x : Nat), f ≤ g → x < 2 ^ f → Lib.popAux g x = pcN x
  | 0, _, g, x, _, hx => by
    obtain rfl : x = 0 := by simpa using hx
    have h0 : ∀ g, Lib.popAux g 0 = 0 := fun g => by
      induction g with
      | zero => rfl
      | succ g ih => rw [Lib.popAux]; simpa using ih
    rw [h0]; rfl
  | f + 1, hf, g, x, hg, hx => by
    obtain ⟨g, rfl⟩ : ∃ k, g = k + 1 := ⟨g - 1, by omega⟩
    have h16 : 2 ^ (f + 1) ≤ 2 ^ 16 := Nat.pow_le_pow_right (by decide) hf
    rw [Lib.popAux, pop_fuel f (by omega) g (x / 2) (by omega) (by rw [Nat.pow_succ] at hx; omega), pc_half (x := x) (by omega)]
    omega
theorem popU_eq {x : U} (h : x.toNat < 65536) : popU x = pcN x.toNat := by
  unfold popU
  exact pop_fuel 16 (Nat.le_refl _) 64 _ (by decide) (by simpa using h)

def rq (s m x : Int) : Int := IntKind.u64.wrap (bits .and .u64 (x.fdiv (2 ^ min s.toNat IntKind.u64.bits)) m + bits .and .u64 x m)
def rq3 (x : Int) : Int := bits .and .u64 (IntKind.u64.wrap (x.fdiv (2 ^ min (4 : Int).toNat IntKind.u64.bits) + x)) 1085102592571150095
def rqs (s x : Int) : Int := IntKind.u64.wrap (x + x.fdiv (2 ^ min s.toNat IntKind.u64.bits))
theorem rq_nat {s m x : Nat} (hx : x < 4294967296) (hm : m < 18446744073709551616) : rq s m x = ((x >>> s &&& m) + (x &&& m) : Nat) := by
  have h1 : ((x : Nat) : Int) = ((BitVec.ofNat 64 x).toNat : Int) := by rw [BitVec.toNat_ofNat, Nat.mod_eq_of_lt (by omega)]
  have h2 : ((m : Nat) : Int) = ((BitVec.ofNat 64 m).toNat : Int) := by rw [BitVec.toNat_ofNat, Nat.mod_eq_of_lt (by omega)]
  unfold rq
  rw [h1, h2, zL, zA, zA, zF, BitVec.toNat_add, BitVec.toNat_and, BitVec.toNat_and, BitVec.toNat_ushiftRight, BitVec.toNat_ofNat, BitVec.toNat_ofNat, Nat.mod_eq_of_lt (show x < 2 ^ 64 by omega), Nat.mod_eq_of_lt (show m < 2 ^ 64 by omega), Int.toNat_natCast]
  have a1 : x >>> s &&& m ≤ x := Nat.le_trans Nat.and_le_left (by rw [Nat.shiftRight_eq_div_pow]; exact Nat.div_le_self _ _)
  have a2 : x &&& m ≤ x := Nat.and_le_left
  rw [Nat.mod_eq_of_lt (by omega)]
theorem rq3_nat {x : Nat} (hx : x < 4294967296) : rq3 x = (pc3 x : Nat) := by
  have h1 : ((x : Nat) : Int) = ((BitVec.ofNat 64 x).toNat : Int) := by rw [BitVec.toNat_ofNat, Nat.mod_eq_of_lt (by omega)]
  have a1 : x >>> 4 ≤ x := by rw [Nat.shiftRight_eq_div_pow]; exact Nat.div_le_self _ _
  unfold rq3
  rw [show (1085102592571150095 : Int) = ((1085102592571150095#64).toNat : Int) from rfl, show (4 : Int) = ((4 : Nat) : Int) from rfl, h1, zL, zF, zA, BitVec.toNat_and, BitVec.toNat_add, BitVec.toNat_ushiftRight, BitVec.toNat_ofNat, Nat.mod_eq_of_lt (show x < 2 ^ 64 by omega), Int.toNat_natCast, Nat.mod_eq_of_lt (show x >>> 4 + x < 2 ^ 64 by omega)]
  rfl
theorem rqs_nat {s x : Nat} (hx : x < 4294967296) : rqs s x = (x + x >>> s : Nat) := by
  have h1 : ((x : Nat) : Int) = ((BitVec.ofNat 64 x).toNat : Int) := by rw [BitVec.toNat_ofNat, Nat.mod_eq_of_lt (by omega)]
  have a1 : x >>> s ≤ x := by rw [Nat.shiftRight_eq_div_pow]; exact Nat.div_le_self _ _
  unfold rqs
  rw [h1, zL, zF, BitVec.toNat_add, BitVec.toNat_ushiftRight, BitVec.toNat_ofNat, Nat.mod_eq_of_lt (show x < 2 ^ 64 by omega), Int.toNat_natCast, Nat.mod_eq_of_lt (show x + x >>> s < 2 ^ 64 by omega)]
theorem shr_le (x s : Nat) : x >>> s ≤ x := by rw [Nat.shiftRight_eq_div_pow]; exact Nat.div_le_self _ _
theorem pc_bounds {x : Nat} (h : x < 65536) : pc1 x < 131072 ∧ pc2 (pc1 x) < 262144 ∧ pc3 (pc2 (pc1 x)) < 524288 ∧ pc4 (pc3 (pc2 (pc1 x))) < 1048576 ∧ pc5 (pc4 (pc3 (pc2 (pc1 x)))) < 2097152 ∧ pc6 (pc5 (pc4 (pc3 (pc2 (pc1 x))))) < 4194304 := by
  have m1 : ∀ a m, a &&& m ≤ a := fun a m => Nat.and_le_left
  have h1 : pc1 x < 131072 := by unfold pc1; have := m1 (x >>> 1) 6148914691236517205; have := m1 x 6148914691236517205; have := shr_le x 1; omega
  generalize pc1 x = a at h1 ⊢
  have h2 : pc2 a < 262144 := by unfold pc2; have := m1 (a >>> 2) 3689348814741910323; have := m1 a 3689348814741910323; have := shr_le a 2; omega
  generalize pc2 a = b at h2 ⊢
  have h3 : pc3 b < 524288 := by unfold pc3; have := m1 (b >>> 4 + b) 1085102592571150095; have := shr_le b 4; omega
  generalize pc3 b = c at h3 ⊢
  have h4 : pc4 c < 1048576 := by unfold pc4; have := shr_le c 8; omega
  generalize pc4 c = d at h4 ⊢
  have h5 : pc5 d < 2097152 := by unfold pc5; have := shr_le d 16; omega
  generalize pc5 d = e at h5 ⊢
  have h6 : pc6 e < 4194304 := by unfold pc6; have := shr_le e 32; omega
  exact ⟨h1, h2, h3, h4, h5, h6⟩

def ones16S : Spec := fnS (fun x : U => [uA x]) (fun x => x.toNat < 65536) (fun x => iP (popU x))
theorem ones64_ok' : FnOk Tryz.prog 99 ones16S := by
  refine fnOk (Tb := tab) mixed tab_ok Tryz.func99 rfl rfl ?_
  rintro (x : U) hpre
  refine ai (ai rfl (ai rfl rfl)) ?_
  have hx : x.toNat < 65536 := hpre
  repeat (refine ai (by first | exact Int.natCast_nonneg _ | omega | exact ai (Int.natCast_nonneg _) (by omega)) ?_)
  refine ai (ai (fun _ => (by (repeat' (first | exact rfl | exact trivial | exact (fun _ => rfl) | exact (fun _ _ => rfl) | exact nof | refine ai ?_ ?_)))) ?_) trivial
  show (_ : Int) = (popU x : Int)
  rw [popU_eq hx]
  generalize x.toNat = m at hx
  obtain ⟨h1, h2, h3, h4, h5, h6⟩ := pc_bounds hx
  show bits .and .i64 (IntKind.i64.wrap (rqs 32 (rqs 16 (rqs 8 (rq3 (rq 2 3689348814741910323 (rq 1 6148914691236517205 (m : Int)))))))) 127 = _
  have e1 : rq 1 6148914691236517205 (m : Int) = (pc1 m : Nat) := rq_nat (s := 1) (m := 6148914691236517205) (by omega) (by decide)
  have e2 : rq 2 3689348814741910323 (pc1 m : Nat) = (pc2 (pc1 m) : Nat) := rq_nat (s := 2) (m := 3689348814741910323) (by omega) (by decide)
  have e4 : rqs 8 (pc3 (pc2 (pc1 m)) : Nat) = (pc4 (pc3 (pc2 (pc1 m))) : Nat) := rqs_nat (s := 8) (by omega)
  have e5 : rqs 16 (pc4 (pc3 (pc2 (pc1 m))) : Nat) = (pc5 (pc4 (pc3 (pc2 (pc1 m)))) : Nat) := rqs_nat (s := 16) (by omega)
  have e6 : rqs 32 (pc5 (pc4 (pc3 (pc2 (pc1 m)))) : Nat) = (pc6 (pc5 (pc4 (pc3 (pc2 (pc1 m))))) : Nat) := rqs_nat (s := 32) (by omega)
  rw [e1, e2, rq3_nat (by omega), e4, e5, e6]
  have hp : pcN m = pc6 (pc5 (pc4 (pc3 (pc2 (pc1 m))))) &&& 127 := rfl
  rw [hp]
  generalize pc6 (pc5 (pc4 (pc3 (pc2 (pc1 m))))) = y at h6
  have ew : IntKind.i64.wrap (y : Int) = (y : Int) := by simp [IntKind.wrap, IntKind.signed, IntKind.bits, IntKind.min]; omega
  rw [ew, show (127 : Int) = ((127 : Nat) : Int) from rfl, i_and (by omega), BitVec.toNat_and, BitVec.toNat_ofNat, BitVec.toNat_ofNat, Nat.mod_eq_of_lt (show y < 2 ^ 64 by omega), Nat.mod_eq_of_lt (show 127 < 2 ^ 64 by decide)]
theorem ones_ok' : FnOk Tryz.prog 46 ones16S := by
  refine fnOk (Tb := tab) mixed tab_ok Tryz.func46 rfl rfl ?_
  rintro (x : U) hpre
  refine ai (ai rfl (ai rfl rfl)) ?_
  refine ei _ (ai ones64_ok' (ei (x) (ei [] (ai (ai rfl (ai rfl (ai rfl (ai rfl (ai (fun _ => Or.inl rfl) (ai (by first | exact nof | exact (fun _ => ai rfl rfl)) (by first | exact Or.inl rfl | exact Or.inr rfl))))))) (ai (by (repeat' (first | with_reducible rfl | exact trivial | refine ai ?_ ?_ | (show (_ : Int) = _; first | with_reducible rfl | exact wr1 (by omega) | (simp only [zz, reduceCtorEq] <;> first | done | rfl | omega) | omega | rfl) | exact rfl | exact (fun _ => rfl) | exact (fun _ _ => rfl) | exact nof))) (ai trivial (ai (hpre) ?_)))))))
  refine ai (ai (fun _ => (by (repeat' (first | exact rfl | exact trivial | exact (fun _ => rfl) | exact (fun _ _ => rfl) | exact nof | refine ai ?_ ?_)))) ?_) trivial
  any_goals (repeat' (first | with_reducible rfl | exact trivial | refine ai ?_ ?_ | (show (_ : Int) = _; first | with_reducible rfl | exact wr1 (by omega) | (simp only [zz, reduceCtorEq] <;> first | done | rfl | omega) | omega | rfl) | exact rfl | exact (fun _ => rfl) | exact (fun _ _ => rfl) | exact nof))

/- reversing -/
def rvU (s : Nat) (m x : U) : U := (x >>> s &&& m) ||| ((x &&& m) <<< s)
def rvL (s : Nat) (x : U) : U := x >>> s ||| x <<< s
def revU (x : U) : U := rvL 32 (rvU 16 281470681808895#64 (rvU 8 71777214294589695#64 (rvU 4 1085102592571150095#64 (rvU 2 3689348814741910323#64 (rvU 1 6148914691236517205#64 x)))))
def rv (s m x : Int) : Int := bits .or .u64 (bits .and .u64 (x.fdiv (2 ^ min s.toNat IntKind.u64.bits)) m) (IntKind.u64.wrap (bits .and .u64 x m * 2 ^ min s.toNat IntKind.u64.bits))
def rvl (s x : Int) : Int := bits .or .u64 (x.fdiv (2 ^ min s.toNat IntKind.u64.bits)) (IntKind.u64.wrap (x * 2 ^ min s.toNat IntKind.u64.bits))
theorem rv_eq (s : Nat) (m x : U) : rv s m.toNat x.toNat = ((rvU s m x).toNat : Int) := by
  unfold rv rvU
  rw [zL, zA, zA, zK, zB, Int.toNat_natCast]
theorem rvl_eq (s : Nat) (x : U) : rvl s x.toNat = ((rvL s x).toNat : Int) := by
  unfold rvl rvL
  rw [zL, zK, zB, Int.toNat_natCast]
def revBS : Spec := fnS (fun x : U => [uA x]) (fun _ => True) (fun x => uP (rvL 32 (rvU 16 281470681808895#64 (rvU 8 71777214294589695#64 x))))
theorem revB_ok : FnOk Tryz.prog 142 revBS := by
  refine fnOk (Tb := tab) mixed tab_ok Tryz.func142 rfl rfl ?_
  rintro (x : U) hpre
  refine ai (ai rfl (ai rfl rfl)) ?_
  repeat (refine ai (by first | exact Int.natCast_nonneg _ | omega | exact ai (Int.natCast_nonneg _) (by omega)) ?_)
  refine ai (ai (fun _ => (by (repeat' (first | exact rfl | exact trivial | exact (fun _ => rfl) | exact (fun _ _ => rfl) | exact nof | refine ai ?_ ?_)))) ?_) trivial
  show rvl (32 : Nat) (rv (16 : Nat) ((281470681808895#64).toNat : Int) (rv (8 : Nat) ((71777214294589695#64).toNat : Int) (x.toNat : Int))) = _
  rw [rv_eq, rv_eq, rvl_eq]
def revS : Spec := fnS (fun x : U => [uA x]) (fun _ => True) (fun x => uP (revU x))
theorem rev64_ok : FnOk Tryz.prog 107 revS := by
  refine fnOk (Tb := tab) mixed tab_ok Tryz.func107 rfl rfl ?_
  rintro (x : U) hpre
  refine ai (ai rfl (ai rfl rfl)) ?_
  repeat (refine ai (by first | exact Int.natCast_nonneg _ | omega | exact ai (Int.natCast_nonneg _) (by omega)) ?_)
  refine ei _ (ai revB_ok (ei (rvU 4 1085102592571150095#64 (rvU 2 3689348814741910323#64 (rvU 1 6148914691236517205#64 x))) (ei [] (ai (ai rfl (ai rfl (ai rfl (ai rfl (ai (fun _ => Or.inl rfl) (ai (by first | exact nof | exact (fun _ => ai rfl rfl)) (by first | exact Or.inl rfl | exact Or.inr rfl))))))) (ai ?_ (ai trivial (ai ?_ ?_)))))))
  · skip
    (repeat' (first | exact rfl | exact trivial | exact (fun _ => rfl) | exact (fun _ _ => rfl) | exact nof | refine ai ?_ ?_))
    show rv (4 : Nat) ((1085102592571150095#64).toNat : Int) (rv (2 : Nat) ((3689348814741910323#64).toNat : Int) (rv (1 : Nat) ((6148914691236517205#64).toNat : Int) (x.toNat : Int))) = _
    rw [rv_eq, rv_eq, rv_eq]
  · trivial
  refine ai (ai (fun _ => (by (repeat' (first | exact rfl | exact trivial | exact (fun _ => rfl) | exact (fun _ _ => rfl) | exact nof | refine ai ?_ ?_)))) ?_) trivial
  any_goals (repeat' (first | with_reducible rfl | exact trivial | refine ai ?_ ?_ | (show (_ : Int) = _; first | with_reducible rfl | exact wr1 (by omega) | (simp only [zz, reduceCtorEq] <;> first | done | rfl | omega) | omega | rfl) | exact rfl | exact (fun _ => rfl) | exact (fun _ _ => rfl) | exact nof))
theorem rev_ok : FnOk Tryz.prog 49 revS := by
  refine fnOk (Tb := tab) mixed tab_ok Tryz.func49 rfl rfl ?_
  rintro (x : U) hpre
  refine ai (ai rfl (ai rfl rfl)) ?_
  refine ei _ (ai rev64_ok (ei (x) (ei [] (ai (ai rfl (ai rfl (ai rfl (ai rfl (ai (fun _ => Or.inl rfl) (ai (by first | exact nof | exact (fun _ => ai rfl rfl)) (by first | exact Or.inl rfl | exact Or.inr rfl))))))) (ai (by (repeat' (first | with_reducible rfl | exact trivial | refine ai ?_ ?_ | (show (_ : Int) = _; first | with_reducible rfl | exact wr1 (by omega) | (simp only [zz, reduceCtorEq] <;> first | done | rfl | omega) | omega | rfl) | exact rfl | exact (fun _ => rfl) | exact (fun _ _ => rfl) | exact nof))) (ai trivial (ai (trivial) ?_)))))))
  refine ai (ai (fun _ => (by (repeat' (first | exact rfl | exact trivial | exact (fun _ => rfl) | exact (fun _ _ => rfl) | exact nof | refine ai ?_ ?_)))) ?_) trivial
  any_goals (repeat' (first | with_reducible rfl | exact trivial | refine ai ?_ ?_ | (show (_ : Int) = _; first | with_reducible rfl | exact wr1 (by omega) | (simp only [zz, reduceCtorEq] <;> first | done | rfl | omega) | omega | rfl) | exact rfl | exact (fun _ => rfl) | exact (fun _ _ => rfl) | exact nof))

/-- what a stage moves -/
def mvAt (s : Nat) (m : U) (i : Nat) : Nat := if m.getLsbD i then i + s else i - s
theorem rv_bit {s : Nat} {m : U} (h : ∀ i, i < 64 → m.getLsbD i = !(decide (s ≤ i) && m.getLsbD (i - s))) (x : U) {i : Nat} (hi : i < 64) : (rvU s m x).getLsbD i = x.getLsbD (mvAt s m i) := by
  have h1 := h i hi
  unfold rvU mvAt
  rw [BitVec.getLsbD_or, BitVec.getLsbD_and, BitVec.getLsbD_ushiftRight, BitVec.getLsbD_shiftLeft, BitVec.getLsbD_and, Nat.add_comm s i]
  cases h2 : m.getLsbD i with
  | true =>
    rw [h2] at h1
    rw [if_pos rfl, Bool.and_true]
    cases h3 : x.getLsbD (i + s) with
    | true => rfl
    | false =>
      rw [Bool.false_or]
      by_cases hs : s ≤ i
      · have h4 : m.getLsbD (i - s) = false := by simpa [hs] using h1
        rw [h4]; simp
      · have h4 : i < s := by omega
        simp [h4]
  | false =>
    rw [h2] at h1
    rw [if_neg (by decide), Bool.and_false, Bool.false_or]
    have h3 : s ≤ i ∧ m.getLsbD (i - s) = true := by simpa using h1
    have h4 : ¬ i < s := by omega
    simp [hi, h4, h3.2]
theorem rvl_bit (x : U) {i : Nat} (hi : i < 64) : (rvL 32 x).getLsbD i = x.getLsbD (if i < 32 then i + 32 else i - 32) := by
  unfold rvL
  rw [BitVec.getLsbD_or, BitVec.getLsbD_ushiftRight, BitVec.getLsbD_shiftLeft]
  by_cases h : i < 32
  · rw [if_pos h, Nat.add_comm 32 i]; simp [h]
  · have h2 : x.getLsbD (32 + i) = false := BitVec.getLsbD_of_ge _ _ (by omega)
    rw [h2, if_neg h]; simp [h, hi]
theorem rev_bit (x : U) {i : Nat} (hi : i < 64) : (revU x).getLsbD i = x.getLsbD (63 - i) := by
  have k : ∀ i, i < 64 → ((if i < 32 then i + 32 else i - 32) < 64 ∧ mvAt 16 281470681808895#64 (if i < 32 then i + 32 else i - 32) < 64 ∧ mvAt 8 71777214294589695#64 (mvAt 16 281470681808895#64 (if i < 32 then i + 32 else i - 32)) < 64
      ∧ mvAt 4 1085102592571150095#64 (mvAt 8 71777214294589695#64 (mvAt 16 281470681808895#64 (if i < 32 then i + 32 else i - 32))) < 64
      ∧ mvAt 2 3689348814741910323#64 (mvAt 4 1085102592571150095#64 (mvAt 8 71777214294589695#64 (mvAt 16 281470681808895#64 (if i < 32 then i + 32 else i - 32)))) < 64
      ∧ mvAt 1 6148914691236517205#64 (mvAt 2 3689348814741910323#64 (mvAt 4 1085102592571150095#64 (mvAt 8 71777214294589695#64 (mvAt 16 281470681808895#64 (if i < 32 then i + 32 else i - 32))))) = 63 - i) := by decide +kernel
  obtain ⟨k1, k2, k3, k4, k5, k6⟩ := k i hi
  unfold revU
  rw [rvl_bit _ hi, rv_bit (by decide +kernel) _ k1, rv_bit (by decide +kernel) _ k2, rv_bit (by decide +kernel) _ k3, rv_bit (by decide +kernel) _ k4, rv_bit (by decide +kernel) _ k5, k6]
theorem rev_zero {x : U} : revU x = 0#64 ↔ x = 0#64 := by
  constructor
  · intro h
    apply BitVec.eq_of_getLsbD_eq
    intro i hi
    have := rev_bit x (show 63 - i < 64 by omega)
    rw [h, show 63 - (63 - i) = i by omega] at this
    rw [← this, BitVec.getLsbD_zero, BitVec.getLsbD_zero]
  · rintro rfl; decide
theorem len_zero {x : U} (h : x ≠ 0#64) : 1 ≤ lenU x ∧ lenU x ≤ 64 := by
  have h1 : x.toNat ≠ 0 := fun e => h (BitVec.eq_of_toNat_eq e)
  unfold lenU
  have h2 := Lib.bitLen_half x.toNat h1 x.isLt
  have h3 := Lib.bitLen_le x.toNat 64 (Nat.le_refl _) x.isLt
  omega

end Go.Sx.Pn
