/- Contracts of package truth: cofactors. -/
import Derived.Test.YtmncplgccielbaaDoorTruth3
set_option maxHeartbeats 1000000
set_option maxRecDepth 4000
set_option linter.unusedSimpArgs false
set_option linter.unusedVariables false
set_option linter.unusedSectionVars false
namespace Go.Proofs.YtmncplgccielbaaDoor
open Go.RowKit Go.Shelf

theorem andNot_setb (k i : Nat) (hk : k < 2 ^ 63) (hi : i < 63) : k &&& (18446744073709551615 - 2 ^ i) = T.setb k i false := by
  apply Nat.eq_of_testBit_eq; intro j
  rw [T.testBit_setb, testBit_andNot _ _ _ (pow_lt (by omega)), Nat.testBit_two_pow]
  by_cases hj : j < 64
  · by_cases e : j = i
    · simp [e]
    · simp [e, Ne.symm e, hj]
  · rw [Nat.testBit_lt_two_pow (Nat.lt_of_lt_of_le hk (Nat.pow_le_pow_right (by omega) (by omega)))]
    by_cases e : j = i
    · omega
    · simp [e]

theorem i64_wrap_pow (i : Nat) (hi : i < 63) : wrap64 (2 ^ i) = ((2 ^ i : Nat) : Int) := by
  have h2 : ((2:Int) ^ i) = ((2 ^ i : Nat) : Int) := by simp
  rw [h2]; have h3 : 2 ^ i < 2 ^ 63 := pow_lt hi; generalize 2 ^ i = p at h3; exact IntWalk.wrap64_in _ ⟨by omega, by omega⟩

theorem i64_wrap_pow' (i : Nat) (hi : i < 63) : IntKind.i64.wrap (2 ^ i) = ((2 ^ i : Nat) : Int) := by
  have h2 : ((2:Int) ^ i) = ((2 ^ i : Nat) : Int) := by simp
  rw [h2]; exact wrap_i64_nat _ (pow_lt hi)

set_option maxRecDepth 100000 in
set_option maxHeartbeats 400000 in
theorem tFixed1_any (Bv Bt Bi : Nat) (v : Bool) (N : Int) (b i k : Nat) (hb : b < 2 ^ 64) (hi : i < 6) (hk : k < 64) (w : World) (h1 : Blk w Bv #[.bool v] 4) (h2 : Blk w Bt #[.int .i64 N, .int .u64 b] 24) (h3 : Blk w Bi #[.int .i64 i] 3) :
    Calls Tryd.prog 41 #[.int .i64 k, .pointer (some ⟨Bv, 0, none⟩), .pointer (some ⟨Bt, 0, none⟩), .pointer (some ⟨Bi, 0, none⟩)] w fun e w' => e = .returned (.bool (b.testBit (T.setb k i v))) ∧ Below w.heap.size w w' := by
  have c1 := h1.cell 0
  have c2 := h2.cell 0
  have c3 := h2.cell 1
  have c4 := h3.cell 0
  simp only [List.getElem?_toArray, List.getElem?_cons_zero, List.getElem?_cons_succ] at c1 c2 c3 c4
  have l2 := h2.lt
  have l3 := h3.lt
  have hp := i64_wrap_pow' i (by omega)
  have hps : 2 ^ i < 2 ^ 63 := pow_lt (by omega)
  have e1 := i64_andNot_nat k (2 ^ i) (by omega) hps
  rw [andNot_setb k i (by omega) (by omega)] at e1
  have e2 := i64_or_nat k (2 ^ i) (by omega) hps
  rw [T.or_setb k i] at e2
  generalize hpp : 2 ^ i = p at hp e1 e2 hps
  clear hpp
  have hs := fun v => T.setb_lt (n := 6) (k := k) v (by omega) hi
  have hs1 := hs false
  have hs2 := hs true
  clear hs
  cases v
  · clear e2
    go_enter Tryd.func41, Tryd.ntmps41
    go_wp2_with fail
    clear h1 h2 h3 c1
    go_region_held3 (fun W9 => Below w.heap.size w W9 ∧ W9.cell? ⟨Bt, 0, none⟩ = some (.int .i64 N) ∧ W9.cell? ⟨Bt, 1, none⟩ = some (.int .u64 b) ∧ W9.cell? ⟨Bi, 0, none⟩ = some (.int .i64 i)) (first | exact ⟨hB9, (hB9.cell (p := ⟨Bt, 0, none⟩) l2).trans c2, (hB9.cell (p := ⟨Bt, 1, none⟩) l2).trans c3, (hB9.cell (p := ⟨Bi, 0, none⟩) l3).trans c4⟩ | exact ⟨(Below.refl _ _).drew, c2, c3, c4⟩)
      (first | (go_at_call 20; refine (later (tAt_any N b (T.setb k i false) hb hs1 _) (by go_split_ands; assumption) (Nat.le_refl _)).mono ?_; rintro e w9 ⟨rfl, hB9⟩))
    go_wp2_with fail
    go_ret
    exact ⟨rfl, hB9⟩
  · clear e1
    go_enter Tryd.func41, Tryd.ntmps41
    go_wp2_with fail
    clear h1 h2 h3 c1
    go_region_held3 (fun W9 => Below w.heap.size w W9 ∧ W9.cell? ⟨Bt, 0, none⟩ = some (.int .i64 N) ∧ W9.cell? ⟨Bt, 1, none⟩ = some (.int .u64 b) ∧ W9.cell? ⟨Bi, 0, none⟩ = some (.int .i64 i)) (first | exact ⟨hB9, (hB9.cell (p := ⟨Bt, 0, none⟩) l2).trans c2, (hB9.cell (p := ⟨Bt, 1, none⟩) l2).trans c3, (hB9.cell (p := ⟨Bi, 0, none⟩) l3).trans c4⟩ | exact ⟨(Below.refl _ _).drew, c2, c3, c4⟩)
      (first | (go_at_call 20; refine (later (tAt_any N b (T.setb k i true) hb hs2 _) (by go_split_ands; assumption) (Nat.le_refl _)).mono ?_; rintro e w9 ⟨rfl, hB9⟩))
    go_wp2_with fail
    go_ret
    exact ⟨rfl, hB9⟩

end Go.Proofs.YtmncplgccielbaaDoor
