/- Contracts of package truth: Value, Not, joined, And, Or, Xor. -/
import Derived.Test.YtmncplgccielbaaDoorTruth5
import Derived.StillTailTactics
set_option maxHeartbeats 1000000
set_option maxRecDepth 4000
set_option linter.unusedSimpArgs false
set_option linter.unusedVariables false
set_option linter.unusedSectionVars false
namespace Go.Proofs.YtmncplgccielbaaDoor
open Go.RowKit Go.Shelf

abbrev boolE (r : Bool × Int) : Value := .tuple #[.bool r.1, .int .i64 r.2]

theorem xor_whole {n b : Nat} (hb : b < 2 ^ M.sz n) : b ^^^ (2 ^ M.sz n - 1) = M.mkB (fun k => !b.testBit k) (M.sz n) := by
  refine M.ext_below (Nat.xor_lt_two_pow hb (by have := Nat.one_le_two_pow (n := M.sz n); omega)) (M.mkB_lt _ _) fun j hj => ?_
  rw [M.testBit_mkB, Nat.testBit_xor, Nat.testBit_two_pow_sub_one]
  simp [hj]

theorem tAnd1_any (a b : Nat) (ha : a < 2 ^ 64) (hb : b < 2 ^ 64) (w : World) : Calls Tryd.prog 29 #[.int .u64 a, .int .u64 b] w fun e w' => e = .returned (.int .u64 (a &&& b : Nat)) ∧ w' = w := by
  have hx := u64_and_nat a b ha hb
  go_enter Tryd.func29, Tryd.ntmps29
  go_wp2
  go_ret
  exact ⟨rfl, rfl⟩
theorem tXor1_any (a b : Nat) (ha : a < 2 ^ 64) (hb : b < 2 ^ 64) (w : World) : Calls Tryd.prog 30 #[.int .u64 a, .int .u64 b] w fun e w' => e = .returned (.int .u64 (a ^^^ b : Nat)) ∧ w' = w := by
  have hx := u64_xor_nat a b ha hb
  go_enter Tryd.func30, Tryd.ntmps30
  go_wp2
  go_ret
  exact ⟨rfl, rfl⟩

theorem given_cases (N O : Int) (a b : Nat) : (T.Right N a ∧ T.Right O b ∧ N = O ∧ T.givenS N a O b = 0) ∨ (T.Right N a ∧ T.Right O b ∧ N ≠ O ∧ T.givenS N a O b = 8) ∨
    (T.Right N a ∧ (T.chk O b = 2 ∧ T.givenS N a O b = 2 ∨ T.chk O b = 3 ∧ T.givenS N a O b = 3)) ∨ (T.chk N a = 2 ∧ T.givenS N a O b = 2) ∨ (T.chk N a = 3 ∧ T.givenS N a O b = 3) := by
  unfold T.givenS
  rcases T.chk_cases N a with ⟨hR, h0⟩ | ⟨hR, h0 | h0⟩
  · rw [if_pos h0]
    rcases T.chk_cases O b with ⟨hS, h1⟩ | ⟨hS, h1 | h1⟩
    · rw [if_pos h1]
      by_cases h : N = O
      · rw [if_pos h]; exact .inl ⟨hR, hS, h, rfl⟩
      · rw [if_neg h]; exact .inr (.inl ⟨hR, hS, h, rfl⟩)
    · rw [if_neg (by omega), h1]; exact .inr (.inr (.inl ⟨hR, .inl ⟨rfl, rfl⟩⟩))
    · rw [if_neg (by omega), h1]; exact .inr (.inr (.inl ⟨hR, .inr ⟨rfl, rfl⟩⟩))
  · rw [if_neg (by omega), h0]; exact .inr (.inr (.inr (.inl ⟨rfl, rfl⟩)))
  · rw [if_neg (by omega), h0]; exact .inr (.inr (.inr (.inr ⟨rfl, rfl⟩)))

set_option maxRecDepth 100000 in
set_option maxHeartbeats 1000000 in
theorem tJoined_any (f : Nat → Nat → Nat) (gf : Nat) (N O : Int) (a b : Nat) (ha : a < 2 ^ 64) (hb : b < 2 ^ 64) (w : World)
    (eg : ∀ args w, (callFunc gf args).run Tryd.prog w = .ok (.enter gf args) w)
    (hf : ∀ W, Calls Tryd.prog gf #[.int .u64 a, .int .u64 b] W fun e W' => e = .returned (.int .u64 (f a b : Nat)) ∧ W' = W) :
    Calls Tryd.prog 28 #[.agg #[.int .i64 N, .int .u64 a], .agg #[.int .i64 O, .int .u64 b], .func (.func gf) #[] #[]] w fun e w' => e = .returned (tabE (T.joinS f N a O b)) ∧ Below w.heap.size w w' := by
  obtain ⟨W0, HW0⟩ : ∃ W0, (((((w.alloc (.cells #[.int .i64 N, .int .u64 a] 24)).alloc (.cells #[.int .i64 O, .int .u64 b] 24)).alloc (.cells #[.int .i64 0, .int .u64 0] 24)).alloc (.cells #[.int .i64 N, .int .u64 a, .int .i64 O, .int .u64 b] 24)).alloc (.cells #[.int .i64 N, .int .u64 a] 24)) = W0 := ⟨_, rfl⟩
  have sW0 : W0.heap.size = w.heap.size + 5 := by rw [← HW0]; simp only [World.size_alloc]
  have W0b0 : Blk W0 (w.heap.size) #[.int .i64 N, .int .u64 a] 24 := by
    rw [← HW0]; repeat (first | (refine Blk.new' ?_; first | rfl | (simp only [World.size_alloc]; done)) | refine Blk.alloc ?_ _)
  have W0b1 : Blk W0 (w.heap.size + 1) #[.int .i64 O, .int .u64 b] 24 := by
    rw [← HW0]; repeat (first | (refine Blk.new' ?_; first | rfl | (simp only [World.size_alloc]; done)) | refine Blk.alloc ?_ _)
  have W0b2 : Blk W0 (w.heap.size + 1 + 1) #[.int .i64 0, .int .u64 0] 24 := by
    rw [← HW0]; repeat (first | (refine Blk.new' ?_; first | rfl | (simp only [World.size_alloc]; done)) | refine Blk.alloc ?_ _)
  have W0b3 : Blk W0 (w.heap.size + 1 + 1 + 1) #[.int .i64 N, .int .u64 a, .int .i64 O, .int .u64 b] 24 := by
    rw [← HW0]; repeat (first | (refine Blk.new' ?_; first | rfl | (simp only [World.size_alloc]; done)) | refine Blk.alloc ?_ _)
  have W0b4 : Blk W0 (w.heap.size + 1 + 1 + 1 + 1) #[.int .i64 N, .int .u64 a] 24 := by
    rw [← HW0]; repeat (first | (refine Blk.new' ?_; first | rfl | (simp only [World.size_alloc]; done)) | refine Blk.alloc ?_ _)
  have W0B : Below w.heap.size w W0 := by
    rw [← HW0]
    repeat (first
      | exact Below.refl _ _
      | assumption
      | refine Below.drew ?_
      | refine below_drewN ?_ _
      | refine Below.setCell ?_ (by first | (simp only [World.size_alloc, sz_setCell, sz_drew, sz_drewN, sz_putObj] at *; omega) | omega | (simp; omega) | simp) _
      | refine Below.alloc ?_ (by first | (simp only [World.size_alloc, sz_setCell, sz_drew, sz_drewN, sz_putObj] at *; omega) | omega | (simp; omega) | simp) _
      | refine Below.trans ?_ (Below.mono (by assumption) (by first | (simp only [World.size_alloc, sz_setCell, sz_drew, sz_drewN, sz_putObj] at *; omega) | omega | (simp; omega) | simp)))
  replace HW0 := Lib.hid HW0
  have hC1 := tCheck_any N a W0 ha
  have hC2 := fun W => tCheck_any O b W hb
  rcases given_cases N O a b with ⟨hR, hS, hNO, h0⟩ | ⟨hR, hS, hNO, h0⟩ | ⟨hR, ⟨h1, h0⟩ | ⟨h1, h0⟩⟩ | ⟨h1, h0⟩ | ⟨h1, h0⟩
  · rw [T.chk_right hR] at hC1
    rw [T.chk_right hS] at hC2
    have HC : Hid (T.joinS f N a O b = (N, f a b, 0)) := by unfold T.joinS; rw [if_pos h0]; rfl
    have hne : (N == O) = true := by simpa using hNO
    clear h0 hR hS hNO
    go_enter Tryd.func28, Tryd.ntmps28
    go_wp2_with (fail)
    refine wp_loop_rounds 3 ?_
    rw [rounds_succ]
    go_wp2_with (first | (go_at_call 16; rw [HW0.out]; refine (hC1).mono ?_; rintro e w' ⟨rfl, hb⟩; have hz := hb.size; have dl0 := (W0b0.ext hb).lt; have d0 := (W0b0.ext hb).cell 0; have df0 := (W0b0.ext hb).frozen 0; have d1 := (W0b0.ext hb).cell 1; have df1 := (W0b0.ext hb).frozen 1; have dl2 := (W0b1.ext hb).lt; have d2 := (W0b1.ext hb).cell 0; have df2 := (W0b1.ext hb).frozen 0; have d3 := (W0b1.ext hb).cell 1; have df3 := (W0b1.ext hb).frozen 1; have dl4 := (W0b2.ext hb).lt; have d4 := (W0b2.ext hb).cell 0; have df4 := (W0b2.ext hb).frozen 0; have d5 := (W0b2.ext hb).cell 1; have df5 := (W0b2.ext hb).frozen 1; have dl6 := (W0b3.ext hb).lt; have d6 := (W0b3.ext hb).cell 0; have df6 := (W0b3.ext hb).frozen 0; have d7 := (W0b3.ext hb).cell 1; have df7 := (W0b3.ext hb).frozen 1; have d8 := (W0b3.ext hb).cell 2; have df8 := (W0b3.ext hb).frozen 2; have d9 := (W0b3.ext hb).cell 3; have df9 := (W0b3.ext hb).frozen 3; simp only [List.getElem?_toArray, List.getElem?_cons_zero, List.getElem?_cons_succ] at d0 d1 d2 d3 d4 d5 d6 d7 d8 d9))
    rw [rounds_succ]
    go_wp2_with (first | (go_at_call 16; refine (hC2 _).mono ?_; rintro e w2 ⟨rfl, hb2⟩; have hz2 := hb2.size; have d2l0 := (((W0b0.ext hb).alloc _).ext hb2).lt; have d20 := (((W0b0.ext hb).alloc _).ext hb2).cell 0; have d2f0 := (((W0b0.ext hb).alloc _).ext hb2).frozen 0; have d21 := (((W0b0.ext hb).alloc _).ext hb2).cell 1; have d2f1 := (((W0b0.ext hb).alloc _).ext hb2).frozen 1; have d2l2 := (((W0b1.ext hb).alloc _).ext hb2).lt; have d22 := (((W0b1.ext hb).alloc _).ext hb2).cell 0; have d2f2 := (((W0b1.ext hb).alloc _).ext hb2).frozen 0; have d23 := (((W0b1.ext hb).alloc _).ext hb2).cell 1; have d2f3 := (((W0b1.ext hb).alloc _).ext hb2).frozen 1; have d2l4 := (((W0b2.ext hb).alloc _).ext hb2).lt; have d24 := (((W0b2.ext hb).alloc _).ext hb2).cell 0; have d2f4 := (((W0b2.ext hb).alloc _).ext hb2).frozen 0; have d25 := (((W0b2.ext hb).alloc _).ext hb2).cell 1; have d2f5 := (((W0b2.ext hb).alloc _).ext hb2).frozen 1; have d2l6 := (((W0b3.ext hb).alloc _).ext hb2).lt; have d26 := (((W0b3.ext hb).alloc _).ext hb2).cell 0; have d2f6 := (((W0b3.ext hb).alloc _).ext hb2).frozen 0; have d27 := (((W0b3.ext hb).alloc _).ext hb2).cell 1; have d2f7 := (((W0b3.ext hb).alloc _).ext hb2).frozen 1; have d28 := (((W0b3.ext hb).alloc _).ext hb2).cell 2; have d2f8 := (((W0b3.ext hb).alloc _).ext hb2).frozen 2; have d29 := (((W0b3.ext hb).alloc _).ext hb2).cell 3; have d2f9 := (((W0b3.ext hb).alloc _).ext hb2).frozen 3; simp only [List.getElem?_toArray, List.getElem?_cons_zero, List.getElem?_cons_succ] at d20 d21 d22 d23 d24 d25 d26 d27 d28 d29))
    rw [rounds_succ]
    go_wp2_with (fail)
    refine wp_region_still_tail 9 (by kernel_rfl) (by kernel_rfl) ?_
    simp only [List.take_succ_cons, List.take_zero, List.drop_succ_cons, List.drop_zero]
    repeat (first | still_step | still_call (hf _))
    refine wpStill_nil ?_
    change wpList _ _ _ _ _ (World.drew _)
    go_wp2
    generalize hW3 : World.drew _ = W3
    have r1 : Blk W3 (w.heap.size + 1 + 1) #[.int .i64 (N), .int .u64 (f a b)] 24 := by
      rw [← hW3]; exact (((((W0b2.ext hb).alloc _).ext hb2).set 0 _).set 1 _).drew
    have r2 := r1.cell 0
    have r3 := r1.cell 1
    refine bodyPost_ret (v := tabE (T.joinS f N a O b)) ?_ rfl ⟨rfl, ?_⟩
    · rw [HC.out]; simp [results, Tryd.results28, go_sem, r2, r3]
    · rw [← hW3]
      repeat (first
        | exact Below.refl _ _
        | assumption
        | refine Below.drew ?_
        | refine below_drewN ?_ _
        | refine Below.setCell ?_ (by first | (simp only [World.size_alloc, sz_setCell, sz_drew, sz_drewN, sz_putObj] at *; omega) | omega | (simp; omega) | simp) _
        | refine Below.alloc ?_ (by first | (simp only [World.size_alloc, sz_setCell, sz_drew, sz_drewN, sz_putObj] at *; omega) | omega | (simp; omega) | simp) _
        | refine Below.trans ?_ (Below.mono (by assumption) (by first | (simp only [World.size_alloc, sz_setCell, sz_drew, sz_drewN, sz_putObj] at *; omega) | omega | (simp; omega) | simp)))
  · rw [T.chk_right hR] at hC1
    rw [T.chk_right hS] at hC2
    have HC : Hid (T.joinS f N a O b = (0, 0, 8)) := by unfold T.joinS; rw [if_neg (by omega), h0]; rfl
    have hne : (N == O) = false := by simpa using hNO
    clear h0 hR hS hNO
    go_enter Tryd.func28, Tryd.ntmps28
    go_wp2_with (fail)
    refine wp_loop_rounds 3 ?_
    rw [rounds_succ]
    go_wp2_with (first | (go_at_call 16; rw [HW0.out]; refine (hC1).mono ?_; rintro e w' ⟨rfl, hb⟩; have hz := hb.size; have dl0 := (W0b0.ext hb).lt; have d0 := (W0b0.ext hb).cell 0; have df0 := (W0b0.ext hb).frozen 0; have d1 := (W0b0.ext hb).cell 1; have df1 := (W0b0.ext hb).frozen 1; have dl2 := (W0b1.ext hb).lt; have d2 := (W0b1.ext hb).cell 0; have df2 := (W0b1.ext hb).frozen 0; have d3 := (W0b1.ext hb).cell 1; have df3 := (W0b1.ext hb).frozen 1; have dl4 := (W0b2.ext hb).lt; have d4 := (W0b2.ext hb).cell 0; have df4 := (W0b2.ext hb).frozen 0; have d5 := (W0b2.ext hb).cell 1; have df5 := (W0b2.ext hb).frozen 1; have dl6 := (W0b3.ext hb).lt; have d6 := (W0b3.ext hb).cell 0; have df6 := (W0b3.ext hb).frozen 0; have d7 := (W0b3.ext hb).cell 1; have df7 := (W0b3.ext hb).frozen 1; have d8 := (W0b3.ext hb).cell 2; have df8 := (W0b3.ext hb).frozen 2; have d9 := (W0b3.ext hb).cell 3; have df9 := (W0b3.ext hb).frozen 3; simp only [List.getElem?_toArray, List.getElem?_cons_zero, List.getElem?_cons_succ] at d0 d1 d2 d3 d4 d5 d6 d7 d8 d9))
    rw [rounds_succ]
    go_wp2_with (first | (go_at_call 16; refine (hC2 _).mono ?_; rintro e w2 ⟨rfl, hb2⟩; have hz2 := hb2.size; have d2l0 := (((W0b0.ext hb).alloc _).ext hb2).lt; have d20 := (((W0b0.ext hb).alloc _).ext hb2).cell 0; have d2f0 := (((W0b0.ext hb).alloc _).ext hb2).frozen 0; have d21 := (((W0b0.ext hb).alloc _).ext hb2).cell 1; have d2f1 := (((W0b0.ext hb).alloc _).ext hb2).frozen 1; have d2l2 := (((W0b1.ext hb).alloc _).ext hb2).lt; have d22 := (((W0b1.ext hb).alloc _).ext hb2).cell 0; have d2f2 := (((W0b1.ext hb).alloc _).ext hb2).frozen 0; have d23 := (((W0b1.ext hb).alloc _).ext hb2).cell 1; have d2f3 := (((W0b1.ext hb).alloc _).ext hb2).frozen 1; have d2l4 := (((W0b2.ext hb).alloc _).ext hb2).lt; have d24 := (((W0b2.ext hb).alloc _).ext hb2).cell 0; have d2f4 := (((W0b2.ext hb).alloc _).ext hb2).frozen 0; have d25 := (((W0b2.ext hb).alloc _).ext hb2).cell 1; have d2f5 := (((W0b2.ext hb).alloc _).ext hb2).frozen 1; have d2l6 := (((W0b3.ext hb).alloc _).ext hb2).lt; have d26 := (((W0b3.ext hb).alloc _).ext hb2).cell 0; have d2f6 := (((W0b3.ext hb).alloc _).ext hb2).frozen 0; have d27 := (((W0b3.ext hb).alloc _).ext hb2).cell 1; have d2f7 := (((W0b3.ext hb).alloc _).ext hb2).frozen 1; have d28 := (((W0b3.ext hb).alloc _).ext hb2).cell 2; have d2f8 := (((W0b3.ext hb).alloc _).ext hb2).frozen 2; have d29 := (((W0b3.ext hb).alloc _).ext hb2).cell 3; have d2f9 := (((W0b3.ext hb).alloc _).ext hb2).frozen 3; simp only [List.getElem?_toArray, List.getElem?_cons_zero, List.getElem?_cons_succ] at d20 d21 d22 d23 d24 d25 d26 d27 d28 d29))
    rw [rounds_succ]
    go_wp2_with (fail)
    generalize hW3 : World.setCell (World.setCell _ _ _) _ _ = W3
    have r1 : Blk W3 (w.heap.size + 1 + 1) #[.int .i64 (0), .int .u64 ((0 : Nat))] 24 := by
      rw [← hW3]; exact ((((W0b2.ext hb).alloc _).ext hb2).set 0 _).set 1 _
    have r2 := r1.cell 0
    have r3 := r1.cell 1
    refine bodyPost_ret (v := tabE (T.joinS f N a O b)) ?_ rfl ⟨rfl, ?_⟩
    · rw [HC.out]; simp [results, Tryd.results28, go_sem, r2, r3]
    · rw [← hW3]
      repeat (first
        | exact Below.refl _ _
        | assumption
        | refine Below.drew ?_
        | refine below_drewN ?_ _
        | refine Below.setCell ?_ (by first | (simp only [World.size_alloc, sz_setCell, sz_drew, sz_drewN, sz_putObj] at *; omega) | omega | (simp; omega) | simp) _
        | refine Below.alloc ?_ (by first | (simp only [World.size_alloc, sz_setCell, sz_drew, sz_drewN, sz_putObj] at *; omega) | omega | (simp; omega) | simp) _
        | refine Below.trans ?_ (Below.mono (by assumption) (by first | (simp only [World.size_alloc, sz_setCell, sz_drew, sz_drewN, sz_putObj] at *; omega) | omega | (simp; omega) | simp)))
  · rw [T.chk_right hR] at hC1
    rw [h1] at hC2
    have HC : Hid (T.joinS f N a O b = (0, 0, 2)) := by unfold T.joinS; rw [if_neg (by omega), h0]; rfl
    clear h0 h1 hR
    go_enter Tryd.func28, Tryd.ntmps28
    go_wp2_with (fail)
    refine wp_loop_rounds 3 ?_
    rw [rounds_succ]
    go_wp2_with (first | (go_at_call 16; rw [HW0.out]; refine (hC1).mono ?_; rintro e w' ⟨rfl, hb⟩; have hz := hb.size; have dl0 := (W0b0.ext hb).lt; have d0 := (W0b0.ext hb).cell 0; have df0 := (W0b0.ext hb).frozen 0; have d1 := (W0b0.ext hb).cell 1; have df1 := (W0b0.ext hb).frozen 1; have dl2 := (W0b1.ext hb).lt; have d2 := (W0b1.ext hb).cell 0; have df2 := (W0b1.ext hb).frozen 0; have d3 := (W0b1.ext hb).cell 1; have df3 := (W0b1.ext hb).frozen 1; have dl4 := (W0b2.ext hb).lt; have d4 := (W0b2.ext hb).cell 0; have df4 := (W0b2.ext hb).frozen 0; have d5 := (W0b2.ext hb).cell 1; have df5 := (W0b2.ext hb).frozen 1; have dl6 := (W0b3.ext hb).lt; have d6 := (W0b3.ext hb).cell 0; have df6 := (W0b3.ext hb).frozen 0; have d7 := (W0b3.ext hb).cell 1; have df7 := (W0b3.ext hb).frozen 1; have d8 := (W0b3.ext hb).cell 2; have df8 := (W0b3.ext hb).frozen 2; have d9 := (W0b3.ext hb).cell 3; have df9 := (W0b3.ext hb).frozen 3; simp only [List.getElem?_toArray, List.getElem?_cons_zero, List.getElem?_cons_succ] at d0 d1 d2 d3 d4 d5 d6 d7 d8 d9))
    rw [rounds_succ]
    go_wp2_with (first | (go_at_call 16; refine (hC2 _).mono ?_; rintro e w2 ⟨rfl, hb2⟩; have hz2 := hb2.size; have d2l0 := (((W0b0.ext hb).alloc _).ext hb2).lt; have d20 := (((W0b0.ext hb).alloc _).ext hb2).cell 0; have d2f0 := (((W0b0.ext hb).alloc _).ext hb2).frozen 0; have d21 := (((W0b0.ext hb).alloc _).ext hb2).cell 1; have d2f1 := (((W0b0.ext hb).alloc _).ext hb2).frozen 1; have d2l2 := (((W0b1.ext hb).alloc _).ext hb2).lt; have d22 := (((W0b1.ext hb).alloc _).ext hb2).cell 0; have d2f2 := (((W0b1.ext hb).alloc _).ext hb2).frozen 0; have d23 := (((W0b1.ext hb).alloc _).ext hb2).cell 1; have d2f3 := (((W0b1.ext hb).alloc _).ext hb2).frozen 1; have d2l4 := (((W0b2.ext hb).alloc _).ext hb2).lt; have d24 := (((W0b2.ext hb).alloc _).ext hb2).cell 0; have d2f4 := (((W0b2.ext hb).alloc _).ext hb2).frozen 0; have d25 := (((W0b2.ext hb).alloc _).ext hb2).cell 1; have d2f5 := (((W0b2.ext hb).alloc _).ext hb2).frozen 1; have d2l6 := (((W0b3.ext hb).alloc _).ext hb2).lt; have d26 := (((W0b3.ext hb).alloc _).ext hb2).cell 0; have d2f6 := (((W0b3.ext hb).alloc _).ext hb2).frozen 0; have d27 := (((W0b3.ext hb).alloc _).ext hb2).cell 1; have d2f7 := (((W0b3.ext hb).alloc _).ext hb2).frozen 1; have d28 := (((W0b3.ext hb).alloc _).ext hb2).cell 2; have d2f8 := (((W0b3.ext hb).alloc _).ext hb2).frozen 2; have d29 := (((W0b3.ext hb).alloc _).ext hb2).cell 3; have d2f9 := (((W0b3.ext hb).alloc _).ext hb2).frozen 3; simp only [List.getElem?_toArray, List.getElem?_cons_zero, List.getElem?_cons_succ] at d20 d21 d22 d23 d24 d25 d26 d27 d28 d29))
    generalize hW3 : World.setCell (World.setCell _ _ _) _ _ = W3
    have r1 : Blk W3 (w.heap.size + 1 + 1) #[.int .i64 (0), .int .u64 ((0 : Nat))] 24 := by
      rw [← hW3]; exact ((((W0b2.ext hb).alloc _).ext hb2).set 0 _).set 1 _
    have r2 := r1.cell 0
    have r3 := r1.cell 1
    refine bodyPost_ret (v := tabE (T.joinS f N a O b)) ?_ rfl ⟨rfl, ?_⟩
    · rw [HC.out]; simp [results, Tryd.results28, go_sem, r2, r3]
    · rw [← hW3]
      repeat (first
        | exact Below.refl _ _
        | assumption
        | refine Below.drew ?_
        | refine below_drewN ?_ _
        | refine Below.setCell ?_ (by first | (simp only [World.size_alloc, sz_setCell, sz_drew, sz_drewN, sz_putObj] at *; omega) | omega | (simp; omega) | simp) _
        | refine Below.alloc ?_ (by first | (simp only [World.size_alloc, sz_setCell, sz_drew, sz_drewN, sz_putObj] at *; omega) | omega | (simp; omega) | simp) _
        | refine Below.trans ?_ (Below.mono (by assumption) (by first | (simp only [World.size_alloc, sz_setCell, sz_drew, sz_drewN, sz_putObj] at *; omega) | omega | (simp; omega) | simp)))
  · rw [T.chk_right hR] at hC1
    rw [h1] at hC2
    have HC : Hid (T.joinS f N a O b = (0, 0, 3)) := by unfold T.joinS; rw [if_neg (by omega), h0]; rfl
    clear h0 h1 hR
    go_enter Tryd.func28, Tryd.ntmps28
    go_wp2_with (fail)
    refine wp_loop_rounds 3 ?_
    rw [rounds_succ]
    go_wp2_with (first | (go_at_call 16; rw [HW0.out]; refine (hC1).mono ?_; rintro e w' ⟨rfl, hb⟩; have hz := hb.size; have dl0 := (W0b0.ext hb).lt; have d0 := (W0b0.ext hb).cell 0; have df0 := (W0b0.ext hb).frozen 0; have d1 := (W0b0.ext hb).cell 1; have df1 := (W0b0.ext hb).frozen 1; have dl2 := (W0b1.ext hb).lt; have d2 := (W0b1.ext hb).cell 0; have df2 := (W0b1.ext hb).frozen 0; have d3 := (W0b1.ext hb).cell 1; have df3 := (W0b1.ext hb).frozen 1; have dl4 := (W0b2.ext hb).lt; have d4 := (W0b2.ext hb).cell 0; have df4 := (W0b2.ext hb).frozen 0; have d5 := (W0b2.ext hb).cell 1; have df5 := (W0b2.ext hb).frozen 1; have dl6 := (W0b3.ext hb).lt; have d6 := (W0b3.ext hb).cell 0; have df6 := (W0b3.ext hb).frozen 0; have d7 := (W0b3.ext hb).cell 1; have df7 := (W0b3.ext hb).frozen 1; have d8 := (W0b3.ext hb).cell 2; have df8 := (W0b3.ext hb).frozen 2; have d9 := (W0b3.ext hb).cell 3; have df9 := (W0b3.ext hb).frozen 3; simp only [List.getElem?_toArray, List.getElem?_cons_zero, List.getElem?_cons_succ] at d0 d1 d2 d3 d4 d5 d6 d7 d8 d9))
    rw [rounds_succ]
    go_wp2_with (first | (go_at_call 16; refine (hC2 _).mono ?_; rintro e w2 ⟨rfl, hb2⟩; have hz2 := hb2.size; have d2l0 := (((W0b0.ext hb).alloc _).ext hb2).lt; have d20 := (((W0b0.ext hb).alloc _).ext hb2).cell 0; have d2f0 := (((W0b0.ext hb).alloc _).ext hb2).frozen 0; have d21 := (((W0b0.ext hb).alloc _).ext hb2).cell 1; have d2f1 := (((W0b0.ext hb).alloc _).ext hb2).frozen 1; have d2l2 := (((W0b1.ext hb).alloc _).ext hb2).lt; have d22 := (((W0b1.ext hb).alloc _).ext hb2).cell 0; have d2f2 := (((W0b1.ext hb).alloc _).ext hb2).frozen 0; have d23 := (((W0b1.ext hb).alloc _).ext hb2).cell 1; have d2f3 := (((W0b1.ext hb).alloc _).ext hb2).frozen 1; have d2l4 := (((W0b2.ext hb).alloc _).ext hb2).lt; have d24 := (((W0b2.ext hb).alloc _).ext hb2).cell 0; have d2f4 := (((W0b2.ext hb).alloc _).ext hb2).frozen 0; have d25 := (((W0b2.ext hb).alloc _).ext hb2).cell 1; have d2f5 := (((W0b2.ext hb).alloc _).ext hb2).frozen 1; have d2l6 := (((W0b3.ext hb).alloc _).ext hb2).lt; have d26 := (((W0b3.ext hb).alloc _).ext hb2).cell 0; have d2f6 := (((W0b3.ext hb).alloc _).ext hb2).frozen 0; have d27 := (((W0b3.ext hb).alloc _).ext hb2).cell 1; have d2f7 := (((W0b3.ext hb).alloc _).ext hb2).frozen 1; have d28 := (((W0b3.ext hb).alloc _).ext hb2).cell 2; have d2f8 := (((W0b3.ext hb).alloc _).ext hb2).frozen 2; have d29 := (((W0b3.ext hb).alloc _).ext hb2).cell 3; have d2f9 := (((W0b3.ext hb).alloc _).ext hb2).frozen 3; simp only [List.getElem?_toArray, List.getElem?_cons_zero, List.getElem?_cons_succ] at d20 d21 d22 d23 d24 d25 d26 d27 d28 d29))
    generalize hW3 : World.setCell (World.setCell _ _ _) _ _ = W3
    have r1 : Blk W3 (w.heap.size + 1 + 1) #[.int .i64 (0), .int .u64 ((0 : Nat))] 24 := by
      rw [← hW3]; exact ((((W0b2.ext hb).alloc _).ext hb2).set 0 _).set 1 _
    have r2 := r1.cell 0
    have r3 := r1.cell 1
    refine bodyPost_ret (v := tabE (T.joinS f N a O b)) ?_ rfl ⟨rfl, ?_⟩
    · rw [HC.out]; simp [results, Tryd.results28, go_sem, r2, r3]
    · rw [← hW3]
      repeat (first
        | exact Below.refl _ _
        | assumption
        | refine Below.drew ?_
        | refine below_drewN ?_ _
        | refine Below.setCell ?_ (by first | (simp only [World.size_alloc, sz_setCell, sz_drew, sz_drewN, sz_putObj] at *; omega) | omega | (simp; omega) | simp) _
        | refine Below.alloc ?_ (by first | (simp only [World.size_alloc, sz_setCell, sz_drew, sz_drewN, sz_putObj] at *; omega) | omega | (simp; omega) | simp) _
        | refine Below.trans ?_ (Below.mono (by assumption) (by first | (simp only [World.size_alloc, sz_setCell, sz_drew, sz_drewN, sz_putObj] at *; omega) | omega | (simp; omega) | simp)))
  · rw [h1] at hC1
    have HC : Hid (T.joinS f N a O b = (0, 0, 2)) := by unfold T.joinS; rw [if_neg (by omega), h0]; rfl
    clear h0 h1
    go_enter Tryd.func28, Tryd.ntmps28
    go_wp2_with (fail)
    refine wp_loop_rounds 3 ?_
    rw [rounds_succ]
    go_wp2_with (first | (go_at_call 16; rw [HW0.out]; refine (hC1).mono ?_; rintro e w' ⟨rfl, hb⟩; have hz := hb.size; have dl0 := (W0b0.ext hb).lt; have d0 := (W0b0.ext hb).cell 0; have df0 := (W0b0.ext hb).frozen 0; have d1 := (W0b0.ext hb).cell 1; have df1 := (W0b0.ext hb).frozen 1; have dl2 := (W0b1.ext hb).lt; have d2 := (W0b1.ext hb).cell 0; have df2 := (W0b1.ext hb).frozen 0; have d3 := (W0b1.ext hb).cell 1; have df3 := (W0b1.ext hb).frozen 1; have dl4 := (W0b2.ext hb).lt; have d4 := (W0b2.ext hb).cell 0; have df4 := (W0b2.ext hb).frozen 0; have d5 := (W0b2.ext hb).cell 1; have df5 := (W0b2.ext hb).frozen 1; have dl6 := (W0b3.ext hb).lt; have d6 := (W0b3.ext hb).cell 0; have df6 := (W0b3.ext hb).frozen 0; have d7 := (W0b3.ext hb).cell 1; have df7 := (W0b3.ext hb).frozen 1; have d8 := (W0b3.ext hb).cell 2; have df8 := (W0b3.ext hb).frozen 2; have d9 := (W0b3.ext hb).cell 3; have df9 := (W0b3.ext hb).frozen 3; simp only [List.getElem?_toArray, List.getElem?_cons_zero, List.getElem?_cons_succ] at d0 d1 d2 d3 d4 d5 d6 d7 d8 d9))
    generalize hW3 : World.setCell (World.setCell _ _ _) _ _ = W3
    have r1 : Blk W3 (w.heap.size + 1 + 1) #[.int .i64 (0), .int .u64 ((0 : Nat))] 24 := by
      rw [← hW3]; exact ((W0b2.ext hb).set 0 _).set 1 _
    have r2 := r1.cell 0
    have r3 := r1.cell 1
    refine bodyPost_ret (v := tabE (T.joinS f N a O b)) ?_ rfl ⟨rfl, ?_⟩
    · rw [HC.out]; simp [results, Tryd.results28, go_sem, r2, r3]
    · rw [← hW3]
      repeat (first
        | exact Below.refl _ _
        | assumption
        | refine Below.drew ?_
        | refine below_drewN ?_ _
        | refine Below.setCell ?_ (by first | (simp only [World.size_alloc, sz_setCell, sz_drew, sz_drewN, sz_putObj] at *; omega) | omega | (simp; omega) | simp) _
        | refine Below.alloc ?_ (by first | (simp only [World.size_alloc, sz_setCell, sz_drew, sz_drewN, sz_putObj] at *; omega) | omega | (simp; omega) | simp) _
        | refine Below.trans ?_ (Below.mono (by assumption) (by first | (simp only [World.size_alloc, sz_setCell, sz_drew, sz_drewN, sz_putObj] at *; omega) | omega | (simp; omega) | simp)))
  · rw [h1] at hC1
    have HC : Hid (T.joinS f N a O b = (0, 0, 3)) := by unfold T.joinS; rw [if_neg (by omega), h0]; rfl
    clear h0 h1
    go_enter Tryd.func28, Tryd.ntmps28
    go_wp2_with (fail)
    refine wp_loop_rounds 3 ?_
    rw [rounds_succ]
    go_wp2_with (first | (go_at_call 16; rw [HW0.out]; refine (hC1).mono ?_; rintro e w' ⟨rfl, hb⟩; have hz := hb.size; have dl0 := (W0b0.ext hb).lt; have d0 := (W0b0.ext hb).cell 0; have df0 := (W0b0.ext hb).frozen 0; have d1 := (W0b0.ext hb).cell 1; have df1 := (W0b0.ext hb).frozen 1; have dl2 := (W0b1.ext hb).lt; have d2 := (W0b1.ext hb).cell 0; have df2 := (W0b1.ext hb).frozen 0; have d3 := (W0b1.ext hb).cell 1; have df3 := (W0b1.ext hb).frozen 1; have dl4 := (W0b2.ext hb).lt; have d4 := (W0b2.ext hb).cell 0; have df4 := (W0b2.ext hb).frozen 0; have d5 := (W0b2.ext hb).cell 1; have df5 := (W0b2.ext hb).frozen 1; have dl6 := (W0b3.ext hb).lt; have d6 := (W0b3.ext hb).cell 0; have df6 := (W0b3.ext hb).frozen 0; have d7 := (W0b3.ext hb).cell 1; have df7 := (W0b3.ext hb).frozen 1; have d8 := (W0b3.ext hb).cell 2; have df8 := (W0b3.ext hb).frozen 2; have d9 := (W0b3.ext hb).cell 3; have df9 := (W0b3.ext hb).frozen 3; simp only [List.getElem?_toArray, List.getElem?_cons_zero, List.getElem?_cons_succ] at d0 d1 d2 d3 d4 d5 d6 d7 d8 d9))
    generalize hW3 : World.setCell (World.setCell _ _ _) _ _ = W3
    have r1 : Blk W3 (w.heap.size + 1 + 1) #[.int .i64 (0), .int .u64 ((0 : Nat))] 24 := by
      rw [← hW3]; exact ((W0b2.ext hb).set 0 _).set 1 _
    have r2 := r1.cell 0
    have r3 := r1.cell 1
    refine bodyPost_ret (v := tabE (T.joinS f N a O b)) ?_ rfl ⟨rfl, ?_⟩
    · rw [HC.out]; simp [results, Tryd.results28, go_sem, r2, r3]
    · rw [← hW3]
      repeat (first
        | exact Below.refl _ _
        | assumption
        | refine Below.drew ?_
        | refine below_drewN ?_ _
        | refine Below.setCell ?_ (by first | (simp only [World.size_alloc, sz_setCell, sz_drew, sz_drewN, sz_putObj] at *; omega) | omega | (simp; omega) | simp) _
        | refine Below.alloc ?_ (by first | (simp only [World.size_alloc, sz_setCell, sz_drew, sz_drewN, sz_putObj] at *; omega) | omega | (simp; omega) | simp) _
        | refine Below.trans ?_ (Below.mono (by assumption) (by first | (simp only [World.size_alloc, sz_setCell, sz_drew, sz_drewN, sz_putObj] at *; omega) | omega | (simp; omega) | simp)))

end Go.Proofs.YtmncplgccielbaaDoor
