/- Contracts of the reference of layer 4: given, Both, Either, And, Or, Xor. -/
import Derived.Test.YtamnabekjkgdkaaDoorRef044
namespace Go.Proofs.YtamnabekjkgdkaaDoor
set_option linter.unusedSimpArgs false
set_option linter.unusedVariables false
open Go.RowKit Go.Shelf

set_option maxRecDepth 100000 in
set_option maxHeartbeats 400000 in
theorem rGiven_any (N O : Int) (a b : Nat) (ha : a < 2 ^ 64) (hb' : b < 2 ^ 64) (w : World) :
    Calls Tryd.prog 58 #[.agg #[.int .i64 N, .int .u64 a], .agg #[.int .i64 O, .int .u64 b]] w fun e w' => e = .returned (.int .i64 (T.givenS N a O b)) ∧ Below w.heap.size w w' := by
  obtain ⟨W0, HW0⟩ : ∃ W0, ((w.alloc (.cells #[.int .i64 N, .int .u64 a] 24)).alloc (.cells #[.int .i64 O, .int .u64 b] 24)) = W0 := ⟨_, rfl⟩
  have sW0 : W0.heap.size = w.heap.size + 2 := by rw [← HW0]; simp only [World.size_alloc]
  have W0b0 : Blk W0 (w.heap.size) #[.int .i64 N, .int .u64 a] 24 := by
    rw [← HW0]; repeat (first | (refine Blk.new' ?_; first | rfl | (simp only [World.size_alloc]; done)) | refine Blk.alloc ?_ _)
  have W0b1 : Blk W0 (w.heap.size + 1) #[.int .i64 O, .int .u64 b] 24 := by
    rw [← HW0]; repeat (first | (refine Blk.new' ?_; first | rfl | (simp only [World.size_alloc]; done)) | refine Blk.alloc ?_ _)
  have W0B : Below w.heap.size w W0 := by
    rw [← HW0]
    repeat (first
      | exact Below.refl _ _
      | assumption
      | refine Below.drew ?_
      | refine below_drewN ?_ _
      | refine Below.setCell ?_ (by first | (simp only [World.size_alloc, sz_setCell, sz_drew, sz_drewN, sz_putObj] at *; omega) | omega | (simp; omega) | simp) _
      | refine Below.alloc ?_ (by first | (simp only [World.size_alloc, sz_setCell, sz_drew, sz_drewN, sz_putObj] at *; omega) | omega | (simp; omega) | simp) _
      | refine Below.trans ?_ (Below.mono (by assumption) (by first | (simp only [World.size_alloc, sz_setCell, sz_drew, sz_drewN, sz_putObj] at *; omega) | omega | (simp; omega) | simp)))
  replace HW0 := Lib.hid HW0
  have hC1 := rCheck_any N a ha W0
  have hC2 := fun W => rCheck_any O b hb' W
  rcases given_cases N O a b with ⟨hR, hS, hNO, h0⟩ | ⟨hR, hS, hNO, h0⟩ | ⟨hR, ⟨h1, h0⟩ | ⟨h1, h0⟩⟩ | ⟨h1, h0⟩ | ⟨h1, h0⟩
  · rw [T.chk_right hR] at hC1
    rw [T.chk_right hS] at hC2
    replace h0 := Lib.hid h0
    have hne : (N == O) = true := by simpa using hNO
    clear hR hS hNO
    go_enter Tryd.func58, Tryd.ntmps58
    go_wp2_with (first | (go_at_call 24; rw [HW0.out]; refine (hC1).mono ?_; rintro e w' ⟨rfl, hb⟩; have hz := hb.size; have dl0 := (W0b0.ext hb).lt; have d0 := (W0b0.ext hb).cell 0; have df0 := (W0b0.ext hb).frozen 0; have d1 := (W0b0.ext hb).cell 1; have df1 := (W0b0.ext hb).frozen 1; have dl2 := (W0b1.ext hb).lt; have d2 := (W0b1.ext hb).cell 0; have df2 := (W0b1.ext hb).frozen 0; have d3 := (W0b1.ext hb).cell 1; have df3 := (W0b1.ext hb).frozen 1; simp only [List.getElem?_toArray, List.getElem?_cons_zero, List.getElem?_cons_succ] at d0 d1 d2 d3) | (go_at_call 24; refine (hC2 _).mono ?_; rintro e w2 ⟨rfl, hb2⟩; have hz2 := hb2.size; have d2l0 := ((W0b0.ext hb).ext hb2).lt; have d20 := ((W0b0.ext hb).ext hb2).cell 0; have d2f0 := ((W0b0.ext hb).ext hb2).frozen 0; have d21 := ((W0b0.ext hb).ext hb2).cell 1; have d2f1 := ((W0b0.ext hb).ext hb2).frozen 1; have d2l2 := ((W0b1.ext hb).ext hb2).lt; have d22 := ((W0b1.ext hb).ext hb2).cell 0; have d2f2 := ((W0b1.ext hb).ext hb2).frozen 0; have d23 := ((W0b1.ext hb).ext hb2).cell 1; have d2f3 := ((W0b1.ext hb).ext hb2).frozen 1; simp only [List.getElem?_toArray, List.getElem?_cons_zero, List.getElem?_cons_succ] at d20 d21 d22 d23))
    go_ret
    refine ⟨ret_u h0.out.symm, ?_⟩
    repeat (first
      | exact Below.refl _ _
      | assumption
      | refine Below.drew ?_
      | refine below_drewN ?_ _
      | refine Below.setCell ?_ (by first | (simp only [World.size_alloc, sz_setCell, sz_drew, sz_drewN, sz_putObj] at *; omega) | omega | (simp; omega) | simp) _
      | refine Below.alloc ?_ (by first | (simp only [World.size_alloc, sz_setCell, sz_drew, sz_drewN, sz_putObj] at *; omega) | omega | (simp; omega) | simp) _
      | refine Below.trans ?_ (Below.mono (by assumption) (by first | (simp only [World.size_alloc, sz_setCell, sz_drew, sz_drewN, sz_putObj] at *; omega) | omega | (simp; omega) | simp)))
  · rw [T.chk_right hR] at hC1
    rw [T.chk_right hS] at hC2
    replace h0 := Lib.hid h0
    have hne : (N == O) = false := by simpa using hNO
    clear hR hS hNO
    go_enter Tryd.func58, Tryd.ntmps58
    go_wp2_with (first | (go_at_call 24; rw [HW0.out]; refine (hC1).mono ?_; rintro e w' ⟨rfl, hb⟩; have hz := hb.size; have dl0 := (W0b0.ext hb).lt; have d0 := (W0b0.ext hb).cell 0; have df0 := (W0b0.ext hb).frozen 0; have d1 := (W0b0.ext hb).cell 1; have df1 := (W0b0.ext hb).frozen 1; have dl2 := (W0b1.ext hb).lt; have d2 := (W0b1.ext hb).cell 0; have df2 := (W0b1.ext hb).frozen 0; have d3 := (W0b1.ext hb).cell 1; have df3 := (W0b1.ext hb).frozen 1; simp only [List.getElem?_toArray, List.getElem?_cons_zero, List.getElem?_cons_succ] at d0 d1 d2 d3) | (go_at_call 24; refine (hC2 _).mono ?_; rintro e w2 ⟨rfl, hb2⟩; have hz2 := hb2.size; have d2l0 := ((W0b0.ext hb).ext hb2).lt; have d20 := ((W0b0.ext hb).ext hb2).cell 0; have d2f0 := ((W0b0.ext hb).ext hb2).frozen 0; have d21 := ((W0b0.ext hb).ext hb2).cell 1; have d2f1 := ((W0b0.ext hb).ext hb2).frozen 1; have d2l2 := ((W0b1.ext hb).ext hb2).lt; have d22 := ((W0b1.ext hb).ext hb2).cell 0; have d2f2 := ((W0b1.ext hb).ext hb2).frozen 0; have d23 := ((W0b1.ext hb).ext hb2).cell 1; have d2f3 := ((W0b1.ext hb).ext hb2).frozen 1; simp only [List.getElem?_toArray, List.getElem?_cons_zero, List.getElem?_cons_succ] at d20 d21 d22 d23))
    go_ret
    refine ⟨ret_u h0.out.symm, ?_⟩
    repeat (first
      | exact Below.refl _ _
      | assumption
      | refine Below.drew ?_
      | refine below_drewN ?_ _
      | refine Below.setCell ?_ (by first | (simp only [World.size_alloc, sz_setCell, sz_drew, sz_drewN, sz_putObj] at *; omega) | omega | (simp; omega) | simp) _
      | refine Below.alloc ?_ (by first | (simp only [World.size_alloc, sz_setCell, sz_drew, sz_drewN, sz_putObj] at *; omega) | omega | (simp; omega) | simp) _
      | refine Below.trans ?_ (Below.mono (by assumption) (by first | (simp only [World.size_alloc, sz_setCell, sz_drew, sz_drewN, sz_putObj] at *; omega) | omega | (simp; omega) | simp)))
  · rw [T.chk_right hR] at hC1
    rw [h1] at hC2
    replace h0 := Lib.hid h0
    clear hR h1
    go_enter Tryd.func58, Tryd.ntmps58
    go_wp2_with (first | (go_at_call 24; rw [HW0.out]; refine (hC1).mono ?_; rintro e w' ⟨rfl, hb⟩; have hz := hb.size; have dl0 := (W0b0.ext hb).lt; have d0 := (W0b0.ext hb).cell 0; have df0 := (W0b0.ext hb).frozen 0; have d1 := (W0b0.ext hb).cell 1; have df1 := (W0b0.ext hb).frozen 1; have dl2 := (W0b1.ext hb).lt; have d2 := (W0b1.ext hb).cell 0; have df2 := (W0b1.ext hb).frozen 0; have d3 := (W0b1.ext hb).cell 1; have df3 := (W0b1.ext hb).frozen 1; simp only [List.getElem?_toArray, List.getElem?_cons_zero, List.getElem?_cons_succ] at d0 d1 d2 d3) | (go_at_call 24; refine (hC2 _).mono ?_; rintro e w2 ⟨rfl, hb2⟩; have hz2 := hb2.size; have d2l0 := ((W0b0.ext hb).ext hb2).lt; have d20 := ((W0b0.ext hb).ext hb2).cell 0; have d2f0 := ((W0b0.ext hb).ext hb2).frozen 0; have d21 := ((W0b0.ext hb).ext hb2).cell 1; have d2f1 := ((W0b0.ext hb).ext hb2).frozen 1; have d2l2 := ((W0b1.ext hb).ext hb2).lt; have d22 := ((W0b1.ext hb).ext hb2).cell 0; have d2f2 := ((W0b1.ext hb).ext hb2).frozen 0; have d23 := ((W0b1.ext hb).ext hb2).cell 1; have d2f3 := ((W0b1.ext hb).ext hb2).frozen 1; simp only [List.getElem?_toArray, List.getElem?_cons_zero, List.getElem?_cons_succ] at d20 d21 d22 d23))
    go_ret
    refine ⟨ret_u h0.out.symm, ?_⟩
    repeat (first
      | exact Below.refl _ _
      | assumption
      | refine Below.drew ?_
      | refine below_drewN ?_ _
      | refine Below.setCell ?_ (by first | (simp only [World.size_alloc, sz_setCell, sz_drew, sz_drewN, sz_putObj] at *; omega) | omega | (simp; omega) | simp) _
      | refine Below.alloc ?_ (by first | (simp only [World.size_alloc, sz_setCell, sz_drew, sz_drewN, sz_putObj] at *; omega) | omega | (simp; omega) | simp) _
      | refine Below.trans ?_ (Below.mono (by assumption) (by first | (simp only [World.size_alloc, sz_setCell, sz_drew, sz_drewN, sz_putObj] at *; omega) | omega | (simp; omega) | simp)))
  · rw [T.chk_right hR] at hC1
    rw [h1] at hC2
    replace h0 := Lib.hid h0
    clear hR h1
    go_enter Tryd.func58, Tryd.ntmps58
    go_wp2_with (first | (go_at_call 24; rw [HW0.out]; refine (hC1).mono ?_; rintro e w' ⟨rfl, hb⟩; have hz := hb.size; have dl0 := (W0b0.ext hb).lt; have d0 := (W0b0.ext hb).cell 0; have df0 := (W0b0.ext hb).frozen 0; have d1 := (W0b0.ext hb).cell 1; have df1 := (W0b0.ext hb).frozen 1; have dl2 := (W0b1.ext hb).lt; have d2 := (W0b1.ext hb).cell 0; have df2 := (W0b1.ext hb).frozen 0; have d3 := (W0b1.ext hb).cell 1; have df3 := (W0b1.ext hb).frozen 1; simp only [List.getElem?_toArray, List.getElem?_cons_zero, List.getElem?_cons_succ] at d0 d1 d2 d3) | (go_at_call 24; refine (hC2 _).mono ?_; rintro e w2 ⟨rfl, hb2⟩; have hz2 := hb2.size; have d2l0 := ((W0b0.ext hb).ext hb2).lt; have d20 := ((W0b0.ext hb).ext hb2).cell 0; have d2f0 := ((W0b0.ext hb).ext hb2).frozen 0; have d21 := ((W0b0.ext hb).ext hb2).cell 1; have d2f1 := ((W0b0.ext hb).ext hb2).frozen 1; have d2l2 := ((W0b1.ext hb).ext hb2).lt; have d22 := ((W0b1.ext hb).ext hb2).cell 0; have d2f2 := ((W0b1.ext hb).ext hb2).frozen 0; have d23 := ((W0b1.ext hb).ext hb2).cell 1; have d2f3 := ((W0b1.ext hb).ext hb2).frozen 1; simp only [List.getElem?_toArray, List.getElem?_cons_zero, List.getElem?_cons_succ] at d20 d21 d22 d23))
    go_ret
    refine ⟨ret_u h0.out.symm, ?_⟩
    repeat (first
      | exact Below.refl _ _
      | assumption
      | refine Below.drew ?_
      | refine below_drewN ?_ _
      | refine Below.setCell ?_ (by first | (simp only [World.size_alloc, sz_setCell, sz_drew, sz_drewN, sz_putObj] at *; omega) | omega | (simp; omega) | simp) _
      | refine Below.alloc ?_ (by first | (simp only [World.size_alloc, sz_setCell, sz_drew, sz_drewN, sz_putObj] at *; omega) | omega | (simp; omega) | simp) _
      | refine Below.trans ?_ (Below.mono (by assumption) (by first | (simp only [World.size_alloc, sz_setCell, sz_drew, sz_drewN, sz_putObj] at *; omega) | omega | (simp; omega) | simp)))
  · rw [h1] at hC1
    replace h0 := Lib.hid h0
    clear h1
    go_enter Tryd.func58, Tryd.ntmps58
    go_wp2_with (first | (go_at_call 24; rw [HW0.out]; refine (hC1).mono ?_; rintro e w' ⟨rfl, hb⟩; have hz := hb.size; have dl0 := (W0b0.ext hb).lt; have d0 := (W0b0.ext hb).cell 0; have df0 := (W0b0.ext hb).frozen 0; have d1 := (W0b0.ext hb).cell 1; have df1 := (W0b0.ext hb).frozen 1; have dl2 := (W0b1.ext hb).lt; have d2 := (W0b1.ext hb).cell 0; have df2 := (W0b1.ext hb).frozen 0; have d3 := (W0b1.ext hb).cell 1; have df3 := (W0b1.ext hb).frozen 1; simp only [List.getElem?_toArray, List.getElem?_cons_zero, List.getElem?_cons_succ] at d0 d1 d2 d3))
    go_ret
    refine ⟨ret_u h0.out.symm, ?_⟩
    repeat (first
      | exact Below.refl _ _
      | assumption
      | refine Below.drew ?_
      | refine below_drewN ?_ _
      | refine Below.setCell ?_ (by first | (simp only [World.size_alloc, sz_setCell, sz_drew, sz_drewN, sz_putObj] at *; omega) | omega | (simp; omega) | simp) _
      | refine Below.alloc ?_ (by first | (simp only [World.size_alloc, sz_setCell, sz_drew, sz_drewN, sz_putObj] at *; omega) | omega | (simp; omega) | simp) _
      | refine Below.trans ?_ (Below.mono (by assumption) (by first | (simp only [World.size_alloc, sz_setCell, sz_drew, sz_drewN, sz_putObj] at *; omega) | omega | (simp; omega) | simp)))
  · rw [h1] at hC1
    replace h0 := Lib.hid h0
    clear h1
    go_enter Tryd.func58, Tryd.ntmps58
    go_wp2_with (first | (go_at_call 24; rw [HW0.out]; refine (hC1).mono ?_; rintro e w' ⟨rfl, hb⟩; have hz := hb.size; have dl0 := (W0b0.ext hb).lt; have d0 := (W0b0.ext hb).cell 0; have df0 := (W0b0.ext hb).frozen 0; have d1 := (W0b0.ext hb).cell 1; have df1 := (W0b0.ext hb).frozen 1; have dl2 := (W0b1.ext hb).lt; have d2 := (W0b1.ext hb).cell 0; have df2 := (W0b1.ext hb).frozen 0; have d3 := (W0b1.ext hb).cell 1; have df3 := (W0b1.ext hb).frozen 1; simp only [List.getElem?_toArray, List.getElem?_cons_zero, List.getElem?_cons_succ] at d0 d1 d2 d3))
    go_ret
    refine ⟨ret_u h0.out.symm, ?_⟩
    repeat (first
      | exact Below.refl _ _
      | assumption
      | refine Below.drew ?_
      | refine below_drewN ?_ _
      | refine Below.setCell ?_ (by first | (simp only [World.size_alloc, sz_setCell, sz_drew, sz_drewN, sz_putObj] at *; omega) | omega | (simp; omega) | simp) _
      | refine Below.alloc ?_ (by first | (simp only [World.size_alloc, sz_setCell, sz_drew, sz_drewN, sz_putObj] at *; omega) | omega | (simp; omega) | simp) _
      | refine Below.trans ?_ (Below.mono (by assumption) (by first | (simp only [World.size_alloc, sz_setCell, sz_drew, sz_drewN, sz_putObj] at *; omega) | omega | (simp; omega) | simp)))

set_option maxHeartbeats 400000 in
theorem rBoth_any (N O : Int) (a b : Nat) (ha : a < 2 ^ 64) (hb : b < 2 ^ 64) (w : World) :
    Calls Tryd.prog 59 #[.agg #[.int .i64 N, .int .u64 a], .agg #[.int .i64 O, .int .u64 b]] w fun e w' => e = .returned (.agg #[.int .i64 N, .int .u64 (a &&& b : Nat)]) ∧ Below w.heap.size w w' := by
  have hx := u64_and_nat a b ha hb
  go_enter Tryd.func59, Tryd.ntmps59
  go_wp2_with (fail)
  refine bodyPost_ret (v := .agg #[.int .i64 N, .int .u64 (a &&& b : Nat)]) ?_ rfl ⟨rfl, ?_⟩
  · simp [results, Tryd.results59, go_sem]
  · skip
    repeat (first
      | exact Below.refl _ _
      | assumption
      | refine Below.drew ?_
      | refine below_drewN ?_ _
      | refine Below.setCell ?_ (by first | (simp only [World.size_alloc, sz_setCell, sz_drew, sz_drewN, sz_putObj] at *; omega) | omega | (simp; omega) | simp) _
      | refine Below.alloc ?_ (by first | (simp only [World.size_alloc, sz_setCell, sz_drew, sz_drewN, sz_putObj] at *; omega) | omega | (simp; omega) | simp) _
      | refine Below.trans ?_ (Below.mono (by assumption) (by first | (simp only [World.size_alloc, sz_setCell, sz_drew, sz_drewN, sz_putObj] at *; omega) | omega | (simp; omega) | simp)))
set_option maxHeartbeats 400000 in
theorem rEither_any (N O : Int) (a b : Nat) (ha : a < 2 ^ 64) (hb : b < 2 ^ 64) (w : World) :
    Calls Tryd.prog 61 #[.agg #[.int .i64 N, .int .u64 a], .agg #[.int .i64 O, .int .u64 b]] w fun e w' => e = .returned (.agg #[.int .i64 N, .int .u64 (a ||| b : Nat)]) ∧ Below w.heap.size w w' := by
  have hx := u64_or_nat a b ha hb
  go_enter Tryd.func61, Tryd.ntmps61
  go_wp2_with (fail)
  refine bodyPost_ret (v := .agg #[.int .i64 N, .int .u64 (a ||| b : Nat)]) ?_ rfl ⟨rfl, ?_⟩
  · simp [results, Tryd.results61, go_sem]
  · skip
    repeat (first
      | exact Below.refl _ _
      | assumption
      | refine Below.drew ?_
      | refine below_drewN ?_ _
      | refine Below.setCell ?_ (by first | (simp only [World.size_alloc, sz_setCell, sz_drew, sz_drewN, sz_putObj] at *; omega) | omega | (simp; omega) | simp) _
      | refine Below.alloc ?_ (by first | (simp only [World.size_alloc, sz_setCell, sz_drew, sz_drewN, sz_putObj] at *; omega) | omega | (simp; omega) | simp) _
      | refine Below.trans ?_ (Below.mono (by assumption) (by first | (simp only [World.size_alloc, sz_setCell, sz_drew, sz_drewN, sz_putObj] at *; omega) | omega | (simp; omega) | simp)))

set_option maxHeartbeats 400000 in
theorem rAnd_any (N O : Int) (a b : Nat) (ha : a < 2 ^ 64) (hb' : b < 2 ^ 64) (w : World) :
    Calls Tryd.prog 19 #[.agg #[.int .i64 N, .int .u64 a], .agg #[.int .i64 O, .int .u64 b]] w fun e w' => e = .returned (tabE (T.joinS (· &&& ·) N a O b)) ∧ Below w.heap.size w w' := by
  obtain ⟨W0, HW0⟩ : ∃ W0, (((w.alloc (.cells #[.int .i64 N, .int .u64 a] 24)).alloc (.cells #[.int .i64 O, .int .u64 b] 24)).alloc (.cells #[.int .i64 0, .int .u64 0] 24)) = W0 := ⟨_, rfl⟩
  have sW0 : W0.heap.size = w.heap.size + 3 := by rw [← HW0]; simp only [World.size_alloc]
  have W0b0 : Blk W0 (w.heap.size) #[.int .i64 N, .int .u64 a] 24 := by
    rw [← HW0]; repeat (first | (refine Blk.new' ?_; first | rfl | (simp only [World.size_alloc]; done)) | refine Blk.alloc ?_ _)
  have W0b1 : Blk W0 (w.heap.size + 1) #[.int .i64 O, .int .u64 b] 24 := by
    rw [← HW0]; repeat (first | (refine Blk.new' ?_; first | rfl | (simp only [World.size_alloc]; done)) | refine Blk.alloc ?_ _)
  have W0b2 : Blk W0 (w.heap.size + 1 + 1) #[.int .i64 0, .int .u64 0] 24 := by
    rw [← HW0]; repeat (first | (refine Blk.new' ?_; first | rfl | (simp only [World.size_alloc]; done)) | refine Blk.alloc ?_ _)
  have W0B : Below w.heap.size w W0 := by
    rw [← HW0]
    repeat (first
      | exact Below.refl _ _
      | assumption
      | refine Below.drew ?_
      | refine below_drewN ?_ _
      | refine Below.setCell ?_ (by first | (simp only [World.size_alloc, sz_setCell, sz_drew, sz_drewN, sz_putObj] at *; omega) | omega | (simp; omega) | simp) _
      | refine Below.alloc ?_ (by first | (simp only [World.size_alloc, sz_setCell, sz_drew, sz_drewN, sz_putObj] at *; omega) | omega | (simp; omega) | simp) _
      | refine Below.trans ?_ (Below.mono (by assumption) (by first | (simp only [World.size_alloc, sz_setCell, sz_drew, sz_drewN, sz_putObj] at *; omega) | omega | (simp; omega) | simp)))
  replace HW0 := Lib.hid HW0
  have hC := rGiven_any N O a b ha hb' W0
  by_cases h0 : T.givenS N a O b = 0
  · have HC : Hid (T.joinS (· &&& ·) N a O b = (N, a &&& b, 0)) := Lib.hid (by unfold T.joinS; rw [if_pos h0])
    rw [h0] at hC
    clear h0
    have hJ := fun W => rBoth_any N O a b ha hb' W
    generalize a &&& b = c at hJ HC
    go_enter Tryd.func19, Tryd.ntmps19
    go_wp2_with (first | (go_at_call 58; rw [HW0.out]; refine (hC).mono ?_; rintro e w' ⟨rfl, hb⟩; have hz := hb.size; have dl0 := (W0b0.ext hb).lt; have d0 := (W0b0.ext hb).cell 0; have df0 := (W0b0.ext hb).frozen 0; have d1 := (W0b0.ext hb).cell 1; have df1 := (W0b0.ext hb).frozen 1; have dl2 := (W0b1.ext hb).lt; have d2 := (W0b1.ext hb).cell 0; have df2 := (W0b1.ext hb).frozen 0; have d3 := (W0b1.ext hb).cell 1; have df3 := (W0b1.ext hb).frozen 1; have dl4 := (W0b2.ext hb).lt; have d4 := (W0b2.ext hb).cell 0; have df4 := (W0b2.ext hb).frozen 0; have d5 := (W0b2.ext hb).cell 1; have df5 := (W0b2.ext hb).frozen 1; simp only [List.getElem?_toArray, List.getElem?_cons_zero, List.getElem?_cons_succ] at d0 d1 d2 d3 d4 d5) | (go_at_call 59; refine (hJ _).mono ?_; rintro e w2 ⟨rfl, hb2⟩; have hz2 := hb2.size; have d2l0 := ((W0b2.ext hb).ext hb2).lt; have d20 := ((W0b2.ext hb).ext hb2).cell 0; have d2f0 := ((W0b2.ext hb).ext hb2).frozen 0; have d21 := ((W0b2.ext hb).ext hb2).cell 1; have d2f1 := ((W0b2.ext hb).ext hb2).frozen 1; simp only [List.getElem?_toArray, List.getElem?_cons_zero, List.getElem?_cons_succ] at d20 d21))
    generalize hW3 : World.setCell (World.setCell _ _ _) _ _ = W3
    have r1 : Blk W3 (w.heap.size + 1 + 1) #[.int .i64 (N), .int .u64 (c)] 24 := by
      rw [← hW3]; exact (((W0b2.ext hb).ext hb2).set 0 _).set 1 _
    have r2 := r1.cell 0
    have r3 := r1.cell 1
    refine bodyPost_ret (v := tabE (T.joinS (· &&& ·) N a O b)) ?_ rfl ⟨rfl, ?_⟩
    · rw [HC.out]; simp [results, Tryd.results19, go_sem, r2, r3]
    · rw [← hW3]
      repeat (first
        | exact Below.refl _ _
        | assumption
        | refine Below.drew ?_
        | refine below_drewN ?_ _
        | refine Below.setCell ?_ (by first | (simp only [World.size_alloc, sz_setCell, sz_drew, sz_drewN, sz_putObj] at *; omega) | omega | (simp; omega) | simp) _
        | refine Below.alloc ?_ (by first | (simp only [World.size_alloc, sz_setCell, sz_drew, sz_drewN, sz_putObj] at *; omega) | omega | (simp; omega) | simp) _
        | refine Below.trans ?_ (Below.mono (by assumption) (by first | (simp only [World.size_alloc, sz_setCell, sz_drew, sz_drewN, sz_putObj] at *; omega) | omega | (simp; omega) | simp)))
  · have HC : Hid (T.joinS (· &&& ·) N a O b = (0, 0, T.givenS N a O b)) := Lib.hid (by unfold T.joinS; rw [if_neg h0])
    generalize T.givenS N a O b = g at h0 hC HC
    go_enter Tryd.func19, Tryd.ntmps19
    go_wp2_with (first | (go_at_call 58; rw [HW0.out]; refine (hC).mono ?_; rintro e w' ⟨rfl, hb⟩; have hz := hb.size; have dl0 := (W0b0.ext hb).lt; have d0 := (W0b0.ext hb).cell 0; have df0 := (W0b0.ext hb).frozen 0; have d1 := (W0b0.ext hb).cell 1; have df1 := (W0b0.ext hb).frozen 1; have dl2 := (W0b1.ext hb).lt; have d2 := (W0b1.ext hb).cell 0; have df2 := (W0b1.ext hb).frozen 0; have d3 := (W0b1.ext hb).cell 1; have df3 := (W0b1.ext hb).frozen 1; have dl4 := (W0b2.ext hb).lt; have d4 := (W0b2.ext hb).cell 0; have df4 := (W0b2.ext hb).frozen 0; have d5 := (W0b2.ext hb).cell 1; have df5 := (W0b2.ext hb).frozen 1; simp only [List.getElem?_toArray, List.getElem?_cons_zero, List.getElem?_cons_succ] at d0 d1 d2 d3 d4 d5))
    generalize hW3 : World.setCell (World.setCell _ _ _) _ _ = W3
    have r1 : Blk W3 (w.heap.size + 1 + 1) #[.int .i64 (0), .int .u64 ((0 : Nat))] 24 := by
      rw [← hW3]; exact ((W0b2.ext hb).set 0 _).set 1 _
    have r2 := r1.cell 0
    have r3 := r1.cell 1
    refine bodyPost_ret (v := tabE (T.joinS (· &&& ·) N a O b)) ?_ rfl ⟨rfl, ?_⟩
    · rw [HC.out]; simp [results, Tryd.results19, go_sem, r2, r3]
    · rw [← hW3]
      repeat (first
        | exact Below.refl _ _
        | assumption
        | refine Below.drew ?_
        | refine below_drewN ?_ _
        | refine Below.setCell ?_ (by first | (simp only [World.size_alloc, sz_setCell, sz_drew, sz_drewN, sz_putObj] at *; omega) | omega | (simp; omega) | simp) _
        | refine Below.alloc ?_ (by first | (simp only [World.size_alloc, sz_setCell, sz_drew, sz_drewN, sz_putObj] at *; omega) | omega | (simp; omega) | simp) _
        | refine Below.trans ?_ (Below.mono (by assumption) (by first | (simp only [World.size_alloc, sz_setCell, sz_drew, sz_drewN, sz_putObj] at *; omega) | omega | (simp; omega) | simp)))

set_option maxHeartbeats 400000 in
theorem rOr_any (N O : Int) (a b : Nat) (ha : a < 2 ^ 64) (hb' : b < 2 ^ 64) (w : World) :
    Calls Tryd.prog 21 #[.agg #[.int .i64 N, .int .u64 a], .agg #[.int .i64 O, .int .u64 b]] w fun e w' => e = .returned (tabE (T.joinS (· ||| ·) N a O b)) ∧ Below w.heap.size w w' := by
  obtain ⟨W0, HW0⟩ : ∃ W0, (((w.alloc (.cells #[.int .i64 N, .int .u64 a] 24)).alloc (.cells #[.int .i64 O, .int .u64 b] 24)).alloc (.cells #[.int .i64 0, .int .u64 0] 24)) = W0 := ⟨_, rfl⟩
  have sW0 : W0.heap.size = w.heap.size + 3 := by rw [← HW0]; simp only [World.size_alloc]
  have W0b0 : Blk W0 (w.heap.size) #[.int .i64 N, .int .u64 a] 24 := by
    rw [← HW0]; repeat (first | (refine Blk.new' ?_; first | rfl | (simp only [World.size_alloc]; done)) | refine Blk.alloc ?_ _)
  have W0b1 : Blk W0 (w.heap.size + 1) #[.int .i64 O, .int .u64 b] 24 := by
    rw [← HW0]; repeat (first | (refine Blk.new' ?_; first | rfl | (simp only [World.size_alloc]; done)) | refine Blk.alloc ?_ _)
  have W0b2 : Blk W0 (w.heap.size + 1 + 1) #[.int .i64 0, .int .u64 0] 24 := by
    rw [← HW0]; repeat (first | (refine Blk.new' ?_; first | rfl | (simp only [World.size_alloc]; done)) | refine Blk.alloc ?_ _)
  have W0B : Below w.heap.size w W0 := by
    rw [← HW0]
    repeat (first
      | exact Below.refl _ _
      | assumption
      | refine Below.drew ?_
      | refine below_drewN ?_ _
      | refine Below.setCell ?_ (by first | (simp only [World.size_alloc, sz_setCell, sz_drew, sz_drewN, sz_putObj] at *; omega) | omega | (simp; omega) | simp) _
      | refine Below.alloc ?_ (by first | (simp only [World.size_alloc, sz_setCell, sz_drew, sz_drewN, sz_putObj] at *; omega) | omega | (simp; omega) | simp) _
      | refine Below.trans ?_ (Below.mono (by assumption) (by first | (simp only [World.size_alloc, sz_setCell, sz_drew, sz_drewN, sz_putObj] at *; omega) | omega | (simp; omega) | simp)))
  replace HW0 := Lib.hid HW0
  have hC := rGiven_any N O a b ha hb' W0
  by_cases h0 : T.givenS N a O b = 0
  · have HC : Hid (T.joinS (· ||| ·) N a O b = (N, a ||| b, 0)) := Lib.hid (by unfold T.joinS; rw [if_pos h0])
    rw [h0] at hC
    clear h0
    have hJ := fun W => rEither_any N O a b ha hb' W
    generalize a ||| b = c at hJ HC
    go_enter Tryd.func21, Tryd.ntmps21
    go_wp2_with (first | (go_at_call 58; rw [HW0.out]; refine (hC).mono ?_; rintro e w' ⟨rfl, hb⟩; have hz := hb.size; have dl0 := (W0b0.ext hb).lt; have d0 := (W0b0.ext hb).cell 0; have df0 := (W0b0.ext hb).frozen 0; have d1 := (W0b0.ext hb).cell 1; have df1 := (W0b0.ext hb).frozen 1; have dl2 := (W0b1.ext hb).lt; have d2 := (W0b1.ext hb).cell 0; have df2 := (W0b1.ext hb).frozen 0; have d3 := (W0b1.ext hb).cell 1; have df3 := (W0b1.ext hb).frozen 1; have dl4 := (W0b2.ext hb).lt; have d4 := (W0b2.ext hb).cell 0; have df4 := (W0b2.ext hb).frozen 0; have d5 := (W0b2.ext hb).cell 1; have df5 := (W0b2.ext hb).frozen 1; simp only [List.getElem?_toArray, List.getElem?_cons_zero, List.getElem?_cons_succ] at d0 d1 d2 d3 d4 d5) | (go_at_call 61; refine (hJ _).mono ?_; rintro e w2 ⟨rfl, hb2⟩; have hz2 := hb2.size; have d2l0 := ((W0b2.ext hb).ext hb2).lt; have d20 := ((W0b2.ext hb).ext hb2).cell 0; have d2f0 := ((W0b2.ext hb).ext hb2).frozen 0; have d21 := ((W0b2.ext hb).ext hb2).cell 1; have d2f1 := ((W0b2.ext hb).ext hb2).frozen 1; simp only [List.getElem?_toArray, List.getElem?_cons_zero, List.getElem?_cons_succ] at d20 d21))
    generalize hW3 : World.setCell (World.setCell _ _ _) _ _ = W3
    have r1 : Blk W3 (w.heap.size + 1 + 1) #[.int .i64 (N), .int .u64 (c)] 24 := by
      rw [← hW3]; exact (((W0b2.ext hb).ext hb2).set 0 _).set 1 _
    have r2 := r1.cell 0
    have r3 := r1.cell 1
    refine bodyPost_ret (v := tabE (T.joinS (· ||| ·) N a O b)) ?_ rfl ⟨rfl, ?_⟩
    · rw [HC.out]; simp [results, Tryd.results21, go_sem, r2, r3]
    · rw [← hW3]
      repeat (first
        | exact Below.refl _ _
        | assumption
        | refine Below.drew ?_
        | refine below_drewN ?_ _
        | refine Below.setCell ?_ (by first | (simp only [World.size_alloc, sz_setCell, sz_drew, sz_drewN, sz_putObj] at *; omega) | omega | (simp; omega) | simp) _
        | refine Below.alloc ?_ (by first | (simp only [World.size_alloc, sz_setCell, sz_drew, sz_drewN, sz_putObj] at *; omega) | omega | (simp; omega) | simp) _
        | refine Below.trans ?_ (Below.mono (by assumption) (by first | (simp only [World.size_alloc, sz_setCell, sz_drew, sz_drewN, sz_putObj] at *; omega) | omega | (simp; omega) | simp)))
  · have HC : Hid (T.joinS (· ||| ·) N a O b = (0, 0, T.givenS N a O b)) := Lib.hid (by unfold T.joinS; rw [if_neg h0])
    generalize T.givenS N a O b = g at h0 hC HC
    go_enter Tryd.func21, Tryd.ntmps21
    go_wp2_with (first | (go_at_call 58; rw [HW0.out]; refine (hC).mono ?_; rintro e w' ⟨rfl, hb⟩; have hz := hb.size; have dl0 := (W0b0.ext hb).lt; have d0 := (W0b0.ext hb).cell 0; have df0 := (W0b0.ext hb).frozen 0; have d1 := (W0b0.ext hb).cell 1; have df1 := (W0b0.ext hb).frozen 1; have dl2 := (W0b1.ext hb).lt; have d2 := (W0b1.ext hb).cell 0; have df2 := (W0b1.ext hb).frozen 0; have d3 := (W0b1.ext hb).cell 1; have df3 := (W0b1.ext hb).frozen 1; have dl4 := (W0b2.ext hb).lt; have d4 := (W0b2.ext hb).cell 0; have df4 := (W0b2.ext hb).frozen 0; have d5 := (W0b2.ext hb).cell 1; have df5 := (W0b2.ext hb).frozen 1; simp only [List.getElem?_toArray, List.getElem?_cons_zero, List.getElem?_cons_succ] at d0 d1 d2 d3 d4 d5))
    generalize hW3 : World.setCell (World.setCell _ _ _) _ _ = W3
    have r1 : Blk W3 (w.heap.size + 1 + 1) #[.int .i64 (0), .int .u64 ((0 : Nat))] 24 := by
      rw [← hW3]; exact ((W0b2.ext hb).set 0 _).set 1 _
    have r2 := r1.cell 0
    have r3 := r1.cell 1
    refine bodyPost_ret (v := tabE (T.joinS (· ||| ·) N a O b)) ?_ rfl ⟨rfl, ?_⟩
    · rw [HC.out]; simp [results, Tryd.results21, go_sem, r2, r3]
    · rw [← hW3]
      repeat (first
        | exact Below.refl _ _
        | assumption
        | refine Below.drew ?_
        | refine below_drewN ?_ _
        | refine Below.setCell ?_ (by first | (simp only [World.size_alloc, sz_setCell, sz_drew, sz_drewN, sz_putObj] at *; omega) | omega | (simp; omega) | simp) _
        | refine Below.alloc ?_ (by first | (simp only [World.size_alloc, sz_setCell, sz_drew, sz_drewN, sz_putObj] at *; omega) | omega | (simp; omega) | simp) _
        | refine Below.trans ?_ (Below.mono (by assumption) (by first | (simp only [World.size_alloc, sz_setCell, sz_drew, sz_drewN, sz_putObj] at *; omega) | omega | (simp; omega) | simp)))

end Go.Proofs.YtamnabekjkgdkaaDoor
