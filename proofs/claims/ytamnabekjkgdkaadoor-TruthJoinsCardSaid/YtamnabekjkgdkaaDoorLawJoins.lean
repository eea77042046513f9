/- The walk of the law TruthJoins: it answers true for every two tables. -/
import Derived.Test.YtamnabekjkgdkaaDoorAwake
import Derived.Test.YtamnabekjkgdkaaDoorRef046
import Derived.Laws.EntriesVeiled
namespace Go.Proofs.YtamnabekjkgdkaaDoor
set_option linter.unusedSimpArgs false
set_option linter.unusedVariables false
open Go.RowKit Go.Shelf
attribute [local go_sem] Oper.semAt_some

set_option maxRecDepth 100000 in
set_option maxHeartbeats 2000000 in
theorem lawJoins (N : Int) (a : Nat) (O : Int) (b : Nat) (ha : a < 2 ^ 64) (hb : b < 2 ^ 64) (w : World) (hT : Tab w) :
    Calls Tryd.prog 4 #[.agg #[.int .i64 N, .int .u64 a], .agg #[.int .i64 O, .int .u64 b]] w fun e w' => e = .returned (.bool true) ∧ Below w.heap.size w w' := by
  obtain ⟨W0, HW0⟩ : ∃ W0, ((w.alloc (.cells #[.int .i64 N, .int .u64 a] 24)).alloc (.cells #[.int .i64 O, .int .u64 b] 24)) = W0 := ⟨_, rfl⟩
  have sW0 : W0.heap.size = w.heap.size + 2 := by rw [← HW0]; simp only [World.size_alloc]
  have W0b0 : Blk W0 (w.heap.size) #[.int .i64 N, .int .u64 a] 24 := by
    rw [← HW0]; repeat (first | (refine Blk.new' ?_; first | rfl | (simp only [World.size_alloc]; done)) | refine Blk.alloc ?_ _)
  have W0b1 : Blk W0 (w.heap.size + 1) #[.int .i64 O, .int .u64 b] 24 := by
    rw [← HW0]; repeat (first | (refine Blk.new' ?_; first | rfl | (simp only [World.size_alloc]; done)) | refine Blk.alloc ?_ _)
  have W0B : Below w.heap.size w W0 := by
    rw [← HW0]
    repeat (first
      | exact Below.refl _ _
      | assumption
      | refine Below.drew ?_
      | refine below_drewN ?_ _
      | refine Below.setCell ?_ (by first | (simp only [World.size_alloc, sz_setCell, sz_drew, sz_drewN, sz_putObj] at *; omega) | omega | (simp; omega) | simp) _
      | refine Below.alloc ?_ (by first | (simp only [World.size_alloc, sz_setCell, sz_drew, sz_drewN, sz_putObj] at *; omega) | omega | (simp; omega) | simp) _
      | refine Below.trans ?_ (Below.mono (by assumption) (by first | (simp only [World.size_alloc, sz_setCell, sz_drew, sz_drewN, sz_putObj] at *; omega) | omega | (simp; omega) | simp)))
  replace HW0 := Lib.hid HW0
  have hN1 := fun W => tNot_any N a ha W
  have hN2 := fun W => rNot_any N a ha W
  have hA1 := fun W => tAnd_any N O a b ha hb W
  have hA2 := fun W => rAnd_any N O a b ha hb W
  have hO1 := fun W => tOr_any N O a b ha hb W
  have hO2 := fun W => rOr_any N O a b ha hb W
  have hX1 := fun W => tXor_any N O a b ha hb W
  have hX2 := fun W => rXor_any N O a b ha hb W
  have hAw := fun W hW => awake_any W hW
  obtain ⟨nn, nb, ne, hn⟩ : ∃ cn cb ce, T.notS N a = (cn, cb, ce) := ⟨_, _, _, rfl⟩
  obtain ⟨an, ab, ae, hand⟩ : ∃ cn cb ce, T.joinS (· &&& ·) N a O b = (cn, cb, ce) := ⟨_, _, _, rfl⟩
  obtain ⟨on, ob, oe, hor⟩ : ∃ cn cb ce, T.joinS (· ||| ·) N a O b = (cn, cb, ce) := ⟨_, _, _, rfl⟩
  obtain ⟨xn, xb, xe, hxor⟩ : ∃ cn cb ce, T.joinS (· ^^^ ·) N a O b = (cn, cb, ce) := ⟨_, _, _, rfl⟩
  rw [hn] at hN1 hN2
  rw [hand] at hA1 hA2
  rw [hor] at hO1 hO2
  rw [hxor] at hX1 hX2
  clear hn hand hor hxor ha hb
  go_enter Tryd.func4, Tryd.ntmps4
  go_wp2_with (fail)
  rw [HW0.out]
  go_wp2_with (first | (go_at_call 16; with_reducible refine Calls.mono (hN1 _) ?_; rintro e w1 ⟨rfl, hb1⟩; have hz1 := hb1.size; have d1l0 := (W0b0.ext hb1).lt; have d10 := (W0b0.ext hb1).cell 0; have d1f0 := (W0b0.ext hb1).frozen 0; have d11 := (W0b0.ext hb1).cell 1; have d1f1 := (W0b0.ext hb1).frozen 1; simp only [List.getElem?_toArray, List.getElem?_cons_zero, List.getElem?_cons_succ] at d10 d11))
  have A1 := W0b0.ext hb1
  have B1 := W0b1.ext hb1
  go_wp2_with (first | (go_at_call 17; with_reducible refine Calls.mono (hN2 _) ?_; rintro e w2 ⟨rfl, hb2⟩; have hz2 := hb2.size; have d2l0 := ((Blk.new w1 _ _).ext hb2).lt; have d20 := ((Blk.new w1 _ _).ext hb2).cell 0; have d2f0 := ((Blk.new w1 _ _).ext hb2).frozen 0; have d21 := ((Blk.new w1 _ _).ext hb2).cell 1; have d2f1 := ((Blk.new w1 _ _).ext hb2).frozen 1; simp only [List.getElem?_toArray, List.getElem?_cons_zero, List.getElem?_cons_succ] at d20 d21))
  have A2 := (A1.alloc _).ext hb2
  have B2 := (B1.alloc _).ext hb2
  clear hN1 hN2 A1 B1
  have q2 : Below w.heap.size w w2 := (W0B.trans (hb1.mono (by omega))).trans ((((Below.refl _ _).alloc (Nat.le_refl _) _).trans (hb2.mono (by simp))).mono (by omega))
  have cl0 := (A2).lt
  have c0 := (A2).cell 0
  have cf0 := (A2).frozen 0
  have c1 := (A2).cell 1
  have cf1 := (A2).frozen 1
  have cl2 := (B2).lt
  have c2 := (B2).cell 0
  have cf2 := (B2).frozen 0
  have c3 := (B2).cell 1
  have cf3 := (B2).frozen 1
  simp only [List.getElem?_toArray, List.getElem?_cons_zero, List.getElem?_cons_succ] at c0 c1 c2 c3
  go_wp2_with (fail)
  have m0 : w.heap.size < w2.heap.size + 1 := by omega
  have m1 : w.heap.size < w2.heap.size + 1 + 1 := by omega
  have m2 : w.heap.size + 1 < w2.heap.size + 1 := by omega
  have m3 : w.heap.size + 1 < w2.heap.size + 1 + 1 := by omega
  refine wp_loop_rounds 4 ?_
  rw [rounds_succ]
  go_wp2_with (first | (go_at_call 18; with_reducible refine Calls.mono (hA1 _) ?_; rintro e w3 ⟨rfl, hb3⟩; have hz3 := hb3.size; have d3l0 := ((((A2.alloc _).alloc _).alloc _).ext hb3).lt; have d30 := ((((A2.alloc _).alloc _).alloc _).ext hb3).cell 0; have d3f0 := ((((A2.alloc _).alloc _).alloc _).ext hb3).frozen 0; have d31 := ((((A2.alloc _).alloc _).alloc _).ext hb3).cell 1; have d3f1 := ((((A2.alloc _).alloc _).alloc _).ext hb3).frozen 1; have d3l2 := ((((B2.alloc _).alloc _).alloc _).ext hb3).lt; have d32 := ((((B2.alloc _).alloc _).alloc _).ext hb3).cell 0; have d3f2 := ((((B2.alloc _).alloc _).alloc _).ext hb3).frozen 0; have d33 := ((((B2.alloc _).alloc _).alloc _).ext hb3).cell 1; have d3f3 := ((((B2.alloc _).alloc _).alloc _).ext hb3).frozen 1; have d3l4 := (((Blk.new' (b := w2.heap.size + 1) (by simp only [World.size_alloc])).alloc _).ext hb3).lt; have d34 := (((Blk.new' (b := w2.heap.size + 1) (by simp only [World.size_alloc])).alloc _).ext hb3).cell 0; have d3f4 := (((Blk.new' (b := w2.heap.size + 1) (by simp only [World.size_alloc])).alloc _).ext hb3).frozen 0; have d35 := (((Blk.new' (b := w2.heap.size + 1) (by simp only [World.size_alloc])).alloc _).ext hb3).cell 1; have d3f5 := (((Blk.new' (b := w2.heap.size + 1) (by simp only [World.size_alloc])).alloc _).ext hb3).frozen 1; have d36 := (((Blk.new' (b := w2.heap.size + 1) (by simp only [World.size_alloc])).alloc _).ext hb3).cell 2; have d3f6 := (((Blk.new' (b := w2.heap.size + 1) (by simp only [World.size_alloc])).alloc _).ext hb3).frozen 2; have d37 := (((Blk.new' (b := w2.heap.size + 1) (by simp only [World.size_alloc])).alloc _).ext hb3).cell 3; have d3f7 := (((Blk.new' (b := w2.heap.size + 1) (by simp only [World.size_alloc])).alloc _).ext hb3).frozen 3; have d38 := (((Blk.new' (b := w2.heap.size + 1) (by simp only [World.size_alloc])).alloc _).ext hb3).cell 4; have d3f8 := (((Blk.new' (b := w2.heap.size + 1) (by simp only [World.size_alloc])).alloc _).ext hb3).frozen 4; have d39 := (((Blk.new' (b := w2.heap.size + 1) (by simp only [World.size_alloc])).alloc _).ext hb3).cell 5; have d3f9 := (((Blk.new' (b := w2.heap.size + 1) (by simp only [World.size_alloc])).alloc _).ext hb3).frozen 5; have d3l10 := ((Blk.new' (b := w2.heap.size + 1 + 1) (by simp only [World.size_alloc])).ext hb3).lt; have d310 := ((Blk.new' (b := w2.heap.size + 1 + 1) (by simp only [World.size_alloc])).ext hb3).cell 0; have d3f10 := ((Blk.new' (b := w2.heap.size + 1 + 1) (by simp only [World.size_alloc])).ext hb3).frozen 0; have d311 := ((Blk.new' (b := w2.heap.size + 1 + 1) (by simp only [World.size_alloc])).ext hb3).cell 1; have d3f11 := ((Blk.new' (b := w2.heap.size + 1 + 1) (by simp only [World.size_alloc])).ext hb3).frozen 1; simp only [List.getElem?_toArray, List.getElem?_cons_zero, List.getElem?_cons_succ] at d30 d31 d32 d33 d34 d35 d36 d37 d38 d39 d310 d311))
  clear hA1
  have A3 := (((A2.alloc _).alloc _).alloc _).ext hb3
  have B3 := (((B2.alloc _).alloc _).alloc _).ext hb3
  have R3 := ((Blk.new' (b := w2.heap.size + 1) (by simp only [World.size_alloc])).alloc _).ext hb3
  have q3 : Below w.heap.size w w3 := q2.trans ((((((Below.refl _ _).alloc (Nat.le_refl _) _).alloc (by simp) _).alloc (by simp; omega) _).trans (hb3.mono (by simp; omega))).mono q2.size)
  clear A2 B2 m0 m1 m2 m3
  go_wp2_with (first | (go_at_call 19; with_reducible refine Calls.mono (hA2 _) ?_; rintro e w4 ⟨rfl, hb4⟩; have hz4 := hb4.size; have d4l0 := ((A3.alloc _).ext hb4).lt; have d40 := ((A3.alloc _).ext hb4).cell 0; have d4f0 := ((A3.alloc _).ext hb4).frozen 0; have d41 := ((A3.alloc _).ext hb4).cell 1; have d4f1 := ((A3.alloc _).ext hb4).frozen 1; have d4l2 := ((B3.alloc _).ext hb4).lt; have d42 := ((B3.alloc _).ext hb4).cell 0; have d4f2 := ((B3.alloc _).ext hb4).frozen 0; have d43 := ((B3.alloc _).ext hb4).cell 1; have d4f3 := ((B3.alloc _).ext hb4).frozen 1; have d4l4 := ((R3.alloc _).ext hb4).lt; have d44 := ((R3.alloc _).ext hb4).cell 0; have d4f4 := ((R3.alloc _).ext hb4).frozen 0; have d45 := ((R3.alloc _).ext hb4).cell 1; have d4f5 := ((R3.alloc _).ext hb4).frozen 1; have d46 := ((R3.alloc _).ext hb4).cell 2; have d4f6 := ((R3.alloc _).ext hb4).frozen 2; have d47 := ((R3.alloc _).ext hb4).cell 3; have d4f7 := ((R3.alloc _).ext hb4).frozen 3; have d48 := ((R3.alloc _).ext hb4).cell 4; have d4f8 := ((R3.alloc _).ext hb4).frozen 4; have d49 := ((R3.alloc _).ext hb4).cell 5; have d4f9 := ((R3.alloc _).ext hb4).frozen 5; have d4l10 := ((Blk.new w3 _ _).ext hb4).lt; have d410 := ((Blk.new w3 _ _).ext hb4).cell 0; have d4f10 := ((Blk.new w3 _ _).ext hb4).frozen 0; have d411 := ((Blk.new w3 _ _).ext hb4).cell 1; have d4f11 := ((Blk.new w3 _ _).ext hb4).frozen 1; simp only [List.getElem?_toArray, List.getElem?_cons_zero, List.getElem?_cons_succ] at d40 d41 d42 d43 d44 d45 d46 d47 d48 d49 d410 d411))
  clear hA2
  have A4 := (A3.alloc _).ext hb4
  have B4 := (B3.alloc _).ext hb4
  have R4 := (R3.alloc _).ext hb4
  have q4 : Below w.heap.size w w4 := q3.trans (((Below.refl _ _).alloc (Nat.le_refl _) _ |>.trans (hb4.mono (by simp))).mono q3.size)
  clear A3 B3 R3
  have m40 : w.heap.size < w4.heap.size + 1 := by have := A4.lt; omega
  have m42 : w.heap.size + 1 < w4.heap.size + 1 := by have := B4.lt; omega
  rw [rounds_succ]
  go_wp2_with (first | (go_at_call 20; with_reducible refine Calls.mono (hO1 _) ?_; rintro e w5 ⟨rfl, hb5⟩; have hz5 := hb5.size; have d5l0 := (((A4.alloc _).alloc _).ext hb5).lt; have d50 := (((A4.alloc _).alloc _).ext hb5).cell 0; have d5f0 := (((A4.alloc _).alloc _).ext hb5).frozen 0; have d51 := (((A4.alloc _).alloc _).ext hb5).cell 1; have d5f1 := (((A4.alloc _).alloc _).ext hb5).frozen 1; have d5l2 := (((B4.alloc _).alloc _).ext hb5).lt; have d52 := (((B4.alloc _).alloc _).ext hb5).cell 0; have d5f2 := (((B4.alloc _).alloc _).ext hb5).frozen 0; have d53 := (((B4.alloc _).alloc _).ext hb5).cell 1; have d5f3 := (((B4.alloc _).alloc _).ext hb5).frozen 1; have d5l4 := (((R4.alloc _).alloc _).ext hb5).lt; have d54 := (((R4.alloc _).alloc _).ext hb5).cell 0; have d5f4 := (((R4.alloc _).alloc _).ext hb5).frozen 0; have d55 := (((R4.alloc _).alloc _).ext hb5).cell 1; have d5f5 := (((R4.alloc _).alloc _).ext hb5).frozen 1; have d56 := (((R4.alloc _).alloc _).ext hb5).cell 2; have d5f6 := (((R4.alloc _).alloc _).ext hb5).frozen 2; have d57 := (((R4.alloc _).alloc _).ext hb5).cell 3; have d5f7 := (((R4.alloc _).alloc _).ext hb5).frozen 3; have d58 := (((R4.alloc _).alloc _).ext hb5).cell 4; have d5f8 := (((R4.alloc _).alloc _).ext hb5).frozen 4; have d59 := (((R4.alloc _).alloc _).ext hb5).cell 5; have d5f9 := (((R4.alloc _).alloc _).ext hb5).frozen 5; have d5l10 := ((Blk.new' (b := w4.heap.size + 1) (by simp only [World.size_alloc])).ext hb5).lt; have d510 := ((Blk.new' (b := w4.heap.size + 1) (by simp only [World.size_alloc])).ext hb5).cell 0; have d5f10 := ((Blk.new' (b := w4.heap.size + 1) (by simp only [World.size_alloc])).ext hb5).frozen 0; have d511 := ((Blk.new' (b := w4.heap.size + 1) (by simp only [World.size_alloc])).ext hb5).cell 1; have d5f11 := ((Blk.new' (b := w4.heap.size + 1) (by simp only [World.size_alloc])).ext hb5).frozen 1; simp only [List.getElem?_toArray, List.getElem?_cons_zero, List.getElem?_cons_succ] at d50 d51 d52 d53 d54 d55 d56 d57 d58 d59 d510 d511))
  clear hO1 m40 m42
  have A5 := ((A4.alloc _).alloc _).ext hb5
  have B5 := ((B4.alloc _).alloc _).ext hb5
  have R5 := ((R4.alloc _).alloc _).ext hb5
  have q5 : Below w.heap.size w w5 := q4.trans (((((Below.refl _ _).alloc (Nat.le_refl _) _).alloc (by simp) _).trans (hb5.mono (by simp; omega))).mono q4.size)
  clear A4 B4 R4
  go_wp2_with (first | (go_at_call 21; with_reducible refine Calls.mono (hO2 _) ?_; rintro e w6 ⟨rfl, hb6⟩; have hz6 := hb6.size; have d6l0 := ((A5.alloc _).ext hb6).lt; have d60 := ((A5.alloc _).ext hb6).cell 0; have d6f0 := ((A5.alloc _).ext hb6).frozen 0; have d61 := ((A5.alloc _).ext hb6).cell 1; have d6f1 := ((A5.alloc _).ext hb6).frozen 1; have d6l2 := ((B5.alloc _).ext hb6).lt; have d62 := ((B5.alloc _).ext hb6).cell 0; have d6f2 := ((B5.alloc _).ext hb6).frozen 0; have d63 := ((B5.alloc _).ext hb6).cell 1; have d6f3 := ((B5.alloc _).ext hb6).frozen 1; have d6l4 := ((R5.alloc _).ext hb6).lt; have d64 := ((R5.alloc _).ext hb6).cell 0; have d6f4 := ((R5.alloc _).ext hb6).frozen 0; have d65 := ((R5.alloc _).ext hb6).cell 1; have d6f5 := ((R5.alloc _).ext hb6).frozen 1; have d66 := ((R5.alloc _).ext hb6).cell 2; have d6f6 := ((R5.alloc _).ext hb6).frozen 2; have d67 := ((R5.alloc _).ext hb6).cell 3; have d6f7 := ((R5.alloc _).ext hb6).frozen 3; have d68 := ((R5.alloc _).ext hb6).cell 4; have d6f8 := ((R5.alloc _).ext hb6).frozen 4; have d69 := ((R5.alloc _).ext hb6).cell 5; have d6f9 := ((R5.alloc _).ext hb6).frozen 5; have d6l10 := ((Blk.new w5 _ _).ext hb6).lt; have d610 := ((Blk.new w5 _ _).ext hb6).cell 0; have d6f10 := ((Blk.new w5 _ _).ext hb6).frozen 0; have d611 := ((Blk.new w5 _ _).ext hb6).cell 1; have d6f11 := ((Blk.new w5 _ _).ext hb6).frozen 1; simp only [List.getElem?_toArray, List.getElem?_cons_zero, List.getElem?_cons_succ] at d60 d61 d62 d63 d64 d65 d66 d67 d68 d69 d610 d611))
  clear hO2
  have A6 := (A5.alloc _).ext hb6
  have B6 := (B5.alloc _).ext hb6
  have R6 := (R5.alloc _).ext hb6
  have q6 : Below w.heap.size w w6 := q5.trans (((Below.refl _ _).alloc (Nat.le_refl _) _ |>.trans (hb6.mono (by simp))).mono q5.size)
  clear A5 B5 R5
  have m60 : w.heap.size < w6.heap.size + 1 := by have := A6.lt; omega
  have m62 : w.heap.size + 1 < w6.heap.size + 1 := by have := B6.lt; omega
  rw [rounds_succ]
  go_wp2_with (first | (go_at_call 22; with_reducible refine Calls.mono (hX1 _) ?_; rintro e w7 ⟨rfl, hb7⟩; have hz7 := hb7.size; have d7l0 := (((A6.alloc _).alloc _).ext hb7).lt; have d70 := (((A6.alloc _).alloc _).ext hb7).cell 0; have d7f0 := (((A6.alloc _).alloc _).ext hb7).frozen 0; have d71 := (((A6.alloc _).alloc _).ext hb7).cell 1; have d7f1 := (((A6.alloc _).alloc _).ext hb7).frozen 1; have d7l2 := (((B6.alloc _).alloc _).ext hb7).lt; have d72 := (((B6.alloc _).alloc _).ext hb7).cell 0; have d7f2 := (((B6.alloc _).alloc _).ext hb7).frozen 0; have d73 := (((B6.alloc _).alloc _).ext hb7).cell 1; have d7f3 := (((B6.alloc _).alloc _).ext hb7).frozen 1; have d7l4 := (((R6.alloc _).alloc _).ext hb7).lt; have d74 := (((R6.alloc _).alloc _).ext hb7).cell 0; have d7f4 := (((R6.alloc _).alloc _).ext hb7).frozen 0; have d75 := (((R6.alloc _).alloc _).ext hb7).cell 1; have d7f5 := (((R6.alloc _).alloc _).ext hb7).frozen 1; have d76 := (((R6.alloc _).alloc _).ext hb7).cell 2; have d7f6 := (((R6.alloc _).alloc _).ext hb7).frozen 2; have d77 := (((R6.alloc _).alloc _).ext hb7).cell 3; have d7f7 := (((R6.alloc _).alloc _).ext hb7).frozen 3; have d78 := (((R6.alloc _).alloc _).ext hb7).cell 4; have d7f8 := (((R6.alloc _).alloc _).ext hb7).frozen 4; have d79 := (((R6.alloc _).alloc _).ext hb7).cell 5; have d7f9 := (((R6.alloc _).alloc _).ext hb7).frozen 5; have d7l10 := ((Blk.new' (b := w6.heap.size + 1) (by simp only [World.size_alloc])).ext hb7).lt; have d710 := ((Blk.new' (b := w6.heap.size + 1) (by simp only [World.size_alloc])).ext hb7).cell 0; have d7f10 := ((Blk.new' (b := w6.heap.size + 1) (by simp only [World.size_alloc])).ext hb7).frozen 0; have d711 := ((Blk.new' (b := w6.heap.size + 1) (by simp only [World.size_alloc])).ext hb7).cell 1; have d7f11 := ((Blk.new' (b := w6.heap.size + 1) (by simp only [World.size_alloc])).ext hb7).frozen 1; simp only [List.getElem?_toArray, List.getElem?_cons_zero, List.getElem?_cons_succ] at d70 d71 d72 d73 d74 d75 d76 d77 d78 d79 d710 d711))
  clear hX1 m60 m62
  have A7 := ((A6.alloc _).alloc _).ext hb7
  have B7 := ((B6.alloc _).alloc _).ext hb7
  have R7 := ((R6.alloc _).alloc _).ext hb7
  have q7 : Below w.heap.size w w7 := q6.trans (((((Below.refl _ _).alloc (Nat.le_refl _) _).alloc (by simp) _).trans (hb7.mono (by simp; omega))).mono q6.size)
  clear A6 B6 R6
  go_wp2_with (first | (go_at_call 23; with_reducible refine Calls.mono (hX2 _) ?_; rintro e w8 ⟨rfl, hb8⟩; have hz8 := hb8.size; have d8l0 := ((A7.alloc _).ext hb8).lt; have d80 := ((A7.alloc _).ext hb8).cell 0; have d8f0 := ((A7.alloc _).ext hb8).frozen 0; have d81 := ((A7.alloc _).ext hb8).cell 1; have d8f1 := ((A7.alloc _).ext hb8).frozen 1; have d8l2 := ((B7.alloc _).ext hb8).lt; have d82 := ((B7.alloc _).ext hb8).cell 0; have d8f2 := ((B7.alloc _).ext hb8).frozen 0; have d83 := ((B7.alloc _).ext hb8).cell 1; have d8f3 := ((B7.alloc _).ext hb8).frozen 1; have d8l4 := ((R7.alloc _).ext hb8).lt; have d84 := ((R7.alloc _).ext hb8).cell 0; have d8f4 := ((R7.alloc _).ext hb8).frozen 0; have d85 := ((R7.alloc _).ext hb8).cell 1; have d8f5 := ((R7.alloc _).ext hb8).frozen 1; have d86 := ((R7.alloc _).ext hb8).cell 2; have d8f6 := ((R7.alloc _).ext hb8).frozen 2; have d87 := ((R7.alloc _).ext hb8).cell 3; have d8f7 := ((R7.alloc _).ext hb8).frozen 3; have d88 := ((R7.alloc _).ext hb8).cell 4; have d8f8 := ((R7.alloc _).ext hb8).frozen 4; have d89 := ((R7.alloc _).ext hb8).cell 5; have d8f9 := ((R7.alloc _).ext hb8).frozen 5; have d8l10 := ((Blk.new w7 _ _).ext hb8).lt; have d810 := ((Blk.new w7 _ _).ext hb8).cell 0; have d8f10 := ((Blk.new w7 _ _).ext hb8).frozen 0; have d811 := ((Blk.new w7 _ _).ext hb8).cell 1; have d8f11 := ((Blk.new w7 _ _).ext hb8).frozen 1; simp only [List.getElem?_toArray, List.getElem?_cons_zero, List.getElem?_cons_succ] at d80 d81 d82 d83 d84 d85 d86 d87 d88 d89 d810 d811))
  clear hX2
  have A8 := (A7.alloc _).ext hb8
  have B8 := (B7.alloc _).ext hb8
  have R8 := (R7.alloc _).ext hb8
  have q8 : Below w.heap.size w w8 := q7.trans (((Below.refl _ _).alloc (Nat.le_refl _) _ |>.trans (hb8.mono (by simp))).mono q7.size)
  clear A7 B7 R7
  rw [rounds_succ]
  go_wp2_with (first | (go_at_call 11; with_reducible refine Calls.mono (hAw _ ((hT.ext q8).ext ((Below.refl _ _).alloc (Nat.le_refl _) _))) ?_; rintro e w9 ⟨rfl, hb9⟩; have hz9 := hb9.size))
  go_ret
  exact ⟨rfl, q8.trans ((((Below.refl _ _).alloc (Nat.le_refl _) _).trans (hb9.mono (by simp))).mono q8.size)⟩

end Go.Proofs.YtamnabekjkgdkaaDoor
