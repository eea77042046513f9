/- The walk of the law TruthMakes: it answers true for every table and every two numbers. -/
import Derived.Test.YtamnabekjkgdkaaDoorAwake
import Derived.Test.YtamnabekjkgdkaaDoorRef047
import Derived.Test.YtamnabekjkgdkaaDoorEqual
namespace Go.Proofs.YtamnabekjkgdkaaDoor
set_option linter.unusedSimpArgs false
set_option linter.unusedVariables false
open Go.RowKit Go.Shelf

set_option maxRecDepth 100000 in
set_option maxHeartbeats 4000000 in
theorem lawMakes (N : Int) (b : Nat) (n k : Int) (hb : b < 2 ^ 64) (w : World) (hT : Tab w) :
    Calls Tryd.prog 9 #[.agg #[.int .i64 N, .int .u64 b], .int .i64 n, .int .i64 k] w fun e w' => e = .returned (.bool true) ∧ Below w.heap.size w w' := by
  obtain ⟨W0, HW0⟩ : ∃ W0, (w.alloc (.cells #[.int .i64 N, .int .u64 b] 24)) = W0 := ⟨_, rfl⟩
  have sW0 : W0.heap.size = w.heap.size + 1 := by rw [← HW0]; simp only [World.size_alloc]
  have W0b0 : Blk W0 (w.heap.size) #[.int .i64 N, .int .u64 b] 24 := by
    rw [← HW0]; repeat (first | (refine Blk.new' ?_; first | rfl | (simp only [World.size_alloc]; done)) | refine Blk.alloc ?_ _)
  have W0B : Below w.heap.size w W0 := by
    rw [← HW0]
    repeat (first
      | exact Below.refl _ _
      | assumption
      | refine Below.drew ?_
      | refine below_drewN ?_ _
      | refine Below.setCell ?_ (by first | (simp only [World.size_alloc, sz_setCell, sz_drew, sz_drewN, sz_putObj] at *; omega) | omega | (simp; omega) | simp) _
      | refine Below.alloc ?_ (by first | (simp only [World.size_alloc, sz_setCell, sz_drew, sz_drewN, sz_putObj] at *; omega) | omega | (simp; omega) | simp) _
      | refine Below.trans ?_ (Below.mono (by assumption) (by first | (simp only [World.size_alloc, sz_setCell, sz_drew, sz_drewN, sz_putObj] at *; omega) | omega | (simp; omega) | simp)))
  replace HW0 := Lib.hid HW0
  obtain ⟨kb, hkb⟩ : ∃ kb, (k.tmod 2 == 0) = kb := ⟨_, rfl⟩
  have hC1 := fun W => tConst_any n kb W
  have hC2 := fun W => rConst_any n kb W
  have hV1 := fun W => tVar_any n k W
  have hV2 := fun W => rVar_any n k W
  have hL1 := fun W => tValue_any N k b hb W
  have hL2 := fun W => rValue_any N k b hb W
  have hP1 := fun W => tPoints_any N b hb W
  have hP2 := fun W => rPoints_any N b hb W
  have hK1 := fun W => tCheck_any N b W hb
  have hK2 := fun W => rCheck_any N b hb W
  have hAw := fun W hW => awake_any W hW
  obtain ⟨cn, cb, ce, hc⟩ : ∃ cn cb ce, T.constS n kb = (cn, cb, ce) := ⟨_, _, _, rfl⟩
  obtain ⟨vn, vb, ve, hv⟩ : ∃ cn cb ce, T.varS n k = (cn, cb, ce) := ⟨_, _, _, rfl⟩
  obtain ⟨lv, le, hl⟩ : ∃ lv le, T.valueS N b k = (lv, le) := ⟨_, _, rfl⟩
  rw [hc] at hC1 hC2
  rw [hv] at hV1 hV2
  rw [hl] at hL1 hL2
  generalize T.ptsS N b = l at hP1 hP2
  generalize T.chk N b = de at hP1 hP2 hK1 hK2
  clear hc hv hl hb
  go_enter Tryd.func9, Tryd.ntmps9
  go_wp2_with (fail)
  rw [HW0.out]
  go_wp2_with (first | (go_at_call 27; with_reducible refine Calls.mono (hC1 _) ?_; rintro e w1 ⟨rfl, hb1⟩; have hz1 := hb1.size; have d1l0 := (W0b0.ext hb1).lt; have d10 := (W0b0.ext hb1).cell 0; have d1f0 := (W0b0.ext hb1).frozen 0; have d11 := (W0b0.ext hb1).cell 1; have d1f1 := (W0b0.ext hb1).frozen 1; simp only [List.getElem?_toArray, List.getElem?_cons_zero, List.getElem?_cons_succ] at d10 d11))
  clear hC1
  have A1 := W0b0.ext hb1
  go_wp2_with (first | (go_at_call 39; with_reducible refine Calls.mono (hC2 _) ?_; rintro e w2 ⟨rfl, hb2⟩; have hz2 := hb2.size; have d2l0 := ((A1.alloc _).ext hb2).lt; have d20 := ((A1.alloc _).ext hb2).cell 0; have d2f0 := ((A1.alloc _).ext hb2).frozen 0; have d21 := ((A1.alloc _).ext hb2).cell 1; have d2f1 := ((A1.alloc _).ext hb2).frozen 1; simp only [List.getElem?_toArray, List.getElem?_cons_zero, List.getElem?_cons_succ] at d20 d21))
  clear hC2 hkb
  have A2 := (A1.alloc _).ext hb2
  have X2 := (Blk.new w1 _ _).ext hb2
  have q2 : Below w.heap.size w w2 := (W0B.trans (hb1.mono (by omega))).trans ((((Below.refl _ _).alloc (Nat.le_refl _) _).trans (hb2.mono (by simp))).mono (by omega))
  go_wp2_with (first | (go_at_call 35; with_reducible refine Calls.mono (hV1 _) ?_; rintro e w3 ⟨rfl, hb3⟩; have hz3 := hb3.size; have d3l0 := ((A2.alloc _).ext hb3).lt; have d30 := ((A2.alloc _).ext hb3).cell 0; have d3f0 := ((A2.alloc _).ext hb3).frozen 0; have d31 := ((A2.alloc _).ext hb3).cell 1; have d3f1 := ((A2.alloc _).ext hb3).frozen 1; simp only [List.getElem?_toArray, List.getElem?_cons_zero, List.getElem?_cons_succ] at d30 d31))
  clear hV1
  have A3 := (A2.alloc _).ext hb3
  have X3 := (X2.alloc _).ext hb3
  have Y3 := (Blk.new w2 _ _).ext hb3
  have q3 : Below w.heap.size w w3 := q2.trans ((((Below.refl _ _).alloc (Nat.le_refl _) _).trans (hb3.mono (by simp))).mono q2.size)
  go_wp2_with (first | (go_at_call 40; with_reducible refine Calls.mono (hV2 _) ?_; rintro e w4 ⟨rfl, hb4⟩; have hz4 := hb4.size; have d4l0 := ((A3.alloc _).ext hb4).lt; have d40 := ((A3.alloc _).ext hb4).cell 0; have d4f0 := ((A3.alloc _).ext hb4).frozen 0; have d41 := ((A3.alloc _).ext hb4).cell 1; have d4f1 := ((A3.alloc _).ext hb4).frozen 1; simp only [List.getElem?_toArray, List.getElem?_cons_zero, List.getElem?_cons_succ] at d40 d41))
  clear hV2
  have A4 := (A3.alloc _).ext hb4
  have X4 := (X3.alloc _).ext hb4
  have Y4 := (Y3.alloc _).ext hb4
  have Z4 := (Blk.new w3 _ _).ext hb4
  have q4 : Below w.heap.size w w4 := q3.trans ((((Below.refl _ _).alloc (Nat.le_refl _) _).trans (hb4.mono (by simp))).mono q3.size)
  go_wp2_with (first | (go_at_call 41; with_reducible refine Calls.mono (hL1 _) ?_; rintro e w5 ⟨rfl, hb5⟩; have hz5 := hb5.size; have d5l0 := ((A4.alloc _).ext hb5).lt; have d50 := ((A4.alloc _).ext hb5).cell 0; have d5f0 := ((A4.alloc _).ext hb5).frozen 0; have d51 := ((A4.alloc _).ext hb5).cell 1; have d5f1 := ((A4.alloc _).ext hb5).frozen 1; simp only [List.getElem?_toArray, List.getElem?_cons_zero, List.getElem?_cons_succ] at d50 d51))
  clear hL1
  have A5 := (A4.alloc _).ext hb5
  have X5 := (X4.alloc _).ext hb5
  have Y5 := (Y4.alloc _).ext hb5
  have Z5 := (Z4.alloc _).ext hb5
  have V5 := (Blk.new w4 _ _).ext hb5
  have q5 : Below w.heap.size w w5 := q4.trans ((((Below.refl _ _).alloc (Nat.le_refl _) _).trans (hb5.mono (by simp))).mono q4.size)
  go_wp2_with (first | (go_at_call 42; with_reducible refine Calls.mono (hL2 _) ?_; rintro e w6 ⟨rfl, hb6⟩; have hz6 := hb6.size; have d6l0 := (A5.ext hb6).lt; have d60 := (A5.ext hb6).cell 0; have d6f0 := (A5.ext hb6).frozen 0; have d61 := (A5.ext hb6).cell 1; have d6f1 := (A5.ext hb6).frozen 1; simp only [List.getElem?_toArray, List.getElem?_cons_zero, List.getElem?_cons_succ] at d60 d61))
  clear hL2
  go_wp2_with (first | (go_at_call 43; (with_reducible refine Calls.mono (hP1 _) ?_); rintro e w7 ⟨⟨v7, rfl, ho7⟩, hb7⟩; have hz7 := hb7.size; have d7l0 := ((A5.ext hb6).ext hb7).lt; have d70 := ((A5.ext hb6).ext hb7).cell 0; have d7f0 := ((A5.ext hb6).ext hb7).frozen 0; have d71 := ((A5.ext hb6).ext hb7).cell 1; have d7f1 := ((A5.ext hb6).ext hb7).frozen 1; simp only [List.getElem?_toArray, List.getElem?_cons_zero, List.getElem?_cons_succ] at d70 d71))
  clear hP1
  go_wp2_with (first | (go_at_call 44; (with_reducible refine Calls.mono (hP2 _) ?_); rintro e w8 ⟨⟨v8, rfl, ho8⟩, hb8⟩; have hz8 := hb8.size))
  clear hP2
  have A8 := ((A5.ext hb6).ext hb7).ext hb8
  have X8 := ((X5.ext hb6).ext hb7).ext hb8
  have Y8 := ((Y5.ext hb6).ext hb7).ext hb8
  have Z8 := ((Z5.ext hb6).ext hb7).ext hb8
  have V8 := ((V5.ext hb6).ext hb7).ext hb8
  have S7 := (Sl.of_owns ho7).below hb8 (Nat.le_refl _)
  have S8 := Sl.of_owns ho8
  have q8 : Below w.heap.size w w8 := ((q5.trans (hb6.mono q5.size)).trans (hb7.mono (Nat.le_trans q5.size hb6.size))).trans (hb8.mono (Nat.le_trans (Nat.le_trans q5.size hb6.size) hb7.size))
  have T8 := hT.ext q8
  clear A1 A2 A3 A4 A5 X2 X3 X4 X5 Y3 Y4 Y5 Z4 Z5 V5 q2 q3 q4 q5 hb1 hb2 hb3 hb4 hb5 hb6 hb7 hb8
  have cl0 := (A8).lt
  have c0 := (A8).cell 0
  have cf0 := (A8).frozen 0
  have c1 := (A8).cell 1
  have cf1 := (A8).frozen 1
  have cl2 := (X8).lt
  have c2 := (X8).cell 0
  have cf2 := (X8).frozen 0
  have c3 := (X8).cell 1
  have cf3 := (X8).frozen 1
  have cl4 := (Y8).lt
  have c4 := (Y8).cell 0
  have cf4 := (Y8).frozen 0
  have c5 := (Y8).cell 1
  have cf5 := (Y8).frozen 1
  have cl6 := (Z8).lt
  have c6 := (Z8).cell 0
  have cf6 := (Z8).frozen 0
  have c7 := (Z8).cell 1
  have cf7 := (Z8).frozen 1
  have cl8 := (V8).lt
  have c8 := (V8).cell 0
  have cf8 := (V8).frozen 0
  have c9 := (V8).cell 1
  have cf9 := (V8).frozen 1
  simp only [List.getElem?_toArray, List.getElem?_cons_zero, List.getElem?_cons_succ] at c0 c1 c2 c3 c4 c5 c6 c7 c8 c9
  clear A8 X8 Y8 Z8 V8
  have hlz : w7.heap.size ≤ w8.heap.size := hz8
  go_region_held3 (fun W9 => Below w8.heap.size w8 W9 ∧ W9.cell? ⟨w.heap.size, 0, none⟩ = some (.int .i64 N) ∧ W9.cell? ⟨w.heap.size, 1, none⟩ = some (.int .u64 b) ∧ W9.cell? ⟨w1.heap.size, 0, none⟩ = some (.int .i64 cn) ∧ W9.cell? ⟨w1.heap.size, 1, none⟩ = some (.int .u64 cb) ∧ W9.cell? ⟨w2.heap.size, 0, none⟩ = some (.int .i64 cn) ∧ W9.cell? ⟨w2.heap.size, 1, none⟩ = some (.int .u64 cb) ∧ W9.cell? ⟨w3.heap.size, 0, none⟩ = some (.int .i64 vn) ∧ W9.cell? ⟨w3.heap.size, 1, none⟩ = some (.int .u64 vb) ∧ W9.cell? ⟨w4.heap.size, 0, none⟩ = some (.int .i64 vn) ∧ W9.cell? ⟨w4.heap.size, 1, none⟩ = some (.int .u64 vb)) (first | exact ⟨hB9, (hB9.cell (p := ⟨w.heap.size, 0, none⟩) cl0).trans c0, (hB9.cell (p := ⟨w.heap.size, 1, none⟩) cl0).trans c1, (hB9.cell (p := ⟨w1.heap.size, 0, none⟩) cl2).trans c2, (hB9.cell (p := ⟨w1.heap.size, 1, none⟩) cl2).trans c3, (hB9.cell (p := ⟨w2.heap.size, 0, none⟩) cl4).trans c4, (hB9.cell (p := ⟨w2.heap.size, 1, none⟩) cl4).trans c5, (hB9.cell (p := ⟨w3.heap.size, 0, none⟩) cl6).trans c6, (hB9.cell (p := ⟨w3.heap.size, 1, none⟩) cl6).trans c7, (hB9.cell (p := ⟨w4.heap.size, 0, none⟩) cl8).trans c8, (hB9.cell (p := ⟨w4.heap.size, 1, none⟩) cl8).trans c9⟩ | exact ⟨(Below.refl _ _).drew, c0, c1, c2, c3, c4, c5, c6, c7, c8, c9⟩)
    (first | (go_at_call 45; refine (later (hK1 _) (by go_split_ands; assumption) (Nat.le_refl _)).mono ?_; rintro e w9 ⟨rfl, hB9⟩) | (go_at_call 24; refine (later (hK2 _) (by go_split_ands; assumption) (Nat.le_refl _)).mono ?_; rintro e w9 ⟨rfl, hB9⟩) | (go_at_call 34; refine (later (equal_same l v7 v8 _ _ _ (S7.below (by go_split_ands; assumption) hlz) (S8.below (by go_split_ands; assumption) (Nat.le_refl _))) (by go_split_ands; assumption) (Nat.le_refl _)).mono ?_; rintro e w9 ⟨rfl, hB9⟩) | (go_at_call 11; refine (later (hAw _ (T8.ext (by go_split_ands; assumption))) (by go_split_ands; assumption) (Nat.le_refl _)).mono ?_; rintro e w9 ⟨rfl, hB9⟩))
  go_wp2_with (fail)
  go_ret
  exact ⟨rfl, q8.trans (hB9.mono q8.size)⟩

end Go.Proofs.YtamnabekjkgdkaaDoor
