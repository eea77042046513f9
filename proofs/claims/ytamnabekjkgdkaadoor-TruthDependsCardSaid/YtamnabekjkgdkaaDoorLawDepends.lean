/- The walk of the law TruthDepends: it answers true for every table, variable and value. -/
import Derived.Test.YtamnabekjkgdkaaDoorAwake
import Derived.Test.YtamnabekjkgdkaaDoorRef048
import Derived.Test.YtamnabekjkgdkaaDoorEqual
namespace Go.Proofs.YtamnabekjkgdkaaDoor
open Go.RowKit Go.Shelf

set_option maxRecDepth 100000 in
set_option maxHeartbeats 2000000 in
theorem lawDepends (N : Int) (b : Nat) (i : Int) (v : Bool) (hb : b < 2 ^ 64) (w : World) (hT : Tab w) :
    Calls Tryd.prog 6 #[.agg #[.int .i64 N, .int .u64 b], .int .i64 i, .bool v] w fun e w' => e = .returned (.bool true) ∧ Below w.heap.size w w' := by
  obtain ⟨W0, HW0⟩ : ∃ W0, (w.alloc (.cells #[.int .i64 N, .int .u64 b] 24)) = W0 := ⟨_, rfl⟩
  have sW0 : W0.heap.size = w.heap.size + 1 := by rw [← HW0]; simp only [World.size_alloc]
  have W0b0 : Blk W0 (w.heap.size) #[.int .i64 N, .int .u64 b] 24 := by
    rw [← HW0]; repeat (first | (refine Blk.new' ?_; first | rfl | (simp only [World.size_alloc]; done)) | refine Blk.alloc ?_ _)
  have W0B : Below w.heap.size w W0 := by
    rw [← HW0]
    repeat (first
      | exact Below.refl _ _
      | assumption
      | refine Below.drew ?_
      | refine below_drewN ?_ _
      | refine Below.setCell ?_ (by first | (simp only [World.size_alloc, sz_setCell, sz_drew, sz_drewN, sz_putObj] at *; omega) | omega | (simp; omega) | simp) _
      | refine Below.alloc ?_ (by first | (simp only [World.size_alloc, sz_setCell, sz_drew, sz_drewN, sz_putObj] at *; omega) | omega | (simp; omega) | simp) _
      | refine Below.trans ?_ (Below.mono (by assumption) (by first | (simp only [World.size_alloc, sz_setCell, sz_drew, sz_drewN, sz_putObj] at *; omega) | omega | (simp; omega) | simp)))
  replace HW0 := Lib.hid HW0
  have hC1 := fun W => tCofactor_any N i b v hb W
  have hC2 := fun W => rCofactor_any N i b v hb W
  have hD1 := fun W => tDepends_any N b hb W
  have hD2 := fun W => rDepends_any N b hb W
  have hU1 := fun W => tUnate_any N i b hb W
  have hU2 := fun W => rUnate_any N i b hb W
  have hAw := fun W hW => awake_any W hW
  obtain ⟨cn, cb, ce, hc⟩ : ∃ cn cb ce, T.cofS N b i v = (cn, cb, ce) := ⟨_, _, _, rfl⟩
  obtain ⟨u1, u2, ue, hu⟩ : ∃ u1 u2 ue, T.unateS N b i = (u1, u2, ue) := ⟨_, _, _, rfl⟩
  rw [hc] at hC1 hC2
  rw [hu] at hU1 hU2
  generalize T.depS N b = l at hD1 hD2
  generalize T.chk N b = de at hD1 hD2
  clear hc hu hb
  go_enter Tryd.func6, Tryd.ntmps6
  go_wp2_with (fail)
  rw [HW0.out]
  go_wp2_with (first | (go_at_call 28; with_reducible refine Calls.mono (hC1 _) ?_; rintro e w1 ⟨rfl, hb1⟩; have hz1 := hb1.size; have d1l0 := (W0b0.ext hb1).lt; have d10 := (W0b0.ext hb1).cell 0; have d1f0 := (W0b0.ext hb1).frozen 0; have d11 := (W0b0.ext hb1).cell 1; have d1f1 := (W0b0.ext hb1).frozen 1; simp only [List.getElem?_toArray, List.getElem?_cons_zero, List.getElem?_cons_succ] at d10 d11))
  clear hC1
  go_wp2_with (first | (go_at_call 29; with_reducible refine Calls.mono (hC2 _) ?_; rintro e w2 ⟨rfl, hb2⟩; have hz2 := hb2.size; have d2l0 := (((W0b0.ext hb1).alloc _).ext hb2).lt; have d20 := (((W0b0.ext hb1).alloc _).ext hb2).cell 0; have d2f0 := (((W0b0.ext hb1).alloc _).ext hb2).frozen 0; have d21 := (((W0b0.ext hb1).alloc _).ext hb2).cell 1; have d2f1 := (((W0b0.ext hb1).alloc _).ext hb2).frozen 1; simp only [List.getElem?_toArray, List.getElem?_cons_zero, List.getElem?_cons_succ] at d20 d21))
  clear hC2
  have A2 := ((W0b0.ext hb1).alloc _).ext hb2
  have X2 := (Blk.new w1 _ _).ext hb2
  have q2 : Below w.heap.size w w2 := (W0B.trans (hb1.mono (by omega))).trans ((((Below.refl _ _).alloc (Nat.le_refl _) _).trans (hb2.mono (by simp))).mono (by omega))
  go_wp2_with (first | (go_at_call 30; (with_reducible refine Calls.mono (hD1 _) ?_); rintro e w3 ⟨⟨v3, rfl, ho3⟩, hb3⟩; have hz3 := hb3.size; have d3l0 := ((A2.alloc _).ext hb3).lt; have d30 := ((A2.alloc _).ext hb3).cell 0; have d3f0 := ((A2.alloc _).ext hb3).frozen 0; have d31 := ((A2.alloc _).ext hb3).cell 1; have d3f1 := ((A2.alloc _).ext hb3).frozen 1; simp only [List.getElem?_toArray, List.getElem?_cons_zero, List.getElem?_cons_succ] at d30 d31))
  clear hD1
  have A3 := (A2.alloc _).ext hb3
  have X3 := (X2.alloc _).ext hb3
  have Y3 := (Blk.new w2 _ _).ext hb3
  have q3 : Below w.heap.size w w3 := q2.trans ((((Below.refl _ _).alloc (Nat.le_refl _) _).trans (hb3.mono (by simp))).mono q2.size)
  go_wp2_with (first | (go_at_call 31; (with_reducible refine Calls.mono (hD2 _) ?_); rintro e w4 ⟨⟨v4, rfl, ho4⟩, hb4⟩; have hz4 := hb4.size; have d4l0 := (A3.ext hb4).lt; have d40 := (A3.ext hb4).cell 0; have d4f0 := (A3.ext hb4).frozen 0; have d41 := (A3.ext hb4).cell 1; have d4f1 := (A3.ext hb4).frozen 1; simp only [List.getElem?_toArray, List.getElem?_cons_zero, List.getElem?_cons_succ] at d40 d41))
  clear hD2
  go_wp2_with (first | (go_at_call 32; with_reducible refine Calls.mono (hU1 _) ?_; rintro e w5 ⟨rfl, hb5⟩; have hz5 := hb5.size; have d5l0 := ((A3.ext hb4).ext hb5).lt; have d50 := ((A3.ext hb4).ext hb5).cell 0; have d5f0 := ((A3.ext hb4).ext hb5).frozen 0; have d51 := ((A3.ext hb4).ext hb5).cell 1; have d5f1 := ((A3.ext hb4).ext hb5).frozen 1; simp only [List.getElem?_toArray, List.getElem?_cons_zero, List.getElem?_cons_succ] at d50 d51))
  clear hU1
  go_wp2_with (first | (go_at_call 33; with_reducible refine Calls.mono (hU2 _) ?_; rintro e w6 ⟨rfl, hb6⟩; have hz6 := hb6.size; have d6l0 := (((X3.ext hb4).ext hb5).ext hb6).lt; have d60 := (((X3.ext hb4).ext hb5).ext hb6).cell 0; have d6f0 := (((X3.ext hb4).ext hb5).ext hb6).frozen 0; have d61 := (((X3.ext hb4).ext hb5).ext hb6).cell 1; have d6f1 := (((X3.ext hb4).ext hb5).ext hb6).frozen 1; have d6l2 := (((Y3.ext hb4).ext hb5).ext hb6).lt; have d62 := (((Y3.ext hb4).ext hb5).ext hb6).cell 0; have d6f2 := (((Y3.ext hb4).ext hb5).ext hb6).frozen 0; have d63 := (((Y3.ext hb4).ext hb5).ext hb6).cell 1; have d6f3 := (((Y3.ext hb4).ext hb5).ext hb6).frozen 1; simp only [List.getElem?_toArray, List.getElem?_cons_zero, List.getElem?_cons_succ] at d60 d61 d62 d63))
  clear hU2
  have hE := equal_same l v3 v4 _ _ w6 (((Sl.of_owns ho3).below hb4 (Nat.le_refl _)).below hb5 hb4.size |>.below hb6 (Nat.le_trans hb4.size hb5.size)) (((Sl.of_owns ho4).below hb5 (Nat.le_refl _)).below hb6 hb5.size)
  have q6 : Below w.heap.size w w6 := ((q3.trans (hb4.mono q3.size)).trans (hb5.mono (Nat.le_trans q3.size hb4.size))).trans (hb6.mono (Nat.le_trans (Nat.le_trans q3.size hb4.size) hb5.size))
  go_wp2_with (first | (go_at_call 34; with_reducible refine Calls.mono (hE) ?_; rintro e w7 ⟨rfl, hb7⟩; have hz7 := hb7.size))
  have q7 : Below w.heap.size w w7 := q6.trans (hb7.mono q6.size)
  go_wp2_with (first | (go_at_call 11; with_reducible refine Calls.mono (hAw _ (hT.ext q7)) ?_; rintro e w8 ⟨rfl, hb8⟩; have hz8 := hb8.size))
  go_ret
  exact ⟨rfl, q7.trans (hb8.mono q7.size)⟩

end Go.Proofs.YtamnabekjkgdkaaDoor
