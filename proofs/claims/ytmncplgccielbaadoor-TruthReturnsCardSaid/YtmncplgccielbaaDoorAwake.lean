/- Contract: the awake of layer 4's laws: it answers true. -/
import Derived.Test.YtmncplgccielbaaDoorParse2
import Derived.Test.YtmncplgccielbaaDoorParse3
set_option maxHeartbeats 1000000
set_option maxRecDepth 4000
set_option linter.unusedSimpArgs false
set_option linter.unusedVariables false
set_option linter.unusedSectionVars false
namespace Go.Proofs.YtmncplgccielbaaDoor
open Go.RowKit Go.Shelf

set_option maxRecDepth 100000 in
set_option maxHeartbeats 2000000 in
theorem awake_any (w : World) (hT : Tab w) :
    Calls Tryd.prog 5 #[] w fun e w' => e = .returned (.bool true) ∧ Below w.heap.size w w' := by
  have c1 : ∀ W, Calls Tryd.prog 11 #[.int .i64 2, .int .i64 0] W fun e w' => e = .returned (.tuple #[.agg #[.int .i64 2, .int .u64 10], .int .i64 0]) ∧ Below W.heap.size W w' := fun W => by
    have h := tVar_any 2 0 W
    rwa [show T.varS 2 0 = (2, 10, 0) by decide +kernel] at h
  have c2 : ∀ W, Calls Tryd.prog 11 #[.int .i64 2, .int .i64 1] W fun e w' => e = .returned (.tuple #[.agg #[.int .i64 2, .int .u64 12], .int .i64 0]) ∧ Below W.heap.size W w' := fun W => by
    have h := tVar_any 2 1 W
    rwa [show T.varS 2 1 = (2, 12, 0) by decide +kernel] at h
  have c3 : ∀ W, Calls Tryd.prog 12 #[.agg #[.int .i64 2, .int .u64 10], .agg #[.int .i64 2, .int .u64 12]] W fun e w' => e = .returned (.tuple #[.agg #[.int .i64 2, .int .u64 8], .int .i64 0]) ∧ Below W.heap.size W w' := fun W => by
    have h := tAnd_any 2 2 10 12 (by decide) (by decide) W
    rwa [show T.joinS (· &&& ·) 2 10 2 12 = (2, 8, 0) by decide +kernel] at h
  have c4 : ∀ W, Calls Tryd.prog 13 #[.agg #[.int .i64 2, .int .u64 10], .agg #[.int .i64 2, .int .u64 12]] W fun e w' => e = .returned (.tuple #[.agg #[.int .i64 2, .int .u64 6], .int .i64 0]) ∧ Below W.heap.size W w' := fun W => by
    have h := tXor_any 2 2 10 12 (by decide) (by decide) W
    rwa [show T.joinS (· ^^^ ·) 2 10 2 12 = (2, 6, 0) by decide +kernel] at h
  have c5 : ∀ W, Calls Tryd.prog 8 #[.agg #[.int .i64 2, .int .u64 8]] W fun e w' => e = .returned (.tuple #[.string ⟨#[48, 48, 48, 49]⟩, .int .i64 0]) ∧ Below W.heap.size W w' := fun W => by
    have h := tText_any 2 8 (by decide) W
    rwa [show T.textS 2 8 = ([48, 48, 48, 49], 0) by decide +kernel] at h
  have c6 : ∀ W, Calls Tryd.prog 8 #[.agg #[.int .i64 2, .int .u64 6]] W fun e w' => e = .returned (.tuple #[.string ⟨#[48, 49, 49, 48]⟩, .int .i64 0]) ∧ Below W.heap.size W w' := fun W => by
    have h := tText_any 2 6 (by decide) W
    rwa [show T.textS 2 6 = ([48, 49, 49, 48], 0) by decide +kernel] at h
  have c7 : ∀ W, Tab W → Calls Tryd.prog 9 #[.string ⟨#[48, 49, 48, 49, 48, 48, 49, 49]⟩] W fun e w' => e = .returned (.tuple #[.agg #[.int .i64 3, .int .u64 202], .int .i64 0]) ∧ Below W.heap.size W w' := fun W hW => by
    have h := tParse_any ⟨#[48, 49, 48, 49, 48, 48, 49, 49]⟩ W hW
    rwa [show T.parseS (ByteArray.mk #[48, 49, 48, 49, 48, 48, 49, 49]).data.toList = (3, 202, 0) by decide +kernel] at h
  have c8 : ∀ W, Calls Tryd.prog 14 #[.agg #[.int .i64 3, .int .u64 202], .int .i64 2, .bool true] W fun e w' => e = .returned (.tuple #[.agg #[.int .i64 3, .int .u64 204], .int .i64 0]) ∧ Below W.heap.size W w' := fun W => by
    have h := tCofactor_any 3 2 202 true (by decide) W
    rwa [show T.cofS 3 202 2 true = (3, 204, 0) by decide +kernel] at h
  have c9 : ∀ W, Calls Tryd.prog 8 #[.agg #[.int .i64 3, .int .u64 204]] W fun e w' => e = .returned (.tuple #[.string ⟨#[48, 48, 49, 49, 48, 48, 49, 49]⟩, .int .i64 0]) ∧ Below W.heap.size W w' := fun W => by
    have h := tText_any 3 204 (by decide) W
    rwa [show T.textS 3 204 = ([48, 48, 49, 49, 48, 48, 49, 49], 0) by decide +kernel] at h
  have c10 : ∀ W, Calls Tryd.prog 15 #[.agg #[.int .i64 2, .int .u64 6], .int .i64 1] W fun e w' => e = .returned (.tuple #[.bool false, .bool false, .int .i64 0]) ∧ Below W.heap.size W w' := fun W => by
    have h := tUnate_any 2 1 6 (by decide) W
    rwa [show T.unateS 2 6 1 = (false, false, 0) by decide +kernel] at h
  go_enter Tryd.func5, Tryd.ntmps5
  go_wp2_with (first | (go_at_call 11; with_reducible refine Calls.mono (c1 _) ?_; rintro e w1 ⟨rfl, hb1⟩; have hz1 := hb1.size))
  clear c1
  go_wp2_with (first | (go_at_call 11; with_reducible refine Calls.mono (c2 _) ?_; rintro e w2 ⟨rfl, hb2⟩; have hz2 := hb2.size; have d2l0 := ((Blk.new w1 _ _).ext hb2).lt; have d20 := ((Blk.new w1 _ _).ext hb2).cell 0; have d2f0 := ((Blk.new w1 _ _).ext hb2).frozen 0; have d21 := ((Blk.new w1 _ _).ext hb2).cell 1; have d2f1 := ((Blk.new w1 _ _).ext hb2).frozen 1; simp only [List.getElem?_toArray, List.getElem?_cons_zero, List.getElem?_cons_succ] at d20 d21))
  clear c2
  go_wp2_with (first | (go_at_call 12; with_reducible refine Calls.mono (c3 _) ?_; rintro e w3 ⟨rfl, hb3⟩; have hz3 := hb3.size; have d3l0 := ((((Blk.new w1 _ _).ext hb2).alloc _).ext hb3).lt; have d30 := ((((Blk.new w1 _ _).ext hb2).alloc _).ext hb3).cell 0; have d3f0 := ((((Blk.new w1 _ _).ext hb2).alloc _).ext hb3).frozen 0; have d31 := ((((Blk.new w1 _ _).ext hb2).alloc _).ext hb3).cell 1; have d3f1 := ((((Blk.new w1 _ _).ext hb2).alloc _).ext hb3).frozen 1; have d3l2 := ((Blk.new w2 _ _).ext hb3).lt; have d32 := ((Blk.new w2 _ _).ext hb3).cell 0; have d3f2 := ((Blk.new w2 _ _).ext hb3).frozen 0; have d33 := ((Blk.new w2 _ _).ext hb3).cell 1; have d3f3 := ((Blk.new w2 _ _).ext hb3).frozen 1; simp only [List.getElem?_toArray, List.getElem?_cons_zero, List.getElem?_cons_succ] at d30 d31 d32 d33))
  clear c3
  go_wp2_with (first | (go_at_call 13; with_reducible refine Calls.mono (c4 _) ?_; rintro e w4 ⟨rfl, hb4⟩; have hz4 := hb4.size; have d4l0 := ((Blk.new w3 _ _).ext hb4).lt; have d40 := ((Blk.new w3 _ _).ext hb4).cell 0; have d4f0 := ((Blk.new w3 _ _).ext hb4).frozen 0; have d41 := ((Blk.new w3 _ _).ext hb4).cell 1; have d4f1 := ((Blk.new w3 _ _).ext hb4).frozen 1; simp only [List.getElem?_toArray, List.getElem?_cons_zero, List.getElem?_cons_succ] at d40 d41))
  clear c4
  go_wp2_with (first | (go_at_call 8; with_reducible refine Calls.mono (c5 _) ?_; rintro e w5 ⟨rfl, hb5⟩; have hz5 := hb5.size; have d5l0 := ((Blk.new w4 _ _).ext hb5).lt; have d50 := ((Blk.new w4 _ _).ext hb5).cell 0; have d5f0 := ((Blk.new w4 _ _).ext hb5).frozen 0; have d51 := ((Blk.new w4 _ _).ext hb5).cell 1; have d5f1 := ((Blk.new w4 _ _).ext hb5).frozen 1; simp only [List.getElem?_toArray, List.getElem?_cons_zero, List.getElem?_cons_succ] at d50 d51))
  clear c5
  go_wp2_with (first | (go_at_call 8; with_reducible refine Calls.mono (c6 _) ?_; rintro e w6 ⟨rfl, hb6⟩; have hz6 := hb6.size; have d6l0 := (((Blk.new w4 _ _).ext hb5).ext hb6).lt; have d60 := (((Blk.new w4 _ _).ext hb5).ext hb6).cell 0; have d6f0 := (((Blk.new w4 _ _).ext hb5).ext hb6).frozen 0; have d61 := (((Blk.new w4 _ _).ext hb5).ext hb6).cell 1; have d6f1 := (((Blk.new w4 _ _).ext hb5).ext hb6).frozen 1; simp only [List.getElem?_toArray, List.getElem?_cons_zero, List.getElem?_cons_succ] at d60 d61))
  clear c6
  have q1 : Below w.heap.size w w6 := by
    simp only [World.size_alloc] at *
    repeat (first
      | exact Below.refl _ _
      | assumption
      | refine Below.drew ?_
      | refine below_drewN ?_ _
      | refine Below.setCell ?_ (by first | (simp only [World.size_alloc, sz_setCell, sz_drew, sz_drewN, sz_putObj] at *; omega) | omega | (simp; omega) | simp) _
      | refine Below.alloc ?_ (by first | (simp only [World.size_alloc, sz_setCell, sz_drew, sz_drewN, sz_putObj] at *; omega) | omega | (simp; omega) | simp) _
      | refine Below.trans ?_ (Below.mono (by assumption) (by first | (simp only [World.size_alloc, sz_setCell, sz_drew, sz_drewN, sz_putObj] at *; omega) | omega | (simp; omega) | simp)))
  go_wp2_with (first | (go_at_call 9; with_reducible refine Calls.mono (c7 _ (hT.ext q1)) ?_; rintro e w7 ⟨rfl, hb7⟩; have hz7 := hb7.size; have d7l0 := ((((Blk.new w4 _ _).ext hb5).ext hb6).ext hb7).lt; have d70 := ((((Blk.new w4 _ _).ext hb5).ext hb6).ext hb7).cell 0; have d7f0 := ((((Blk.new w4 _ _).ext hb5).ext hb6).ext hb7).frozen 0; have d71 := ((((Blk.new w4 _ _).ext hb5).ext hb6).ext hb7).cell 1; have d7f1 := ((((Blk.new w4 _ _).ext hb5).ext hb6).ext hb7).frozen 1; simp only [List.getElem?_toArray, List.getElem?_cons_zero, List.getElem?_cons_succ] at d70 d71))
  clear c7
  go_wp2_with (first | (go_at_call 14; with_reducible refine Calls.mono (c8 _) ?_; rintro e w8 ⟨rfl, hb8⟩; have hz8 := hb8.size; have d8l0 := ((((((Blk.new w4 _ _).ext hb5).ext hb6).ext hb7).alloc _).ext hb8).lt; have d80 := ((((((Blk.new w4 _ _).ext hb5).ext hb6).ext hb7).alloc _).ext hb8).cell 0; have d8f0 := ((((((Blk.new w4 _ _).ext hb5).ext hb6).ext hb7).alloc _).ext hb8).frozen 0; have d81 := ((((((Blk.new w4 _ _).ext hb5).ext hb6).ext hb7).alloc _).ext hb8).cell 1; have d8f1 := ((((((Blk.new w4 _ _).ext hb5).ext hb6).ext hb7).alloc _).ext hb8).frozen 1; simp only [List.getElem?_toArray, List.getElem?_cons_zero, List.getElem?_cons_succ] at d80 d81))
  clear c8
  go_wp2_with (first | (go_at_call 8; with_reducible refine Calls.mono (c9 _) ?_; rintro e w9 ⟨rfl, hb9⟩; have hz9 := hb9.size; have d9l0 := ((((((((Blk.new w4 _ _).ext hb5).ext hb6).ext hb7).alloc _).ext hb8).alloc _).ext hb9).lt; have d90 := ((((((((Blk.new w4 _ _).ext hb5).ext hb6).ext hb7).alloc _).ext hb8).alloc _).ext hb9).cell 0; have d9f0 := ((((((((Blk.new w4 _ _).ext hb5).ext hb6).ext hb7).alloc _).ext hb8).alloc _).ext hb9).frozen 0; have d91 := ((((((((Blk.new w4 _ _).ext hb5).ext hb6).ext hb7).alloc _).ext hb8).alloc _).ext hb9).cell 1; have d9f1 := ((((((((Blk.new w4 _ _).ext hb5).ext hb6).ext hb7).alloc _).ext hb8).alloc _).ext hb9).frozen 1; simp only [List.getElem?_toArray, List.getElem?_cons_zero, List.getElem?_cons_succ] at d90 d91))
  clear c9
  go_wp2_with (first | (go_at_call 15; with_reducible refine Calls.mono (c10 _) ?_; rintro e w10 ⟨rfl, hb10⟩; have hz10 := hb10.size; have d10l0 := (((((((((Blk.new w4 _ _).ext hb5).ext hb6).ext hb7).alloc _).ext hb8).alloc _).ext hb9).ext hb10).lt; have d100 := (((((((((Blk.new w4 _ _).ext hb5).ext hb6).ext hb7).alloc _).ext hb8).alloc _).ext hb9).ext hb10).cell 0; have d10f0 := (((((((((Blk.new w4 _ _).ext hb5).ext hb6).ext hb7).alloc _).ext hb8).alloc _).ext hb9).ext hb10).frozen 0; have d101 := (((((((((Blk.new w4 _ _).ext hb5).ext hb6).ext hb7).alloc _).ext hb8).alloc _).ext hb9).ext hb10).cell 1; have d10f1 := (((((((((Blk.new w4 _ _).ext hb5).ext hb6).ext hb7).alloc _).ext hb8).alloc _).ext hb9).ext hb10).frozen 1; simp only [List.getElem?_toArray, List.getElem?_cons_zero, List.getElem?_cons_succ] at d100 d101))
  go_ret
  refine ⟨rfl, ?_⟩
  refine q1.trans ?_
  have z6 := q1.size
  have hz6' := hz6
  have : Below w6.heap.size w6 w10 := ((((hb7.alloc hb7.size _)).trans (hb8.mono (by simp; omega))).alloc (by simp only [World.size_alloc] at *; omega) _ |>.trans (hb9.mono (by simp only [World.size_alloc] at *; omega))).trans (hb10.mono (by simp only [World.size_alloc] at *; omega))
  exact this.mono z6

end Go.Proofs.YtmncplgccielbaaDoor
