/- The walk of the law TruthTexts: it answers true for every table and every text. -/
import Derived.Test.YtamnabekjkgdkaaDoorAwake
namespace Go.Proofs.YtamnabekjkgdkaaDoor
open Go.RowKit Go.Shelf

set_option maxRecDepth 100000 in
set_option maxHeartbeats 2000000 in
theorem lawTexts (N : Int) (b : Nat) (hb : b < 2 ^ 64) (s : ByteArray) (w : World) (hT : Tab w) :
    Calls Tryd.prog 3 #[.agg #[.int .i64 N, .int .u64 b], .string s] w fun e w' => e = .returned (.bool true) ∧ Below w.heap.size w w' := by
  obtain ⟨W0, HW0⟩ : ∃ W0, (w.alloc (.cells #[.int .i64 N, .int .u64 b] 24)) = W0 := ⟨_, rfl⟩
  have sW0 : W0.heap.size = w.heap.size + 1 := by rw [← HW0]; simp only [World.size_alloc]
  have W0b0 : Blk W0 (w.heap.size) #[.int .i64 N, .int .u64 b] 24 := by
    rw [← HW0]; repeat (first | (refine Blk.new' ?_; first | rfl | (simp only [World.size_alloc]; done)) | refine Blk.alloc ?_ _)
  have W0B : Below w.heap.size w W0 := by
    rw [← HW0]
    repeat (first
      | exact Below.refl _ _
      | assumption
      | refine Below.drew ?_
      | refine below_drewN ?_ _
      | refine Below.setCell ?_ (by first | (simp only [World.size_alloc, sz_setCell, sz_drew, sz_drewN, sz_putObj] at *; omega) | omega | (simp; omega) | simp) _
      | refine Below.alloc ?_ (by first | (simp only [World.size_alloc, sz_setCell, sz_drew, sz_drewN, sz_putObj] at *; omega) | omega | (simp; omega) | simp) _
      | refine Below.trans ?_ (Below.mono (by assumption) (by first | (simp only [World.size_alloc, sz_setCell, sz_drew, sz_drewN, sz_putObj] at *; omega) | omega | (simp; omega) | simp)))
  replace HW0 := Lib.hid HW0
  have hTx1 := fun W => tText_any N b hb W
  have hTx2 := fun W => rText_any N b hb W
  have hPa1 := fun W hW => tParse_any s W hW
  have hPa2 := fun W => rParse_any s W
  have hAw := fun W hW => awake_any W hW
  obtain ⟨tx, te, htx⟩ : ∃ tx te, T.textS N b = (tx, te) := ⟨_, _, rfl⟩
  obtain ⟨pn, pb, pe, hpa⟩ : ∃ pn pb pe, T.parseS s.data.toList = (pn, pb, pe) := ⟨_, _, _, rfl⟩
  rw [htx] at hTx1 hTx2
  rw [hpa] at hPa1 hPa2
  clear htx hpa
  by_cases hbig : 300 < s.size
  · have hT0 : Tab W0 := hT.ext W0B
    go_enter Tryd.func3, Tryd.ntmps3
    go_wp2_with (first | (go_at_call 11; with_reducible refine Calls.mono ((hAw _ (by rw [HW0.out]; exact hT0))) ?_; rintro e w1 ⟨rfl, hb1⟩; have hz1 := hb1.size))
    go_ret
    refine ⟨rfl, ?_⟩
    rw [HW0.out] at hb1
    exact W0B.trans (hb1.mono (by omega))
  · go_enter Tryd.func3, Tryd.ntmps3
    go_wp2_with (fail)
    rw [HW0.out]
    go_wp2_with (first | (go_at_call 12; with_reducible refine Calls.mono (hTx1 _) ?_; rintro e w1 ⟨rfl, hb1⟩; have hz1 := hb1.size; have d1l0 := (W0b0.ext hb1).lt; have d10 := (W0b0.ext hb1).cell 0; have d1f0 := (W0b0.ext hb1).frozen 0; have d11 := (W0b0.ext hb1).cell 1; have d1f1 := (W0b0.ext hb1).frozen 1; simp only [List.getElem?_toArray, List.getElem?_cons_zero, List.getElem?_cons_succ] at d10 d11))
    go_wp2_with (first | (go_at_call 13; with_reducible refine Calls.mono (hTx2 _) ?_; rintro e w2 ⟨rfl, hb2⟩; have hz2 := hb2.size; have d2l0 := ((W0b0.ext hb1).ext hb2).lt; have d20 := ((W0b0.ext hb1).ext hb2).cell 0; have d2f0 := ((W0b0.ext hb1).ext hb2).frozen 0; have d21 := ((W0b0.ext hb1).ext hb2).cell 1; have d2f1 := ((W0b0.ext hb1).ext hb2).frozen 1; simp only [List.getElem?_toArray, List.getElem?_cons_zero, List.getElem?_cons_succ] at d20 d21))
    have q2 : Below w.heap.size w w2 := by
      repeat (first
        | exact Below.refl _ _
        | assumption
        | refine Below.drew ?_
        | refine below_drewN ?_ _
        | refine Below.setCell ?_ (by first | (simp only [World.size_alloc, sz_setCell, sz_drew, sz_drewN, sz_putObj] at *; omega) | omega | (simp; omega) | simp) _
        | refine Below.alloc ?_ (by first | (simp only [World.size_alloc, sz_setCell, sz_drew, sz_drewN, sz_putObj] at *; omega) | omega | (simp; omega) | simp) _
        | refine Below.trans ?_ (Below.mono (by assumption) (by first | (simp only [World.size_alloc, sz_setCell, sz_drew, sz_drewN, sz_putObj] at *; omega) | omega | (simp; omega) | simp)))
    go_wp2_with (first | (go_at_call 14; with_reducible refine Calls.mono (hPa1 _ (hT.ext q2)) ?_; rintro e w3 ⟨rfl, hb3⟩; have hz3 := hb3.size))
    go_wp2_with (first | (go_at_call 15; with_reducible refine Calls.mono (hPa2 _) ?_; rintro e w4 ⟨rfl, hb4⟩; have hz4 := hb4.size; have d4l0 := ((Blk.new w3 _ _).ext hb4).lt; have d40 := ((Blk.new w3 _ _).ext hb4).cell 0; have d4f0 := ((Blk.new w3 _ _).ext hb4).frozen 0; have d41 := ((Blk.new w3 _ _).ext hb4).cell 1; have d4f1 := ((Blk.new w3 _ _).ext hb4).frozen 1; simp only [List.getElem?_toArray, List.getElem?_cons_zero, List.getElem?_cons_succ] at d40 d41))
    have q4 : Below w.heap.size w w4 := q2.trans (((hb3.alloc hb3.size _).trans (hb4.mono (by simp only [World.size_alloc]; omega))).mono q2.size)
    go_wp2_with (first | (go_at_call 11; with_reducible refine Calls.mono (hAw _ ((hT.ext q4).ext ((Below.refl _ _).alloc (Nat.le_refl _) _))) ?_; rintro e w5 ⟨rfl, hb5⟩; have hz5 := hb5.size))
    go_ret
    exact ⟨rfl, q4.trans ((((Below.refl _ _).alloc (Nat.le_refl _) _).trans (hb5.mono (by simp))).mono q4.size)⟩

end Go.Proofs.YtamnabekjkgdkaaDoor
