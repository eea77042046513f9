/- The walk of the law TruthSplits: it answers true for every table and every byte. -/
import Derived.Test.YtamnabekjkgdkaaDoorAwake
import Derived.Test.YtamnabekjkgdkaaDoorContains
import Derived.Test.YtamnabekjkgdkaaDoorSplits
namespace Go.Proofs.YtamnabekjkgdkaaDoor
set_option linter.unusedSimpArgs false
set_option linter.unusedVariables false
open Go.RowKit Go.Shelf

set_option maxRecDepth 100000 in
set_option maxHeartbeats 4000000 in
theorem lawSplits_right (n b yn : Nat) (hn : n ≤ 6) (hn0 : 0 < n) (hb : b < 2 ^ M.sz n) (hy : yn < 256) (w : World) (hT : Tab w) :
    Calls Tryd.prog 7 #[.agg #[.int .i64 n, .int .u64 b], .int .u8 yn] w fun e w' => e = .returned (.bool true) ∧ Below w.heap.size w w' := by
  obtain ⟨W0, HW0⟩ : ∃ W0, (w.alloc (.cells #[.int .i64 n, .int .u64 b] 24)) = W0 := ⟨_, rfl⟩
  have sW0 : W0.heap.size = w.heap.size + 1 := by rw [← HW0]; simp only [World.size_alloc]
  have W0b0 : Blk W0 (w.heap.size) #[.int .i64 n, .int .u64 b] 24 := by
    rw [← HW0]; repeat (first | (refine Blk.new' ?_; first | rfl | (simp only [World.size_alloc]; done)) | refine Blk.alloc ?_ _)
  have W0B : Below w.heap.size w W0 := by
    rw [← HW0]
    repeat (first
      | exact Below.refl _ _
      | assumption
      | refine Below.drew ?_
      | refine below_drewN ?_ _
      | refine Below.setCell ?_ (by first | (simp only [World.size_alloc, sz_setCell, sz_drew, sz_drewN, sz_putObj] at *; omega) | omega | (simp; omega) | simp) _
      | refine Below.alloc ?_ (by first | (simp only [World.size_alloc, sz_setCell, sz_drew, sz_drewN, sz_putObj] at *; omega) | omega | (simp; omega) | simp) _
      | refine Below.trans ?_ (Below.mono (by assumption) (by first | (simp only [World.size_alloc, sz_setCell, sz_drew, sz_drewN, sz_putObj] at *; omega) | omega | (simp; omega) | simp)))
  replace HW0 := Lib.hid HW0
  have h64 := M.sz_le hn
  have hR : T.Right n b := ⟨by omega, by omega, hb⟩
  have hb64 := hR.lt64
  obtain ⟨j, hj⟩ : ∃ j, yn % n = j := ⟨_, rfl⟩
  have hjn : j < n := by rw [← hj]; exact Nat.mod_lt _ hn0
  have hrem : (yn : Int).tmod (n : Int) = (j : Int) := by rw [← hj]; rfl
  have hne : ((n : Int) == 0) = false := by simp; omega
  have hC := rCheck_any n b hb64 W0
  rw [T.chk_right hR] at hC
  have lt64 : ∀ {x : Nat}, x < 2 ^ M.sz n → x < 2 ^ 64 := fun h => Nat.lt_of_lt_of_le h (Nat.pow_le_pow_right (by omega) h64)
  have vz : T.vchk n b j = 0 := by unfold T.vchk; rw [T.chk_right hR, if_pos rfl, if_pos (by omega)]
  have hV := fun W => tVar_any n j W
  rw [show T.varS n j = ((n : Int), M.mkB (fun k => k.testBit j) (M.sz n), 0) by unfold T.varS; rw [if_pos (by omega)]; rfl] at hV
  have hF := fun v W => tCofactor_any n j b v hb64 W
  have hFS : ∀ v, T.cofS n b j v = ((n : Int), T.fixB b j v (M.sz n), 0) := fun v => by unfold T.cofS; rw [if_pos vz]; rfl
  simp only [hFS] at hF
  have hF0 := hF false
  have hF1 := hF true
  have lV : M.mkB (fun k => k.testBit j) (M.sz n) < 2 ^ M.sz n := M.mkB_lt _ _
  have l0 : T.fixB b j false (M.sz n) < 2 ^ M.sz n := M.mkB_lt _ _
  have l1 : T.fixB b j true (M.sz n) < 2 ^ M.sz n := M.mkB_lt _ _
  have hw := T.split_whole (i := j) hb
  have hff : T.depP n (T.fixB b j false (M.sz n)) j = false := by
    unfold T.depP M.sz
    rw [T.fixB_fixB _ _ hjn, T.fixB_fixB _ _ hjn]; simp
  have hU := fun W => tUnate_any n j b hb64 W
  rw [show T.unateS n b j = (T.subB (T.fixB b j false (M.sz n)) (T.fixB b j true (M.sz n)) (M.sz n), T.subB (T.fixB b j true (M.sz n)) (T.fixB b j false (M.sz n)) (M.sz n), 0) by unfold T.unateS; rw [if_pos vz]; rfl] at hU
  have hdp : T.depP n b j = (T.fixB b j false (M.sz n) != T.fixB b j true (M.sz n)) := rfl
  generalize T.fixB b j false (M.sz n) = lo at *
  generalize T.fixB b j true (M.sz n) = hi at *
  generalize M.mkB (fun k => k.testBit j) (M.sz n) = V at *
  have hN := fun W => tNot_any n V (lt64 lV) W
  rw [show T.notS n V = ((n : Int), M.mkB (fun k => !V.testBit k) (M.sz n), 0) by unfold T.notS; rw [if_pos (T.chk_right ⟨by omega, by omega, lV⟩)]; rfl] at hN
  have lN : M.mkB (fun k => !V.testBit k) (M.sz n) < 2 ^ M.sz n := M.mkB_lt _ _
  generalize M.mkB (fun k => !V.testBit k) (M.sz n) = NV at *
  have gS : ∀ {x y : Nat}, x < 2 ^ M.sz n → y < 2 ^ M.sz n → T.givenS n x n y = 0 := fun hx hy => by
    unfold T.givenS; rw [T.chk_right ⟨by omega, by omega, hx⟩, T.chk_right ⟨by omega, by omega, hy⟩]; simp
  have hA1 := fun W => tAnd_any n n NV lo (lt64 lN) (lt64 l0) W
  rw [show T.joinS (· &&& ·) n NV n lo = ((n : Int), NV &&& lo, 0) by unfold T.joinS; rw [if_pos (gS lN l0)]] at hA1
  have hA2 := fun W => tAnd_any n n V hi (lt64 lV) (lt64 l1) W
  rw [show T.joinS (· &&& ·) n V n hi = ((n : Int), V &&& hi, 0) by unfold T.joinS; rw [if_pos (gS lV l1)]] at hA2
  have la1 : NV &&& lo < 2 ^ M.sz n := Nat.lt_of_le_of_lt Nat.and_le_right l0
  have la2 : V &&& hi < 2 ^ M.sz n := Nat.lt_of_le_of_lt Nat.and_le_right l1
  have hO := fun W => tOr_any n n (NV &&& lo) (V &&& hi) (lt64 la1) (lt64 la2) W
  rw [show T.joinS (· ||| ·) n (NV &&& lo) n (V &&& hi) = ((n : Int), b, 0) by unfold T.joinS; rw [if_pos (gS la1 la2)]; show ((n : Int), (NV &&& lo) ||| (V &&& hi), (0 : Int)) = _; rw [hw]] at hO
  generalize NV &&& lo = a1 at *
  generalize V &&& hi = a2 at *
  have s1 := sub_u64 h64 l0 (lt64 l1)
  have s2 := sub_u64 h64 l1 (lt64 l0)
  generalize T.subB lo hi (M.sz n) = u1 at *
  generalize T.subB hi lo (M.sz n) = u2 at *
  have hD1 := fun W => tDepends_any n b hb64 W
  rw [show T.depS n b = T.depL n b by unfold T.depS; rw [T.chk_right hR]; rfl, T.chk_right hR] at hD1
  have hD2 := fun W => tDepends_any n lo (lt64 l0) W
  rw [show T.depS n lo = T.depL n lo by unfold T.depS; rw [T.chk_right ⟨by omega, by omega, l0⟩]; rfl, T.chk_right ⟨by omega, by omega, l0⟩] at hD2
  have hm1 : decide (j ∈ T.depL n b) = (lo != hi) := by
    rw [← hdp]; unfold T.depL
    cases hq : T.depP n b j
    · exact decide_eq_false fun h => by rw [(M.mem_pts.1 h).2] at hq; cases hq
    · exact decide_eq_true (M.mem_pts.2 ⟨hjn, hq⟩)
  have hm2 : decide (j ∈ T.depL n lo) = false := decide_eq_false fun h => by unfold T.depL at h; rw [(M.mem_pts.1 h).2] at hff; cases hff
  have hCo1 := fun v lim W h => contains_any (T.depL n b) v j lim W h
  have hCo2 := fun v lim W h => contains_any (T.depL n lo) v j lim W h
  rw [hm1] at hCo1
  rw [hm2] at hCo2
  generalize T.depL n b = d1 at *
  generalize T.depL n lo = d2 at *
  have hAw := fun W hW => awake_any W hW
  clear hm1 hm2 hw hff hdp hF hFS vz hR hb lV l0 l1 lN la1 la2 gS lt64 hb64 hj
  go_enter Tryd.func7, Tryd.ntmps7
  go_wp2_with (fail)
  rw [HW0.out]
  go_wp2_with (first | (go_at_call 24; with_reducible refine Calls.mono (hC) ?_; rintro e w1 ⟨rfl, hb1⟩; have hz1 := hb1.size; have d1l0 := (W0b0.ext hb1).lt; have d10 := (W0b0.ext hb1).cell 0; have d1f0 := (W0b0.ext hb1).frozen 0; have d11 := (W0b0.ext hb1).cell 1; have d1f1 := (W0b0.ext hb1).frozen 1; simp only [List.getElem?_toArray, List.getElem?_cons_zero, List.getElem?_cons_succ] at d10 d11))
  have q1 : Below w.heap.size w w1 := W0B.trans (hb1.mono (by omega))
  go_wp2_with (first | (go_at_call 35; with_reducible refine Calls.mono (hV _) ?_; rintro e w2 ⟨rfl, hb2⟩; have hz2 := hb2.size; have d2l0 := ((W0b0.ext hb1).ext hb2).lt; have d20 := ((W0b0.ext hb1).ext hb2).cell 0; have d2f0 := ((W0b0.ext hb1).ext hb2).frozen 0; have d21 := ((W0b0.ext hb1).ext hb2).cell 1; have d2f1 := ((W0b0.ext hb1).ext hb2).frozen 1; simp only [List.getElem?_toArray, List.getElem?_cons_zero, List.getElem?_cons_succ] at d20 d21))
  clear hV hrem hne hC
  have A2 := (W0b0.ext hb1).ext hb2
  have q2 : Below w.heap.size w w2 := q1.trans (hb2.mono q1.size)
  go_wp2_with (first | (go_at_call 28; with_reducible refine Calls.mono (hF0 _) ?_; rintro e w3 ⟨rfl, hb3⟩; have hz3 := hb3.size; have d3l0 := ((A2.alloc _).ext hb3).lt; have d30 := ((A2.alloc _).ext hb3).cell 0; have d3f0 := ((A2.alloc _).ext hb3).frozen 0; have d31 := ((A2.alloc _).ext hb3).cell 1; have d3f1 := ((A2.alloc _).ext hb3).frozen 1; simp only [List.getElem?_toArray, List.getElem?_cons_zero, List.getElem?_cons_succ] at d30 d31))
  clear hF0
  have A3 := (A2.alloc _).ext hb3
  have V3 := (Blk.new w2 _ _).ext hb3
  have q3 : Below w.heap.size w w3 := q2.trans ((((Below.refl _ _).alloc (Nat.le_refl _) _).trans (hb3.mono (by simp))).mono q2.size)
  go_wp2_with (first | (go_at_call 28; with_reducible refine Calls.mono (hF1 _) ?_; rintro e w4 ⟨rfl, hb4⟩; have hz4 := hb4.size; have d4l0 := ((V3.alloc _).ext hb4).lt; have d40 := ((V3.alloc _).ext hb4).cell 0; have d4f0 := ((V3.alloc _).ext hb4).frozen 0; have d41 := ((V3.alloc _).ext hb4).cell 1; have d4f1 := ((V3.alloc _).ext hb4).frozen 1; simp only [List.getElem?_toArray, List.getElem?_cons_zero, List.getElem?_cons_succ] at d40 d41))
  clear hF1
  have A4 := (A3.alloc _).ext hb4
  have V4 := (V3.alloc _).ext hb4
  have L4 := (Blk.new w3 _ _).ext hb4
  have q4 : Below w.heap.size w w4 := q3.trans ((((Below.refl _ _).alloc (Nat.le_refl _) _).trans (hb4.mono (by simp))).mono q3.size)
  go_wp2_with (first | (go_at_call 16; with_reducible refine Calls.mono (hN _) ?_; rintro e w5 ⟨rfl, hb5⟩; have hz5 := hb5.size; have d5l0 := ((A4.alloc _).ext hb5).lt; have d50 := ((A4.alloc _).ext hb5).cell 0; have d5f0 := ((A4.alloc _).ext hb5).frozen 0; have d51 := ((A4.alloc _).ext hb5).cell 1; have d5f1 := ((A4.alloc _).ext hb5).frozen 1; have d5l2 := ((L4.alloc _).ext hb5).lt; have d52 := ((L4.alloc _).ext hb5).cell 0; have d5f2 := ((L4.alloc _).ext hb5).frozen 0; have d53 := ((L4.alloc _).ext hb5).cell 1; have d5f3 := ((L4.alloc _).ext hb5).frozen 1; have d5l4 := ((Blk.new w4 _ _).ext hb5).lt; have d54 := ((Blk.new w4 _ _).ext hb5).cell 0; have d5f4 := ((Blk.new w4 _ _).ext hb5).frozen 0; have d55 := ((Blk.new w4 _ _).ext hb5).cell 1; have d5f5 := ((Blk.new w4 _ _).ext hb5).frozen 1; simp only [List.getElem?_toArray, List.getElem?_cons_zero, List.getElem?_cons_succ] at d50 d51 d52 d53 d54 d55))
  clear hN
  have A5 := (A4.alloc _).ext hb5
  have V5 := (V4.alloc _).ext hb5
  have L5 := (L4.alloc _).ext hb5
  have H5 := (Blk.new w4 _ _).ext hb5
  have q5 : Below w.heap.size w w5 := q4.trans ((((Below.refl _ _).alloc (Nat.le_refl _) _).trans (hb5.mono (by simp))).mono q4.size)
  go_wp2_with (first | (go_at_call 18; with_reducible refine Calls.mono (hA1 _) ?_; rintro e w6 ⟨rfl, hb6⟩; have hz6 := hb6.size; have d6l0 := ((V5.alloc _).ext hb6).lt; have d60 := ((V5.alloc _).ext hb6).cell 0; have d6f0 := ((V5.alloc _).ext hb6).frozen 0; have d61 := ((V5.alloc _).ext hb6).cell 1; have d6f1 := ((V5.alloc _).ext hb6).frozen 1; have d6l2 := ((H5.alloc _).ext hb6).lt; have d62 := ((H5.alloc _).ext hb6).cell 0; have d6f2 := ((H5.alloc _).ext hb6).frozen 0; have d63 := ((H5.alloc _).ext hb6).cell 1; have d6f3 := ((H5.alloc _).ext hb6).frozen 1; simp only [List.getElem?_toArray, List.getElem?_cons_zero, List.getElem?_cons_succ] at d60 d61 d62 d63))
  clear hA1
  have A6 := (A5.alloc _).ext hb6
  have V6 := (V5.alloc _).ext hb6
  have L6 := (L5.alloc _).ext hb6
  have H6 := (H5.alloc _).ext hb6
  have q6 : Below w.heap.size w w6 := q5.trans ((((Below.refl _ _).alloc (Nat.le_refl _) _).trans (hb6.mono (by simp))).mono q5.size)
  go_wp2_with (first | (go_at_call 18; with_reducible refine Calls.mono (hA2 _) ?_; rintro e w7 ⟨rfl, hb7⟩; have hz7 := hb7.size; have d7l0 := ((Blk.new w6 _ _).ext hb7).lt; have d70 := ((Blk.new w6 _ _).ext hb7).cell 0; have d7f0 := ((Blk.new w6 _ _).ext hb7).frozen 0; have d71 := ((Blk.new w6 _ _).ext hb7).cell 1; have d7f1 := ((Blk.new w6 _ _).ext hb7).frozen 1; simp only [List.getElem?_toArray, List.getElem?_cons_zero, List.getElem?_cons_succ] at d70 d71))
  clear hA2
  have A7 := (A6.alloc _).ext hb7
  have L7 := (L6.alloc _).ext hb7
  have H7 := (H6.alloc _).ext hb7
  have q7 : Below w.heap.size w w7 := q6.trans ((((Below.refl _ _).alloc (Nat.le_refl _) _).trans (hb7.mono (by simp))).mono q6.size)
  go_wp2_with (first | (go_at_call 20; with_reducible refine Calls.mono (hO _) ?_; rintro e w8 ⟨rfl, hb8⟩; have hz8 := hb8.size; have d8l0 := ((A7.alloc _).ext hb8).lt; have d80 := ((A7.alloc _).ext hb8).cell 0; have d8f0 := ((A7.alloc _).ext hb8).frozen 0; have d81 := ((A7.alloc _).ext hb8).cell 1; have d8f1 := ((A7.alloc _).ext hb8).frozen 1; simp only [List.getElem?_toArray, List.getElem?_cons_zero, List.getElem?_cons_succ] at d80 d81))
  clear hO
  have A8 := (A7.alloc _).ext hb8
  have L8 := (L7.alloc _).ext hb8
  have H8 := (H7.alloc _).ext hb8
  have q8 : Below w.heap.size w w8 := q7.trans ((((Below.refl _ _).alloc (Nat.le_refl _) _).trans (hb8.mono (by simp))).mono q7.size)
  go_wp2_with (first | (go_at_call 30; (with_reducible refine Calls.mono (hD1 _) ?_); rintro e w9 ⟨⟨v9, rfl, ho9⟩, hb9⟩; have hz9 := hb9.size; have d9l0 := ((L8.alloc _).ext hb9).lt; have d90 := ((L8.alloc _).ext hb9).cell 0; have d9f0 := ((L8.alloc _).ext hb9).frozen 0; have d91 := ((L8.alloc _).ext hb9).cell 1; have d9f1 := ((L8.alloc _).ext hb9).frozen 1; simp only [List.getElem?_toArray, List.getElem?_cons_zero, List.getElem?_cons_succ] at d90 d91))
  clear hD1
  have A9 := (A8.alloc _).ext hb9
  have L9 := (L8.alloc _).ext hb9
  have H9 := (H8.alloc _).ext hb9
  have R9 := (Blk.new w8 _ _).ext hb9
  have q9 : Below w.heap.size w w9 := q8.trans ((((Below.refl _ _).alloc (Nat.le_refl _) _).trans (hb9.mono (by simp))).mono q8.size)
  go_wp2_with (first | (go_at_call 30; (with_reducible refine Calls.mono (hD2 _) ?_); rintro e w10 ⟨⟨v10, rfl, ho10⟩, hb10⟩; have hz10 := hb10.size; have d10l0 := (A9.ext hb10).lt; have d100 := (A9.ext hb10).cell 0; have d10f0 := (A9.ext hb10).frozen 0; have d101 := (A9.ext hb10).cell 1; have d10f1 := (A9.ext hb10).frozen 1; simp only [List.getElem?_toArray, List.getElem?_cons_zero, List.getElem?_cons_succ] at d100 d101))
  clear hD2
  have q10 : Below w.heap.size w w10 := q9.trans (hb10.mono q9.size)
  go_wp2_with (first | (go_at_call 32; with_reducible refine Calls.mono (hU _) ?_; rintro e w11 ⟨rfl, hb11⟩; have hz11 := hb11.size))
  clear hU
  have q11 : Below w.heap.size w w11 := q10.trans (hb11.mono q10.size)
  have A11 := (A9.ext hb10).ext hb11
  have L11 := (L9.ext hb10).ext hb11
  have H11 := (H9.ext hb10).ext hb11
  have R11 := (R9.ext hb10).ext hb11
  have S9 := ((Sl.of_owns ho9).below hb10 (Nat.le_refl _)).below hb11 hb10.size
  have S10 := (Sl.of_owns ho10).below hb11 (Nat.le_refl _)
  have T11 := hT.ext q11
  have z9 : w9.heap.size ≤ w11.heap.size := Nat.le_trans hb10.size hb11.size
  have z10 : w10.heap.size ≤ w11.heap.size := hb11.size
  clear A2 A3 A4 A5 A6 A7 A8 A9 V3 V4 V5 V6 L4 L5 L6 L7 L8 L9 H5 H6 H7 H8 H9 R9 q1 q2 q3 q4 q5 q6 q7 q8 q9 q10 hb1 hb2 hb3 hb4 hb5 hb6 hb7 hb8 hb9 hb10 hb11 ho9 ho10
  have cl0 := (A11).lt
  have c0 := (A11).cell 0
  have cf0 := (A11).frozen 0
  have c1 := (A11).cell 1
  have cf1 := (A11).frozen 1
  have cl2 := (L11).lt
  have c2 := (L11).cell 0
  have cf2 := (L11).frozen 0
  have c3 := (L11).cell 1
  have cf3 := (L11).frozen 1
  have cl4 := (H11).lt
  have c4 := (H11).cell 0
  have cf4 := (H11).frozen 0
  have c5 := (H11).cell 1
  have cf5 := (H11).frozen 1
  have cl6 := (R11).lt
  have c6 := (R11).cell 0
  have cf6 := (R11).frozen 0
  have c7 := (R11).cell 1
  have cf7 := (R11).frozen 1
  simp only [List.getElem?_toArray, List.getElem?_cons_zero, List.getElem?_cons_succ] at c0 c1 c2 c3 c4 c5 c6 c7
  clear A11 L11 H11 R11
  by_cases he : lo = hi
  · subst he
    obtain rfl : u1 = u2 := s1.symm.trans s2
    clear s2
    rw [show (lo != lo) = false by simp] at hCo1
    go_region_held3 (fun W9 => Below w11.heap.size w11 W9 ∧ W9.cell? ⟨w.heap.size, 0, none⟩ = some (.int .i64 n) ∧ W9.cell? ⟨w.heap.size, 1, none⟩ = some (.int .u64 b) ∧ W9.cell? ⟨w3.heap.size, 0, none⟩ = some (.int .i64 n) ∧ W9.cell? ⟨w3.heap.size, 1, none⟩ = some (.int .u64 lo) ∧ W9.cell? ⟨w4.heap.size, 0, none⟩ = some (.int .i64 n) ∧ W9.cell? ⟨w4.heap.size, 1, none⟩ = some (.int .u64 lo) ∧ W9.cell? ⟨w8.heap.size, 0, none⟩ = some (.int .i64 n) ∧ W9.cell? ⟨w8.heap.size, 1, none⟩ = some (.int .u64 b)) (first | exact ⟨hB9, (hB9.cell (p := ⟨w.heap.size, 0, none⟩) cl0).trans c0, (hB9.cell (p := ⟨w.heap.size, 1, none⟩) cl0).trans c1, (hB9.cell (p := ⟨w3.heap.size, 0, none⟩) cl2).trans c2, (hB9.cell (p := ⟨w3.heap.size, 1, none⟩) cl2).trans c3, (hB9.cell (p := ⟨w4.heap.size, 0, none⟩) cl4).trans c4, (hB9.cell (p := ⟨w4.heap.size, 1, none⟩) cl4).trans c5, (hB9.cell (p := ⟨w8.heap.size, 0, none⟩) cl6).trans c6, (hB9.cell (p := ⟨w8.heap.size, 1, none⟩) cl6).trans c7⟩ | exact ⟨(Below.refl _ _).drew, c0, c1, c2, c3, c4, c5, c6, c7⟩)
      (first | (go_at_call 36; with_reducible refine Calls.mono (later (hCo1 v9 _ _ (S9.below (by go_split_ands; assumption) z9)) (by go_split_ands; assumption) (Nat.le_refl _)) ?_; rintro e w9 ⟨rfl, hB9⟩) | (go_at_call 36; with_reducible refine Calls.mono (later (hCo2 v10 _ _ (S10.below (by go_split_ands; assumption) z10)) (by go_split_ands; assumption) (Nat.le_refl _)) ?_; rintro e w9 ⟨rfl, hB9⟩))
    have hw9 := hB9.size
    have q9' : Below w.heap.size w w9 := q11.trans (hB9.mono q11.size)
    have T9 := T11.ext hB9
    go_wp2_with (first | (go_at_call 11; with_reducible refine Calls.mono (hAw _ T9) ?_; rintro e w12 ⟨rfl, hb12⟩; have hz12 := hb12.size))
    go_ret
    exact ⟨rfl, q9'.trans (hb12.mono q9'.size)⟩
  · rw [show (lo != hi) = true by simpa using he] at hCo1
    have hne2 : ((lo : Int) == hi) = false := by simp; omega
    clear he
    go_region_held3 (fun W9 => Below w11.heap.size w11 W9 ∧ W9.cell? ⟨w.heap.size, 0, none⟩ = some (.int .i64 n) ∧ W9.cell? ⟨w.heap.size, 1, none⟩ = some (.int .u64 b) ∧ W9.cell? ⟨w3.heap.size, 0, none⟩ = some (.int .i64 n) ∧ W9.cell? ⟨w3.heap.size, 1, none⟩ = some (.int .u64 lo) ∧ W9.cell? ⟨w4.heap.size, 0, none⟩ = some (.int .i64 n) ∧ W9.cell? ⟨w4.heap.size, 1, none⟩ = some (.int .u64 hi) ∧ W9.cell? ⟨w8.heap.size, 0, none⟩ = some (.int .i64 n) ∧ W9.cell? ⟨w8.heap.size, 1, none⟩ = some (.int .u64 b)) (first | exact ⟨hB9, (hB9.cell (p := ⟨w.heap.size, 0, none⟩) cl0).trans c0, (hB9.cell (p := ⟨w.heap.size, 1, none⟩) cl0).trans c1, (hB9.cell (p := ⟨w3.heap.size, 0, none⟩) cl2).trans c2, (hB9.cell (p := ⟨w3.heap.size, 1, none⟩) cl2).trans c3, (hB9.cell (p := ⟨w4.heap.size, 0, none⟩) cl4).trans c4, (hB9.cell (p := ⟨w4.heap.size, 1, none⟩) cl4).trans c5, (hB9.cell (p := ⟨w8.heap.size, 0, none⟩) cl6).trans c6, (hB9.cell (p := ⟨w8.heap.size, 1, none⟩) cl6).trans c7⟩ | exact ⟨(Below.refl _ _).drew, c0, c1, c2, c3, c4, c5, c6, c7⟩)
      (first | (go_at_call 36; with_reducible refine Calls.mono (later (hCo1 v9 _ _ (S9.below (by go_split_ands; assumption) z9)) (by go_split_ands; assumption) (Nat.le_refl _)) ?_; rintro e w9 ⟨rfl, hB9⟩) | (go_at_call 36; with_reducible refine Calls.mono (later (hCo2 v10 _ _ (S10.below (by go_split_ands; assumption) z10)) (by go_split_ands; assumption) (Nat.le_refl _)) ?_; rintro e w9 ⟨rfl, hB9⟩))
    have hw9 := hB9.size
    have q9' : Below w.heap.size w w9 := q11.trans (hB9.mono q11.size)
    have T9 := T11.ext hB9
    go_wp2_with (first | (go_at_call 11; with_reducible refine Calls.mono (hAw _ T9) ?_; rintro e w12 ⟨rfl, hb12⟩; have hz12 := hb12.size))
    go_ret
    exact ⟨rfl, q9'.trans (hb12.mono q9'.size)⟩

set_option maxRecDepth 100000 in
set_option maxHeartbeats 1000000 in
theorem lawSplits (N : Int) (b : Nat) (y : Int) (hb : b < 2 ^ 64) (wy : (Lit.int .u8 y).wf = true) (w : World) (hT : Tab w) :
    Calls Tryd.prog 7 #[.agg #[.int .i64 N, .int .u64 b], .int .u8 y] w fun e w' => e = .returned (.bool true) ∧ Below w.heap.size w w' := by
  have hy : 0 ≤ y ∧ y < 256 := by
    simp [Lit.wf, IntKind.min, IntKind.max, IntKind.signed, IntKind.bits] at wy
    omega
  obtain ⟨yn, rfl⟩ := Int.eq_ofNat_of_zero_le hy.1
  have hAw := fun W hW => awake_any W hW
  have hC := fun W => rCheck_any N b hb W
  rcases T.chk_cases N b with ⟨hR, h0⟩ | ⟨hR, h0 | h0⟩
  · by_cases hN : N = 0
    · subst hN
      rw [h0] at hC
      clear h0 hR wy hy
      obtain ⟨W0, HW0⟩ : ∃ W0, (w.alloc (.cells #[.int .i64 0, .int .u64 b] 24)) = W0 := ⟨_, rfl⟩
      have sW0 : W0.heap.size = w.heap.size + 1 := by rw [← HW0]; simp only [World.size_alloc]
      have W0b0 : Blk W0 (w.heap.size) #[.int .i64 0, .int .u64 b] 24 := by
        rw [← HW0]; repeat (first | (refine Blk.new' ?_; first | rfl | (simp only [World.size_alloc]; done)) | refine Blk.alloc ?_ _)
      have W0B : Below w.heap.size w W0 := by
        rw [← HW0]
        repeat (first
          | exact Below.refl _ _
          | assumption
          | refine Below.drew ?_
          | refine below_drewN ?_ _
          | refine Below.setCell ?_ (by first | (simp only [World.size_alloc, sz_setCell, sz_drew, sz_drewN, sz_putObj] at *; omega) | omega | (simp; omega) | simp) _
          | refine Below.alloc ?_ (by first | (simp only [World.size_alloc, sz_setCell, sz_drew, sz_drewN, sz_putObj] at *; omega) | omega | (simp; omega) | simp) _
          | refine Below.trans ?_ (Below.mono (by assumption) (by first | (simp only [World.size_alloc, sz_setCell, sz_drew, sz_drewN, sz_putObj] at *; omega) | omega | (simp; omega) | simp)))
      replace HW0 := Lib.hid HW0
      go_enter Tryd.func7, Tryd.ntmps7
      go_wp2_with (fail)
      rw [HW0.out]
      go_wp2_with (first | (go_at_call 24; with_reducible refine Calls.mono (hC _) ?_; rintro e w1 ⟨rfl, hb1⟩; have hz1 := hb1.size; have d1l0 := (W0b0.ext hb1).lt; have d10 := (W0b0.ext hb1).cell 0; have d1f0 := (W0b0.ext hb1).frozen 0; have d11 := (W0b0.ext hb1).cell 1; have d1f1 := (W0b0.ext hb1).frozen 1; simp only [List.getElem?_toArray, List.getElem?_cons_zero, List.getElem?_cons_succ] at d10 d11))
      have q1 : Below w.heap.size w w1 := W0B.trans (hb1.mono (by omega))
      go_wp2_with (first | (go_at_call 11; with_reducible refine Calls.mono (hAw _ (hT.ext q1)) ?_; rintro e w2 ⟨rfl, hb2⟩; have hz2 := hb2.size))
      go_ret
      exact ⟨rfl, q1.trans (hb2.mono q1.size)⟩
    · obtain ⟨n, rfl⟩ := Int.eq_ofNat_of_zero_le hR.1
      exact lawSplits_right n b yn (by have := hR.2.1; omega) (by omega) hR.2.2 (by omega) w hT
  all_goals
    rw [h0] at hC
    clear h0 hR wy hy
    obtain ⟨W0, HW0⟩ : ∃ W0, (w.alloc (.cells #[.int .i64 N, .int .u64 b] 24)) = W0 := ⟨_, rfl⟩
    have sW0 : W0.heap.size = w.heap.size + 1 := by rw [← HW0]; simp only [World.size_alloc]
    have W0b0 : Blk W0 (w.heap.size) #[.int .i64 N, .int .u64 b] 24 := by
      rw [← HW0]; repeat (first | (refine Blk.new' ?_; first | rfl | (simp only [World.size_alloc]; done)) | refine Blk.alloc ?_ _)
    have W0B : Below w.heap.size w W0 := by
      rw [← HW0]
      repeat (first
        | exact Below.refl _ _
        | assumption
        | refine Below.drew ?_
        | refine below_drewN ?_ _
        | refine Below.setCell ?_ (by first | (simp only [World.size_alloc, sz_setCell, sz_drew, sz_drewN, sz_putObj] at *; omega) | omega | (simp; omega) | simp) _
        | refine Below.alloc ?_ (by first | (simp only [World.size_alloc, sz_setCell, sz_drew, sz_drewN, sz_putObj] at *; omega) | omega | (simp; omega) | simp) _
        | refine Below.trans ?_ (Below.mono (by assumption) (by first | (simp only [World.size_alloc, sz_setCell, sz_drew, sz_drewN, sz_putObj] at *; omega) | omega | (simp; omega) | simp)))
    replace HW0 := Lib.hid HW0
    go_enter Tryd.func7, Tryd.ntmps7
    go_wp2_with (fail)
    rw [HW0.out]
    go_wp2_with (first | (go_at_call 24; with_reducible refine Calls.mono (hC _) ?_; rintro e w1 ⟨rfl, hb1⟩; have hz1 := hb1.size; have d1l0 := (W0b0.ext hb1).lt; have d10 := (W0b0.ext hb1).cell 0; have d1f0 := (W0b0.ext hb1).frozen 0; have d11 := (W0b0.ext hb1).cell 1; have d1f1 := (W0b0.ext hb1).frozen 1; simp only [List.getElem?_toArray, List.getElem?_cons_zero, List.getElem?_cons_succ] at d10 d11))
    have q1 : Below w.heap.size w w1 := W0B.trans (hb1.mono (by omega))
    go_wp2_with (first | (go_at_call 11; with_reducible refine Calls.mono (hAw _ (hT.ext q1)) ?_; rintro e w2 ⟨rfl, hb2⟩; have hz2 := hb2.size))
    go_ret
    exact ⟨rfl, q1.trans (hb2.mono q1.size)⟩

end Go.Proofs.YtamnabekjkgdkaaDoor
