/- Contracts of the reference of layer 4: Not, variable, Cofactor, Var, Const, Value. -/
import Derived.Test.YtdkhdkldjpaadaaDoorRef043
set_option maxHeartbeats 1000000
set_option maxRecDepth 4000
set_option linter.unusedSimpArgs false
set_option linter.unusedVariables false
namespace Go.Proofs.YtdkhdkldjpaadaaDoor
open Go.RowKit Go.Shelf

set_option maxRecDepth 100000 in
set_option maxHeartbeats 400000 in
theorem rNot_any (N : Int) (b : Nat) (hb : b < 2 ^ 64) (w : World) :
    Calls Tryd.prog 17 #[.agg #[.int .i64 N, .int .u64 b]] w fun e w' => e = .returned (tabE (T.notS N b)) ∧ Below w.heap.size w w' := by
  obtain ⟨W0, HW0⟩ : ∃ W0, ((w.alloc (.cells #[.int .i64 N, .int .u64 b] 24)).alloc (.cells #[.int .i64 0, .int .u64 0] 24)) = W0 := ⟨_, rfl⟩
  have sW0 : W0.heap.size = w.heap.size + 2 := by rw [← HW0]; simp only [World.size_alloc]
  have W0b0 : Blk W0 (w.heap.size) #[.int .i64 N, .int .u64 b] 24 := by
    rw [← HW0]; repeat (first | (refine Blk.new' ?_; first | rfl | (simp only [World.size_alloc]; done)) | refine Blk.alloc ?_ _)
  have W0b1 : Blk W0 (w.heap.size + 1) #[.int .i64 0, .int .u64 0] 24 := by
    rw [← HW0]; repeat (first | (refine Blk.new' ?_; first | rfl | (simp only [World.size_alloc]; done)) | refine Blk.alloc ?_ _)
  have W0B : Below w.heap.size w W0 := by
    rw [← HW0]
    repeat (first
      | exact Below.refl _ _
      | assumption
      | refine Below.drew ?_
      | refine below_drewN ?_ _
      | refine Below.setCell ?_ (by first | (simp only [World.size_alloc, sz_setCell, sz_drew, sz_drewN, sz_putObj] at *; omega) | omega | (simp; omega) | simp) _
      | refine Below.alloc ?_ (by first | (simp only [World.size_alloc, sz_setCell, sz_drew, sz_drewN, sz_putObj] at *; omega) | omega | (simp; omega) | simp) _
      | refine Below.trans ?_ (Below.mono (by assumption) (by first | (simp only [World.size_alloc, sz_setCell, sz_drew, sz_drewN, sz_putObj] at *; omega) | omega | (simp; omega) | simp)))
  replace HW0 := Lib.hid HW0
  have hC := rCheck_any N b hb W0
  rcases T.chk_cases N b with ⟨hR, h0⟩ | ⟨hR, h0 | h0⟩
  · rw [h0] at hC
    obtain ⟨n, rfl⟩ := Int.eq_ofNat_of_zero_le hR.1
    have hn : n ≤ 6 := by have := hR.2.1; omega
    have HC : Hid (T.notS n b = ((n : Int), M.mkB (fun k => !b.testBit k) (M.sz n), 0)) := by unfold T.notS; rw [if_pos h0]; rfl
    clear h0 hR
    go_enter Tryd.func17, Tryd.ntmps17
    go_wp2_with (first | (go_at_call 24; rw [HW0.out]; refine (hC).mono ?_; rintro e w' ⟨rfl, hb⟩; have hz := hb.size; have dl0 := (W0b0.ext hb).lt; have d0 := (W0b0.ext hb).cell 0; have df0 := (W0b0.ext hb).frozen 0; have d1 := (W0b0.ext hb).cell 1; have df1 := (W0b0.ext hb).frozen 1; have dl2 := (W0b1.ext hb).lt; have d2 := (W0b1.ext hb).cell 0; have df2 := (W0b1.ext hb).frozen 0; have d3 := (W0b1.ext hb).cell 1; have df3 := (W0b1.ext hb).frozen 1; simp only [List.getElem?_toArray, List.getElem?_cons_zero, List.getElem?_cons_succ] at d0 d1 d2 d3) | (go_at_call 55; refine (rOpposite_any n b hn (by assumption) _).mono ?_; rintro e w2 ⟨rfl, hb2⟩; have hz2 := hb2.size; have d2l0 := ((W0b1.ext hb).ext hb2).lt; have d20 := ((W0b1.ext hb).ext hb2).cell 0; have d2f0 := ((W0b1.ext hb).ext hb2).frozen 0; have d21 := ((W0b1.ext hb).ext hb2).cell 1; have d2f1 := ((W0b1.ext hb).ext hb2).frozen 1; simp only [List.getElem?_toArray, List.getElem?_cons_zero, List.getElem?_cons_succ] at d20 d21))
    generalize hW3 : World.setCell (World.setCell _ _ _) _ _ = W3
    have r1 : Blk W3 (w.heap.size + 1) #[.int .i64 (n), .int .u64 (M.mkB (fun k => !b.testBit k) (M.sz n))] 24 := by
      rw [← hW3]; exact (((W0b1.ext hb).ext hb2).set 0 _).set 1 _
    have r2 := r1.cell 0
    have r3 := r1.cell 1
    refine bodyPost_ret (v := tabE (T.notS n b)) ?_ rfl ⟨rfl, ?_⟩
    · rw [HC.out]; simp [results, Tryd.results17, go_sem, r2, r3]
    · rw [← hW3]
      repeat (first
        | exact Below.refl _ _
        | assumption
        | refine Below.drew ?_
        | refine below_drewN ?_ _
        | refine Below.setCell ?_ (by first | (simp only [World.size_alloc, sz_setCell, sz_drew, sz_drewN, sz_putObj] at *; omega) | omega | (simp; omega) | simp) _
        | refine Below.alloc ?_ (by first | (simp only [World.size_alloc, sz_setCell, sz_drew, sz_drewN, sz_putObj] at *; omega) | omega | (simp; omega) | simp) _
        | refine Below.trans ?_ (Below.mono (by assumption) (by first | (simp only [World.size_alloc, sz_setCell, sz_drew, sz_drewN, sz_putObj] at *; omega) | omega | (simp; omega) | simp)))
  all_goals
    rw [h0] at hC
    have HC : Hid (T.notS N b = (0, 0, T.chk N b)) := by unfold T.notS; rw [if_neg (by omega)]; rfl
    rw [h0] at HC
    clear h0 hR
    go_enter Tryd.func17, Tryd.ntmps17
    go_wp2_with (first | (go_at_call 24; rw [HW0.out]; refine (hC).mono ?_; rintro e w' ⟨rfl, hb⟩; have hz := hb.size; have dl0 := (W0b0.ext hb).lt; have d0 := (W0b0.ext hb).cell 0; have df0 := (W0b0.ext hb).frozen 0; have d1 := (W0b0.ext hb).cell 1; have df1 := (W0b0.ext hb).frozen 1; have dl2 := (W0b1.ext hb).lt; have d2 := (W0b1.ext hb).cell 0; have df2 := (W0b1.ext hb).frozen 0; have d3 := (W0b1.ext hb).cell 1; have df3 := (W0b1.ext hb).frozen 1; simp only [List.getElem?_toArray, List.getElem?_cons_zero, List.getElem?_cons_succ] at d0 d1 d2 d3))
    generalize hW3 : World.setCell (World.setCell _ _ _) _ _ = W3
    have r1 : Blk W3 (w.heap.size + 1) #[.int .i64 (0), .int .u64 ((0 : Nat))] 24 := by
      rw [← hW3]; exact ((W0b1.ext hb).set 0 _).set 1 _
    have r2 := r1.cell 0
    have r3 := r1.cell 1
    refine bodyPost_ret (v := tabE (T.notS N b)) ?_ rfl ⟨rfl, ?_⟩
    · rw [HC.out]; simp [results, Tryd.results17, go_sem, r2, r3]
    · rw [← hW3]
      repeat (first
        | exact Below.refl _ _
        | assumption
        | refine Below.drew ?_
        | refine below_drewN ?_ _
        | refine Below.setCell ?_ (by first | (simp only [World.size_alloc, sz_setCell, sz_drew, sz_drewN, sz_putObj] at *; omega) | omega | (simp; omega) | simp) _
        | refine Below.alloc ?_ (by first | (simp only [World.size_alloc, sz_setCell, sz_drew, sz_drewN, sz_putObj] at *; omega) | omega | (simp; omega) | simp) _
        | refine Below.trans ?_ (Below.mono (by assumption) (by first | (simp only [World.size_alloc, sz_setCell, sz_drew, sz_drewN, sz_putObj] at *; omega) | omega | (simp; omega) | simp)))

theorem rVari_any (N i : Int) (b : Nat) (hb : b < 2 ^ 64) (w : World) :
    Calls Tryd.prog 69 #[.agg #[.int .i64 N, .int .u64 b], .int .i64 i] w fun e w' => e = .returned (.int .i64 (T.vchk N b i)) ∧ Below w.heap.size w w' := by
  obtain ⟨W0, HW0⟩ : ∃ W0, (w.alloc (.cells #[.int .i64 N, .int .u64 b] 24)) = W0 := ⟨_, rfl⟩
  have sW0 : W0.heap.size = w.heap.size + 1 := by rw [← HW0]; simp only [World.size_alloc]
  have W0b0 : Blk W0 (w.heap.size) #[.int .i64 N, .int .u64 b] 24 := by
    rw [← HW0]; repeat (first | (refine Blk.new' ?_; first | rfl | (simp only [World.size_alloc]; done)) | refine Blk.alloc ?_ _)
  have W0B : Below w.heap.size w W0 := by
    rw [← HW0]
    repeat (first
      | exact Below.refl _ _
      | assumption
      | refine Below.drew ?_
      | refine below_drewN ?_ _
      | refine Below.setCell ?_ (by first | (simp only [World.size_alloc, sz_setCell, sz_drew, sz_drewN, sz_putObj] at *; omega) | omega | (simp; omega) | simp) _
      | refine Below.alloc ?_ (by first | (simp only [World.size_alloc, sz_setCell, sz_drew, sz_drewN, sz_putObj] at *; omega) | omega | (simp; omega) | simp) _
      | refine Below.trans ?_ (Below.mono (by assumption) (by first | (simp only [World.size_alloc, sz_setCell, sz_drew, sz_drewN, sz_putObj] at *; omega) | omega | (simp; omega) | simp)))
  replace HW0 := Lib.hid HW0
  have hC := rCheck_any N b hb W0
  rcases T.chk_cases N b with ⟨hR, h0⟩ | ⟨hR, h0 | h0⟩
  · rw [h0] at hC
    by_cases hi : 0 ≤ i ∧ i < N
    · have HV : Hid (T.vchk N b i = 0) := by unfold T.vchk; rw [if_pos h0, if_pos hi]; rfl
      have h1 : ¬ i < 0 := by omega
      have h2 : ¬ N ≤ i := by omega
      clear h0 hR hi
      go_enter Tryd.func69, Tryd.ntmps69
      go_wp2_with (first | (go_at_call 24; rw [HW0.out]; refine (hC).mono ?_; rintro e w' ⟨rfl, hb⟩; have hz := hb.size; have dl0 := (W0b0.ext hb).lt; have d0 := (W0b0.ext hb).cell 0; have df0 := (W0b0.ext hb).frozen 0; have d1 := (W0b0.ext hb).cell 1; have df1 := (W0b0.ext hb).frozen 1; simp only [List.getElem?_toArray, List.getElem?_cons_zero, List.getElem?_cons_succ] at d0 d1))
      go_ret
      refine ⟨ret_u HV.out.symm, ?_⟩
      repeat (first
        | exact Below.refl _ _
        | assumption
        | refine Below.drew ?_
        | refine below_drewN ?_ _
        | refine Below.setCell ?_ (by first | (simp only [World.size_alloc, sz_setCell, sz_drew, sz_drewN, sz_putObj] at *; omega) | omega | (simp; omega) | simp) _
        | refine Below.alloc ?_ (by first | (simp only [World.size_alloc, sz_setCell, sz_drew, sz_drewN, sz_putObj] at *; omega) | omega | (simp; omega) | simp) _
        | refine Below.trans ?_ (Below.mono (by assumption) (by first | (simp only [World.size_alloc, sz_setCell, sz_drew, sz_drewN, sz_putObj] at *; omega) | omega | (simp; omega) | simp)))
    · have HV : Hid (T.vchk N b i = 2) := by unfold T.vchk; rw [if_pos h0, if_neg hi]; rfl
      clear h0 hR
      by_cases h1 : i < 0
      · go_enter Tryd.func69, Tryd.ntmps69
        go_wp2_with (first | (go_at_call 24; rw [HW0.out]; refine (hC).mono ?_; rintro e w' ⟨rfl, hb⟩; have hz := hb.size; have dl0 := (W0b0.ext hb).lt; have d0 := (W0b0.ext hb).cell 0; have df0 := (W0b0.ext hb).frozen 0; have d1 := (W0b0.ext hb).cell 1; have df1 := (W0b0.ext hb).frozen 1; simp only [List.getElem?_toArray, List.getElem?_cons_zero, List.getElem?_cons_succ] at d0 d1))
        go_ret
        refine ⟨ret_u HV.out.symm, ?_⟩
        repeat (first
          | exact Below.refl _ _
          | assumption
          | refine Below.drew ?_
          | refine below_drewN ?_ _
          | refine Below.setCell ?_ (by first | (simp only [World.size_alloc, sz_setCell, sz_drew, sz_drewN, sz_putObj] at *; omega) | omega | (simp; omega) | simp) _
          | refine Below.alloc ?_ (by first | (simp only [World.size_alloc, sz_setCell, sz_drew, sz_drewN, sz_putObj] at *; omega) | omega | (simp; omega) | simp) _
          | refine Below.trans ?_ (Below.mono (by assumption) (by first | (simp only [World.size_alloc, sz_setCell, sz_drew, sz_drewN, sz_putObj] at *; omega) | omega | (simp; omega) | simp)))
      · have h2 : N ≤ i := by omega
        clear hi
        go_enter Tryd.func69, Tryd.ntmps69
        go_wp2_with (first | (go_at_call 24; rw [HW0.out]; refine (hC).mono ?_; rintro e w' ⟨rfl, hb⟩; have hz := hb.size; have dl0 := (W0b0.ext hb).lt; have d0 := (W0b0.ext hb).cell 0; have df0 := (W0b0.ext hb).frozen 0; have d1 := (W0b0.ext hb).cell 1; have df1 := (W0b0.ext hb).frozen 1; simp only [List.getElem?_toArray, List.getElem?_cons_zero, List.getElem?_cons_succ] at d0 d1))
        go_ret
        refine ⟨ret_u HV.out.symm, ?_⟩
        repeat (first
          | exact Below.refl _ _
          | assumption
          | refine Below.drew ?_
          | refine below_drewN ?_ _
          | refine Below.setCell ?_ (by first | (simp only [World.size_alloc, sz_setCell, sz_drew, sz_drewN, sz_putObj] at *; omega) | omega | (simp; omega) | simp) _
          | refine Below.alloc ?_ (by first | (simp only [World.size_alloc, sz_setCell, sz_drew, sz_drewN, sz_putObj] at *; omega) | omega | (simp; omega) | simp) _
          | refine Below.trans ?_ (Below.mono (by assumption) (by first | (simp only [World.size_alloc, sz_setCell, sz_drew, sz_drewN, sz_putObj] at *; omega) | omega | (simp; omega) | simp)))
  all_goals
    rw [h0] at hC
    have HV : Hid (T.vchk N b i = T.chk N b) := by unfold T.vchk; rw [if_neg (by omega)]; rfl
    replace h0 := Lib.hid h0
    clear hR
    go_enter Tryd.func69, Tryd.ntmps69
    go_wp2_with (first | (go_at_call 24; rw [HW0.out]; refine (hC).mono ?_; rintro e w' ⟨rfl, hb⟩; have hz := hb.size; have dl0 := (W0b0.ext hb).lt; have d0 := (W0b0.ext hb).cell 0; have df0 := (W0b0.ext hb).frozen 0; have d1 := (W0b0.ext hb).cell 1; have df1 := (W0b0.ext hb).frozen 1; simp only [List.getElem?_toArray, List.getElem?_cons_zero, List.getElem?_cons_succ] at d0 d1))
    go_ret
    refine ⟨ret_u (by rw [HV.out, h0.out]), ?_⟩
    repeat (first
      | exact Below.refl _ _
      | assumption
      | refine Below.drew ?_
      | refine below_drewN ?_ _
      | refine Below.setCell ?_ (by first | (simp only [World.size_alloc, sz_setCell, sz_drew, sz_drewN, sz_putObj] at *; omega) | omega | (simp; omega) | simp) _
      | refine Below.alloc ?_ (by first | (simp only [World.size_alloc, sz_setCell, sz_drew, sz_drewN, sz_putObj] at *; omega) | omega | (simp; omega) | simp) _
      | refine Below.trans ?_ (Below.mono (by assumption) (by first | (simp only [World.size_alloc, sz_setCell, sz_drew, sz_drewN, sz_putObj] at *; omega) | omega | (simp; omega) | simp)))

set_option maxHeartbeats 400000 in
theorem rCofactor_any (N i : Int) (b : Nat) (v : Bool) (hb : b < 2 ^ 64) (w : World) :
    Calls Tryd.prog 29 #[.agg #[.int .i64 N, .int .u64 b], .int .i64 i, .bool v] w fun e w' => e = .returned (tabE (T.cofS N b i v)) ∧ Below w.heap.size w w' := by
  obtain ⟨W0, HW0⟩ : ∃ W0, ((w.alloc (.cells #[.int .i64 N, .int .u64 b] 24)).alloc (.cells #[.int .i64 0, .int .u64 0] 24)) = W0 := ⟨_, rfl⟩
  have sW0 : W0.heap.size = w.heap.size + 2 := by rw [← HW0]; simp only [World.size_alloc]
  have W0b0 : Blk W0 (w.heap.size) #[.int .i64 N, .int .u64 b] 24 := by
    rw [← HW0]; repeat (first | (refine Blk.new' ?_; first | rfl | (simp only [World.size_alloc]; done)) | refine Blk.alloc ?_ _)
  have W0b1 : Blk W0 (w.heap.size + 1) #[.int .i64 0, .int .u64 0] 24 := by
    rw [← HW0]; repeat (first | (refine Blk.new' ?_; first | rfl | (simp only [World.size_alloc]; done)) | refine Blk.alloc ?_ _)
  have W0B : Below w.heap.size w W0 := by
    rw [← HW0]
    repeat (first
      | exact Below.refl _ _
      | assumption
      | refine Below.drew ?_
      | refine below_drewN ?_ _
      | refine Below.setCell ?_ (by first | (simp only [World.size_alloc, sz_setCell, sz_drew, sz_drewN, sz_putObj] at *; omega) | omega | (simp; omega) | simp) _
      | refine Below.alloc ?_ (by first | (simp only [World.size_alloc, sz_setCell, sz_drew, sz_drewN, sz_putObj] at *; omega) | omega | (simp; omega) | simp) _
      | refine Below.trans ?_ (Below.mono (by assumption) (by first | (simp only [World.size_alloc, sz_setCell, sz_drew, sz_drewN, sz_putObj] at *; omega) | omega | (simp; omega) | simp)))
  replace HW0 := Lib.hid HW0
  have hC := rVari_any N i b hb W0
  rcases vchk_cases N i b with ⟨hR, hi1, hi2, h0⟩ | h0 | h0
  · rw [h0] at hC
    obtain ⟨n, rfl⟩ := Int.eq_ofNat_of_zero_le hR.1
    obtain ⟨j, rfl⟩ := Int.eq_ofNat_of_zero_le hi1
    have hn : n ≤ 6 := by have := hR.2.1; omega
    have hj : j < 6 := by omega
    have HC : Hid (T.cofS n b j v = ((n : Int), T.fixB b j v (M.sz n), 0)) := by unfold T.cofS; rw [if_pos h0]; rfl
    clear h0 hR hi1 hi2
    go_enter Tryd.func29, Tryd.ntmps29
    go_wp2_with (first | (go_at_call 69; rw [HW0.out]; refine (hC).mono ?_; rintro e w' ⟨rfl, hb⟩; have hz := hb.size; have dl0 := (W0b0.ext hb).lt; have d0 := (W0b0.ext hb).cell 0; have df0 := (W0b0.ext hb).frozen 0; have d1 := (W0b0.ext hb).cell 1; have df1 := (W0b0.ext hb).frozen 1; have dl2 := (W0b1.ext hb).lt; have d2 := (W0b1.ext hb).cell 0; have df2 := (W0b1.ext hb).frozen 0; have d3 := (W0b1.ext hb).cell 1; have df3 := (W0b1.ext hb).frozen 1; simp only [List.getElem?_toArray, List.getElem?_cons_zero, List.getElem?_cons_succ] at d0 d1 d2 d3) | (go_at_call 70; refine (rFixed_any n b j v hn (by assumption) hj _).mono ?_; rintro e w2 ⟨rfl, hb2⟩; have hz2 := hb2.size; have d2l0 := ((W0b1.ext hb).ext hb2).lt; have d20 := ((W0b1.ext hb).ext hb2).cell 0; have d2f0 := ((W0b1.ext hb).ext hb2).frozen 0; have d21 := ((W0b1.ext hb).ext hb2).cell 1; have d2f1 := ((W0b1.ext hb).ext hb2).frozen 1; simp only [List.getElem?_toArray, List.getElem?_cons_zero, List.getElem?_cons_succ] at d20 d21))
    generalize hW3 : World.setCell (World.setCell _ _ _) _ _ = W3
    have r1 : Blk W3 (w.heap.size + 1) #[.int .i64 (n), .int .u64 (T.fixB b j v (M.sz n))] 24 := by
      rw [← hW3]; exact (((W0b1.ext hb).ext hb2).set 0 _).set 1 _
    have r2 := r1.cell 0
    have r3 := r1.cell 1
    refine bodyPost_ret (v := tabE (T.cofS n b j v)) ?_ rfl ⟨rfl, ?_⟩
    · rw [HC.out]; simp [results, Tryd.results29, go_sem, r2, r3]
    · rw [← hW3]
      repeat (first
        | exact Below.refl _ _
        | assumption
        | refine Below.drew ?_
        | refine below_drewN ?_ _
        | refine Below.setCell ?_ (by first | (simp only [World.size_alloc, sz_setCell, sz_drew, sz_drewN, sz_putObj] at *; omega) | omega | (simp; omega) | simp) _
        | refine Below.alloc ?_ (by first | (simp only [World.size_alloc, sz_setCell, sz_drew, sz_drewN, sz_putObj] at *; omega) | omega | (simp; omega) | simp) _
        | refine Below.trans ?_ (Below.mono (by assumption) (by first | (simp only [World.size_alloc, sz_setCell, sz_drew, sz_drewN, sz_putObj] at *; omega) | omega | (simp; omega) | simp)))
  all_goals
    rw [h0] at hC
    have HC : Hid (T.cofS N b i v = (0, 0, T.vchk N b i)) := by unfold T.cofS; rw [if_neg (by omega)]; rfl
    rw [h0] at HC
    clear h0
    go_enter Tryd.func29, Tryd.ntmps29
    go_wp2_with (first | (go_at_call 69; rw [HW0.out]; refine (hC).mono ?_; rintro e w' ⟨rfl, hb⟩; have hz := hb.size; have dl0 := (W0b0.ext hb).lt; have d0 := (W0b0.ext hb).cell 0; have df0 := (W0b0.ext hb).frozen 0; have d1 := (W0b0.ext hb).cell 1; have df1 := (W0b0.ext hb).frozen 1; have dl2 := (W0b1.ext hb).lt; have d2 := (W0b1.ext hb).cell 0; have df2 := (W0b1.ext hb).frozen 0; have d3 := (W0b1.ext hb).cell 1; have df3 := (W0b1.ext hb).frozen 1; simp only [List.getElem?_toArray, List.getElem?_cons_zero, List.getElem?_cons_succ] at d0 d1 d2 d3))
    generalize hW3 : World.setCell (World.setCell _ _ _) _ _ = W3
    have r1 : Blk W3 (w.heap.size + 1) #[.int .i64 (0), .int .u64 ((0 : Nat))] 24 := by
      rw [← hW3]; exact ((W0b1.ext hb).set 0 _).set 1 _
    have r2 := r1.cell 0
    have r3 := r1.cell 1
    refine bodyPost_ret (v := tabE (T.cofS N b i v)) ?_ rfl ⟨rfl, ?_⟩
    · rw [HC.out]; simp [results, Tryd.results29, go_sem, r2, r3]
    · rw [← hW3]
      repeat (first
        | exact Below.refl _ _
        | assumption
        | refine Below.drew ?_
        | refine below_drewN ?_ _
        | refine Below.setCell ?_ (by first | (simp only [World.size_alloc, sz_setCell, sz_drew, sz_drewN, sz_putObj] at *; omega) | omega | (simp; omega) | simp) _
        | refine Below.alloc ?_ (by first | (simp only [World.size_alloc, sz_setCell, sz_drew, sz_drewN, sz_putObj] at *; omega) | omega | (simp; omega) | simp) _
        | refine Below.trans ?_ (Below.mono (by assumption) (by first | (simp only [World.size_alloc, sz_setCell, sz_drew, sz_drewN, sz_putObj] at *; omega) | omega | (simp; omega) | simp)))

set_option maxHeartbeats 400000 in
theorem rVar_any (N i : Int) (w : World) :
    Calls Tryd.prog 40 #[.int .i64 N, .int .i64 i] w fun e w' => e = .returned (tabE (T.varS N i)) ∧ Below w.heap.size w w' := by
  obtain ⟨W0, HW0⟩ : ∃ W0, (w.alloc (.cells #[.int .i64 0, .int .u64 0] 24)) = W0 := ⟨_, rfl⟩
  have sW0 : W0.heap.size = w.heap.size + 1 := by rw [← HW0]; simp only [World.size_alloc]
  have W0b0 : Blk W0 (w.heap.size) #[.int .i64 0, .int .u64 0] 24 := by
    rw [← HW0]; repeat (first | (refine Blk.new' ?_; first | rfl | (simp only [World.size_alloc]; done)) | refine Blk.alloc ?_ _)
  have W0B : Below w.heap.size w W0 := by
    rw [← HW0]
    repeat (first
      | exact Below.refl _ _
      | assumption
      | refine Below.drew ?_
      | refine below_drewN ?_ _
      | refine Below.setCell ?_ (by first | (simp only [World.size_alloc, sz_setCell, sz_drew, sz_drewN, sz_putObj] at *; omega) | omega | (simp; omega) | simp) _
      | refine Below.alloc ?_ (by first | (simp only [World.size_alloc, sz_setCell, sz_drew, sz_drewN, sz_putObj] at *; omega) | omega | (simp; omega) | simp) _
      | refine Below.trans ?_ (Below.mono (by assumption) (by first | (simp only [World.size_alloc, sz_setCell, sz_drew, sz_drewN, sz_putObj] at *; omega) | omega | (simp; omega) | simp)))
  replace HW0 := Lib.hid HW0
  by_cases h : 0 ≤ N ∧ N ≤ 6 ∧ 0 ≤ i ∧ i < N
  · obtain ⟨n, rfl⟩ := Int.eq_ofNat_of_zero_le h.1
    obtain ⟨j, rfl⟩ := Int.eq_ofNat_of_zero_le h.2.2.1
    have h2 : n ≤ 6 := by omega
    have hj : j < 6 := by omega
    have HC : Hid (T.varS n j = ((n : Int), M.mkB (fun k => k.testBit j) (M.sz n), 0)) := by unfold T.varS; rw [if_pos h]; rfl
    have h1 : ¬ ((j : Int) < 0) := by omega
    have h1' : ¬ ((n : Int) ≤ (j : Int)) := by omega
    have h3 : ¬ ((n : Int) < 0) := by omega
    have h4 : ¬ (6 < (n : Int)) := by omega
    clear h
    go_enter Tryd.func40, Tryd.ntmps40
    go_wp2_with (first | (go_at_call 77; rw [HW0.out]; refine (rVariable_any n j h2 hj W0).mono ?_; rintro e w' ⟨rfl, hb⟩; have hz := hb.size; have dl0 := (W0b0.ext hb).lt; have d0 := (W0b0.ext hb).cell 0; have df0 := (W0b0.ext hb).frozen 0; have d1 := (W0b0.ext hb).cell 1; have df1 := (W0b0.ext hb).frozen 1; simp only [List.getElem?_toArray, List.getElem?_cons_zero, List.getElem?_cons_succ] at d0 d1))
    generalize hW3 : World.setCell (World.setCell _ _ _) _ _ = W3
    have r1 : Blk W3 (w.heap.size) #[.int .i64 (n), .int .u64 (M.mkB (fun k => k.testBit j) (M.sz n))] 24 := by
      rw [← hW3]; exact ((W0b0.ext hb).set 0 _).set 1 _
    have r2 := r1.cell 0
    have r3 := r1.cell 1
    refine bodyPost_ret (v := tabE (T.varS n j)) ?_ rfl ⟨rfl, ?_⟩
    · rw [HC.out]; simp [results, Tryd.results40, go_sem, r2, r3]
    · rw [← hW3]
      repeat (first
        | exact Below.refl _ _
        | assumption
        | refine Below.drew ?_
        | refine below_drewN ?_ _
        | refine Below.setCell ?_ (by first | (simp only [World.size_alloc, sz_setCell, sz_drew, sz_drewN, sz_putObj] at *; omega) | omega | (simp; omega) | simp) _
        | refine Below.alloc ?_ (by first | (simp only [World.size_alloc, sz_setCell, sz_drew, sz_drewN, sz_putObj] at *; omega) | omega | (simp; omega) | simp) _
        | refine Below.trans ?_ (Below.mono (by assumption) (by first | (simp only [World.size_alloc, sz_setCell, sz_drew, sz_drewN, sz_putObj] at *; omega) | omega | (simp; omega) | simp)))
  · have HC : Hid (T.varS N i = (0, 0, 2)) := by unfold T.varS; rw [if_neg (by omega)]; rfl
    have hsplit : N < 0 ∨ (¬ N < 0 ∧ 6 < N) ∨ (¬ N < 0 ∧ ¬ 6 < N ∧ i < 0) ∨ (¬ N < 0 ∧ ¬ 6 < N ∧ ¬ i < 0 ∧ N ≤ i) := by omega
    clear h
    rcases hsplit with h0 | ⟨h0, h1⟩ | ⟨h0, h1, h2⟩ | ⟨h0, h1, h2, h3⟩
    all_goals
      go_enter Tryd.func40, Tryd.ntmps40
      go_wp2_with (fail)
      refine bodyPost_ret (v := tabE (T.varS N i)) ?_ rfl ⟨rfl, ?_⟩
      · rw [HC.out]; simp [results, Tryd.results40, go_sem]
      · skip
        repeat (first
          | exact Below.refl _ _
          | assumption
          | refine Below.drew ?_
          | refine below_drewN ?_ _
          | refine Below.setCell ?_ (by first | (simp only [World.size_alloc, sz_setCell, sz_drew, sz_drewN, sz_putObj] at *; omega) | omega | (simp; omega) | simp) _
          | refine Below.alloc ?_ (by first | (simp only [World.size_alloc, sz_setCell, sz_drew, sz_drewN, sz_putObj] at *; omega) | omega | (simp; omega) | simp) _
          | refine Below.trans ?_ (Below.mono (by assumption) (by first | (simp only [World.size_alloc, sz_setCell, sz_drew, sz_drewN, sz_putObj] at *; omega) | omega | (simp; omega) | simp)))

set_option maxHeartbeats 400000 in
theorem rValue_any (N p : Int) (b : Nat) (hb : b < 2 ^ 64) (w : World) :
    Calls Tryd.prog 42 #[.agg #[.int .i64 N, .int .u64 b], .int .i64 p] w fun e w' => e = .returned (boolE (T.valueS N b p)) ∧ Below w.heap.size w w' := by
  obtain ⟨W0, HW0⟩ : ∃ W0, (w.alloc (.cells #[.int .i64 N, .int .u64 b] 24)) = W0 := ⟨_, rfl⟩
  have sW0 : W0.heap.size = w.heap.size + 1 := by rw [← HW0]; simp only [World.size_alloc]
  have W0b0 : Blk W0 (w.heap.size) #[.int .i64 N, .int .u64 b] 24 := by
    rw [← HW0]; repeat (first | (refine Blk.new' ?_; first | rfl | (simp only [World.size_alloc]; done)) | refine Blk.alloc ?_ _)
  have W0B : Below w.heap.size w W0 := by
    rw [← HW0]
    repeat (first
      | exact Below.refl _ _
      | assumption
      | refine Below.drew ?_
      | refine below_drewN ?_ _
      | refine Below.setCell ?_ (by first | (simp only [World.size_alloc, sz_setCell, sz_drew, sz_drewN, sz_putObj] at *; omega) | omega | (simp; omega) | simp) _
      | refine Below.alloc ?_ (by first | (simp only [World.size_alloc, sz_setCell, sz_drew, sz_drewN, sz_putObj] at *; omega) | omega | (simp; omega) | simp) _
      | refine Below.trans ?_ (Below.mono (by assumption) (by first | (simp only [World.size_alloc, sz_setCell, sz_drew, sz_drewN, sz_putObj] at *; omega) | omega | (simp; omega) | simp)))
  replace HW0 := Lib.hid HW0
  have hC := rCheck_any N b hb W0
  rcases T.chk_cases N b with ⟨hR, h0⟩ | ⟨hR, h0 | h0⟩
  · rw [h0] at hC
    obtain ⟨n, rfl⟩ := Int.eq_ofNat_of_zero_le hR.1
    have hn : n ≤ 6 := by have := hR.2.1; omega
    have h64 := M.sz_le hn
    by_cases hi : 0 ≤ p ∧ p < M.sz n
    · obtain ⟨k, rfl⟩ := Int.eq_ofNat_of_zero_le hi.1
      have HC : Hid (T.valueS n b k = (b.testBit k, 0)) := by unfold T.valueS; rw [if_pos h0]; exact if_pos hi
      have hk : k < 64 := by omega
      have h1 : ¬ (k : Int) < 0 := by omega
      have h2 : ¬ (M.sz n : Int) ≤ k := by omega
      clear h0 hR hi
      go_enter Tryd.func42, Tryd.ntmps42
      go_wp2_with (first | (go_at_call 24; rw [HW0.out]; refine (hC).mono ?_; rintro e w' ⟨rfl, hb⟩; have hz := hb.size; have dl0 := (W0b0.ext hb).lt; have d0 := (W0b0.ext hb).cell 0; have df0 := (W0b0.ext hb).frozen 0; have d1 := (W0b0.ext hb).cell 1; have df1 := (W0b0.ext hb).frozen 1; simp only [List.getElem?_toArray, List.getElem?_cons_zero, List.getElem?_cons_succ] at d0 d1) | (go_at_call 46; refine (rSize_any n _ hn).mono ?_; rintro e w' ⟨rfl, hw'⟩; obtain rfl := hw'.symm) | (go_at_call 63; refine (rAt_any n b k (by assumption) hk _).mono ?_; rintro e w2 ⟨rfl, hb2⟩; have hz2 := hb2.size; have d2l0 := ((W0b0.ext hb).ext hb2).lt; have d20 := ((W0b0.ext hb).ext hb2).cell 0; have d2f0 := ((W0b0.ext hb).ext hb2).frozen 0; simp only [List.getElem?_toArray, List.getElem?_cons_zero, List.getElem?_cons_succ] at d20))
      go_ret2
      refine ⟨ret_e (by rw [HC.out]; rfl), ?_⟩
      repeat (first
        | exact Below.refl _ _
        | assumption
        | refine Below.drew ?_
        | refine below_drewN ?_ _
        | refine Below.setCell ?_ (by first | (simp only [World.size_alloc, sz_setCell, sz_drew, sz_drewN, sz_putObj] at *; omega) | omega | (simp; omega) | simp) _
        | refine Below.alloc ?_ (by first | (simp only [World.size_alloc, sz_setCell, sz_drew, sz_drewN, sz_putObj] at *; omega) | omega | (simp; omega) | simp) _
        | refine Below.trans ?_ (Below.mono (by assumption) (by first | (simp only [World.size_alloc, sz_setCell, sz_drew, sz_drewN, sz_putObj] at *; omega) | omega | (simp; omega) | simp)))
    · have HC : Hid (T.valueS n b p = (false, 2)) := by unfold T.valueS; rw [if_pos h0]; exact if_neg hi
      clear h0 hR
      by_cases h1 : p < 0
      · clear hi
        go_enter Tryd.func42, Tryd.ntmps42
        go_wp2_with (first | (go_at_call 24; rw [HW0.out]; refine (hC).mono ?_; rintro e w' ⟨rfl, hb⟩; have hz := hb.size; have dl0 := (W0b0.ext hb).lt; have d0 := (W0b0.ext hb).cell 0; have df0 := (W0b0.ext hb).frozen 0; have d1 := (W0b0.ext hb).cell 1; have df1 := (W0b0.ext hb).frozen 1; simp only [List.getElem?_toArray, List.getElem?_cons_zero, List.getElem?_cons_succ] at d0 d1))
        go_ret2
        refine ⟨ret_e (by rw [HC.out]; rfl), ?_⟩
        repeat (first
          | exact Below.refl _ _
          | assumption
          | refine Below.drew ?_
          | refine below_drewN ?_ _
          | refine Below.setCell ?_ (by first | (simp only [World.size_alloc, sz_setCell, sz_drew, sz_drewN, sz_putObj] at *; omega) | omega | (simp; omega) | simp) _
          | refine Below.alloc ?_ (by first | (simp only [World.size_alloc, sz_setCell, sz_drew, sz_drewN, sz_putObj] at *; omega) | omega | (simp; omega) | simp) _
          | refine Below.trans ?_ (Below.mono (by assumption) (by first | (simp only [World.size_alloc, sz_setCell, sz_drew, sz_drewN, sz_putObj] at *; omega) | omega | (simp; omega) | simp)))
      · have h2 : (M.sz n : Int) ≤ p := by omega
        clear hi
        go_enter Tryd.func42, Tryd.ntmps42
        go_wp2_with (first | (go_at_call 24; rw [HW0.out]; refine (hC).mono ?_; rintro e w' ⟨rfl, hb⟩; have hz := hb.size; have dl0 := (W0b0.ext hb).lt; have d0 := (W0b0.ext hb).cell 0; have df0 := (W0b0.ext hb).frozen 0; have d1 := (W0b0.ext hb).cell 1; have df1 := (W0b0.ext hb).frozen 1; simp only [List.getElem?_toArray, List.getElem?_cons_zero, List.getElem?_cons_succ] at d0 d1) | (go_at_call 46; refine (rSize_any n _ hn).mono ?_; rintro e w' ⟨rfl, hw'⟩; obtain rfl := hw'.symm))
        go_ret2
        refine ⟨ret_e (by rw [HC.out]; rfl), ?_⟩
        repeat (first
          | exact Below.refl _ _
          | assumption
          | refine Below.drew ?_
          | refine below_drewN ?_ _
          | refine Below.setCell ?_ (by first | (simp only [World.size_alloc, sz_setCell, sz_drew, sz_drewN, sz_putObj] at *; omega) | omega | (simp; omega) | simp) _
          | refine Below.alloc ?_ (by first | (simp only [World.size_alloc, sz_setCell, sz_drew, sz_drewN, sz_putObj] at *; omega) | omega | (simp; omega) | simp) _
          | refine Below.trans ?_ (Below.mono (by assumption) (by first | (simp only [World.size_alloc, sz_setCell, sz_drew, sz_drewN, sz_putObj] at *; omega) | omega | (simp; omega) | simp)))
  all_goals
    rw [h0] at hC
    have HC : Hid (T.valueS N b p = (false, T.chk N b)) := by unfold T.valueS; rw [if_neg (by omega)]; rfl
    rw [h0] at HC
    clear h0 hR
    go_enter Tryd.func42, Tryd.ntmps42
    go_wp2_with (first | (go_at_call 24; rw [HW0.out]; refine (hC).mono ?_; rintro e w' ⟨rfl, hb⟩; have hz := hb.size; have dl0 := (W0b0.ext hb).lt; have d0 := (W0b0.ext hb).cell 0; have df0 := (W0b0.ext hb).frozen 0; have d1 := (W0b0.ext hb).cell 1; have df1 := (W0b0.ext hb).frozen 1; simp only [List.getElem?_toArray, List.getElem?_cons_zero, List.getElem?_cons_succ] at d0 d1))
    go_ret2
    refine ⟨ret_e (by rw [HC.out]; rfl), ?_⟩
    repeat (first
      | exact Below.refl _ _
      | assumption
      | refine Below.drew ?_
      | refine below_drewN ?_ _
      | refine Below.setCell ?_ (by first | (simp only [World.size_alloc, sz_setCell, sz_drew, sz_drewN, sz_putObj] at *; omega) | omega | (simp; omega) | simp) _
      | refine Below.alloc ?_ (by first | (simp only [World.size_alloc, sz_setCell, sz_drew, sz_drewN, sz_putObj] at *; omega) | omega | (simp; omega) | simp) _
      | refine Below.trans ?_ (Below.mono (by assumption) (by first | (simp only [World.size_alloc, sz_setCell, sz_drew, sz_drewN, sz_putObj] at *; omega) | omega | (simp; omega) | simp)))

end Go.Proofs.YtdkhdkldjpaadaaDoor
