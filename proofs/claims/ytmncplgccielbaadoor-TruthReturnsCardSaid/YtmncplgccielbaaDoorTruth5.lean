/- Contracts of package truth: fixed, variable, Cofactor, Value, Not. -/
import Derived.Test.YtmncplgccielbaaDoorTruth4
set_option maxHeartbeats 1000000
set_option maxRecDepth 4000
set_option linter.unusedSimpArgs false
set_option linter.unusedVariables false
set_option linter.unusedSectionVars false
namespace Go.Proofs.YtmncplgccielbaaDoor
open Go.RowKit Go.Shelf

theorem sz_nat (n : Nat) : M.sz (Int.toNat n) = M.sz n := rfl

set_option maxHeartbeats 400000 in
theorem tFixed_any (n b i : Nat) (v : Bool) (hn : n ≤ 6) (hb : b < 2 ^ 64) (hi : i < n) (w : World) :
    Calls Tryd.prog 32 #[.agg #[.int .i64 n, .int .u64 b], .int .i64 i, .bool v] w fun e w' => e = .returned (.agg #[.int .i64 n, .int .u64 (T.fixB b i v (M.sz n))]) ∧ Below w.heap.size w w' := by
  have h64 := M.sz_le hn
  obtain ⟨W0, HW0⟩ : ∃ W0, ((((w.alloc (.cells #[.int .i64 n, .int .u64 b] 24)).alloc (.cells #[.int .i64 i] 3)).alloc (.cells #[.bool v] 4)).alloc (.cells #[.int .i64 0, .int .u64 0] 24)) = W0 := ⟨_, rfl⟩
  have sW0 : W0.heap.size = w.heap.size + 4 := by rw [← HW0]; simp only [World.size_alloc]
  have W0b0 : Blk W0 (w.heap.size) #[.int .i64 n, .int .u64 b] 24 := by
    rw [← HW0]; repeat (first | (refine Blk.new' ?_; first | rfl | (simp only [World.size_alloc]; done)) | refine Blk.alloc ?_ _)
  have W0b1 : Blk W0 (w.heap.size + 1) #[.int .i64 i] 3 := by
    rw [← HW0]; repeat (first | (refine Blk.new' ?_; first | rfl | (simp only [World.size_alloc]; done)) | refine Blk.alloc ?_ _)
  have W0b2 : Blk W0 (w.heap.size + 1 + 1) #[.bool v] 4 := by
    rw [← HW0]; repeat (first | (refine Blk.new' ?_; first | rfl | (simp only [World.size_alloc]; done)) | refine Blk.alloc ?_ _)
  have W0b3 : Blk W0 (w.heap.size + 1 + 1 + 1) #[.int .i64 0, .int .u64 0] 24 := by
    rw [← HW0]; repeat (first | (refine Blk.new' ?_; first | rfl | (simp only [World.size_alloc]; done)) | refine Blk.alloc ?_ _)
  have W0B : Below w.heap.size w W0 := by
    rw [← HW0]
    repeat (first
      | exact Below.refl _ _
      | assumption
      | refine Below.drew ?_
      | refine below_drewN ?_ _
      | refine Below.setCell ?_ (by first | (simp only [World.size_alloc, sz_setCell, sz_drew, sz_drewN, sz_putObj] at *; omega) | omega | (simp; omega) | simp) _
      | refine Below.alloc ?_ (by first | (simp only [World.size_alloc, sz_setCell, sz_drew, sz_drewN, sz_putObj] at *; omega) | omega | (simp; omega) | simp) _
      | refine Below.trans ?_ (Below.mono (by assumption) (by first | (simp only [World.size_alloc, sz_setCell, sz_drew, sz_drewN, sz_putObj] at *; omega) | omega | (simp; omega) | simp)))
  replace HW0 := Lib.hid HW0
  have hM := made_any n hn 41 #[.pointer (some ⟨w.heap.size + 1 + 1, 0, none⟩), .pointer (some ⟨w.heap.size, 0, none⟩), .pointer (some ⟨w.heap.size + 1, 0, none⟩)] (fun k => b.testBit (T.setb k i v)) W0 (fun _ _ => Tryd.call41 _ _)
    (fun k W hk hB => tFixed1_any _ _ _ v n b i k hb (by omega) (by omega) W (W0b2.ext (hB.mono (by omega))) (W0b0.below hB (by omega)) (W0b1.below hB (by omega)))
  go_enter Tryd.func32, Tryd.ntmps32
  go_wp2_with (first | (go_at_call 18; rw [HW0.out]; refine (hM).mono ?_; rintro e w' ⟨rfl, hb⟩; have hz := hb.size; have dl0 := (W0b3.ext hb).lt; have d0 := (W0b3.ext hb).cell 0; have df0 := (W0b3.ext hb).frozen 0; have d1 := (W0b3.ext hb).cell 1; have df1 := (W0b3.ext hb).frozen 1; simp only [List.getElem?_toArray, List.getElem?_cons_zero, List.getElem?_cons_succ] at d0 d1))
  generalize hW3 : World.setCell (World.setCell _ _ _) _ _ = W3
  have R1 : Blk W3 (w.heap.size + 1 + 1 + 1) #[.int .i64 n, .int .u64 (T.fixB b i v (M.sz n))] 24 := by
    rw [← hW3]; exact ((W0b3.ext hb).set 0 _).set 1 _
  have rl0 := (R1).lt
  have r0 := (R1).cell 0
  have rf0 := (R1).frozen 0
  have r1 := (R1).cell 1
  have rf1 := (R1).frozen 1
  simp only [List.getElem?_toArray, List.getElem?_cons_zero, List.getElem?_cons_succ] at r0 r1
  refine bodyPost_ret (v := .agg #[.int .i64 n, .int .u64 (T.fixB b i v (M.sz n))]) ?_ rfl ⟨rfl, ?_⟩
  · simp [results, Tryd.results32, go_sem, r0, r1]
  · rw [← hW3]
    repeat (first
      | exact Below.refl _ _
      | assumption
      | refine Below.drew ?_
      | refine below_drewN ?_ _
      | refine Below.setCell ?_ (by first | (simp only [World.size_alloc, sz_setCell, sz_drew, sz_drewN, sz_putObj] at *; omega) | omega | (simp; omega) | simp) _
      | refine Below.alloc ?_ (by first | (simp only [World.size_alloc, sz_setCell, sz_drew, sz_drewN, sz_putObj] at *; omega) | omega | (simp; omega) | simp) _
      | refine Below.trans ?_ (Below.mono (by assumption) (by first | (simp only [World.size_alloc, sz_setCell, sz_drew, sz_drewN, sz_putObj] at *; omega) | omega | (simp; omega) | simp)))

theorem tVariable_any (N i : Int) (b : Nat) (hb : b < 2 ^ 64) (w : World) :
    Calls Tryd.prog 31 #[.agg #[.int .i64 N, .int .u64 b], .int .i64 i] w fun e w' => e = .returned (.int .i64 (T.vchk N b i)) ∧ Below w.heap.size w w' := by
  obtain ⟨W0, HW0⟩ : ∃ W0, (w.alloc (.cells #[.int .i64 N, .int .u64 b] 24)) = W0 := ⟨_, rfl⟩
  have sW0 : W0.heap.size = w.heap.size + 1 := by rw [← HW0]; simp only [World.size_alloc]
  have W0b0 : Blk W0 (w.heap.size) #[.int .i64 N, .int .u64 b] 24 := by
    rw [← HW0]; repeat (first | (refine Blk.new' ?_; first | rfl | (simp only [World.size_alloc]; done)) | refine Blk.alloc ?_ _)
  have W0B : Below w.heap.size w W0 := by
    rw [← HW0]
    repeat (first
      | exact Below.refl _ _
      | assumption
      | refine Below.drew ?_
      | refine below_drewN ?_ _
      | refine Below.setCell ?_ (by first | (simp only [World.size_alloc, sz_setCell, sz_drew, sz_drewN, sz_putObj] at *; omega) | omega | (simp; omega) | simp) _
      | refine Below.alloc ?_ (by first | (simp only [World.size_alloc, sz_setCell, sz_drew, sz_drewN, sz_putObj] at *; omega) | omega | (simp; omega) | simp) _
      | refine Below.trans ?_ (Below.mono (by assumption) (by first | (simp only [World.size_alloc, sz_setCell, sz_drew, sz_drewN, sz_putObj] at *; omega) | omega | (simp; omega) | simp)))
  replace HW0 := Lib.hid HW0
  have hC := tCheck_any N b W0 hb
  rcases T.chk_cases N b with ⟨hR, h0⟩ | ⟨hR, h0 | h0⟩
  · rw [h0] at hC
    by_cases hi : 0 ≤ i ∧ i < N
    · have HV : Hid (T.vchk N b i = 0) := by unfold T.vchk; rw [if_pos h0, if_pos hi]; rfl
      have h1 : ¬ i < 0 := by omega
      have h2 : ¬ N ≤ i := by omega
      clear h0 hR hi
      go_enter Tryd.func31, Tryd.ntmps31
      go_wp2_with (first | (go_at_call 16; rw [HW0.out]; refine (hC).mono ?_; rintro e w' ⟨rfl, hb⟩; have hz := hb.size; have dl0 := (W0b0.ext hb).lt; have d0 := (W0b0.ext hb).cell 0; have df0 := (W0b0.ext hb).frozen 0; have d1 := (W0b0.ext hb).cell 1; have df1 := (W0b0.ext hb).frozen 1; simp only [List.getElem?_toArray, List.getElem?_cons_zero, List.getElem?_cons_succ] at d0 d1))
      go_ret
      refine ⟨ret_u HV.out.symm, ?_⟩
      repeat (first
        | exact Below.refl _ _
        | assumption
        | refine Below.drew ?_
        | refine below_drewN ?_ _
        | refine Below.setCell ?_ (by first | (simp only [World.size_alloc, sz_setCell, sz_drew, sz_drewN, sz_putObj] at *; omega) | omega | (simp; omega) | simp) _
        | refine Below.alloc ?_ (by first | (simp only [World.size_alloc, sz_setCell, sz_drew, sz_drewN, sz_putObj] at *; omega) | omega | (simp; omega) | simp) _
        | refine Below.trans ?_ (Below.mono (by assumption) (by first | (simp only [World.size_alloc, sz_setCell, sz_drew, sz_drewN, sz_putObj] at *; omega) | omega | (simp; omega) | simp)))
    · have HV : Hid (T.vchk N b i = 2) := by unfold T.vchk; rw [if_pos h0, if_neg hi]; rfl
      clear h0 hR
      by_cases h1 : i < 0
      · go_enter Tryd.func31, Tryd.ntmps31
        go_wp2_with (first | (go_at_call 16; rw [HW0.out]; refine (hC).mono ?_; rintro e w' ⟨rfl, hb⟩; have hz := hb.size; have dl0 := (W0b0.ext hb).lt; have d0 := (W0b0.ext hb).cell 0; have df0 := (W0b0.ext hb).frozen 0; have d1 := (W0b0.ext hb).cell 1; have df1 := (W0b0.ext hb).frozen 1; simp only [List.getElem?_toArray, List.getElem?_cons_zero, List.getElem?_cons_succ] at d0 d1))
        go_ret
        refine ⟨ret_u HV.out.symm, ?_⟩
        repeat (first
          | exact Below.refl _ _
          | assumption
          | refine Below.drew ?_
          | refine below_drewN ?_ _
          | refine Below.setCell ?_ (by first | (simp only [World.size_alloc, sz_setCell, sz_drew, sz_drewN, sz_putObj] at *; omega) | omega | (simp; omega) | simp) _
          | refine Below.alloc ?_ (by first | (simp only [World.size_alloc, sz_setCell, sz_drew, sz_drewN, sz_putObj] at *; omega) | omega | (simp; omega) | simp) _
          | refine Below.trans ?_ (Below.mono (by assumption) (by first | (simp only [World.size_alloc, sz_setCell, sz_drew, sz_drewN, sz_putObj] at *; omega) | omega | (simp; omega) | simp)))
      · have h2 : N ≤ i := by omega
        clear hi
        go_enter Tryd.func31, Tryd.ntmps31
        go_wp2_with (first | (go_at_call 16; rw [HW0.out]; refine (hC).mono ?_; rintro e w' ⟨rfl, hb⟩; have hz := hb.size; have dl0 := (W0b0.ext hb).lt; have d0 := (W0b0.ext hb).cell 0; have df0 := (W0b0.ext hb).frozen 0; have d1 := (W0b0.ext hb).cell 1; have df1 := (W0b0.ext hb).frozen 1; simp only [List.getElem?_toArray, List.getElem?_cons_zero, List.getElem?_cons_succ] at d0 d1))
        go_ret
        refine ⟨ret_u HV.out.symm, ?_⟩
        repeat (first
          | exact Below.refl _ _
          | assumption
          | refine Below.drew ?_
          | refine below_drewN ?_ _
          | refine Below.setCell ?_ (by first | (simp only [World.size_alloc, sz_setCell, sz_drew, sz_drewN, sz_putObj] at *; omega) | omega | (simp; omega) | simp) _
          | refine Below.alloc ?_ (by first | (simp only [World.size_alloc, sz_setCell, sz_drew, sz_drewN, sz_putObj] at *; omega) | omega | (simp; omega) | simp) _
          | refine Below.trans ?_ (Below.mono (by assumption) (by first | (simp only [World.size_alloc, sz_setCell, sz_drew, sz_drewN, sz_putObj] at *; omega) | omega | (simp; omega) | simp)))
  all_goals
    rw [h0] at hC
    have HV : Hid (T.vchk N b i = T.chk N b) := by unfold T.vchk; rw [if_neg (by omega)]; rfl
    replace h0 := Lib.hid h0
    clear hR
    go_enter Tryd.func31, Tryd.ntmps31
    go_wp2_with (first | (go_at_call 16; rw [HW0.out]; refine (hC).mono ?_; rintro e w' ⟨rfl, hb⟩; have hz := hb.size; have dl0 := (W0b0.ext hb).lt; have d0 := (W0b0.ext hb).cell 0; have df0 := (W0b0.ext hb).frozen 0; have d1 := (W0b0.ext hb).cell 1; have df1 := (W0b0.ext hb).frozen 1; simp only [List.getElem?_toArray, List.getElem?_cons_zero, List.getElem?_cons_succ] at d0 d1))
    go_ret
    refine ⟨ret_u (by rw [HV.out, h0.out]), ?_⟩
    repeat (first
      | exact Below.refl _ _
      | assumption
      | refine Below.drew ?_
      | refine below_drewN ?_ _
      | refine Below.setCell ?_ (by first | (simp only [World.size_alloc, sz_setCell, sz_drew, sz_drewN, sz_putObj] at *; omega) | omega | (simp; omega) | simp) _
      | refine Below.alloc ?_ (by first | (simp only [World.size_alloc, sz_setCell, sz_drew, sz_drewN, sz_putObj] at *; omega) | omega | (simp; omega) | simp) _
      | refine Below.trans ?_ (Below.mono (by assumption) (by first | (simp only [World.size_alloc, sz_setCell, sz_drew, sz_drewN, sz_putObj] at *; omega) | omega | (simp; omega) | simp)))

theorem vchk_cases (N i : Int) (b : Nat) : (T.Right N b ∧ 0 ≤ i ∧ i < N ∧ T.vchk N b i = 0) ∨ (T.vchk N b i = 2 ∨ T.vchk N b i = 3) := by
  unfold T.vchk
  rcases T.chk_cases N b with ⟨hR, h0⟩ | ⟨hR, h0 | h0⟩
  · rw [if_pos h0]
    by_cases hi : 0 ≤ i ∧ i < N
    · rw [if_pos hi]; exact .inl ⟨hR, hi.1, hi.2, rfl⟩
    · rw [if_neg hi]; exact .inr (.inl rfl)
  · rw [if_neg (by omega), h0]; exact .inr (.inl rfl)
  · rw [if_neg (by omega), h0]; exact .inr (.inr rfl)

set_option maxHeartbeats 400000 in
theorem tCofactor_any (N i : Int) (b : Nat) (v : Bool) (hb : b < 2 ^ 64) (w : World) :
    Calls Tryd.prog 14 #[.agg #[.int .i64 N, .int .u64 b], .int .i64 i, .bool v] w fun e w' => e = .returned (tabE (T.cofS N b i v)) ∧ Below w.heap.size w w' := by
  obtain ⟨W0, HW0⟩ : ∃ W0, ((w.alloc (.cells #[.int .i64 N, .int .u64 b] 24)).alloc (.cells #[.int .i64 0, .int .u64 0] 24)) = W0 := ⟨_, rfl⟩
  have sW0 : W0.heap.size = w.heap.size + 2 := by rw [← HW0]; simp only [World.size_alloc]
  have W0b0 : Blk W0 (w.heap.size) #[.int .i64 N, .int .u64 b] 24 := by
    rw [← HW0]; repeat (first | (refine Blk.new' ?_; first | rfl | (simp only [World.size_alloc]; done)) | refine Blk.alloc ?_ _)
  have W0b1 : Blk W0 (w.heap.size + 1) #[.int .i64 0, .int .u64 0] 24 := by
    rw [← HW0]; repeat (first | (refine Blk.new' ?_; first | rfl | (simp only [World.size_alloc]; done)) | refine Blk.alloc ?_ _)
  have W0B : Below w.heap.size w W0 := by
    rw [← HW0]
    repeat (first
      | exact Below.refl _ _
      | assumption
      | refine Below.drew ?_
      | refine below_drewN ?_ _
      | refine Below.setCell ?_ (by first | (simp only [World.size_alloc, sz_setCell, sz_drew, sz_drewN, sz_putObj] at *; omega) | omega | (simp; omega) | simp) _
      | refine Below.alloc ?_ (by first | (simp only [World.size_alloc, sz_setCell, sz_drew, sz_drewN, sz_putObj] at *; omega) | omega | (simp; omega) | simp) _
      | refine Below.trans ?_ (Below.mono (by assumption) (by first | (simp only [World.size_alloc, sz_setCell, sz_drew, sz_drewN, sz_putObj] at *; omega) | omega | (simp; omega) | simp)))
  replace HW0 := Lib.hid HW0
  have hC := tVariable_any N i b hb W0
  rcases vchk_cases N i b with ⟨hR, hi1, hi2, h0⟩ | h0 | h0
  · rw [h0] at hC
    obtain ⟨n, rfl⟩ := Int.eq_ofNat_of_zero_le hR.1
    obtain ⟨j, rfl⟩ := Int.eq_ofNat_of_zero_le hi1
    have hn : n ≤ 6 := by have := hR.2.1; omega
    have hj : j < n := by omega
    have HC : Hid (T.cofS n b j v = ((n : Int), T.fixB b j v (M.sz n), 0)) := by unfold T.cofS; rw [if_pos h0]; rfl
    clear h0 hR hi1 hi2
    go_enter Tryd.func14, Tryd.ntmps14
    go_wp2_with (first | (go_at_call 31; rw [HW0.out]; refine (hC).mono ?_; rintro e w' ⟨rfl, hb⟩; have hz := hb.size; have dl0 := (W0b0.ext hb).lt; have d0 := (W0b0.ext hb).cell 0; have df0 := (W0b0.ext hb).frozen 0; have d1 := (W0b0.ext hb).cell 1; have df1 := (W0b0.ext hb).frozen 1; have dl2 := (W0b1.ext hb).lt; have d2 := (W0b1.ext hb).cell 0; have df2 := (W0b1.ext hb).frozen 0; have d3 := (W0b1.ext hb).cell 1; have df3 := (W0b1.ext hb).frozen 1; simp only [List.getElem?_toArray, List.getElem?_cons_zero, List.getElem?_cons_succ] at d0 d1 d2 d3) | (go_at_call 32; refine (tFixed_any n b j v hn (by assumption) hj _).mono ?_; rintro e w2 ⟨rfl, hb2⟩; have hz2 := hb2.size; have d2l0 := ((W0b1.ext hb).ext hb2).lt; have d20 := ((W0b1.ext hb).ext hb2).cell 0; have d2f0 := ((W0b1.ext hb).ext hb2).frozen 0; have d21 := ((W0b1.ext hb).ext hb2).cell 1; have d2f1 := ((W0b1.ext hb).ext hb2).frozen 1; simp only [List.getElem?_toArray, List.getElem?_cons_zero, List.getElem?_cons_succ] at d20 d21))
    generalize hW3 : World.setCell (World.setCell _ _ _) _ _ = W3
    have r1 : Blk W3 (w.heap.size + 1) #[.int .i64 (n), .int .u64 (T.fixB b j v (M.sz n))] 24 := by
      rw [← hW3]; exact (((W0b1.ext hb).ext hb2).set 0 _).set 1 _
    have r2 := r1.cell 0
    have r3 := r1.cell 1
    refine bodyPost_ret (v := tabE (T.cofS n b j v)) ?_ rfl ⟨rfl, ?_⟩
    · rw [HC.out]; simp [results, Tryd.results14, go_sem, r2, r3]
    · rw [← hW3]
      repeat (first
        | exact Below.refl _ _
        | assumption
        | refine Below.drew ?_
        | refine below_drewN ?_ _
        | refine Below.setCell ?_ (by first | (simp only [World.size_alloc, sz_setCell, sz_drew, sz_drewN, sz_putObj] at *; omega) | omega | (simp; omega) | simp) _
        | refine Below.alloc ?_ (by first | (simp only [World.size_alloc, sz_setCell, sz_drew, sz_drewN, sz_putObj] at *; omega) | omega | (simp; omega) | simp) _
        | refine Below.trans ?_ (Below.mono (by assumption) (by first | (simp only [World.size_alloc, sz_setCell, sz_drew, sz_drewN, sz_putObj] at *; omega) | omega | (simp; omega) | simp)))
  all_goals
    rw [h0] at hC
    have HC : Hid (T.cofS N b i v = (0, 0, T.vchk N b i)) := by unfold T.cofS; rw [if_neg (by omega)]; rfl
    rw [h0] at HC
    clear h0
    go_enter Tryd.func14, Tryd.ntmps14
    go_wp2_with (first | (go_at_call 31; rw [HW0.out]; refine (hC).mono ?_; rintro e w' ⟨rfl, hb⟩; have hz := hb.size; have dl0 := (W0b0.ext hb).lt; have d0 := (W0b0.ext hb).cell 0; have df0 := (W0b0.ext hb).frozen 0; have d1 := (W0b0.ext hb).cell 1; have df1 := (W0b0.ext hb).frozen 1; have dl2 := (W0b1.ext hb).lt; have d2 := (W0b1.ext hb).cell 0; have df2 := (W0b1.ext hb).frozen 0; have d3 := (W0b1.ext hb).cell 1; have df3 := (W0b1.ext hb).frozen 1; simp only [List.getElem?_toArray, List.getElem?_cons_zero, List.getElem?_cons_succ] at d0 d1 d2 d3))
    generalize hW3 : World.setCell (World.setCell _ _ _) _ _ = W3
    have r1 : Blk W3 (w.heap.size + 1) #[.int .i64 (0), .int .u64 ((0 : Nat))] 24 := by
      rw [← hW3]; exact ((W0b1.ext hb).set 0 _).set 1 _
    have r2 := r1.cell 0
    have r3 := r1.cell 1
    refine bodyPost_ret (v := tabE (T.cofS N b i v)) ?_ rfl ⟨rfl, ?_⟩
    · rw [HC.out]; simp [results, Tryd.results14, go_sem, r2, r3]
    · rw [← hW3]
      repeat (first
        | exact Below.refl _ _
        | assumption
        | refine Below.drew ?_
        | refine below_drewN ?_ _
        | refine Below.setCell ?_ (by first | (simp only [World.size_alloc, sz_setCell, sz_drew, sz_drewN, sz_putObj] at *; omega) | omega | (simp; omega) | simp) _
        | refine Below.alloc ?_ (by first | (simp only [World.size_alloc, sz_setCell, sz_drew, sz_drewN, sz_putObj] at *; omega) | omega | (simp; omega) | simp) _
        | refine Below.trans ?_ (Below.mono (by assumption) (by first | (simp only [World.size_alloc, sz_setCell, sz_drew, sz_drewN, sz_putObj] at *; omega) | omega | (simp; omega) | simp)))

end Go.Proofs.YtmncplgccielbaaDoor
