/- Contracts of the reference of layer 4: Const, Points, Depends, Unate. -/
import Derived.Test.YtamnabekjkgdkaaDoorRef046
namespace Go.Proofs.YtamnabekjkgdkaaDoor
set_option linter.unusedSimpArgs false
set_option linter.unusedVariables false
open Go.RowKit Go.Shelf

theorem mkB_true_succ (k : Nat) : M.mkB (fun _ => true) (k + 1) = M.mkB (fun _ => true) k ||| 2 ^ k := M.mkB_succ_t rfl

set_option maxRecDepth 100000 in
set_option maxHeartbeats 1000000 in
theorem rConst_any (N : Int) (v : Bool) (w : World) :
    Calls Tryd.prog 39 #[.int .i64 N, .bool v] w fun e w' => e = .returned (tabE (T.constS N v)) ∧ Below w.heap.size w w' := by
  by_cases h : 0 ≤ N ∧ N ≤ 6
  · obtain ⟨n, rfl⟩ := Int.eq_ofNat_of_zero_le h.1
    have hn : n ≤ 6 := by omega
    have h64 := M.sz_le hn
    have HC : Hid (T.constS n v = ((n : Int), M.mkB (fun _ => v) (M.sz n), 0)) := Lib.hid (by unfold T.constS; rw [if_pos h]; rfl)
    have h3 : ¬ ((n : Int) < 0) := by omega
    have h4 : ¬ (6 < (n : Int)) := by omega
    clear h
    obtain ⟨W0, HW0⟩ : ∃ W0, ((w.alloc (.cells #[.int .i64 0, .int .u64 0] 24)).alloc (.cells #[.int .i64 n, .int .u64 0] 24)) = W0 := ⟨_, rfl⟩
    have sW0 : W0.heap.size = w.heap.size + 2 := by rw [← HW0]; simp only [World.size_alloc]
    have W0b0 : Blk W0 (w.heap.size) #[.int .i64 0, .int .u64 0] 24 := by
      rw [← HW0]; repeat (first | (refine Blk.new' ?_; first | rfl | (simp only [World.size_alloc]; done)) | refine Blk.alloc ?_ _)
    have W0b1 : Blk W0 (w.heap.size + 1) #[.int .i64 n, .int .u64 0] 24 := by
      rw [← HW0]; repeat (first | (refine Blk.new' ?_; first | rfl | (simp only [World.size_alloc]; done)) | refine Blk.alloc ?_ _)
    have W0B : Below w.heap.size w W0 := by
      rw [← HW0]
      repeat (first
        | exact Below.refl _ _
        | assumption
        | refine Below.drew ?_
        | refine below_drewN ?_ _
        | refine Below.setCell ?_ (by first | (simp only [World.size_alloc, sz_setCell, sz_drew, sz_drewN, sz_putObj] at *; omega) | omega | (simp; omega) | simp) _
        | refine Below.alloc ?_ (by first | (simp only [World.size_alloc, sz_setCell, sz_drew, sz_drewN, sz_putObj] at *; omega) | omega | (simp; omega) | simp) _
        | refine Below.trans ?_ (Below.mono (by assumption) (by first | (simp only [World.size_alloc, sz_setCell, sz_drew, sz_drewN, sz_putObj] at *; omega) | omega | (simp; omega) | simp)))
    replace HW0 := Lib.hid HW0
    go_enter Tryd.func39, Tryd.ntmps39
    go_wp2_with (fail)
    rw [HW0.out]
    cases v
    · have hz : M.mkB (fun _ => false) (M.sz n) = 0 := Nat.eq_of_testBit_eq fun j => by rw [M.testBit_mkB]; simp
      rw [hz] at HC
      clear hz
      have hpos : 0 < M.sz n := Nat.two_pow_pos n
      obtain ⟨wo, rfl⟩ : ∃ wo : World, wo = W0 := ⟨_, rfl⟩
      go_loop [7] (fun i => i = .int .i64 0) (fun i => 0)
      case atStart => rfl
      case round =>
        subst hrel
        have cl0 := (W0b0).lt
        have c0 := (W0b0).cell 0
        have cf0 := (W0b0).frozen 0
        have c1 := (W0b0).cell 1
        have cf1 := (W0b0).frozen 1
        have cl2 := (W0b1).lt
        have c2 := (W0b1).cell 0
        have cf2 := (W0b1).frozen 0
        have c3 := (W0b1).cell 1
        have cf3 := (W0b1).frozen 1
        simp only [List.getElem?_toArray, List.getElem?_cons_zero, List.getElem?_cons_succ] at c0 c1 c2 c3
        go_wp2_with (first | (go_at_call 46; refine (rSize_any n _ hn).mono ?_; rintro e w' ⟨rfl, hw'⟩; obtain rfl := hw'.symm))
        generalize hW3 : World.setCell (World.setCell _ _ _) _ _ = W3
        have r1 : Blk W3 (w.heap.size) #[.int .i64 (n), .int .u64 ((0 : Nat))] 24 := by
          rw [← hW3]; exact ((W0b0).set 0 _).set 1 _
        have r2 := r1.cell 0
        have r3 := r1.cell 1
        refine bodyPost_ret (v := tabE (T.constS n false)) ?_ rfl ⟨rfl, ?_⟩
        · rw [HC.out]; simp [results, Tryd.results39, go_sem, r2, r3]
        · rw [← hW3]
          repeat (first
            | exact Below.refl _ _
            | assumption
            | refine Below.drew ?_
            | refine below_drewN ?_ _
            | refine Below.setCell ?_ (by first | (simp only [World.size_alloc, sz_setCell, sz_drew, sz_drewN, sz_putObj] at *; omega) | omega | (simp; omega) | simp) _
            | refine Below.alloc ?_ (by first | (simp only [World.size_alloc, sz_setCell, sz_drew, sz_drewN, sz_putObj] at *; omega) | omega | (simp; omega) | simp) _
            | refine Below.trans ?_ (Below.mono (by assumption) (by first | (simp only [World.size_alloc, sz_setCell, sz_drew, sz_drewN, sz_putObj] at *; omega) | omega | (simp; omega) | simp)))
    · go_loopw [7] (fun i wr => ∃ k : Nat, k ≤ M.sz n ∧ i = .int .i64 k ∧ Blk wr w.heap.size #[.int .i64 0, .int .u64 0] 24 ∧ Blk wr (w.heap.size + 1) #[.int .i64 n, .int .u64 (M.mkB (fun _ => true) k)] 24 ∧ Below w.heap.size w wr)
        (fun i _ => M.sz n - (intOf i).toNat)
      case atStart => exact ⟨0, Nat.zero_le _, rfl, W0b0, W0b1, W0B⟩
      case round =>
        obtain ⟨k, hk, rfl, a0, a1, hB⟩ := hrel
        have cl0 := (a0).lt
        have c0 := (a0).cell 0
        have cf0 := (a0).frozen 0
        have c1 := (a0).cell 1
        have cf1 := (a0).frozen 1
        have cl2 := (a1).lt
        have c2 := (a1).cell 0
        have cf2 := (a1).frozen 0
        have c3 := (a1).cell 1
        have cf3 := (a1).frozen 1
        simp only [List.getElem?_toArray, List.getElem?_cons_zero, List.getElem?_cons_succ] at c0 c1 c2 c3
        by_cases hlt : k < M.sz n
        · have hmb : M.mkB (fun _ => true) k < 2 ^ 64 := Nat.lt_of_lt_of_le (M.mkB_lt _ _) (Nat.pow_le_pow_right (by omega) (by omega))
          have hor := or_bit (M.mkB (fun _ => true) k) k hmb (by omega)
          have hpw := wrap_pow k (by omega)
          rw [hpw] at hor
          rw [← mkB_true_succ] at hor
          generalize 2 ^ k = p at hpw hor
          go_wp2_with (first | (go_at_call 46; refine (rSize_any n _ hn).mono ?_; rintro e w' ⟨rfl, hw'⟩; obtain rfl := hw'.symm))
          refine wp_region_still_tail 6 (by kernel_rfl) (by kernel_rfl) ?_
          simp only [List.take_succ_cons, List.take_zero, List.drop_succ_cons, List.drop_zero]
          repeat (first | still_step)
          refine wpStill_nil ?_
          change wpList _ _ _ _ _ (World.drew _)
          go_wp2
          go_roundw
          case rel => exact ⟨k + 1, by omega, by go_num, (a0.setOther _ (by simp)).drew, (a1.set 1 _).drew, (hB.setCell (by simp) _).drew⟩
          case measure => simp [intOf]; omega
        · obtain rfl : k = M.sz n := by omega
          go_wp2_with (first | (go_at_call 46; refine (rSize_any n _ hn).mono ?_; rintro e w' ⟨rfl, hw'⟩; obtain rfl := hw'.symm))
          generalize hW3 : World.setCell (World.setCell _ _ _) _ _ = W3
          have r1 : Blk W3 (w.heap.size) #[.int .i64 (n), .int .u64 (M.mkB (fun _ => true) (M.sz n))] 24 := by
            rw [← hW3]; exact ((a0).set 0 _).set 1 _
          have r2 := r1.cell 0
          have r3 := r1.cell 1
          refine bodyPost_ret (v := tabE (T.constS n true)) ?_ rfl ⟨rfl, ?_⟩
          · rw [HC.out]; simp [results, Tryd.results39, go_sem, r2, r3]
          · rw [← hW3]
            repeat (first
              | exact Below.refl _ _
              | assumption
              | refine Below.drew ?_
              | refine below_drewN ?_ _
              | refine Below.setCell ?_ (by first | (simp only [World.size_alloc, sz_setCell, sz_drew, sz_drewN, sz_putObj] at *; omega) | omega | (simp; omega) | simp) _
              | refine Below.alloc ?_ (by first | (simp only [World.size_alloc, sz_setCell, sz_drew, sz_drewN, sz_putObj] at *; omega) | omega | (simp; omega) | simp) _
              | refine Below.trans ?_ (Below.mono (by assumption) (by first | (simp only [World.size_alloc, sz_setCell, sz_drew, sz_drewN, sz_putObj] at *; omega) | omega | (simp; omega) | simp)))
  · have HC : Hid (T.constS N v = (0, 0, 2)) := Lib.hid (by unfold T.constS; rw [if_neg h])
    have hsplit : N < 0 ∨ (¬ N < 0 ∧ 6 < N) := by omega
    clear h
    rcases hsplit with h0 | ⟨h0, h1⟩
    all_goals
      go_enter Tryd.func39, Tryd.ntmps39
      go_wp2_with (fail)
      refine bodyPost_ret (v := tabE (T.constS N v)) ?_ rfl ⟨rfl, ?_⟩
      · rw [HC.out]; simp [results, Tryd.results39, go_sem]
      · skip
        repeat (first
          | exact Below.refl _ _
          | assumption
          | refine Below.drew ?_
          | refine below_drewN ?_ _
          | refine Below.setCell ?_ (by first | (simp only [World.size_alloc, sz_setCell, sz_drew, sz_drewN, sz_putObj] at *; omega) | omega | (simp; omega) | simp) _
          | refine Below.alloc ?_ (by first | (simp only [World.size_alloc, sz_setCell, sz_drew, sz_drewN, sz_putObj] at *; omega) | omega | (simp; omega) | simp) _
          | refine Below.trans ?_ (Below.mono (by assumption) (by first | (simp only [World.size_alloc, sz_setCell, sz_drew, sz_drewN, sz_putObj] at *; omega) | omega | (simp; omega) | simp)))

set_option maxHeartbeats 400000 in
theorem rPoints_any (N : Int) (b : Nat) (hb : b < 2 ^ 64) (w : World) :
    Calls Tryd.prog 44 #[.agg #[.int .i64 N, .int .u64 b]] w (IntsE w (T.ptsS N b) (T.chk N b)) := by
  obtain ⟨W0, HW0⟩ : ∃ W0, (w.alloc (.cells #[.int .i64 N, .int .u64 b] 24)) = W0 := ⟨_, rfl⟩
  have sW0 : W0.heap.size = w.heap.size + 1 := by rw [← HW0]; simp only [World.size_alloc]
  have W0b0 : Blk W0 (w.heap.size) #[.int .i64 N, .int .u64 b] 24 := by
    rw [← HW0]; repeat (first | (refine Blk.new' ?_; first | rfl | (simp only [World.size_alloc]; done)) | refine Blk.alloc ?_ _)
  have W0B : Below w.heap.size w W0 := by
    rw [← HW0]
    repeat (first
      | exact Below.refl _ _
      | assumption
      | refine Below.drew ?_
      | refine below_drewN ?_ _
      | refine Below.setCell ?_ (by first | (simp only [World.size_alloc, sz_setCell, sz_drew, sz_drewN, sz_putObj] at *; omega) | omega | (simp; omega) | simp) _
      | refine Below.alloc ?_ (by first | (simp only [World.size_alloc, sz_setCell, sz_drew, sz_drewN, sz_putObj] at *; omega) | omega | (simp; omega) | simp) _
      | refine Below.trans ?_ (Below.mono (by assumption) (by first | (simp only [World.size_alloc, sz_setCell, sz_drew, sz_drewN, sz_putObj] at *; omega) | omega | (simp; omega) | simp)))
  replace HW0 := Lib.hid HW0
  have hC := rCheck_any N b hb W0
  rcases T.chk_cases N b with ⟨hR, h0⟩ | ⟨hR, h0 | h0⟩
  · rw [h0] at hC
    obtain ⟨n, rfl⟩ := Int.eq_ofNat_of_zero_le hR.1
    have hn : n ≤ 6 := by have := hR.2.1; omega
    have HC : Hid (T.ptsS n b = M.pts b.testBit (M.sz n)) := Lib.hid (by unfold T.ptsS; rw [if_pos h0]; rfl)
    rw [h0]
    clear h0 hR
    go_enter Tryd.func44, Tryd.ntmps44
    go_wp2_with (first | (go_at_call 24; rw [HW0.out]; refine (hC).mono ?_; rintro e w' ⟨rfl, hb⟩; have hz := hb.size; have dl0 := (W0b0.ext hb).lt; have d0 := (W0b0.ext hb).cell 0; have df0 := (W0b0.ext hb).frozen 0; have d1 := (W0b0.ext hb).cell 1; have df1 := (W0b0.ext hb).frozen 1; simp only [List.getElem?_toArray, List.getElem?_cons_zero, List.getElem?_cons_succ] at d0 d1) | ((go_at_call 78; refine (rOn_any n b hn (by assumption) _).mono ?_; rintro e w2 ⟨⟨v, rfl, hown⟩, hb2⟩)))
    refine bodyPost_ret (v := .tuple #[v, .int .i64 0]) (by simp [results, Tryd.results44, go_sem]) rfl ⟨⟨_, rfl, ?_⟩, ?_⟩
    · rw [HC.out]; exact ownsRow_base hown (by omega)
    · skip
      repeat (first
        | exact Below.refl _ _
        | assumption
        | refine Below.drew ?_
        | refine below_drewN ?_ _
        | refine Below.setCell ?_ (by first | (simp only [World.size_alloc, sz_setCell, sz_drew, sz_drewN, sz_putObj] at *; omega) | omega | (simp; omega) | simp) _
        | refine Below.alloc ?_ (by first | (simp only [World.size_alloc, sz_setCell, sz_drew, sz_drewN, sz_putObj] at *; omega) | omega | (simp; omega) | simp) _
        | refine Below.trans ?_ (Below.mono (by assumption) (by first | (simp only [World.size_alloc, sz_setCell, sz_drew, sz_drewN, sz_putObj] at *; omega) | omega | (simp; omega) | simp)))
  all_goals
    rw [h0] at hC
    have HC : Hid (T.ptsS N b = []) := Lib.hid (by unfold T.ptsS; rw [if_neg (by omega)])
    rw [h0]
    clear h0 hR
    go_enter Tryd.func44, Tryd.ntmps44
    go_wp2_with (first | (go_at_call 24; rw [HW0.out]; refine (hC).mono ?_; rintro e w' ⟨rfl, hb⟩; have hz := hb.size; have dl0 := (W0b0.ext hb).lt; have d0 := (W0b0.ext hb).cell 0; have df0 := (W0b0.ext hb).frozen 0; have d1 := (W0b0.ext hb).cell 1; have df1 := (W0b0.ext hb).frozen 1; simp only [List.getElem?_toArray, List.getElem?_cons_zero, List.getElem?_cons_succ] at d0 d1))
    refine bodyPost_ret (v := .tuple #[.slice none 0 0, .int .i64 _]) (by simp [results, Tryd.results44, go_sem]) rfl ⟨⟨_, rfl, ?_⟩, ?_⟩
    · rw [HC.out]; exact World.ownsRow_nil _ _ _ _
    · skip
      repeat (first
        | exact Below.refl _ _
        | assumption
        | refine Below.drew ?_
        | refine below_drewN ?_ _
        | refine Below.setCell ?_ (by first | (simp only [World.size_alloc, sz_setCell, sz_drew, sz_drewN, sz_putObj] at *; omega) | omega | (simp; omega) | simp) _
        | refine Below.alloc ?_ (by first | (simp only [World.size_alloc, sz_setCell, sz_drew, sz_drewN, sz_putObj] at *; omega) | omega | (simp; omega) | simp) _
        | refine Below.trans ?_ (Below.mono (by assumption) (by first | (simp only [World.size_alloc, sz_setCell, sz_drew, sz_drewN, sz_putObj] at *; omega) | omega | (simp; omega) | simp)))

end Go.Proofs.YtamnabekjkgdkaaDoor
