/- Contracts of the reference of layer 4: Xor. -/
import Derived.Test.YtamnabekjkgdkaaDoorRef045
namespace Go.Proofs.YtamnabekjkgdkaaDoor
set_option linter.unusedSimpArgs false
set_option linter.unusedVariables false
open Go.RowKit Go.Shelf

theorem xor_mkB {a b m : Nat} (ha : a < 2 ^ m) (hb : b < 2 ^ m) : M.mkB (fun k => a.testBit k != b.testBit k) m = a ^^^ b :=
  M.ext_below (M.mkB_lt _ _) (Nat.xor_lt_two_pow ha hb) fun j hj => by
    rw [M.testBit_mkB, Nat.testBit_xor]; simp [hj]

set_option maxRecDepth 100000 in
set_option maxHeartbeats 1000000 in
theorem rXor_any (N O : Int) (a b : Nat) (ha : a < 2 ^ 64) (hb' : b < 2 ^ 64) (w : World) :
    Calls Tryd.prog 23 #[.agg #[.int .i64 N, .int .u64 a], .agg #[.int .i64 O, .int .u64 b]] w fun e w' => e = .returned (tabE (T.joinS (· ^^^ ·) N a O b)) ∧ Below w.heap.size w w' := by
  obtain ⟨W0, HW0⟩ : ∃ W0, (((w.alloc (.cells #[.int .i64 N, .int .u64 a] 24)).alloc (.cells #[.int .i64 O, .int .u64 b] 24)).alloc (.cells #[.int .i64 0, .int .u64 0] 24)) = W0 := ⟨_, rfl⟩
  have sW0 : W0.heap.size = w.heap.size + 3 := by rw [← HW0]; simp only [World.size_alloc]
  have W0b0 : Blk W0 (w.heap.size) #[.int .i64 N, .int .u64 a] 24 := by
    rw [← HW0]; repeat (first | (refine Blk.new' ?_; first | rfl | (simp only [World.size_alloc]; done)) | refine Blk.alloc ?_ _)
  have W0b1 : Blk W0 (w.heap.size + 1) #[.int .i64 O, .int .u64 b] 24 := by
    rw [← HW0]; repeat (first | (refine Blk.new' ?_; first | rfl | (simp only [World.size_alloc]; done)) | refine Blk.alloc ?_ _)
  have W0b2 : Blk W0 (w.heap.size + 1 + 1) #[.int .i64 0, .int .u64 0] 24 := by
    rw [← HW0]; repeat (first | (refine Blk.new' ?_; first | rfl | (simp only [World.size_alloc]; done)) | refine Blk.alloc ?_ _)
  have W0B : Below w.heap.size w W0 := by
    rw [← HW0]
    repeat (first
      | exact Below.refl _ _
      | assumption
      | refine Below.drew ?_
      | refine below_drewN ?_ _
      | refine Below.setCell ?_ (by first | (simp only [World.size_alloc, sz_setCell, sz_drew, sz_drewN, sz_putObj] at *; omega) | omega | (simp; omega) | simp) _
      | refine Below.alloc ?_ (by first | (simp only [World.size_alloc, sz_setCell, sz_drew, sz_drewN, sz_putObj] at *; omega) | omega | (simp; omega) | simp) _
      | refine Below.trans ?_ (Below.mono (by assumption) (by first | (simp only [World.size_alloc, sz_setCell, sz_drew, sz_drewN, sz_putObj] at *; omega) | omega | (simp; omega) | simp)))
  replace HW0 := Lib.hid HW0
  have hC := rGiven_any N O a b ha hb' W0
  rcases given_cases N O a b with ⟨hR, hS, hNO, h0⟩ | hrest
  · have HC : Hid (T.joinS (· ^^^ ·) N a O b = (N, a ^^^ b, 0)) := Lib.hid (by unfold T.joinS; rw [if_pos h0])
    rw [h0] at hC
    subst hNO
    obtain ⟨n, rfl⟩ := Int.eq_ofNat_of_zero_le hR.1
    have hn : n ≤ 6 := by have := hR.2.1; omega
    have h64 := M.sz_le hn
    have hxm := xor_mkB (m := M.sz n) hR.2.2 hS.2.2
    clear h0 hR hS
    go_enter Tryd.func23, Tryd.ntmps23
    go_wp2_with (first | (go_at_call 58; rw [HW0.out]; refine (hC).mono ?_; rintro e w' ⟨rfl, hb⟩; have hz := hb.size; have dl0 := (W0b0.ext hb).lt; have d0 := (W0b0.ext hb).cell 0; have df0 := (W0b0.ext hb).frozen 0; have d1 := (W0b0.ext hb).cell 1; have df1 := (W0b0.ext hb).frozen 1; have dl2 := (W0b1.ext hb).lt; have d2 := (W0b1.ext hb).cell 0; have df2 := (W0b1.ext hb).frozen 0; have d3 := (W0b1.ext hb).cell 1; have df3 := (W0b1.ext hb).frozen 1; have dl4 := (W0b2.ext hb).lt; have d4 := (W0b2.ext hb).cell 0; have df4 := (W0b2.ext hb).frozen 0; have d5 := (W0b2.ext hb).cell 1; have df5 := (W0b2.ext hb).frozen 1; simp only [List.getElem?_toArray, List.getElem?_cons_zero, List.getElem?_cons_succ] at d0 d1 d2 d3 d4 d5))
    have A0 := W0b0.ext hb
    have A1 := W0b1.ext hb
    have A2 := W0b2.ext hb
    have hB0 : Below w.heap.size w w' := by
      repeat (first
        | exact Below.refl _ _
        | assumption
        | refine Below.drew ?_
        | refine below_drewN ?_ _
        | refine Below.setCell ?_ (by first | (simp only [World.size_alloc, sz_setCell, sz_drew, sz_drewN, sz_putObj] at *; omega) | omega | (simp; omega) | simp) _
        | refine Below.alloc ?_ (by first | (simp only [World.size_alloc, sz_setCell, sz_drew, sz_drewN, sz_putObj] at *; omega) | omega | (simp; omega) | simp) _
        | refine Below.trans ?_ (Below.mono (by assumption) (by first | (simp only [World.size_alloc, sz_setCell, sz_drew, sz_drewN, sz_putObj] at *; omega) | omega | (simp; omega) | simp)))
    clear d0 d1 d2 d3 d4 d5 df0 df1 df2 df3 df4 df5
    go_loopw [7, 8] (fun v i wr => ∃ k : Nat, k ≤ M.sz n ∧ i = .int .i64 k ∧ wr.ownsRow w'.heap.size 3 1 v (M.pts (fun k => a.testBit k != b.testBit k) k).length (nats (M.pts (fun k => a.testBit k != b.testBit k) k)) ∧ Blk wr w.heap.size #[.int .i64 n, .int .u64 a] 24 ∧ Blk wr (w.heap.size + 1) #[.int .i64 n, .int .u64 b] 24 ∧ Blk wr (w.heap.size + 1 + 1) #[.int .i64 0, .int .u64 0] 24 ∧ Below w.heap.size w wr ∧ w'.heap.size ≤ wr.heap.size)
      (fun _ i _ => M.sz n - (intOf i).toNat)
    case atStart => exact ⟨0, Nat.zero_le _, rfl, World.ownsRow_nil _ _ _ _, A0, A1, A2, hB0, Nat.le_refl _⟩
    case round =>
      obtain ⟨k, hk, rfl, hown, a0, a1, a2, hB, hW⟩ := hrel
      have hlen := M.pts_length_le (fun k => a.testBit k != b.testBit k) k
      have cl0 := (a0).lt
      have c0 := (a0).cell 0
      have cf0 := (a0).frozen 0
      have c1 := (a0).cell 1
      have cf1 := (a0).frozen 1
      have cl2 := (a1).lt
      have c2 := (a1).cell 0
      have cf2 := (a1).frozen 0
      have c3 := (a1).cell 1
      have cf3 := (a1).frozen 1
      have cl4 := (a2).lt
      have c4 := (a2).cell 0
      have cf4 := (a2).frozen 0
      have c5 := (a2).cell 1
      have cf5 := (a2).frozen 1
      simp only [List.getElem?_toArray, List.getElem?_cons_zero, List.getElem?_cons_succ] at c0 c1 c2 c3 c4 c5
      by_cases hlt : k < M.sz n
      · have hA1 := fun W => rAt_any n a k ha (by omega) W
        have hA2 := fun W => rAt_any n b k hb' (by omega) W
        have hqq : Hid ((fun k => a.testBit k != b.testBit k) k = (a.testBit k != b.testBit k)) := Lib.hid rfl
        generalize hx : a.testBit k = x at hA1 hqq
        generalize hy : b.testBit k = y at hA2 hqq
        clear hx hy
        go_wp2_with (go_at_call 46; refine (rSize_any n _ hn).mono ?_; rintro e w' ⟨rfl, hw'⟩; obtain rfl := hw'.symm)
        go_region_held3 (fun W9 => Below wr.heap.size wr W9 ∧ W9.cell? ⟨w.heap.size, 0, none⟩ = some (.int .i64 n) ∧ W9.cell? ⟨w.heap.size, 1, none⟩ = some (.int .u64 a) ∧ W9.cell? ⟨w.heap.size + 1, 0, none⟩ = some (.int .i64 n) ∧ W9.cell? ⟨w.heap.size + 1, 1, none⟩ = some (.int .u64 b)) (first | exact ⟨hB9, (hB9.cell (p := ⟨w.heap.size, 0, none⟩) cl0).trans c0, (hB9.cell (p := ⟨w.heap.size, 1, none⟩) cl0).trans c1, (hB9.cell (p := ⟨w.heap.size + 1, 0, none⟩) cl2).trans c2, (hB9.cell (p := ⟨w.heap.size + 1, 1, none⟩) cl2).trans c3⟩ | exact ⟨(Below.refl _ _).drew, c0, c1, c2, c3⟩)
          (first | (go_at_call 63; with_reducible refine Calls.mono (later (hA1 _) (by go_split_ands; assumption) (Nat.le_refl _)) ?_; rintro e w9 ⟨rfl, hB9⟩) | (go_at_call 63; with_reducible refine Calls.mono (later (hA2 _) (by go_split_ands; assumption) (Nat.le_refl _)) ?_; rintro e w9 ⟨rfl, hB9⟩))
        have hw9 := hB9.size
        have hown9 := ownsRow_below hown hB9
        have a09 := a0.ext hB9; have a19 := a1.ext hB9; have a29 := a2.ext hB9
        clear hA1 hA2
        cases x <;> cases y
        · go_wp2_with (fail)
          go_roundw
          case rel => exact ⟨k + 1, by omega, by go_num, by rw [M.pts_succ_f (p := (fun k => a.testBit k != b.testBit k)) hqq.out]; exact hown9, a09, a19, a29, hB.trans (hB9.mono (by omega)), by omega⟩
          case measure => simp [intOf]; omega
        · go_wp2_with (at_builtin; refine app1 elInts rfl _ _ rfl w'.heap.size rfl hown9 [.int .i64 k] rfl rfl (by simp [Value.oneCell']) (by omega) (by omega) ?_; rintro _ w3 hown3 hg3 ⟨g3, c3, rfl⟩)
          go_roundw
          case rel => exact ⟨k + 1, by omega, by go_num, by rw [M.pts_succ_t (p := (fun k => a.testBit k != b.testBit k)) hqq.out]; simpa [nats] using hown3, a09.app hg3 hown9 (by omega), a19.app hg3 hown9 (by omega), a29.app hg3 hown9 (by omega), Below.app (hB.trans (hB9.mono (by omega))) hg3 hown9 (by omega) (by omega), by have := hg3.size; omega⟩
          case measure => simp [intOf]; omega
        · go_wp2_with (at_builtin; refine app1 elInts rfl _ _ rfl w'.heap.size rfl hown9 [.int .i64 k] rfl rfl (by simp [Value.oneCell']) (by omega) (by omega) ?_; rintro _ w3 hown3 hg3 ⟨g3, c3, rfl⟩)
          go_roundw
          case rel => exact ⟨k + 1, by omega, by go_num, by rw [M.pts_succ_t (p := (fun k => a.testBit k != b.testBit k)) hqq.out]; simpa [nats] using hown3, a09.app hg3 hown9 (by omega), a19.app hg3 hown9 (by omega), a29.app hg3 hown9 (by omega), Below.app (hB.trans (hB9.mono (by omega))) hg3 hown9 (by omega) (by omega), by have := hg3.size; omega⟩
          case measure => simp [intOf]; omega
        · go_wp2_with (fail)
          go_roundw
          case rel => exact ⟨k + 1, by omega, by go_num, by rw [M.pts_succ_f (p := (fun k => a.testBit k != b.testBit k)) hqq.out]; exact hown9, a09, a19, a29, hB.trans (hB9.mono (by omega)), by omega⟩
          case measure => simp [intOf]; omega
      · obtain rfl : k = M.sz n := by omega
        have hMd := rMade_own n hn (fun k => a.testBit k != b.testBit k) u7 w'.heap.size wr hown
        rw [hxm] at hMd
        generalize a ^^^ b = c at hMd HC
        go_wp2_with (first | (go_at_call 46; refine (rSize_any n _ hn).mono ?_; rintro e w' ⟨rfl, hw'⟩; obtain rfl := hw'.symm) | (go_at_call 53; refine (hMd).mono ?_; rintro e w2 ⟨rfl, hb2⟩; have hz2 := hb2.size; have d2l0 := (a2.ext hb2).lt; have d20 := (a2.ext hb2).cell 0; have d2f0 := (a2.ext hb2).frozen 0; have d21 := (a2.ext hb2).cell 1; have d2f1 := (a2.ext hb2).frozen 1; simp only [List.getElem?_toArray, List.getElem?_cons_zero, List.getElem?_cons_succ] at d20 d21))
        generalize hW3 : World.setCell (World.setCell _ _ _) _ _ = W3
        have r1 : Blk W3 (w.heap.size + 1 + 1) #[.int .i64 (n), .int .u64 (c)] 24 := by
          rw [← hW3]; exact ((a2.ext hb2).set 0 _).set 1 _
        have r2 := r1.cell 0
        have r3 := r1.cell 1
        refine bodyPost_ret (v := tabE (T.joinS (· ^^^ ·) n a n b)) ?_ rfl ⟨rfl, ?_⟩
        · rw [HC.out]; simp [results, Tryd.results23, go_sem, r2, r3]
        · rw [← hW3]
          repeat (first
            | exact Below.refl _ _
            | assumption
            | refine Below.drew ?_
            | refine below_drewN ?_ _
            | refine Below.setCell ?_ (by first | (simp only [World.size_alloc, sz_setCell, sz_drew, sz_drewN, sz_putObj] at *; omega) | omega | (simp; omega) | simp) _
            | refine Below.alloc ?_ (by first | (simp only [World.size_alloc, sz_setCell, sz_drew, sz_drewN, sz_putObj] at *; omega) | omega | (simp; omega) | simp) _
            | refine Below.trans ?_ (Below.mono (by assumption) (by first | (simp only [World.size_alloc, sz_setCell, sz_drew, sz_drewN, sz_putObj] at *; omega) | omega | (simp; omega) | simp)))
  · have h0 : T.givenS N a O b ≠ 0 := by
      rcases hrest with ⟨_, _, _, h⟩ | ⟨_, ⟨_, h⟩ | ⟨_, h⟩⟩ | ⟨_, h⟩ | ⟨_, h⟩ <;> omega
    have HC : Hid (T.joinS (· ^^^ ·) N a O b = (0, 0, T.givenS N a O b)) := Lib.hid (by unfold T.joinS; rw [if_neg h0])
    clear hrest
    generalize T.givenS N a O b = g at h0 hC HC
    go_enter Tryd.func23, Tryd.ntmps23
    go_wp2_with (first | (go_at_call 58; rw [HW0.out]; refine (hC).mono ?_; rintro e w' ⟨rfl, hb⟩; have hz := hb.size; have dl0 := (W0b0.ext hb).lt; have d0 := (W0b0.ext hb).cell 0; have df0 := (W0b0.ext hb).frozen 0; have d1 := (W0b0.ext hb).cell 1; have df1 := (W0b0.ext hb).frozen 1; have dl2 := (W0b1.ext hb).lt; have d2 := (W0b1.ext hb).cell 0; have df2 := (W0b1.ext hb).frozen 0; have d3 := (W0b1.ext hb).cell 1; have df3 := (W0b1.ext hb).frozen 1; have dl4 := (W0b2.ext hb).lt; have d4 := (W0b2.ext hb).cell 0; have df4 := (W0b2.ext hb).frozen 0; have d5 := (W0b2.ext hb).cell 1; have df5 := (W0b2.ext hb).frozen 1; simp only [List.getElem?_toArray, List.getElem?_cons_zero, List.getElem?_cons_succ] at d0 d1 d2 d3 d4 d5))
    generalize hW3 : World.setCell (World.setCell _ _ _) _ _ = W3
    have r1 : Blk W3 (w.heap.size + 1 + 1) #[.int .i64 (0), .int .u64 ((0 : Nat))] 24 := by
      rw [← hW3]; exact ((W0b2.ext hb).set 0 _).set 1 _
    have r2 := r1.cell 0
    have r3 := r1.cell 1
    refine bodyPost_ret (v := tabE (T.joinS (· ^^^ ·) N a O b)) ?_ rfl ⟨rfl, ?_⟩
    · rw [HC.out]; simp [results, Tryd.results23, go_sem, r2, r3]
    · rw [← hW3]
      repeat (first
        | exact Below.refl _ _
        | assumption
        | refine Below.drew ?_
        | refine below_drewN ?_ _
        | refine Below.setCell ?_ (by first | (simp only [World.size_alloc, sz_setCell, sz_drew, sz_drewN, sz_putObj] at *; omega) | omega | (simp; omega) | simp) _
        | refine Below.alloc ?_ (by first | (simp only [World.size_alloc, sz_setCell, sz_drew, sz_drewN, sz_putObj] at *; omega) | omega | (simp; omega) | simp) _
        | refine Below.trans ?_ (Below.mono (by assumption) (by first | (simp only [World.size_alloc, sz_setCell, sz_drew, sz_drewN, sz_putObj] at *; omega) | omega | (simp; omega) | simp)))

end Go.Proofs.YtamnabekjkgdkaaDoor
