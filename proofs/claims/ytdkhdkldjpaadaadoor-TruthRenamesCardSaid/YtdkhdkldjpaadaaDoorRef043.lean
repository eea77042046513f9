/- Contracts of the reference of layer 4: Opposite, Variable, Fixed, Not, Var, Const, Cofactor. -/
import Derived.Test.YtdkhdkldjpaadaaDoorRef042
set_option maxHeartbeats 1000000
set_option maxRecDepth 4000
set_option linter.unusedSimpArgs false
set_option linter.unusedVariables false
namespace Go.Proofs.YtdkhdkldjpaadaaDoor
open Go.RowKit Go.Shelf

theorem mkB_pts (q : Nat → Bool) (m : Nat) : M.mkB (fun k => decide (k ∈ M.pts q m)) m = M.mkB q m :=
  M.mkB_congr fun j hj => by
    cases hq : q j
    · exact decide_eq_false fun h => by rw [(M.mem_pts.1 h).2] at hq; cases hq
    · exact decide_eq_true (M.mem_pts.2 ⟨hj, hq⟩)

/-- the reference's Made at a list in memory of the call's own -/
theorem rMade_own (n : Nat) (hn : n ≤ 6) (q : Nat → Bool) (v : Value) (base : Nat) (w : World) (hv : w.ownsRow base 3 1 v (M.pts q (M.sz n)).length (nats (M.pts q (M.sz n)))) :
    Calls Tryd.prog 53 #[.int .i64 n, v] w fun e w' => e = .returned (.agg #[.int .i64 n, .int .u64 (M.mkB q (M.sz n))]) ∧ Below w.heap.size w w' := by
  have h := rMade_any n hn (M.pts q (M.sz n)) v w (Sl.of_owns hv)
  rwa [mkB_pts] at h

set_option maxRecDepth 100000 in
set_option maxHeartbeats 1000000 in
theorem rOpposite_any (n b : Nat) (hn : n ≤ 6) (hb : b < 2 ^ 64) (w : World) :
    Calls Tryd.prog 55 #[.agg #[.int .i64 n, .int .u64 b]] w fun e w' => e = .returned (.agg #[.int .i64 n, .int .u64 (M.mkB (fun k => !b.testBit k) (M.sz n))]) ∧ Below w.heap.size w w' := by
  obtain ⟨W0, HW0⟩ : ∃ W0, ((w.alloc (.cells #[.int .i64 n, .int .u64 b] 24)).alloc (.cells #[.int .i64 0, .int .u64 0] 24)) = W0 := ⟨_, rfl⟩
  have sW0 : W0.heap.size = w.heap.size + 2 := by rw [← HW0]; simp only [World.size_alloc]
  have W0b0 : Blk W0 (w.heap.size) #[.int .i64 n, .int .u64 b] 24 := by
    rw [← HW0]; repeat (first | (refine Blk.new' ?_; first | rfl | (simp only [World.size_alloc]; done)) | refine Blk.alloc ?_ _)
  have W0b1 : Blk W0 (w.heap.size + 1) #[.int .i64 0, .int .u64 0] 24 := by
    rw [← HW0]; repeat (first | (refine Blk.new' ?_; first | rfl | (simp only [World.size_alloc]; done)) | refine Blk.alloc ?_ _)
  have W0B : Below w.heap.size w W0 := by
    rw [← HW0]
    repeat (first
      | exact Below.refl _ _
      | assumption
      | refine Below.drew ?_
      | refine below_drewN ?_ _
      | refine Below.setCell ?_ (by first | (simp only [World.size_alloc, sz_setCell, sz_drew, sz_drewN, sz_putObj] at *; omega) | omega | (simp; omega) | simp) _
      | refine Below.alloc ?_ (by first | (simp only [World.size_alloc, sz_setCell, sz_drew, sz_drewN, sz_putObj] at *; omega) | omega | (simp; omega) | simp) _
      | refine Below.trans ?_ (Below.mono (by assumption) (by first | (simp only [World.size_alloc, sz_setCell, sz_drew, sz_drewN, sz_putObj] at *; omega) | omega | (simp; omega) | simp)))
  replace HW0 := Lib.hid HW0
  have h64 := M.sz_le hn
  go_enter Tryd.func55, Tryd.ntmps55
  go_wp2_with (fail)
  rw [HW0.out]
  go_loopw [3, 4] (fun v i wr => ∃ k : Nat, k ≤ M.sz n ∧ i = .int .i64 k ∧ wr.ownsRow W0.heap.size 3 1 v (M.pts (fun k => !b.testBit k) k).length (nats (M.pts (fun k => !b.testBit k) k)) ∧ Blk wr (w.heap.size) #[.int .i64 n, .int .u64 b] 24 ∧ Blk wr (w.heap.size + 1) #[.int .i64 0, .int .u64 0] 24 ∧ Below w.heap.size w wr ∧ W0.heap.size ≤ wr.heap.size)
    (fun _ i _ => M.sz n - (intOf i).toNat)
  case atStart => exact ⟨0, Nat.zero_le _, rfl, World.ownsRow_nil _ _ _ _, W0b0, W0b1, W0B, Nat.le_refl _⟩
  case round =>
    obtain ⟨k, hk, rfl, hown, a0, a1, hB, hW⟩ := hrel
    have hlen := M.pts_length_le (fun k => !b.testBit k) k
    have cl0 := (a0).lt
    have c0 := (a0).cell 0
    have cf0 := (a0).frozen 0
    have c1 := (a0).cell 1
    have cf1 := (a0).frozen 1
    have cl2 := (a1).lt
    have c2 := (a1).cell 0
    have cf2 := (a1).frozen 0
    have c3 := (a1).cell 1
    have cf3 := (a1).frozen 1
    simp only [List.getElem?_toArray, List.getElem?_cons_zero, List.getElem?_cons_succ] at c0 c1 c2 c3
    by_cases hlt : k < M.sz n
    · have hA1 := rAt_any n b k hb (by omega) wr
      cases hq : (!b.testBit k)
      · rw [show b.testBit k = true by simpa using hq] at hA1
        replace hq := Lib.hid hq
        go_wp2_with (first
          | (go_at_call 46; refine (rSize_any n _ hn).mono ?_; rintro e w' ⟨rfl, hw'⟩; obtain rfl := hw'.symm)
          | (go_at_call 63; refine hA1.mono ?_; rintro e w9 ⟨rfl, hB9⟩))
        go_roundw
        case rel => exact ⟨k + 1, by omega, by go_num, by rw [M.pts_succ_f (p := (fun k => !b.testBit k)) hq.out]; exact ownsRow_below hown hB9, a0.ext hB9, a1.ext hB9, hB.trans (hB9.mono (by omega)), by have := hB9.size; omega⟩
        case measure => simp [intOf]; omega
      · rw [show b.testBit k = false by simpa using hq] at hA1
        replace hq := Lib.hid hq
        go_wp2_with (first
          | (go_at_call 46; refine (rSize_any n _ hn).mono ?_; rintro e w' ⟨rfl, hw'⟩; obtain rfl := hw'.symm)
          | (go_at_call 63; refine hA1.mono ?_; rintro e w9 ⟨rfl, hB9⟩; have hw9 := hB9.size; have hown9 := ownsRow_below hown hB9; have a09 := a0.ext hB9; have a19 := a1.ext hB9)
          | (at_builtin; refine app1 elInts rfl _ _ rfl W0.heap.size rfl hown9 [.int .i64 k] rfl rfl (by simp [Value.oneCell']) (by omega) (by omega) ?_; rintro _ w3 hown3 hg3 ⟨g3, c3, rfl⟩))
        go_roundw
        case rel => exact ⟨k + 1, by omega, by go_num, by rw [M.pts_succ_t (p := (fun k => !b.testBit k)) hq.out]; simpa [nats] using hown3, a09.app hg3 hown9 (by omega), a19.app hg3 hown9 (by omega), Below.app (hB.trans (hB9.mono (by omega))) hg3 hown9 (by omega) (by omega), by have := hg3.size; omega⟩
        case measure => simp [intOf]; omega
    · obtain rfl : k = M.sz n := by omega
      go_wp2_with (first
        | (go_at_call 46; refine (rSize_any n _ hn).mono ?_; rintro e w' ⟨rfl, hw'⟩; obtain rfl := hw'.symm)
        | (go_at_call 53; refine (rMade_own n hn (fun k => !b.testBit k) _ _ _ hown).mono ?_; rintro e w2 ⟨rfl, hb2⟩; have hz2 := hb2.size; have x0 := (a1.ext hb2).cell 0; have x1 := (a1.ext hb2).cell 1; have x2 := (a1.ext hb2).frozen 0; have x3 := (a1.ext hb2).frozen 1; simp only [List.getElem?_toArray, List.getElem?_cons_zero, List.getElem?_cons_succ] at x0 x1))
      generalize hW3 : World.setCell (World.setCell _ _ _) _ _ = W3
      have R1 : Blk W3 (w.heap.size + 1) #[.int .i64 n, .int .u64 (M.mkB (fun k => !b.testBit k) (M.sz n))] 24 := by
        rw [← hW3]; exact ((a1.ext hb2).set 0 _).set 1 _
      have ql0 := (R1).lt
      have q0 := (R1).cell 0
      have qf0 := (R1).frozen 0
      have q1 := (R1).cell 1
      have qf1 := (R1).frozen 1
      simp only [List.getElem?_toArray, List.getElem?_cons_zero, List.getElem?_cons_succ] at q0 q1
      refine bodyPost_ret (v := .agg #[.int .i64 n, .int .u64 (M.mkB (fun k => !b.testBit k) (M.sz n))]) ?_ rfl ⟨rfl, ?_⟩
      · simp [results, Tryd.results55, go_sem, q0, q1]
      · rw [← hW3]
        exact ((hB.trans (hb2.mono hB.size)).setCell (by simp) _).setCell (by simp) _
set_option maxRecDepth 100000 in
set_option maxHeartbeats 1000000 in
theorem rVariable_any (n j : Nat) (hn : n ≤ 6) (hi : j < 6) (w : World) :
    Calls Tryd.prog 77 #[.int .i64 n, .int .i64 j] w fun e w' => e = .returned (.agg #[.int .i64 n, .int .u64 (M.mkB (fun k => k.testBit j) (M.sz n))]) ∧ Below w.heap.size w w' := by
  obtain ⟨W0, HW0⟩ : ∃ W0, (w.alloc (.cells #[.int .i64 0, .int .u64 0] 24)) = W0 := ⟨_, rfl⟩
  have sW0 : W0.heap.size = w.heap.size + 1 := by rw [← HW0]; simp only [World.size_alloc]
  have W0b0 : Blk W0 (w.heap.size) #[.int .i64 0, .int .u64 0] 24 := by
    rw [← HW0]; repeat (first | (refine Blk.new' ?_; first | rfl | (simp only [World.size_alloc]; done)) | refine Blk.alloc ?_ _)
  have W0B : Below w.heap.size w W0 := by
    rw [← HW0]
    repeat (first
      | exact Below.refl _ _
      | assumption
      | refine Below.drew ?_
      | refine below_drewN ?_ _
      | refine Below.setCell ?_ (by first | (simp only [World.size_alloc, sz_setCell, sz_drew, sz_drewN, sz_putObj] at *; omega) | omega | (simp; omega) | simp) _
      | refine Below.alloc ?_ (by first | (simp only [World.size_alloc, sz_setCell, sz_drew, sz_drewN, sz_putObj] at *; omega) | omega | (simp; omega) | simp) _
      | refine Below.trans ?_ (Below.mono (by assumption) (by first | (simp only [World.size_alloc, sz_setCell, sz_drew, sz_drewN, sz_putObj] at *; omega) | omega | (simp; omega) | simp)))
  replace HW0 := Lib.hid HW0
  have h64 := M.sz_le hn
  go_enter Tryd.func77, Tryd.ntmps77
  go_wp2_with (fail)
  rw [HW0.out]
  go_loopw [5, 6] (fun v i wr => ∃ k : Nat, k ≤ M.sz n ∧ i = .int .i64 k ∧ wr.ownsRow W0.heap.size 3 1 v (M.pts (fun k => k.testBit j) k).length (nats (M.pts (fun k => k.testBit j) k)) ∧ Blk wr (w.heap.size) #[.int .i64 0, .int .u64 0] 24 ∧ Below w.heap.size w wr ∧ W0.heap.size ≤ wr.heap.size)
    (fun _ i _ => M.sz n - (intOf i).toNat)
  case atStart => exact ⟨0, Nat.zero_le _, rfl, World.ownsRow_nil _ _ _ _, W0b0, W0B, Nat.le_refl _⟩
  case round =>
    obtain ⟨k, hk, rfl, hown, a0, hB, hW⟩ := hrel
    have hlen := M.pts_length_le (fun k => k.testBit j) k
    have cl0 := (a0).lt
    have c0 := (a0).cell 0
    have cf0 := (a0).frozen 0
    have c1 := (a0).cell 1
    have cf1 := (a0).frozen 1
    simp only [List.getElem?_toArray, List.getElem?_cons_zero, List.getElem?_cons_succ] at c0 c1
    by_cases hlt : k < M.sz n
    · have hA1 := (rHas_any k j (by omega) (by omega) wr).mono (fun e w' h => (⟨h.1, h.2 ▸ Below.refl _ _⟩ : e = _ ∧ Below wr.heap.size wr w'))
      cases hq : k.testBit j
      · rw [show k.testBit j = false by simpa using hq] at hA1
        replace hq := Lib.hid hq
        go_wp2_with (first
          | (go_at_call 46; refine (rSize_any n _ hn).mono ?_; rintro e w' ⟨rfl, hw'⟩; obtain rfl := hw'.symm)
          | (go_at_call 76; refine hA1.mono ?_; rintro e w9 ⟨rfl, hB9⟩))
        go_roundw
        case rel => exact ⟨k + 1, by omega, by go_num, by rw [M.pts_succ_f (p := (fun k => k.testBit j)) hq.out]; exact ownsRow_below hown hB9, a0.ext hB9, hB.trans (hB9.mono (by omega)), by have := hB9.size; omega⟩
        case measure => simp [intOf]; omega
      · rw [show k.testBit j = true by simpa using hq] at hA1
        replace hq := Lib.hid hq
        go_wp2_with (first
          | (go_at_call 46; refine (rSize_any n _ hn).mono ?_; rintro e w' ⟨rfl, hw'⟩; obtain rfl := hw'.symm)
          | (go_at_call 76; refine hA1.mono ?_; rintro e w9 ⟨rfl, hB9⟩; have hw9 := hB9.size; have hown9 := ownsRow_below hown hB9; have a09 := a0.ext hB9)
          | (at_builtin; refine app1 elInts rfl _ _ rfl W0.heap.size rfl hown9 [.int .i64 k] rfl rfl (by simp [Value.oneCell']) (by omega) (by omega) ?_; rintro _ w3 hown3 hg3 ⟨g3, c3, rfl⟩))
        go_roundw
        case rel => exact ⟨k + 1, by omega, by go_num, by rw [M.pts_succ_t (p := (fun k => k.testBit j)) hq.out]; simpa [nats] using hown3, a09.app hg3 hown9 (by omega), Below.app (hB.trans (hB9.mono (by omega))) hg3 hown9 (by omega) (by omega), by have := hg3.size; omega⟩
        case measure => simp [intOf]; omega
    · obtain rfl : k = M.sz n := by omega
      go_wp2_with (first
        | (go_at_call 46; refine (rSize_any n _ hn).mono ?_; rintro e w' ⟨rfl, hw'⟩; obtain rfl := hw'.symm)
        | (go_at_call 53; refine (rMade_own n hn (fun k => k.testBit j) _ _ _ hown).mono ?_; rintro e w2 ⟨rfl, hb2⟩; have hz2 := hb2.size; have x0 := (a0.ext hb2).cell 0; have x1 := (a0.ext hb2).cell 1; have x2 := (a0.ext hb2).frozen 0; have x3 := (a0.ext hb2).frozen 1; simp only [List.getElem?_toArray, List.getElem?_cons_zero, List.getElem?_cons_succ] at x0 x1))
      generalize hW3 : World.setCell (World.setCell _ _ _) _ _ = W3
      have R1 : Blk W3 (w.heap.size) #[.int .i64 n, .int .u64 (M.mkB (fun k => k.testBit j) (M.sz n))] 24 := by
        rw [← hW3]; exact ((a0.ext hb2).set 0 _).set 1 _
      have ql0 := (R1).lt
      have q0 := (R1).cell 0
      have qf0 := (R1).frozen 0
      have q1 := (R1).cell 1
      have qf1 := (R1).frozen 1
      simp only [List.getElem?_toArray, List.getElem?_cons_zero, List.getElem?_cons_succ] at q0 q1
      refine bodyPost_ret (v := .agg #[.int .i64 n, .int .u64 (M.mkB (fun k => k.testBit j) (M.sz n))]) ?_ rfl ⟨rfl, ?_⟩
      · simp [results, Tryd.results77, go_sem, q0, q1]
      · rw [← hW3]
        exact ((hB.trans (hb2.mono hB.size)).setCell (by simp) _).setCell (by simp) _
theorem rWith_b (k i : Nat) (v : Bool) (hk : k < 64) (hi : i < 6) (w : World) :
    Calls Tryd.prog 71 #[.int .i64 k, .int .i64 i, .bool v] w fun e w' => e = .returned (.int .i64 (T.setb k i v)) ∧ Below w.heap.size w w' :=
  (rWith_any k i v hk hi w).mono fun e w' h => ⟨h.1, h.2 ▸ Below.refl _ _⟩

set_option maxRecDepth 100000 in
set_option maxHeartbeats 1000000 in
theorem rFixed_any (n b j : Nat) (x : Bool) (hn : n ≤ 6) (hb : b < 2 ^ 64) (hj : j < 6) (w : World) :
    Calls Tryd.prog 70 #[.agg #[.int .i64 n, .int .u64 b], .int .i64 j, .bool x] w fun e w' => e = .returned (.agg #[.int .i64 n, .int .u64 (T.fixB b j x (M.sz n))]) ∧ Below w.heap.size w w' := by
  obtain ⟨W0, HW0⟩ : ∃ W0, ((w.alloc (.cells #[.int .i64 n, .int .u64 b] 24)).alloc (.cells #[.int .i64 0, .int .u64 0] 24)) = W0 := ⟨_, rfl⟩
  have sW0 : W0.heap.size = w.heap.size + 2 := by rw [← HW0]; simp only [World.size_alloc]
  have W0b0 : Blk W0 (w.heap.size) #[.int .i64 n, .int .u64 b] 24 := by
    rw [← HW0]; repeat (first | (refine Blk.new' ?_; first | rfl | (simp only [World.size_alloc]; done)) | refine Blk.alloc ?_ _)
  have W0b1 : Blk W0 (w.heap.size + 1) #[.int .i64 0, .int .u64 0] 24 := by
    rw [← HW0]; repeat (first | (refine Blk.new' ?_; first | rfl | (simp only [World.size_alloc]; done)) | refine Blk.alloc ?_ _)
  have W0B : Below w.heap.size w W0 := by
    rw [← HW0]
    repeat (first
      | exact Below.refl _ _
      | assumption
      | refine Below.drew ?_
      | refine below_drewN ?_ _
      | refine Below.setCell ?_ (by first | (simp only [World.size_alloc, sz_setCell, sz_drew, sz_drewN, sz_putObj] at *; omega) | omega | (simp; omega) | simp) _
      | refine Below.alloc ?_ (by first | (simp only [World.size_alloc, sz_setCell, sz_drew, sz_drewN, sz_putObj] at *; omega) | omega | (simp; omega) | simp) _
      | refine Below.trans ?_ (Below.mono (by assumption) (by first | (simp only [World.size_alloc, sz_setCell, sz_drew, sz_drewN, sz_putObj] at *; omega) | omega | (simp; omega) | simp)))
  replace HW0 := Lib.hid HW0
  have h64 := M.sz_le hn
  go_enter Tryd.func70, Tryd.ntmps70
  go_wp2_with (fail)
  rw [HW0.out]
  go_loopw [7, 8] (fun v i wr => ∃ k : Nat, k ≤ M.sz n ∧ i = .int .i64 k ∧ wr.ownsRow W0.heap.size 3 1 v (M.pts (fun k => b.testBit (T.setb k j x)) k).length (nats (M.pts (fun k => b.testBit (T.setb k j x)) k)) ∧ Blk wr (w.heap.size) #[.int .i64 n, .int .u64 b] 24 ∧ Blk wr (w.heap.size + 1) #[.int .i64 0, .int .u64 0] 24 ∧ Below w.heap.size w wr ∧ W0.heap.size ≤ wr.heap.size)
    (fun _ i _ => M.sz n - (intOf i).toNat)
  case atStart => exact ⟨0, Nat.zero_le _, rfl, World.ownsRow_nil _ _ _ _, W0b0, W0b1, W0B, Nat.le_refl _⟩
  case round =>
    obtain ⟨k, hk, rfl, hown, a0, a1, hB, hW⟩ := hrel
    have hlen := M.pts_length_le (fun k => b.testBit (T.setb k j x)) k
    have cl0 := (a0).lt
    have c0 := (a0).cell 0
    have cf0 := (a0).frozen 0
    have c1 := (a0).cell 1
    have cf1 := (a0).frozen 1
    have cl2 := (a1).lt
    have c2 := (a1).cell 0
    have cf2 := (a1).frozen 0
    have c3 := (a1).cell 1
    have cf3 := (a1).frozen 1
    simp only [List.getElem?_toArray, List.getElem?_cons_zero, List.getElem?_cons_succ] at c0 c1 c2 c3
    by_cases hlt : k < M.sz n
    · have hs : T.setb k j x < 64 := T.setb_lt (n := 6) x (by omega) hj
      have hA1 := rAt_any n b (T.setb k j x) hb hs
      cases hq : b.testBit (T.setb k j x)
      · simp only [hq] at hA1
        replace hq := Lib.hid hq
        go_wp2_with (go_at_call 46; refine (rSize_any n _ hn).mono ?_; rintro e w' ⟨rfl, hw'⟩; obtain rfl := hw'.symm)
        go_region_held3 (fun W9 => Below wr.heap.size wr W9 ∧ W9.cell? ⟨w.heap.size, 0, none⟩ = some (.int .i64 n) ∧ W9.cell? ⟨w.heap.size, 1, none⟩ = some (.int .u64 b)) (first | exact ⟨hB9, (hB9.cell (p := ⟨w.heap.size, 0, none⟩) cl0).trans c0, (hB9.cell (p := ⟨w.heap.size, 1, none⟩) cl0).trans c1⟩ | exact ⟨(Below.refl _ _).drew, c0, c1⟩)
          (first | (go_at_call 71; refine (later (rWith_b k j x (by omega) hj _) (by go_split_ands; assumption) (Nat.le_refl _)).mono ?_; rintro e w9 ⟨rfl, hB9⟩) | (go_at_call 63; refine (later (hA1 _) (by go_split_ands; assumption) (Nat.le_refl _)).mono ?_; rintro e w9 ⟨rfl, hB9⟩))
        have hw9 := hB9.size
        go_wp2_with (fail)
        go_roundw
        case rel => exact ⟨k + 1, by omega, by go_num, by rw [M.pts_succ_f (p := (fun k => b.testBit (T.setb k j x))) hq.out]; exact ownsRow_below hown hB9, a0.ext hB9, a1.ext hB9, hB.trans (hB9.mono (by omega)), by omega⟩
        case measure => simp [intOf]; omega
      · simp only [hq] at hA1
        replace hq := Lib.hid hq
        go_wp2_with (go_at_call 46; refine (rSize_any n _ hn).mono ?_; rintro e w' ⟨rfl, hw'⟩; obtain rfl := hw'.symm)
        go_region_held3 (fun W9 => Below wr.heap.size wr W9 ∧ W9.cell? ⟨w.heap.size, 0, none⟩ = some (.int .i64 n) ∧ W9.cell? ⟨w.heap.size, 1, none⟩ = some (.int .u64 b)) (first | exact ⟨hB9, (hB9.cell (p := ⟨w.heap.size, 0, none⟩) cl0).trans c0, (hB9.cell (p := ⟨w.heap.size, 1, none⟩) cl0).trans c1⟩ | exact ⟨(Below.refl _ _).drew, c0, c1⟩)
          (first | (go_at_call 71; refine (later (rWith_b k j x (by omega) hj _) (by go_split_ands; assumption) (Nat.le_refl _)).mono ?_; rintro e w9 ⟨rfl, hB9⟩) | (go_at_call 63; refine (later (hA1 _) (by go_split_ands; assumption) (Nat.le_refl _)).mono ?_; rintro e w9 ⟨rfl, hB9⟩))
        have hw9 := hB9.size
        have hown9 := ownsRow_below hown hB9
        have a09 := a0.ext hB9; have a19 := a1.ext hB9
        go_wp2_with (at_builtin; refine app1 elInts rfl _ _ rfl W0.heap.size rfl hown9 [.int .i64 k] rfl rfl (by simp [Value.oneCell']) (by omega) (by omega) ?_; rintro _ w3 hown3 hg3 ⟨g3, c3, rfl⟩)
        go_roundw
        case rel => exact ⟨k + 1, by omega, by go_num, by rw [M.pts_succ_t (p := (fun k => b.testBit (T.setb k j x))) hq.out]; simpa [nats] using hown3, a09.app hg3 hown9 (by omega), a19.app hg3 hown9 (by omega), Below.app (hB.trans (hB9.mono (by omega))) hg3 hown9 (by omega) (by omega), by have := hg3.size; omega⟩
        case measure => simp [intOf]; omega
    · obtain rfl : k = M.sz n := by omega
      go_wp2_with (first
        | (go_at_call 46; refine (rSize_any n _ hn).mono ?_; rintro e w' ⟨rfl, hw'⟩; obtain rfl := hw'.symm)
        | (go_at_call 53; refine (rMade_own n hn (fun k => b.testBit (T.setb k j x)) _ _ _ hown).mono ?_; rintro e w2 ⟨rfl, hb2⟩; have hz2 := hb2.size; have x0 := (a1.ext hb2).cell 0; have x1 := (a1.ext hb2).cell 1; have x2 := (a1.ext hb2).frozen 0; have x3 := (a1.ext hb2).frozen 1; simp only [List.getElem?_toArray, List.getElem?_cons_zero, List.getElem?_cons_succ] at x0 x1))
      generalize hW3 : World.setCell (World.setCell _ _ _) _ _ = W3
      have R1 : Blk W3 (w.heap.size + 1) #[.int .i64 n, .int .u64 (M.mkB (fun k => b.testBit (T.setb k j x)) (M.sz n))] 24 := by
        rw [← hW3]; exact ((a1.ext hb2).set 0 _).set 1 _
      have ql0 := (R1).lt
      have q0 := (R1).cell 0
      have qf0 := (R1).frozen 0
      have q1 := (R1).cell 1
      have qf1 := (R1).frozen 1
      simp only [List.getElem?_toArray, List.getElem?_cons_zero, List.getElem?_cons_succ] at q0 q1
      refine bodyPost_ret (v := .agg #[.int .i64 n, .int .u64 (M.mkB (fun k => b.testBit (T.setb k j x)) (M.sz n))]) ?_ rfl ⟨rfl, ?_⟩
      · simp [results, Tryd.results70, go_sem, q0, q1]
      · rw [← hW3]
        exact ((hB.trans (hb2.mono hB.size)).setCell (by simp) _).setCell (by simp) _

end Go.Proofs.YtdkhdkldjpaadaaDoor
