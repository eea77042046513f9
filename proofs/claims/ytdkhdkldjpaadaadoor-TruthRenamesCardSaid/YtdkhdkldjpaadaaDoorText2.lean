/- Contracts of the reference of layer 4: Written, Text. -/
import Derived.Test.YtdkhdkldjpaadaaDoorText1
import Derived.Test.YtdkhdkldjpaadaaDoorRef044
set_option maxHeartbeats 1000000
set_option maxRecDepth 4000
set_option linter.unusedSimpArgs false
set_option linter.unusedVariables false
namespace Go.Proofs.YtdkhdkldjpaadaaDoor
open Go.RowKit Go.Shelf

theorem bytes_snoc (l : List UInt8) (c : UInt8) : (⟨l.toArray⟩ : ByteArray) ++ ⟨#[c]⟩ = ⟨(l ++ [c]).toArray⟩ := by
  apply ByteArray.ext
  simp

set_option maxRecDepth 100000 in
set_option maxHeartbeats 1000000 in
theorem rWritten_any (n b : Nat) (hn : n ≤ 6) (hb : b < 2 ^ 64) (w : World) :
    Calls Tryd.prog 50 #[.agg #[.int .i64 n, .int .u64 b]] w fun e w' => e = .returned (.string ⟨(T.txtL b (M.sz n)).toArray⟩) ∧ Below w.heap.size w w' := by
  obtain ⟨W0, HW0⟩ : ∃ W0, (w.alloc (.cells #[.int .i64 n, .int .u64 b] 24)) = W0 := ⟨_, rfl⟩
  have sW0 : W0.heap.size = w.heap.size + 1 := by rw [← HW0]; simp only [World.size_alloc]
  have W0b0 : Blk W0 (w.heap.size) #[.int .i64 n, .int .u64 b] 24 := by
    rw [← HW0]; repeat (first | (refine Blk.new' ?_; first | rfl | (simp only [World.size_alloc]; done)) | refine Blk.alloc ?_ _)
  have W0B : Below w.heap.size w W0 := by
    rw [← HW0]
    repeat (first
      | exact Below.refl _ _
      | assumption
      | refine Below.drew ?_
      | refine below_drewN ?_ _
      | refine Below.setCell ?_ (by first | (simp only [World.size_alloc, sz_setCell, sz_drew, sz_drewN, sz_putObj] at *; omega) | omega | (simp; omega) | simp) _
      | refine Below.alloc ?_ (by first | (simp only [World.size_alloc, sz_setCell, sz_drew, sz_drewN, sz_putObj] at *; omega) | omega | (simp; omega) | simp) _
      | refine Below.trans ?_ (Below.mono (by assumption) (by first | (simp only [World.size_alloc, sz_setCell, sz_drew, sz_drewN, sz_putObj] at *; omega) | omega | (simp; omega) | simp)))
  replace HW0 := Lib.hid HW0
  have h64 := M.sz_le hn
  go_enter Tryd.func50, Tryd.ntmps50
  go_wp2_with (fail)
  rw [HW0.out]
  go_loopw [3, 4] (fun s i wr => ∃ k : Nat, k ≤ M.sz n ∧ i = .int .i64 k ∧ s = .string ⟨(T.txtL b k).toArray⟩ ∧ Blk wr (w.heap.size) #[.int .i64 n, .int .u64 b] 24 ∧ Below w.heap.size w wr)
    (fun _ i _ => M.sz n - (intOf i).toNat)
  case atStart => exact ⟨0, Nat.zero_le _, rfl, rfl, W0b0, W0B⟩
  case round =>
    obtain ⟨k, hk, rfl, rfl, a0, hB⟩ := hrel
    have hlen := T.txtL_length b k
    have cl0 := (a0).lt
    have c0 := (a0).cell 0
    have cf0 := (a0).frozen 0
    have c1 := (a0).cell 1
    have cf1 := (a0).frozen 1
    simp only [List.getElem?_toArray, List.getElem?_cons_zero, List.getElem?_cons_succ] at c0 c1
    by_cases hlt : k < M.sz n
    · have hA1 := rAt_any n b k hb (by omega) wr
      cases hq : b.testBit k
      · rw [hq] at hA1
        replace hq := Lib.hid hq
        go_wp2_with (first
          | (go_at_call 46; refine (rSize_any n _ hn).mono ?_; rintro e w' ⟨rfl, hw'⟩; obtain rfl := hw'.symm)
          | (go_at_call 63; refine hA1.mono ?_; rintro e w9 ⟨rfl, hB9⟩))
        go_roundw
        case rel => exact ⟨k + 1, by omega, by go_num, by rw [T.txtL_succ, hq.out, ← bytes_snoc]; rfl, a0.ext hB9, hB.trans (hB9.mono (by omega))⟩
        case measure => simp [intOf]; omega
      · rw [hq] at hA1
        replace hq := Lib.hid hq
        go_wp2_with (first
          | (go_at_call 46; refine (rSize_any n _ hn).mono ?_; rintro e w' ⟨rfl, hw'⟩; obtain rfl := hw'.symm)
          | (go_at_call 63; refine hA1.mono ?_; rintro e w9 ⟨rfl, hB9⟩))
        go_roundw
        case rel => exact ⟨k + 1, by omega, by go_num, by rw [T.txtL_succ, hq.out, ← bytes_snoc]; rfl, a0.ext hB9, hB.trans (hB9.mono (by omega))⟩
        case measure => simp [intOf]; omega
    · obtain rfl : k = M.sz n := by omega
      go_wp2_with (first
        | (go_at_call 46; refine (rSize_any n _ hn).mono ?_; rintro e w' ⟨rfl, hw'⟩; obtain rfl := hw'.symm))
      go_ret
      exact ⟨rfl, hB⟩

set_option maxHeartbeats 400000 in
theorem rText_any (N : Int) (b : Nat) (hb : b < 2 ^ 64) (w : World) :
    Calls Tryd.prog 13 #[.agg #[.int .i64 N, .int .u64 b]] w fun e w' => e = .returned (strE (T.textS N b)) ∧ Below w.heap.size w w' := by
  obtain ⟨W0, HW0⟩ : ∃ W0, (w.alloc (.cells #[.int .i64 N, .int .u64 b] 24)) = W0 := ⟨_, rfl⟩
  have sW0 : W0.heap.size = w.heap.size + 1 := by rw [← HW0]; simp only [World.size_alloc]
  have W0b0 : Blk W0 (w.heap.size) #[.int .i64 N, .int .u64 b] 24 := by
    rw [← HW0]; repeat (first | (refine Blk.new' ?_; first | rfl | (simp only [World.size_alloc]; done)) | refine Blk.alloc ?_ _)
  have W0B : Below w.heap.size w W0 := by
    rw [← HW0]
    repeat (first
      | exact Below.refl _ _
      | assumption
      | refine Below.drew ?_
      | refine below_drewN ?_ _
      | refine Below.setCell ?_ (by first | (simp only [World.size_alloc, sz_setCell, sz_drew, sz_drewN, sz_putObj] at *; omega) | omega | (simp; omega) | simp) _
      | refine Below.alloc ?_ (by first | (simp only [World.size_alloc, sz_setCell, sz_drew, sz_drewN, sz_putObj] at *; omega) | omega | (simp; omega) | simp) _
      | refine Below.trans ?_ (Below.mono (by assumption) (by first | (simp only [World.size_alloc, sz_setCell, sz_drew, sz_drewN, sz_putObj] at *; omega) | omega | (simp; omega) | simp)))
  replace HW0 := Lib.hid HW0
  have hC := rCheck_any N b hb W0
  rcases T.chk_cases N b with ⟨hR, h0⟩ | ⟨hR, h0 | h0⟩
  · rw [h0] at hC
    obtain ⟨n, rfl⟩ := Int.eq_ofNat_of_zero_le hR.1
    have hn : n ≤ 6 := by have := hR.2.1; omega
    have HC : Hid (T.textS n b = (T.txtL b (M.sz n), 0)) := Lib.hid (by unfold T.textS; rw [if_pos h0]; rfl)
    clear h0 hR
    go_enter Tryd.func13, Tryd.ntmps13
    go_wp2_with (first | (go_at_call 24; rw [HW0.out]; refine (hC).mono ?_; rintro e w' ⟨rfl, hb⟩; have hz := hb.size; have dl0 := (W0b0.ext hb).lt; have d0 := (W0b0.ext hb).cell 0; have df0 := (W0b0.ext hb).frozen 0; have d1 := (W0b0.ext hb).cell 1; have df1 := (W0b0.ext hb).frozen 1; simp only [List.getElem?_toArray, List.getElem?_cons_zero, List.getElem?_cons_succ] at d0 d1) | (go_at_call 50; refine (rWritten_any n b hn (by assumption) _).mono ?_; rintro e w2 ⟨rfl, hb2⟩; have hz2 := hb2.size; have d2l0 := ((W0b0.ext hb).ext hb2).lt; have d20 := ((W0b0.ext hb).ext hb2).cell 0; have d2f0 := ((W0b0.ext hb).ext hb2).frozen 0; simp only [List.getElem?_toArray, List.getElem?_cons_zero, List.getElem?_cons_succ] at d20))
    go_ret2
    refine ⟨ret_e (by rw [HC.out]; rfl), ?_⟩
    repeat (first
      | exact Below.refl _ _
      | assumption
      | refine Below.drew ?_
      | refine below_drewN ?_ _
      | refine Below.setCell ?_ (by first | (simp only [World.size_alloc, sz_setCell, sz_drew, sz_drewN, sz_putObj] at *; omega) | omega | (simp; omega) | simp) _
      | refine Below.alloc ?_ (by first | (simp only [World.size_alloc, sz_setCell, sz_drew, sz_drewN, sz_putObj] at *; omega) | omega | (simp; omega) | simp) _
      | refine Below.trans ?_ (Below.mono (by assumption) (by first | (simp only [World.size_alloc, sz_setCell, sz_drew, sz_drewN, sz_putObj] at *; omega) | omega | (simp; omega) | simp)))
  all_goals
    rw [h0] at hC
    have HC : Hid (T.textS N b = ([], T.chk N b)) := Lib.hid (by unfold T.textS; rw [if_neg (by omega)])
    rw [h0] at HC
    clear h0 hR
    go_enter Tryd.func13, Tryd.ntmps13
    go_wp2_with (first | (go_at_call 24; rw [HW0.out]; refine (hC).mono ?_; rintro e w' ⟨rfl, hb⟩; have hz := hb.size; have dl0 := (W0b0.ext hb).lt; have d0 := (W0b0.ext hb).cell 0; have df0 := (W0b0.ext hb).frozen 0; have d1 := (W0b0.ext hb).cell 1; have df1 := (W0b0.ext hb).frozen 1; simp only [List.getElem?_toArray, List.getElem?_cons_zero, List.getElem?_cons_succ] at d0 d1))
    go_ret2
    refine ⟨ret_e (by rw [HC.out]; rfl), ?_⟩
    repeat (first
      | exact Below.refl _ _
      | assumption
      | refine Below.drew ?_
      | refine below_drewN ?_ _
      | refine Below.setCell ?_ (by first | (simp only [World.size_alloc, sz_setCell, sz_drew, sz_drewN, sz_putObj] at *; omega) | omega | (simp; omega) | simp) _
      | refine Below.alloc ?_ (by first | (simp only [World.size_alloc, sz_setCell, sz_drew, sz_drewN, sz_putObj] at *; omega) | omega | (simp; omega) | simp) _
      | refine Below.trans ?_ (Below.mono (by assumption) (by first | (simp only [World.size_alloc, sz_setCell, sz_drew, sz_drewN, sz_putObj] at *; omega) | omega | (simp; omega) | simp)))

end Go.Proofs.YtdkhdkldjpaadaaDoor
