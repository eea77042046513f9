/- Contracts of package truth that return lists: Depends. -/
import Derived.Test.YtdkhdkldjpaadaaDoorTruth8
set_option maxHeartbeats 1000000
set_option maxRecDepth 4000
set_option linter.unusedSimpArgs false
set_option linter.unusedVariables false
namespace Go.Proofs.YtdkhdkldjpaadaaDoor
open Go.RowKit Go.Shelf

set_option maxRecDepth 100000 in
set_option maxHeartbeats 1000000 in
theorem tDepends_any (N : Int) (b : Nat) (hb : b < 2 ^ 64) (w : World) :
    Calls Tryd.prog 30 #[.agg #[.int .i64 N, .int .u64 b]] w (IntsE w (T.depS N b) (T.chk N b)) := by
  obtain ⟨W0, HW0⟩ : ∃ W0, (w.alloc (.cells #[.int .i64 N, .int .u64 b] 24)) = W0 := ⟨_, rfl⟩
  have sW0 : W0.heap.size = w.heap.size + 1 := by rw [← HW0]; simp only [World.size_alloc]
  have W0b0 : Blk W0 (w.heap.size) #[.int .i64 N, .int .u64 b] 24 := by
    rw [← HW0]; repeat (first | (refine Blk.new' ?_; first | rfl | (simp only [World.size_alloc]; done)) | refine Blk.alloc ?_ _)
  have W0B : Below w.heap.size w W0 := by
    rw [← HW0]
    repeat (first
      | exact Below.refl _ _
      | assumption
      | refine Below.drew ?_
      | refine below_drewN ?_ _
      | refine Below.setCell ?_ (by first | (simp only [World.size_alloc, sz_setCell, sz_drew, sz_drewN, sz_putObj] at *; omega) | omega | (simp; omega) | simp) _
      | refine Below.alloc ?_ (by first | (simp only [World.size_alloc, sz_setCell, sz_drew, sz_drewN, sz_putObj] at *; omega) | omega | (simp; omega) | simp) _
      | refine Below.trans ?_ (Below.mono (by assumption) (by first | (simp only [World.size_alloc, sz_setCell, sz_drew, sz_drewN, sz_putObj] at *; omega) | omega | (simp; omega) | simp)))
  replace HW0 := Lib.hid HW0
  have hC := tCheck_any N b W0 hb
  rcases T.chk_cases N b with ⟨hR, h0⟩ | ⟨hR, h0 | h0⟩
  · rw [h0] at hC
    obtain ⟨n, rfl⟩ := Int.eq_ofNat_of_zero_le hR.1
    have hn : n ≤ 6 := by have := hR.2.1; omega
    have HC : Hid (T.depS n b = T.depL n b) := Lib.hid (by unfold T.depS; rw [if_pos h0]; rfl)
    rw [h0]
    clear h0 hR
    go_enter Tryd.func30, Tryd.ntmps30
    go_wp2_with (first | (go_at_call 45; rw [HW0.out]; refine (hC).mono ?_; rintro e w' ⟨rfl, hb⟩; have hz := hb.size; have dl0 := (W0b0.ext hb).lt; have d0 := (W0b0.ext hb).cell 0; have df0 := (W0b0.ext hb).frozen 0; have d1 := (W0b0.ext hb).cell 1; have df1 := (W0b0.ext hb).frozen 1; simp only [List.getElem?_toArray, List.getElem?_cons_zero, List.getElem?_cons_succ] at d0 d1))
    have B0 := W0b0.ext hb
    have hB0 : Below w.heap.size w w' := by
      repeat (first
        | exact Below.refl _ _
        | assumption
        | refine Below.drew ?_
        | refine below_drewN ?_ _
        | refine Below.setCell ?_ (by first | (simp only [World.size_alloc, sz_setCell, sz_drew, sz_drewN, sz_putObj] at *; omega) | omega | (simp; omega) | simp) _
        | refine Below.alloc ?_ (by first | (simp only [World.size_alloc, sz_setCell, sz_drew, sz_drewN, sz_putObj] at *; omega) | omega | (simp; omega) | simp) _
        | refine Below.trans ?_ (Below.mono (by assumption) (by first | (simp only [World.size_alloc, sz_setCell, sz_drew, sz_drewN, sz_putObj] at *; omega) | omega | (simp; omega) | simp)))
    clear d0 d1 df0 df1
    go_loopw [5, 14] (fun v i wr => ∃ k : Nat, k ≤ n ∧ i = .int .i64 k ∧ wr.ownsRow w'.heap.size 3 1 v (M.pts (T.depP n b) k).length (nats (M.pts (T.depP n b) k)) ∧ Blk wr w.heap.size #[.int .i64 n, .int .u64 b] 24 ∧ Below w.heap.size w wr ∧ w'.heap.size ≤ wr.heap.size)
      (fun _ i _ => n - (intOf i).toNat)
    case atStart => exact ⟨0, Nat.zero_le _, rfl, World.ownsRow_nil _ _ _ _, B0, hB0, Nat.le_refl _⟩
    case round =>
      obtain ⟨k, hk, rfl, hown, a0, hB, hW⟩ := hrel
      have hlen := M.pts_length_le (T.depP n b) k
      have cl0 := (a0).lt
      have c0 := (a0).cell 0
      have cf0 := (a0).frozen 0
      have c1 := (a0).cell 1
      have cf1 := (a0).frozen 1
      simp only [List.getElem?_toArray, List.getElem?_cons_zero, List.getElem?_cons_succ] at c0 c1
      by_cases hlt : k < n
      · have hF := fun v => tFixed_any n b k v hn (by assumption) hlt
        obtain ⟨fx, hfx⟩ : ∃ fx : Bool → Nat, ∀ v, T.fixB b k v (M.sz n) = fx v := ⟨_, fun _ => rfl⟩
        simp only [hfx] at hF
        have HD : Hid (T.depP n b k = (fx false != fx true)) := Lib.hid (by unfold T.depP; rw [hfx, hfx])
        clear hfx
        by_cases he : (fx false : Int) = fx true
        all_goals
          go_wp2_with (fail)
          go_region_held3 (fun W9 => Below wr.heap.size wr W9 ∧ W9.cell? ⟨w.heap.size, 0, none⟩ = some (.int .i64 n) ∧ W9.cell? ⟨w.heap.size, 1, none⟩ = some (.int .u64 b)) (first | exact ⟨hB9, (hB9.cell (p := ⟨w.heap.size, 0, none⟩) cl0).trans c0, (hB9.cell (p := ⟨w.heap.size, 1, none⟩) cl0).trans c1⟩ | exact ⟨(Below.refl _ _).drew, c0, c1⟩)
            (first | (go_at_call 68; refine (later (hF _ _) (by go_split_ands; assumption) (Nat.le_refl _)).mono ?_; rintro e w9 ⟨rfl, hB9⟩))
          have hw9 := hB9.size
          have hB10 : Below w.heap.size wr w9 := hB9.mono (by omega)
          have hown9 := ownsRow_below hown hB9
          have a9 := a0.below hB9 cl0
          clear a0 hown hB9
        · have hd : T.depP n b k = false := by rw [HD.out]; simp only [bne_eq_false_iff_eq]; omega
          clear he HD
          go_wp2_with (fail)
          go_roundw
          case rel => exact ⟨k + 1, by omega, by go_num, by rw [M.pts_succ_f hd]; exact hown9, a9, hB.trans hB10, by omega⟩
          case measure => simp [intOf]; omega
        · have hd : T.depP n b k = true := by rw [HD.out]; simp only [bne_iff_ne, ne_eq]; omega
          clear he HD
          go_wp2_with (at_builtin; refine app1 elInts rfl _ _ rfl w'.heap.size rfl hown9 [.int .i64 k] rfl rfl (by simp [Value.oneCell']) (by omega) (by omega) ?_; rintro _ w3 hown3 hg3 ⟨g3, c3, rfl⟩)
          go_roundw
          case rel => exact ⟨k + 1, by omega, by go_num, by rw [M.pts_succ_t hd]; simpa [nats] using hown3, a9.app hg3 hown9 (by omega), Below.app (hB.trans hB10) hg3 hown9 (by omega) (by omega), by have := hg3.size; omega⟩
          case measure => simp [intOf]; omega
      · obtain rfl : k = n := by omega
        go_wp2_with (fail)
        refine bodyPost_ret (v := .tuple #[u5, .int .i64 0]) (by simp [results, Tryd.results30, go_sem]) rfl ⟨⟨_, rfl, ?_⟩, hB⟩
        rw [HC.out]
        exact ownsRow_base hown (by omega)
  all_goals
    rw [h0] at hC
    have HC : Hid (T.depS N b = []) := Lib.hid (by unfold T.depS; rw [if_neg (by omega)])
    rw [h0]
    clear h0 hR
    go_enter Tryd.func30, Tryd.ntmps30
    go_wp2_with (first | (go_at_call 45; rw [HW0.out]; refine (hC).mono ?_; rintro e w' ⟨rfl, hb⟩; have hz := hb.size; have dl0 := (W0b0.ext hb).lt; have d0 := (W0b0.ext hb).cell 0; have df0 := (W0b0.ext hb).frozen 0; have d1 := (W0b0.ext hb).cell 1; have df1 := (W0b0.ext hb).frozen 1; simp only [List.getElem?_toArray, List.getElem?_cons_zero, List.getElem?_cons_succ] at d0 d1))
    refine bodyPost_ret (v := .tuple #[.slice none 0 0, .int .i64 _]) (by simp [results, Tryd.results30, go_sem]) rfl ⟨⟨_, rfl, ?_⟩, ?_⟩
    · rw [HC.out]; exact World.ownsRow_nil _ _ _ _
    · skip
      repeat (first
        | exact Below.refl _ _
        | assumption
        | refine Below.drew ?_
        | refine below_drewN ?_ _
        | refine Below.setCell ?_ (by first | (simp only [World.size_alloc, sz_setCell, sz_drew, sz_drewN, sz_putObj] at *; omega) | omega | (simp; omega) | simp) _
        | refine Below.alloc ?_ (by first | (simp only [World.size_alloc, sz_setCell, sz_drew, sz_drewN, sz_putObj] at *; omega) | omega | (simp; omega) | simp) _
        | refine Below.trans ?_ (Below.mono (by assumption) (by first | (simp only [World.size_alloc, sz_setCell, sz_drew, sz_drewN, sz_putObj] at *; omega) | omega | (simp; omega) | simp)))

end Go.Proofs.YtdkhdkldjpaadaaDoor
