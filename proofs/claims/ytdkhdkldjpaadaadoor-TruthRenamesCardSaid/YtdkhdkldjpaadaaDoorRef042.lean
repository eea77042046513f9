/- Contracts of the reference of layer 4: Made. -/
import Derived.Test.YtdkhdkldjpaadaaDoorRef041
import Derived.StillTailTactics
set_option maxHeartbeats 1000000
set_option maxRecDepth 4000
set_option linter.unusedSimpArgs false
set_option linter.unusedVariables false
namespace Go.Proofs.YtdkhdkldjpaadaaDoor
open Go.RowKit Go.Shelf

set_option maxRecDepth 100000 in
set_option maxHeartbeats 1000000 in
theorem rMade_any (n : Nat) (hn : n ≤ 6) (l : List Nat) (v : Value) (w : World) (hv : Sl w w.heap.size v 1 l.length (nats l)) :
    Calls Tryd.prog 53 #[.int .i64 n, v] w fun e w' => e = .returned (.agg #[.int .i64 n, .int .u64 (M.mkB (fun k => decide (k ∈ l)) (M.sz n))]) ∧ Below w.heap.size w w' := by
  obtain ⟨hxs, a, cap, rfl, hcap1, hcap2, hcells⟩ := hv
  obtain ⟨W0, HW0⟩ : ∃ W0, ((w.alloc (.cells #[.int .i64 0, .int .u64 0] 24)).alloc (.cells #[.int .i64 n, .int .u64 0] 24)) = W0 := ⟨_, rfl⟩
  have sW0 : W0.heap.size = w.heap.size + 2 := by rw [← HW0]; simp only [World.size_alloc]
  have W0b0 : Blk W0 (w.heap.size) #[.int .i64 0, .int .u64 0] 24 := by
    rw [← HW0]; repeat (first | (refine Blk.new' ?_; first | rfl | (simp only [World.size_alloc]; done)) | refine Blk.alloc ?_ _)
  have W0b1 : Blk W0 (w.heap.size + 1) #[.int .i64 n, .int .u64 0] 24 := by
    rw [← HW0]; repeat (first | (refine Blk.new' ?_; first | rfl | (simp only [World.size_alloc]; done)) | refine Blk.alloc ?_ _)
  have W0B : Below w.heap.size w W0 := by
    rw [← HW0]
    repeat (first
      | exact Below.refl _ _
      | assumption
      | refine Below.drew ?_
      | refine below_drewN ?_ _
      | refine Below.setCell ?_ (by first | (simp only [World.size_alloc, sz_setCell, sz_drew, sz_drewN, sz_putObj] at *; omega) | omega | (simp; omega) | simp) _
      | refine Below.alloc ?_ (by first | (simp only [World.size_alloc, sz_setCell, sz_drew, sz_drewN, sz_putObj] at *; omega) | omega | (simp; omega) | simp) _
      | refine Below.trans ?_ (Below.mono (by assumption) (by first | (simp only [World.size_alloc, sz_setCell, sz_drew, sz_drewN, sz_putObj] at *; omega) | omega | (simp; omega) | simp)))
  replace HW0 := Lib.hid HW0
  have h64 := M.sz_le hn
  unfold maxLen at hcap2
  have hcells := Lib.hid hcells
  go_enter Tryd.func53, Tryd.ntmps53
  go_wp2_with (fail)
  rw [HW0.out]
  go_loopw [6] (fun i wr => ∃ k : Nat, k ≤ M.sz n ∧ i = .int .i64 k ∧ Blk wr w.heap.size #[.int .i64 0, .int .u64 0] 24 ∧ Blk wr (w.heap.size + 1) #[.int .i64 n, .int .u64 (M.mkB (fun k => decide (k ∈ l)) k)] 24 ∧ Below w.heap.size w wr)
    (fun i _ => M.sz n - (intOf i).toNat)
  case atStart => exact ⟨0, Nat.zero_le _, rfl, W0b0, W0b1, W0B⟩
  case round =>
    obtain ⟨k, hk, rfl, a0, a1, hB⟩ := hrel
    have cl0 := (a0).lt
    have c0 := (a0).cell 0
    have cf0 := (a0).frozen 0
    have c1 := (a0).cell 1
    have cf1 := (a0).frozen 1
    have cl2 := (a1).lt
    have c2 := (a1).cell 0
    have cf2 := (a1).frozen 0
    have c3 := (a1).cell 1
    have cf3 := (a1).frozen 1
    simp only [List.getElem?_toArray, List.getElem?_cons_zero, List.getElem?_cons_succ] at c0 c1 c2 c3
    by_cases hlt : k < M.sz n
    · skip
      go_wp2_with (first | (go_at_call 46; refine (rSize_any n _ hn).mono ?_; rintro e w' ⟨rfl, hw'⟩; obtain rfl := hw'.symm))
      obtain ⟨wo, rfl⟩ : ∃ wo : World, wo = wr := ⟨_, rfl⟩
      go_loop [7] (fun i => ∃ j : Nat, j ≤ l.length ∧ i = .int .i64 j ∧ ∀ t, t < j → l[t]? ≠ some k) (fun i => l.length - (intOf i).toNat)
      case atStart => exact ⟨0, Nat.zero_le _, rfl, fun t ht => by omega⟩
      case round =>
        obtain ⟨j, hj, rfl, hall⟩ := hrel
        replace hall := Lib.hid hall
        have wB := hB
        by_cases hjl : j < l.length
        · obtain ⟨b, off, rfl, hbl, hc⟩ := hcells.out (by omega)
          have hx : wo.cell? ⟨b, off + j, none⟩ = some (.int .i64 (l[j] : Int)) := by
            have := (hB.cell (p := ⟨b, off + j, none⟩) hbl).trans (hc j (by simpa using hjl))
            simpa [nats, hjl] using this
          obtain ⟨x, hxj⟩ : ∃ x, l[j] = x := ⟨_, rfl⟩
          rw [hxj] at hx
          replace hxj := Lib.hid hxj
          clear hc
          have hmb : M.mkB (fun k => decide (k ∈ l)) k < 2 ^ 64 := Nat.lt_of_lt_of_le (M.mkB_lt _ _) (Nat.pow_le_pow_right (by omega) (by omega))
          have hor := or_bit (M.mkB (fun k => decide (k ∈ l)) k) k hmb (by omega)
          have hpw := wrap_pow k (by omega)
          by_cases hxk : (x : Int) = k
          · obtain rfl : x = k := by omega
            have hin : decide (x ∈ l) = true := by
              have := hxj.out
              exact decide_eq_true (this ▸ List.getElem_mem hjl)
            rw [hpw] at hor
            rw [← M.mkB_succ_t (p := fun k => decide (k ∈ l)) hin] at hor
            generalize 2 ^ x = p at hpw hor
            go_wp2_with (fail)
            refine wp_region_still_tail 6 (by kernel_rfl) (by kernel_rfl) ?_
            simp only [List.take_succ_cons, List.take_zero, List.drop_succ_cons, List.drop_zero]
            repeat (first | still_step)
            refine wpStill_nil ?_
            change wpList _ _ _ _ _ (World.drew _)
            go_wp2
            go_roundw
            case rel => exact ⟨x + 1, by omega, by go_num, (a0.setOther _ (by simp)).drew, (a1.set 1 _).drew, (hB.setCell (by simp) _).drew⟩
            case measure => simp [intOf]; omega
          · have hne : ((x : Int) == k) = false := by simpa using hxk
            clear hpw hor
            go_wp2_with (fail)
            go_round
            case rel => exact ⟨j + 1, by omega, by go_num, fun t ht => by
              by_cases e : t = j
              · subst e; have := hxj.out; rw [List.getElem?_eq_getElem hjl, this]; intro h; injection h with h; omega
              · exact hall.out t (by omega)⟩
            case measure => simp [intOf]; omega
        · obtain rfl : j = l.length := by omega
          have hnin : decide (k ∈ l) = false := by
            apply decide_eq_false
            intro hmem
            obtain ⟨t, ht, he⟩ := List.getElem_of_mem hmem
            exact hall.out t ht (by rw [List.getElem?_eq_getElem ht, he])
          have hstay := Lib.hid (M.mkB_succ_f (p := fun k => decide (k ∈ l)) hnin)
          clear hnin
          go_wp2_with (fail)
          go_roundw
          case rel => exact ⟨k + 1, by omega, by go_num, a0, by rw [hstay.out]; exact a1, hB⟩
          case measure => simp [intOf]; omega
    · obtain rfl : k = M.sz n := by omega
      go_wp2_with (first | (go_at_call 46; refine (rSize_any n _ hn).mono ?_; rintro e w' ⟨rfl, hw'⟩; obtain rfl := hw'.symm))
      generalize hW3 : World.setCell (World.setCell _ _ _) _ _ = W3
      have R1 : Blk W3 (w.heap.size) #[.int .i64 n, .int .u64 (M.mkB (fun k => decide (k ∈ l)) (M.sz n))] 24 := by
        rw [← hW3]; exact (a0.set 0 _).set 1 _
      have ql0 := (R1).lt
      have q0 := (R1).cell 0
      have qf0 := (R1).frozen 0
      have q1 := (R1).cell 1
      have qf1 := (R1).frozen 1
      simp only [List.getElem?_toArray, List.getElem?_cons_zero, List.getElem?_cons_succ] at q0 q1
      refine bodyPost_ret (v := .agg #[.int .i64 n, .int .u64 (M.mkB (fun k => decide (k ∈ l)) (M.sz n))]) ?_ rfl ⟨rfl, ?_⟩
      · simp [results, Tryd.results53, go_sem, q0, q1]
      · rw [← hW3]
        exact (hB.setCell (by simp) _).setCell (by simp) _

end Go.Proofs.YtdkhdkldjpaadaaDoor
