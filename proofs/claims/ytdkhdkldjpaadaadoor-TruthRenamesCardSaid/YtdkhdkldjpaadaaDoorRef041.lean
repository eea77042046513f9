/- Contracts of the reference of layer 4: Check, With, On, Made. -/
import Derived.Test.YtdkhdkldjpaadaaDoorTruth8
set_option maxHeartbeats 1000000
set_option maxRecDepth 4000
set_option linter.unusedSimpArgs false
set_option linter.unusedVariables false
namespace Go.Proofs.YtdkhdkldjpaadaaDoor
open Go.RowKit Go.Shelf

set_option maxHeartbeats 400000 in
theorem rCheck_any (N : Int) (b : Nat) (hb : b < 2 ^ 64) (w : World) :
    Calls Tryd.prog 24 #[.agg #[.int .i64 N, .int .u64 b]] w fun e w' => e = .returned (.int .i64 (T.chk N b)) ∧ Below w.heap.size w w' := by
  by_cases h : 0 ≤ N ∧ N ≤ 6
  · obtain ⟨n, rfl⟩ := Int.eq_ofNat_of_zero_le h.1
    have h2 : n ≤ 6 := by omega
    have HC : Hid (T.chk n b = if b < 2 ^ M.sz n then 0 else 3) := by unfold T.chk; rw [if_pos h]; rfl
    have h1' : ¬ ((n : Int) < 0) := by omega
    have h2' : ¬ (6 < (n : Int)) := by omega
    have h64 := M.sz_le h2
    clear h
    go_enter Tryd.func24, Tryd.ntmps24
    go_wp2_with (first | (go_at_call 46; refine (rSize_any n _ h2).mono ?_; rintro e w' ⟨rfl, hw'⟩; obtain rfl := hw'.symm))
    go_loop [3] (fun i => ∃ k : Nat, M.sz n ≤ k ∧ k ≤ 64 ∧ i = .int .i64 k ∧ ∀ j, M.sz n ≤ j → j < k → b.testBit j = false) (fun i => 64 - (intOf i).toNat)
    case atStart => exact ⟨M.sz n, Nat.le_refl _, h64, rfl, fun j h1 h2 => by omega⟩
    case round =>
      obtain ⟨k, hk1, hk2, rfl, hall⟩ := hrel
      replace hall := Lib.hid hall
      by_cases hlt : k < 64
      · have hbit := bit_u64 b k hb
        cases hbk : b.testBit k
        · rw [hbk] at hbit
          go_wp2
          go_round
          case rel => exact ⟨k + 1, by omega, by omega, by go_num, fun j h1 h2 => by
            by_cases e : j = k
            · rw [e]; exact hbk
            · exact hall.out j h1 (by omega)⟩
          case measure => simp [intOf]; omega
        · rw [hbk] at hbit
          go_wp2
          go_ret
          refine ⟨ret_u ?_, ?_⟩
          · rw [HC.out, if_neg]
            intro hlt'
            rw [Nat.testBit_lt_two_pow (Nat.lt_of_lt_of_le hlt' (Nat.pow_le_pow_right (by omega) hk1))] at hbk
            cases hbk
          · skip
            repeat (first
              | exact Below.refl _ _
              | assumption
              | refine Below.drew ?_
              | refine below_drewN ?_ _
              | refine Below.setCell ?_ (by first | (simp only [World.size_alloc, sz_setCell, sz_drew, sz_drewN, sz_putObj] at *; omega) | omega | (simp; omega) | simp) _
              | refine Below.alloc ?_ (by first | (simp only [World.size_alloc, sz_setCell, sz_drew, sz_drewN, sz_putObj] at *; omega) | omega | (simp; omega) | simp) _
              | refine Below.trans ?_ (Below.mono (by assumption) (by first | (simp only [World.size_alloc, sz_setCell, sz_drew, sz_drewN, sz_putObj] at *; omega) | omega | (simp; omega) | simp)))
      · obtain rfl : k = 64 := by omega
        go_wp2
        go_ret
        refine ⟨ret_u ?_, ?_⟩
        · rw [HC.out, if_pos]
          apply M.lt_of_testBit
          intro j hj
          by_cases e : j < 64
          · exact hall.out j hj e
          · exact Nat.testBit_lt_two_pow (Nat.lt_of_lt_of_le hb (Nat.pow_le_pow_right (by omega) (by omega)))
        · skip
          repeat (first
            | exact Below.refl _ _
            | assumption
            | refine Below.drew ?_
            | refine below_drewN ?_ _
            | refine Below.setCell ?_ (by first | (simp only [World.size_alloc, sz_setCell, sz_drew, sz_drewN, sz_putObj] at *; omega) | omega | (simp; omega) | simp) _
            | refine Below.alloc ?_ (by first | (simp only [World.size_alloc, sz_setCell, sz_drew, sz_drewN, sz_putObj] at *; omega) | omega | (simp; omega) | simp) _
            | refine Below.trans ?_ (Below.mono (by assumption) (by first | (simp only [World.size_alloc, sz_setCell, sz_drew, sz_drewN, sz_putObj] at *; omega) | omega | (simp; omega) | simp)))
  · have HC : Hid (T.chk N b = 2) := by unfold T.chk; rw [if_neg h]; rfl
    by_cases h0 : N < 0
    · clear h
      go_enter Tryd.func24, Tryd.ntmps24
      go_wp2
      go_ret
      refine ⟨ret_u HC.out.symm, ?_⟩
      repeat (first
        | exact Below.refl _ _
        | assumption
        | refine Below.drew ?_
        | refine below_drewN ?_ _
        | refine Below.setCell ?_ (by first | (simp only [World.size_alloc, sz_setCell, sz_drew, sz_drewN, sz_putObj] at *; omega) | omega | (simp; omega) | simp) _
        | refine Below.alloc ?_ (by first | (simp only [World.size_alloc, sz_setCell, sz_drew, sz_drewN, sz_putObj] at *; omega) | omega | (simp; omega) | simp) _
        | refine Below.trans ?_ (Below.mono (by assumption) (by first | (simp only [World.size_alloc, sz_setCell, sz_drew, sz_drewN, sz_putObj] at *; omega) | omega | (simp; omega) | simp)))
    · have h1 : 6 < N := by omega
      clear h
      go_enter Tryd.func24, Tryd.ntmps24
      go_wp2
      go_ret
      refine ⟨ret_u HC.out.symm, ?_⟩
      repeat (first
        | exact Below.refl _ _
        | assumption
        | refine Below.drew ?_
        | refine below_drewN ?_ _
        | refine Below.setCell ?_ (by first | (simp only [World.size_alloc, sz_setCell, sz_drew, sz_drewN, sz_putObj] at *; omega) | omega | (simp; omega) | simp) _
        | refine Below.alloc ?_ (by first | (simp only [World.size_alloc, sz_setCell, sz_drew, sz_drewN, sz_putObj] at *; omega) | omega | (simp; omega) | simp) _
        | refine Below.trans ?_ (Below.mono (by assumption) (by first | (simp only [World.size_alloc, sz_setCell, sz_drew, sz_drewN, sz_putObj] at *; omega) | omega | (simp; omega) | simp)))

theorem with_fin : ∀ k : Fin 64, ∀ i : Fin 6, (k.val.testBit i.val = false → k.val + 2 ^ i.val = T.setb k.val i.val true) ∧ (k.val.testBit i.val = true → k.val = T.setb k.val i.val false + 2 ^ i.val) := by decide +kernel

theorem rWith_any (k i : Nat) (v : Bool) (hk : k < 64) (hi : i < 6) (w : World) :
    Calls Tryd.prog 71 #[.int .i64 k, .int .i64 i, .bool v] w fun e w' => e = .returned (.int .i64 (T.setb k i v)) ∧ w' = w := by
  have hH := fun W => rHas_any k i hk (by omega) W
  have hf := with_fin ⟨k, hk⟩ ⟨i, hi⟩
  simp only at hf
  have hp := i64_wrap_pow i (by omega)
  have hp2 : 2 ^ i < 2 ^ 6 := pow_lt hi
  cases ht : k.testBit i
  · have hf1 := hf.1 ht
    rw [ht] at hH
    clear hf
    cases v
    · have HV : Hid (T.setb k i false = k) := by unfold T.setb; rw [if_pos ht]; rfl
      clear ht
      go_enter Tryd.func71, Tryd.ntmps71
      go_wp2_with (first | (go_at_call 76; refine (hH _).mono ?_; rintro e w' ⟨rfl, hw'⟩; obtain rfl := hw'.symm))
      go_ret
      exact ⟨ret_u (by rw [HV.out]), rfl⟩
    · generalize 2 ^ i = p at hp hf1 hp2
      have HV := Lib.hid hf1
      clear ht hf1
      go_enter Tryd.func71, Tryd.ntmps71
      go_wp2_with (first | (go_at_call 76; refine (hH _).mono ?_; rintro e w' ⟨rfl, hw'⟩; obtain rfl := hw'.symm))
      go_ret
      exact ⟨ret_u (by rw [← HV.out]; simp), rfl⟩
  · have hf1 := hf.2 ht
    rw [ht] at hH
    clear hf
    cases v
    · generalize 2 ^ i = p at hp hf1 hp2
      have HV := Lib.hid hf1
      have hle : p ≤ k := by omega
      clear ht hf1
      go_enter Tryd.func71, Tryd.ntmps71
      go_wp2_with (first | (go_at_call 76; refine (hH _).mono ?_; rintro e w' ⟨rfl, hw'⟩; obtain rfl := hw'.symm))
      go_ret
      exact ⟨ret_u (by have := HV.out; show (k : Int) - (p : Int) = _; omega), rfl⟩
    · have HV : Hid (T.setb k i true = k) := by unfold T.setb; rw [if_pos ht]; rfl
      clear ht hf1
      go_enter Tryd.func71, Tryd.ntmps71
      go_wp2_with (first | (go_at_call 76; refine (hH _).mono ?_; rintro e w' ⟨rfl, hw'⟩; obtain rfl := hw'.symm))
      go_ret
      exact ⟨ret_u (by rw [HV.out]), rfl⟩

/-- a list of numbers in memory of the call's own -/
def IntsR (w : World) (l : List Nat) (e : Ending) (w' : World) : Prop :=
  (∃ v, e = .returned v ∧ w'.ownsRow w.heap.size 3 1 v l.length (nats l)) ∧ Below w.heap.size w w'

set_option maxRecDepth 100000 in
set_option maxHeartbeats 1000000 in
theorem rOn_any (n b : Nat) (hn : n ≤ 6) (hb : b < 2 ^ 64) (w : World) :
    Calls Tryd.prog 78 #[.agg #[.int .i64 n, .int .u64 b]] w (IntsR w (M.pts b.testBit (M.sz n))) := by
  obtain ⟨W0, HW0⟩ : ∃ W0, (w.alloc (.cells #[.int .i64 n, .int .u64 b] 24)) = W0 := ⟨_, rfl⟩
  have sW0 : W0.heap.size = w.heap.size + 1 := by rw [← HW0]; simp only [World.size_alloc]
  have W0b0 : Blk W0 (w.heap.size) #[.int .i64 n, .int .u64 b] 24 := by
    rw [← HW0]; repeat (first | (refine Blk.new' ?_; first | rfl | (simp only [World.size_alloc]; done)) | refine Blk.alloc ?_ _)
  have W0B : Below w.heap.size w W0 := by
    rw [← HW0]
    repeat (first
      | exact Below.refl _ _
      | assumption
      | refine Below.drew ?_
      | refine below_drewN ?_ _
      | refine Below.setCell ?_ (by first | (simp only [World.size_alloc, sz_setCell, sz_drew, sz_drewN, sz_putObj] at *; omega) | omega | (simp; omega) | simp) _
      | refine Below.alloc ?_ (by first | (simp only [World.size_alloc, sz_setCell, sz_drew, sz_drewN, sz_putObj] at *; omega) | omega | (simp; omega) | simp) _
      | refine Below.trans ?_ (Below.mono (by assumption) (by first | (simp only [World.size_alloc, sz_setCell, sz_drew, sz_drewN, sz_putObj] at *; omega) | omega | (simp; omega) | simp)))
  replace HW0 := Lib.hid HW0
  have h64 := M.sz_le hn
  have hA := fun k hk => rAt_any n b k hb hk
  go_enter Tryd.func78, Tryd.ntmps78
  go_wp2_with (fail)
  rw [HW0.out]
  go_loopw [3, 4] (fun v i wr => ∃ k : Nat, k ≤ M.sz n ∧ i = .int .i64 k ∧ wr.ownsRow W0.heap.size 3 1 v (M.pts b.testBit k).length (nats (M.pts b.testBit k)) ∧ Blk wr w.heap.size #[.int .i64 n, .int .u64 b] 24 ∧ Below w.heap.size w wr ∧ W0.heap.size ≤ wr.heap.size)
    (fun _ i _ => M.sz n - (intOf i).toNat)
  case atStart => exact ⟨0, Nat.zero_le _, rfl, World.ownsRow_nil _ _ _ _, W0b0, W0B, Nat.le_refl _⟩
  case round =>
    obtain ⟨k, hk, rfl, hown, a0, hB, hW⟩ := hrel
    have hlen := M.pts_length_le b.testBit k
    have cl0 := (a0).lt
    have c0 := (a0).cell 0
    have cf0 := (a0).frozen 0
    have c1 := (a0).cell 1
    have cf1 := (a0).frozen 1
    simp only [List.getElem?_toArray, List.getElem?_cons_zero, List.getElem?_cons_succ] at c0 c1
    by_cases hlt : k < M.sz n
    · have hA1 := hA k (by omega) wr
      cases hq : b.testBit k
      · rw [hq] at hA1
        go_wp2_with (first
          | (go_at_call 46; refine (rSize_any n _ hn).mono ?_; rintro e w' ⟨rfl, rfl⟩)
          | (go_at_call 63; refine hA1.mono ?_; rintro e w9 ⟨rfl, hB9⟩))
        go_roundw
        case rel => exact ⟨k + 1, by omega, by go_num, by rw [M.pts_succ_f hq]; exact ownsRow_below hown hB9, a0.ext hB9, hB.trans (hB9.mono (by omega)), by have := hB9.size; omega⟩
        case measure => simp [intOf]; omega
      · rw [hq] at hA1
        go_wp2_with (first
          | (go_at_call 46; refine (rSize_any n _ hn).mono ?_; rintro e w' ⟨rfl, rfl⟩)
          | (go_at_call 63; refine hA1.mono ?_; rintro e w9 ⟨rfl, hB9⟩; have hw9 := hB9.size; have hown9 := ownsRow_below hown hB9; have a9 := a0.ext hB9)
          | (at_builtin; refine app1 elInts rfl _ _ rfl W0.heap.size rfl hown9 [.int .i64 k] rfl rfl (by simp [Value.oneCell']) (by omega) (by omega) ?_; rintro _ w3 hown3 hg3 ⟨g3, c3, rfl⟩))
        go_roundw
        case rel => exact ⟨k + 1, by omega, by go_num, by rw [M.pts_succ_t hq]; simpa [nats] using hown3, a9.app hg3 hown9 (by omega), Below.app (hB.trans (hB9.mono (by omega))) hg3 hown9 (by omega) (by omega), by have := hg3.size; omega⟩
        case measure => simp [intOf]; omega
    · obtain rfl : k = M.sz n := by omega
      go_wp2_with (first | (go_at_call 46; refine (rSize_any n _ hn).mono ?_; rintro e w' ⟨rfl, hw'⟩; obtain rfl := hw'.symm))
      go_ret
      exact ⟨⟨_, rfl, ownsRow_base hown (by omega)⟩, hB⟩

end Go.Proofs.YtdkhdkldjpaadaaDoor
