/- Contracts of the reference of layer 4: Check, With, On, Made. -/
import Derived.Test.YtmncplgccielbaaDoorTruth8
set_option maxHeartbeats 1000000
set_option maxRecDepth 4000
set_option linter.unusedSimpArgs false
set_option linter.unusedVariables false
set_option linter.unusedSectionVars false
namespace Go.Proofs.YtmncplgccielbaaDoor
open Go.RowKit Go.Shelf

set_option maxHeartbeats 400000 in
theorem rCheck_any (N : Int) (b : Nat) (hb : b < 2 ^ 64) (w : World) :
    Calls Tryd.prog 4 #[.agg #[.int .i64 N, .int .u64 b]] w fun e w' => e = .returned (.int .i64 (T.chk N b)) ∧ Below w.heap.size w w' := by
  by_cases h : 0 ≤ N ∧ N ≤ 6
  · obtain ⟨n, rfl⟩ := Int.eq_ofNat_of_zero_le h.1
    have h2 : n ≤ 6 := by omega
    have HC : Hid (T.chk n b = if b < 2 ^ M.sz n then 0 else 3) := by unfold T.chk; rw [if_pos h]; rfl
    have h1' : ¬ ((n : Int) < 0) := by omega
    have h2' : ¬ (6 < (n : Int)) := by omega
    have h64 := M.sz_le h2
    clear h
    go_enter Tryd.func4, Tryd.ntmps4
    go_wp2_with (first | (go_at_call 10; refine (rSize_any n _ h2).mono ?_; rintro e w' ⟨rfl, hw'⟩; obtain rfl := hw'.symm))
    go_loop [3] (fun i => ∃ k : Nat, M.sz n ≤ k ∧ k ≤ 64 ∧ i = .int .i64 k ∧ ∀ j, M.sz n ≤ j → j < k → b.testBit j = false) (fun i => 64 - (intOf i).toNat)
    case atStart => exact ⟨M.sz n, Nat.le_refl _, h64, rfl, fun j h1 h2 => by omega⟩
    case round =>
      obtain ⟨k, hk1, hk2, rfl, hall⟩ := hrel
      replace hall := Lib.hid hall
      by_cases hlt : k < 64
      · have hbit := bit_u64 b k hb
        cases hbk : b.testBit k
        · rw [hbk] at hbit
          go_wp2
          go_round
          case rel => exact ⟨k + 1, by omega, by omega, by go_num, fun j h1 h2 => by
            by_cases e : j = k
            · rw [e]; exact hbk
            · exact hall.out j h1 (by omega)⟩
          case measure => simp [intOf]; omega
        · rw [hbk] at hbit
          go_wp2
          go_ret
          refine ⟨ret_u ?_, ?_⟩
          · rw [HC.out, if_neg]
            intro hlt'
            rw [Nat.testBit_lt_two_pow (Nat.lt_of_lt_of_le hlt' (Nat.pow_le_pow_right (by omega) hk1))] at hbk
            cases hbk
          · skip
            repeat (first
              | exact Below.refl _ _
              | assumption
              | refine Below.drew ?_
              | refine below_drewN ?_ _
              | refine Below.setCell ?_ (by first | (simp only [World.size_alloc, sz_setCell, sz_drew, sz_drewN, sz_putObj] at *; omega) | omega | (simp; omega) | simp) _
              | refine Below.alloc ?_ (by first | (simp only [World.size_alloc, sz_setCell, sz_drew, sz_drewN, sz_putObj] at *; omega) | omega | (simp; omega) | simp) _
              | refine Below.trans ?_ (Below.mono (by assumption) (by first | (simp only [World.size_alloc, sz_setCell, sz_drew, sz_drewN, sz_putObj] at *; omega) | omega | (simp; omega) | simp)))
      · obtain rfl : k = 64 := by omega
        go_wp2
        go_ret
        refine ⟨ret_u ?_, ?_⟩
        · rw [HC.out, if_pos]
          apply M.lt_of_testBit
          intro j hj
          by_cases e : j < 64
          · exact hall.out j hj e
          · exact Nat.testBit_lt_two_pow (Nat.lt_of_lt_of_le hb (Nat.pow_le_pow_right (by omega) (by omega)))
        · skip
          repeat (first
            | exact Below.refl _ _
            | assumption
            | refine Below.drew ?_
            | refine below_drewN ?_ _
            | refine Below.setCell ?_ (by first | (simp only [World.size_alloc, sz_setCell, sz_drew, sz_drewN, sz_putObj] at *; omega) | omega | (simp; omega) | simp) _
            | refine Below.alloc ?_ (by first | (simp only [World.size_alloc, sz_setCell, sz_drew, sz_drewN, sz_putObj] at *; omega) | omega | (simp; omega) | simp) _
            | refine Below.trans ?_ (Below.mono (by assumption) (by first | (simp only [World.size_alloc, sz_setCell, sz_drew, sz_drewN, sz_putObj] at *; omega) | omega | (simp; omega) | simp)))
  · have HC : Hid (T.chk N b = 2) := by unfold T.chk; rw [if_neg h]; rfl
    by_cases h0 : N < 0
    · clear h
      go_enter Tryd.func4, Tryd.ntmps4
      go_wp2
      go_ret
      refine ⟨ret_u HC.out.symm, ?_⟩
      repeat (first
        | exact Below.refl _ _
        | assumption
        | refine Below.drew ?_
        | refine below_drewN ?_ _
        | refine Below.setCell ?_ (by first | (simp only [World.size_alloc, sz_setCell, sz_drew, sz_drewN, sz_putObj] at *; omega) | omega | (simp; omega) | simp) _
        | refine Below.alloc ?_ (by first | (simp only [World.size_alloc, sz_setCell, sz_drew, sz_drewN, sz_putObj] at *; omega) | omega | (simp; omega) | simp) _
        | refine Below.trans ?_ (Below.mono (by assumption) (by first | (simp only [World.size_alloc, sz_setCell, sz_drew, sz_drewN, sz_putObj] at *; omega) | omega | (simp; omega) | simp)))
    · have h1 : 6 < N := by omega
      clear h
      go_enter Tryd.func4, Tryd.ntmps4
      go_wp2
      go_ret
      refine ⟨ret_u HC.out.symm, ?_⟩
      repeat (first
        | exact Below.refl _ _
        | assumption
        | refine Below.drew ?_
        | refine below_drewN ?_ _
        | refine Below.setCell ?_ (by first | (simp only [World.size_alloc, sz_setCell, sz_drew, sz_drewN, sz_putObj] at *; omega) | omega | (simp; omega) | simp) _
        | refine Below.alloc ?_ (by first | (simp only [World.size_alloc, sz_setCell, sz_drew, sz_drewN, sz_putObj] at *; omega) | omega | (simp; omega) | simp) _
        | refine Below.trans ?_ (Below.mono (by assumption) (by first | (simp only [World.size_alloc, sz_setCell, sz_drew, sz_drewN, sz_putObj] at *; omega) | omega | (simp; omega) | simp)))

theorem with_fin : ∀ k : Fin 64, ∀ i : Fin 6, (k.val.testBit i.val = false → k.val + 2 ^ i.val = T.setb k.val i.val true) ∧ (k.val.testBit i.val = true → k.val = T.setb k.val i.val false + 2 ^ i.val) := by decide +kernel

/-- a list of numbers in memory of the call's own -/
def IntsR (w : World) (l : List Nat) (e : Ending) (w' : World) : Prop :=
  (∃ v, e = .returned v ∧ w'.ownsRow w.heap.size 3 1 v l.length (nats l)) ∧ Below w.heap.size w w'

end Go.Proofs.YtmncplgccielbaaDoor
