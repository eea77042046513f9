/- Contracts: Parse of package truth. -/
import Derived.Test.YtmncplgccielbaaDoorParse1
set_option maxHeartbeats 1000000
set_option maxRecDepth 4000
set_option linter.unusedSimpArgs false
set_option linter.unusedVariables false
set_option linter.unusedSectionVars false
namespace Go.Proofs.YtmncplgccielbaaDoor
open Go.RowKit Go.Shelf

theorem mkB_ones_lt (l : List UInt8) (k : Nat) (hk : k ≤ 64) : M.mkB (T.ones l) k < 2 ^ 64 := Nat.lt_of_lt_of_le (M.mkB_lt _ _) (Nat.pow_le_pow_right (by omega) hk)

set_option maxRecDepth 100000 in
set_option maxHeartbeats 2000000 in
theorem tParse_any (s : ByteArray) (w : World) (hT : Tab w) :
    Calls Tryd.prog 9 #[.string s] w fun e w' => e = .returned (tabE (T.parseS s.data.toList)) ∧ Below w.heap.size w w' := by
  obtain ⟨⟨l⟩⟩ := s
  have hsz : (ByteArray.mk (Array.mk l)).size = l.length := rfl
  simp only
  by_cases hbig : 64 < l.length
  · have HC : Hid (T.parseS l = (0, 0, 17)) := Lib.hid (by unfold T.parseS; rw [if_pos hbig])
    obtain ⟨W0, HW0⟩ : ∃ W0, (w.alloc (.cells #[.int .i64 0, .int .u64 0] 24)) = W0 := ⟨_, rfl⟩
    have sW0 : W0.heap.size = w.heap.size + 1 := by rw [← HW0]; simp only [World.size_alloc]
    have W0b0 : Blk W0 (w.heap.size) #[.int .i64 0, .int .u64 0] 24 := by
      rw [← HW0]; repeat (first | (refine Blk.new' ?_; first | rfl | (simp only [World.size_alloc]; done)) | refine Blk.alloc ?_ _)
    have W0B : Below w.heap.size w W0 := by
      rw [← HW0]
      repeat (first
        | exact Below.refl _ _
        | assumption
        | refine Below.drew ?_
        | refine below_drewN ?_ _
        | refine Below.setCell ?_ (by first | (simp only [World.size_alloc, sz_setCell, sz_drew, sz_drewN, sz_putObj] at *; omega) | omega | (simp; omega) | simp) _
        | refine Below.alloc ?_ (by first | (simp only [World.size_alloc, sz_setCell, sz_drew, sz_drewN, sz_putObj] at *; omega) | omega | (simp; omega) | simp) _
        | refine Below.trans ?_ (Below.mono (by assumption) (by first | (simp only [World.size_alloc, sz_setCell, sz_drew, sz_drewN, sz_putObj] at *; omega) | omega | (simp; omega) | simp)))
    replace HW0 := Lib.hid HW0
    go_enter Tryd.func9, Tryd.ntmps9
    go_wp2_with (simp only [hsz])
    refine bodyPost_ret (v := tabE (T.parseS l)) ?_ rfl ⟨rfl, ?_⟩
    · rw [HC.out]; simp [results, Tryd.results9, go_sem]
    · skip
      repeat (first
        | exact Below.refl _ _
        | assumption
        | refine Below.drew ?_
        | refine below_drewN ?_ _
        | refine Below.setCell ?_ (by first | (simp only [World.size_alloc, sz_setCell, sz_drew, sz_drewN, sz_putObj] at *; omega) | omega | (simp; omega) | simp) _
        | refine Below.alloc ?_ (by first | (simp only [World.size_alloc, sz_setCell, sz_drew, sz_drewN, sz_putObj] at *; omega) | omega | (simp; omega) | simp) _
        | refine Below.trans ?_ (Below.mono (by assumption) (by first | (simp only [World.size_alloc, sz_setCell, sz_drew, sz_drewN, sz_putObj] at *; omega) | omega | (simp; omega) | simp)))
  · skip
    obtain ⟨W0, HW0⟩ : ∃ W0, ((w.alloc (.cells #[.int .i64 0, .int .u64 0] 24)).alloc (.cells #[.int .i64 0, .int .u64 0] 24)) = W0 := ⟨_, rfl⟩
    have sW0 : W0.heap.size = w.heap.size + 2 := by rw [← HW0]; simp only [World.size_alloc]
    have W0b0 : Blk W0 (w.heap.size) #[.int .i64 0, .int .u64 0] 24 := by
      rw [← HW0]; repeat (first | (refine Blk.new' ?_; first | rfl | (simp only [World.size_alloc]; done)) | refine Blk.alloc ?_ _)
    have W0b1 : Blk W0 (w.heap.size + 1) #[.int .i64 0, .int .u64 0] 24 := by
      rw [← HW0]; repeat (first | (refine Blk.new' ?_; first | rfl | (simp only [World.size_alloc]; done)) | refine Blk.alloc ?_ _)
    have W0B : Below w.heap.size w W0 := by
      rw [← HW0]
      repeat (first
        | exact Below.refl _ _
        | assumption
        | refine Below.drew ?_
        | refine below_drewN ?_ _
        | refine Below.setCell ?_ (by first | (simp only [World.size_alloc, sz_setCell, sz_drew, sz_drewN, sz_putObj] at *; omega) | omega | (simp; omega) | simp) _
        | refine Below.alloc ?_ (by first | (simp only [World.size_alloc, sz_setCell, sz_drew, sz_drewN, sz_putObj] at *; omega) | omega | (simp; omega) | simp) _
        | refine Below.trans ?_ (Below.mono (by assumption) (by first | (simp only [World.size_alloc, sz_setCell, sz_drew, sz_drewN, sz_putObj] at *; omega) | omega | (simp; omega) | simp)))
    replace HW0 := Lib.hid HW0
    have hconv := run_bytes_of_string (P := Tryd.prog) W0 9 53 5 ⟨⟨l⟩⟩ Tryd.underlying9 Tryd.underlying53 Tryd.underlying5
    rw [hsz] at hconv
    obtain ⟨W1, hW1⟩ : ∃ W1, (W0.drew.alloc (.cells (bytesRow ⟨⟨l⟩⟩ (grownCap W0 l.length 0 5)) 5 ((bytesRow ⟨⟨l⟩⟩ (grownCap W0 l.length 0 5)).size, (bytesRow ⟨⟨l⟩⟩ (grownCap W0 l.length 0 5)).size + 1))) = W1 := ⟨_, rfl⟩
    rw [hW1] at hconv
    have hB1 : Below W0.heap.size W0 W1 := by rw [← hW1]; exact (Below.refl _ _).drew.alloc (Nat.le_refl _) _
    have hz2 : W1.heap.size = W0.heap.size + 1 := by rw [← hW1]; simp
    have hc1 : ∀ j (hj : j < l.length), W1.cell? ⟨W0.heap.size, j, none⟩ = some (.int .u8 (l[j].toNat : Int)) := fun j hj => by
      rw [← hW1]
      have h := World.cell?_alloc_mark W0.drew (bytesRow ⟨⟨l⟩⟩ (grownCap W0 l.length 0 5)) 5 ((bytesRow ⟨⟨l⟩⟩ (grownCap W0 l.length 0 5)).size, (bytesRow ⟨⟨l⟩⟩ (grownCap W0 l.length 0 5)).size + 1) j
      rw [bytesRow_at ⟨⟨l⟩⟩ _ j (by simpa using hj)] at h
      exact h
    generalize grownCap W0 l.length 0 5 = cap at hconv
    clear hW1
    go_enter Tryd.func9, Tryd.ntmps9
    go_wp2_with (first | simp only [hsz] | rw [HW0.out] | rw [hconv])
    clear hconv
    rw [sW0] at hc1
    have hB10 : Below w.heap.size w W1 := W0B.trans (hB1.mono (by omega))
    have hz1 := hB1.size
    go_loopw [14] (fun i wr => ∃ k : Nat, k ≤ l.length ∧ i = .int .i64 k ∧ (∀ t (ht : t < l.length), t < k → T.isSign l[t] = true) ∧ Blk wr w.heap.size #[.int .i64 0, .int .u64 0] 24 ∧ Blk wr (w.heap.size + 1) #[.int .i64 0, .int .u64 (M.mkB (T.ones l) k)] 24 ∧ Below w.heap.size w wr ∧ Hid (∀ j (hj : j < l.length), wr.cell? ⟨w.heap.size + 2, j, none⟩ = some (.int .u8 (l[j].toNat : Int))) ∧ w.heap.size + 2 < wr.heap.size)
      (fun i _ => l.length - (intOf i).toNat)
    case atStart => exact ⟨0, Nat.zero_le _, rfl, fun t _ ht => by omega, W0b0.ext hB1, W0b1.ext hB1, hB10, Lib.hid hc1, by omega⟩
    case round =>
      obtain ⟨k, hk, rfl, hall, a0, a1, hB, hcl, hszr⟩ := hrel
      replace hall := Lib.hid hall
      have cl0 := (a0).lt
      have c0 := (a0).cell 0
      have cf0 := (a0).frozen 0
      have c1 := (a0).cell 1
      have cf1 := (a0).frozen 1
      have cl2 := (a1).lt
      have c2 := (a1).cell 0
      have cf2 := (a1).frozen 0
      have c3 := (a1).cell 1
      have cf3 := (a1).frozen 1
      simp only [List.getElem?_toArray, List.getElem?_cons_zero, List.getElem?_cons_succ] at c0 c1 c2 c3
      by_cases hlt : k < l.length
      · have hx := hcl.out k hlt
        obtain ⟨x, hxk⟩ : ∃ x, l[k].toNat = x := ⟨_, rfl⟩
        rw [hxk] at hx
        have hx8 : x < 256 := by rw [← hxk]; exact UInt8.toNat_lt _
        replace hxk := Lib.hid hxk
        have hsig : ∀ (_ : T.isSign l[k] = true), Hid (∀ t (ht : t < l.length), t < k + 1 → T.isSign l[t] = true) := fun h => Lib.hid fun t ht h1 => by
          by_cases e : t = k
          · subst e; exact h
          · exact hall.out t ht (by omega)
        by_cases h49 : (x : Int) = 49
        · have hon : T.ones l k = true := by
            unfold T.ones; rw [List.getElem?_eq_getElem hlt]
            have : l[k] = 49 := UInt8.toNat_inj.1 (by rw [hxk.out]; show x = 49; omega)
            rw [this]; rfl
          have hsg := hsig (by
            have : l[k] = 49 := UInt8.toNat_inj.1 (by rw [hxk.out]; show x = 49; omega)
            rw [this]; rfl)
          clear hsig
          have hmb := mkB_ones_lt l k (by omega)
          have hor := or_bit (M.mkB (T.ones l) k) k hmb (by omega)
          have hpw := wrap_pow k (by omega)
          rw [hpw] at hor
          rw [← M.mkB_succ_t hon] at hor
          generalize 2 ^ k = p at hpw hor
          replace hon := Lib.hid hon
          go_wp2_with (fail)
          refine wp_region_still_tail 6 (by kernel_rfl) (by kernel_rfl) ?_
          simp only [List.take_succ_cons, List.take_zero, List.drop_succ_cons, List.drop_zero]
          repeat (first | still_step)
          refine wpStill_nil ?_
          change wpList _ _ _ _ _ (World.drew _)
          go_wp2
          go_roundw
          case rel => exact ⟨k + 1, by omega, by go_num, hsg.out, (a0.setOther _ (by simp)).drew, (a1.set 1 _).drew, (hB.setCell (by simp) _).drew, Lib.hid fun j hj => (World.cell?_setCell_other _ _ _ _ (by simp)).trans (hcl.out j hj), by simp; omega⟩
          case measure => simp [intOf]; omega
        · have hon : T.ones l k = false := by
            unfold T.ones; rw [List.getElem?_eq_getElem hlt]
            have : l[k] ≠ 49 := fun e => h49 (by have := hxk.out; rw [e] at this; show (x : Int) = 49; rw [← this]; rfl)
            simpa using this
          have hstay := Lib.hid (M.mkB_succ_f hon)
          clear hon
          by_cases h48 : (x : Int) = 48
          · have hsg := hsig (by
              have : l[k] = 48 := UInt8.toNat_inj.1 (by rw [hxk.out]; show x = 48; omega)
              rw [this]; rfl)
            clear hsig
            go_wp2_with (fail)
            go_roundw
            case rel => exact ⟨k + 1, by omega, by go_num, hsg.out, a0, by rw [hstay.out]; exact a1, hB, hcl, hszr⟩
            case measure => simp [intOf]; omega
          · have HC : Hid (T.parseS l = (0, 0, 4)) := Lib.hid (by
              unfold T.parseS
              rw [if_neg hbig, if_neg]
              intro h
              have h1 := List.all_eq_true.1 h l[k] (List.getElem_mem hlt)
              unfold T.isSign at h1
              rcases Bool.or_eq_true_iff.1 h1 with h2 | h2
              · have : l[k] = 48 := by simpa using h2
                exact h48 (by have h3 := hxk.out; rw [this] at h3; rw [← h3]; rfl)
              · have : l[k] = 49 := by simpa using h2
                exact h49 (by have h3 := hxk.out; rw [this] at h3; rw [← h3]; rfl))
            clear hsig
            go_wp2_with (fail)
            generalize hW3 : World.setCell (World.setCell _ _ _) _ _ = W3
            have r1 : Blk W3 (w.heap.size) #[.int .i64 (0), .int .u64 ((0 : Nat))] 24 := by
              rw [← hW3]; exact ((a0).set 0 _).set 1 _
            have r2 := r1.cell 0
            have r3 := r1.cell 1
            refine bodyPost_ret (v := tabE (T.parseS l)) ?_ rfl ⟨rfl, ?_⟩
            · rw [HC.out]; simp [results, Tryd.results9, go_sem, r2, r3]
            · rw [← hW3]
              repeat (first
                | exact Below.refl _ _
                | assumption
                | refine Below.drew ?_
                | refine below_drewN ?_ _
                | refine Below.setCell ?_ (by first | (simp only [World.size_alloc, sz_setCell, sz_drew, sz_drewN, sz_putObj] at *; omega) | omega | (simp; omega) | simp) _
                | refine Below.alloc ?_ (by first | (simp only [World.size_alloc, sz_setCell, sz_drew, sz_drewN, sz_putObj] at *; omega) | omega | (simp; omega) | simp) _
                | refine Below.trans ?_ (Below.mono (by assumption) (by first | (simp only [World.size_alloc, sz_setCell, sz_drew, sz_drewN, sz_putObj] at *; omega) | omega | (simp; omega) | simp)))
      · obtain rfl : k = l.length := by omega
        have hO := fun W => ones_any l.length (by omega) W
        have hO1 := onesCount_expo ⟨l.length, by omega⟩
        simp only at hO1
        have hall1 : l.all T.isSign = true := List.all_eq_true.2 fun c hc => by
          obtain ⟨t, ht, rfl⟩ := List.getElem_of_mem hc
          exact hall.out t ht ht
        cases he : T.expo l.length with
        | none =>
          have HC : Hid (T.parseS l = (0, 0, 8)) := Lib.hid (by unfold T.parseS; rw [if_neg hbig, if_pos hall1, he])
          have hne : ¬ ((Lib.onesCount l.length : Nat) : Int) = 1 := fun h => hO1.1 (by omega) he
          clear hO1 he hall1
          generalize Lib.onesCount l.length = c at hO hne
          go_wp2_with (first | (go_at_call 24; refine (hO _).mono ?_; rintro e w' ⟨rfl, hw'⟩; obtain rfl := hw'.symm))
          generalize hW3 : World.setCell (World.setCell _ _ _) _ _ = W3
          have r1 : Blk W3 (w.heap.size) #[.int .i64 (0), .int .u64 ((0 : Nat))] 24 := by
            rw [← hW3]; exact ((a0).set 0 _).set 1 _
          have r2 := r1.cell 0
          have r3 := r1.cell 1
          refine bodyPost_ret (v := tabE (T.parseS l)) ?_ rfl ⟨rfl, ?_⟩
          · rw [HC.out]; simp [results, Tryd.results9, go_sem, r2, r3]
          · rw [← hW3]
            repeat (first
              | exact Below.refl _ _
              | assumption
              | refine Below.drew ?_
              | refine below_drewN ?_ _
              | refine Below.setCell ?_ (by first | (simp only [World.size_alloc, sz_setCell, sz_drew, sz_drewN, sz_putObj] at *; omega) | omega | (simp; omega) | simp) _
              | refine Below.alloc ?_ (by first | (simp only [World.size_alloc, sz_setCell, sz_drew, sz_drewN, sz_putObj] at *; omega) | omega | (simp; omega) | simp) _
              | refine Below.trans ?_ (Below.mono (by assumption) (by first | (simp only [World.size_alloc, sz_setCell, sz_drew, sz_drewN, sz_putObj] at *; omega) | omega | (simp; omega) | simp)))
        | some n =>
          obtain ⟨hn, hm⟩ := T.expo_some he
          have HC : Hid (T.parseS l = ((n : Int), M.mkB (T.ones l) l.length, 0)) := Lib.hid (by unfold T.parseS; rw [if_neg hbig, if_pos hall1, he])
          have h1 : ((Lib.onesCount l.length : Nat) : Int) = 1 := by rw [hO1.2 (by rw [he]; simp)]; rfl
          have hTr : Tab wr := hT.ext hB
          have hZ := tz_any n hn wr hTr
          rw [← hm] at hZ
          clear hO1 he hall1 hTr hm
          rw [h1] at hO
          go_wp2_with (first | (go_at_call 24; refine (hO _).mono ?_; rintro e w' ⟨rfl, hw'⟩; obtain rfl := hw'.symm) | (go_at_call 25; refine (hZ).mono ?_; rintro e w' ⟨rfl, hw'⟩; obtain rfl := hw'.symm))
          generalize hW3 : World.setCell (World.setCell _ _ _) _ _ = W3
          have r1 : Blk W3 (w.heap.size) #[.int .i64 (n), .int .u64 (M.mkB (T.ones l) l.length)] 24 := by
            rw [← hW3]; exact (((a0.setOther _ (by simp))).set 0 _).set 1 _
          have r2 := r1.cell 0
          have r3 := r1.cell 1
          refine bodyPost_ret (v := tabE (T.parseS l)) ?_ rfl ⟨rfl, ?_⟩
          · rw [HC.out]; simp [results, Tryd.results9, go_sem, r2, r3]
          · rw [← hW3]
            repeat (first
              | exact Below.refl _ _
              | assumption
              | refine Below.drew ?_
              | refine below_drewN ?_ _
              | refine Below.setCell ?_ (by first | (simp only [World.size_alloc, sz_setCell, sz_drew, sz_drewN, sz_putObj] at *; omega) | omega | (simp; omega) | simp) _
              | refine Below.alloc ?_ (by first | (simp only [World.size_alloc, sz_setCell, sz_drew, sz_drewN, sz_putObj] at *; omega) | omega | (simp; omega) | simp) _
              | refine Below.trans ?_ (Below.mono (by assumption) (by first | (simp only [World.size_alloc, sz_setCell, sz_drew, sz_drewN, sz_putObj] at *; omega) | omega | (simp; omega) | simp)))

end Go.Proofs.YtmncplgccielbaaDoor
