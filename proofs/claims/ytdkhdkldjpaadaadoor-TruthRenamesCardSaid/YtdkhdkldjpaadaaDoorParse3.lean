/- Contracts: Parse of the reference of layer 4. -/
import Derived.Test.YtdkhdkldjpaadaaDoorParse1
set_option maxHeartbeats 1000000
set_option maxRecDepth 4000
set_option linter.unusedSimpArgs false
set_option linter.unusedVariables false
namespace Go.Proofs.YtdkhdkldjpaadaaDoor
open Go.RowKit Go.Shelf

theorem ones_succ_t {l : List UInt8} {k : Nat} (h : T.ones l k = true) : M.pts (T.ones l) (k + 1) = M.pts (T.ones l) k ++ [k] := M.pts_succ_t h

set_option maxRecDepth 100000 in
set_option maxHeartbeats 2000000 in
theorem rParse_any (s : ByteArray) (w : World) :
    Calls Tryd.prog 15 #[.string s] w fun e w' => e = .returned (tabE (T.parseS s.data.toList)) ∧ Below w.heap.size w w' := by
  obtain ⟨⟨l⟩⟩ := s
  have hsz : (ByteArray.mk (Array.mk l)).size = l.length := rfl
  simp only
  by_cases hbig : 64 < l.length
  · have HC : Hid (T.parseS l = (0, 0, 17)) := Lib.hid (by unfold T.parseS; rw [if_pos hbig])
    go_enter Tryd.func15, Tryd.ntmps15
    go_wp2_with (simp only [hsz])
    refine bodyPost_ret (v := tabE (T.parseS l)) ?_ rfl ⟨rfl, ?_⟩
    · rw [HC.out]; simp [results, Tryd.results15, go_sem]
    · skip
      repeat (first
        | exact Below.refl _ _
        | assumption
        | refine Below.drew ?_
        | refine below_drewN ?_ _
        | refine Below.setCell ?_ (by first | (simp only [World.size_alloc, sz_setCell, sz_drew, sz_drewN, sz_putObj] at *; omega) | omega | (simp; omega) | simp) _
        | refine Below.alloc ?_ (by first | (simp only [World.size_alloc, sz_setCell, sz_drew, sz_drewN, sz_putObj] at *; omega) | omega | (simp; omega) | simp) _
        | refine Below.trans ?_ (Below.mono (by assumption) (by first | (simp only [World.size_alloc, sz_setCell, sz_drew, sz_drewN, sz_putObj] at *; omega) | omega | (simp; omega) | simp)))
  · skip
    obtain ⟨W0, HW0⟩ : ∃ W0, (w.alloc (.cells #[.int .i64 0, .int .u64 0] 24)) = W0 := ⟨_, rfl⟩
    have sW0 : W0.heap.size = w.heap.size + 1 := by rw [← HW0]; simp only [World.size_alloc]
    have W0b0 : Blk W0 (w.heap.size) #[.int .i64 0, .int .u64 0] 24 := by
      rw [← HW0]; repeat (first | (refine Blk.new' ?_; first | rfl | (simp only [World.size_alloc]; done)) | refine Blk.alloc ?_ _)
    have W0B : Below w.heap.size w W0 := by
      rw [← HW0]
      repeat (first
        | exact Below.refl _ _
        | assumption
        | refine Below.drew ?_
        | refine below_drewN ?_ _
        | refine Below.setCell ?_ (by first | (simp only [World.size_alloc, sz_setCell, sz_drew, sz_drewN, sz_putObj] at *; omega) | omega | (simp; omega) | simp) _
        | refine Below.alloc ?_ (by first | (simp only [World.size_alloc, sz_setCell, sz_drew, sz_drewN, sz_putObj] at *; omega) | omega | (simp; omega) | simp) _
        | refine Below.trans ?_ (Below.mono (by assumption) (by first | (simp only [World.size_alloc, sz_setCell, sz_drew, sz_drewN, sz_putObj] at *; omega) | omega | (simp; omega) | simp)))
    replace HW0 := Lib.hid HW0
    go_enter Tryd.func15, Tryd.ntmps15
    go_wp2_with (first | simp only [hsz] | rw [HW0.out])
    go_loopw [4, 5] (fun v i wr => ∃ k : Nat, k ≤ l.length ∧ i = .int .i64 k ∧ (∀ t (ht : t < l.length), t < k → T.isSign l[t] = true) ∧ wr.ownsRow W0.heap.size 3 1 v (M.pts (T.ones l) k).length (nats (M.pts (T.ones l) k)) ∧ Blk wr w.heap.size #[.int .i64 0, .int .u64 0] 24 ∧ Below w.heap.size w wr ∧ W0.heap.size ≤ wr.heap.size)
      (fun _ i _ => l.length - (intOf i).toNat)
    case atStart => exact ⟨0, Nat.zero_le _, rfl, fun t _ ht => by omega, World.ownsRow_nil _ _ _ _, W0b0, W0B, Nat.le_refl _⟩
    case round =>
      obtain ⟨k, hk, rfl, hall, hown, a0, hB, hszr⟩ := hrel
      replace hall := Lib.hid hall
      have cl0 := (a0).lt
      have c0 := (a0).cell 0
      have cf0 := (a0).frozen 0
      have c1 := (a0).cell 1
      have cf1 := (a0).frozen 1
      simp only [List.getElem?_toArray, List.getElem?_cons_zero, List.getElem?_cons_succ] at c0 c1
      by_cases hlt : k < l.length
      · obtain ⟨x, hxk⟩ : ∃ x, ((ByteArray.mk (Array.mk l))[k]'hlt).toNat = x := ⟨_, rfl⟩
        have hxl : Hid (l[k].toNat = x) := Lib.hid hxk
        have hlen := M.pts_length_le (T.ones l) k
        have hsig : ∀ (_ : T.isSign l[k] = true), Hid (∀ t (ht : t < l.length), t < k + 1 → T.isSign l[t] = true) := fun h => Lib.hid fun t ht h1 => by
          by_cases e : t = k
          · subst e; exact h
          · exact hall.out t ht (by omega)
        by_cases h49 : (x : Int) = 49
        · have hc49 : l[k] = 49 := UInt8.toNat_inj.1 (by rw [hxl.out]; show x = 49; omega)
          have hon : Hid (T.ones l k = true) := Lib.hid (by unfold T.ones; rw [List.getElem?_eq_getElem hlt, hc49]; rfl)
          have hsg := hsig (by rw [hc49]; rfl)
          obtain rfl : x = 49 := by omega
          clear hsig hc49 h49
          go_wp2_with (at_builtin; refine app1 elInts rfl _ _ rfl W0.heap.size rfl hown [.int .i64 k] rfl rfl (by simp [Value.oneCell']) (by omega) (by omega) ?_; rintro _ w3 hown3 hg3 ⟨g3, c3, rfl⟩)
          go_roundw
          case rel => exact ⟨k + 1, by omega, by go_num, hsg.out, by rw [M.pts_succ_t hon.out]; simpa [nats] using hown3, a0.app hg3 hown (by omega), Below.app hB hg3 hown (by omega) (by omega), by have := hg3.size; omega⟩
          case measure => simp [intOf]; omega
        · have hon : Hid (T.ones l k = false) := Lib.hid (by
            unfold T.ones; rw [List.getElem?_eq_getElem hlt]
            have : l[k] ≠ 49 := fun e => h49 (by have := hxl.out; rw [e] at this; show (x : Int) = 49; rw [← this]; rfl)
            simpa using this)
          by_cases h48 : (x : Int) = 48
          · have hc48 : l[k] = 48 := UInt8.toNat_inj.1 (by rw [hxl.out]; show x = 48; omega)
            have hsg := hsig (by rw [hc48]; rfl)
            obtain rfl : x = 48 := by omega
            clear hsig hc48 h48 h49
            go_wp2_with (fail)
            go_roundw
            case rel => exact ⟨k + 1, by omega, by go_num, hsg.out, by rw [M.pts_succ_f hon.out]; exact hown, a0, hB, hszr⟩
            case measure => simp [intOf]; omega
          · have HC : Hid (T.parseS l = (0, 0, 4)) := Lib.hid (by
              unfold T.parseS
              rw [if_neg hbig, if_neg]
              intro h
              have h1 := List.all_eq_true.1 h l[k] (List.getElem_mem hlt)
              unfold T.isSign at h1
              rcases Bool.or_eq_true_iff.1 h1 with h2 | h2
              · have : l[k] = 48 := by simpa using h2
                exact h48 (by have h3 := hxl.out; rw [this] at h3; rw [← h3]; rfl)
              · have : l[k] = 49 := by simpa using h2
                exact h49 (by have h3 := hxl.out; rw [this] at h3; rw [← h3]; rfl))
            clear hsig
            have n48 : ((x : Int) != 48) = true := by simpa using h48
            have n49 : ((x : Int) != 49) = true := by simpa using h49
            go_wp2_with (fail)
            generalize hW3 : World.setCell (World.setCell _ _ _) _ _ = W3
            have r1 : Blk W3 (w.heap.size) #[.int .i64 (0), .int .u64 ((0 : Nat))] 24 := by
              rw [← hW3]; exact ((a0).set 0 _).set 1 _
            have r2 := r1.cell 0
            have r3 := r1.cell 1
            refine bodyPost_ret (v := tabE (T.parseS l)) ?_ rfl ⟨rfl, ?_⟩
            · rw [HC.out]; simp [results, Tryd.results15, go_sem, r2, r3]
            · rw [← hW3]
              repeat (first
                | exact Below.refl _ _
                | assumption
                | refine Below.drew ?_
                | refine below_drewN ?_ _
                | refine Below.setCell ?_ (by first | (simp only [World.size_alloc, sz_setCell, sz_drew, sz_drewN, sz_putObj] at *; omega) | omega | (simp; omega) | simp) _
                | refine Below.alloc ?_ (by first | (simp only [World.size_alloc, sz_setCell, sz_drew, sz_drewN, sz_putObj] at *; omega) | omega | (simp; omega) | simp) _
                | refine Below.trans ?_ (Below.mono (by assumption) (by first | (simp only [World.size_alloc, sz_setCell, sz_drew, sz_drewN, sz_putObj] at *; omega) | omega | (simp; omega) | simp)))
      · obtain rfl : k = l.length := by omega
        have hall1 : l.all T.isSign = true := List.all_eq_true.2 fun c hc => by
          obtain ⟨t, ht, rfl⟩ := List.getElem_of_mem hc
          exact hall.out t ht ht
        clear hall
        go_wp2_with (fail)
        obtain ⟨wo, rfl⟩ : ∃ wo : World, wo = wr := ⟨_, rfl⟩
        go_loop [6] (fun i => ∃ j : Nat, j ≤ 7 ∧ i = .int .i64 j ∧ ∀ t, t < j → M.sz t ≠ l.length) (fun i => 7 - (intOf i).toNat)
        case atStart => exact ⟨0, by omega, rfl, fun t ht => by omega⟩
        case round =>
          obtain ⟨j, hj, rfl, hno⟩ := hrel
          replace hno := Lib.hid hno
          have wB := hB
          by_cases hj6 : j ≤ 6
          · by_cases hm : M.sz j = l.length
            · have HC : Hid (T.parseS l = ((j : Int), M.mkB (T.ones l) l.length, 0)) := Lib.hid (by unfold T.parseS; rw [if_neg hbig, if_pos hall1, ← hm, T.expo_sz hj6])
              have hMd := rMade_own j hj6 (T.ones l) u4 W0.heap.size wo (by rw [hm]; exact hown)
              rw [hm] at hMd
              have hS := fun W => rSize_any j W hj6
              rw [hm] at hS
              go_wp2_with (first | (go_at_call 46; refine (hS _).mono ?_; rintro e w' ⟨rfl, hw'⟩; obtain rfl := hw'.symm) | (go_at_call 53; refine (hMd).mono ?_; rintro e w' ⟨rfl, hb⟩; have hz := hb.size; have dl0 := (a0.ext hb).lt; have d0 := (a0.ext hb).cell 0; have df0 := (a0.ext hb).frozen 0; have d1 := (a0.ext hb).cell 1; have df1 := (a0.ext hb).frozen 1; simp only [List.getElem?_toArray, List.getElem?_cons_zero, List.getElem?_cons_succ] at d0 d1))
              generalize hW3 : World.setCell (World.setCell _ _ _) _ _ = W3
              have r1 : Blk W3 (w.heap.size) #[.int .i64 (j), .int .u64 (M.mkB (T.ones l) l.length)] 24 := by
                rw [← hW3]; exact ((a0.ext hb).set 0 _).set 1 _
              have r2 := r1.cell 0
              have r3 := r1.cell 1
              refine bodyPost_ret (v := tabE (T.parseS l)) ?_ rfl ⟨rfl, ?_⟩
              · rw [HC.out]; simp [results, Tryd.results15, go_sem, r2, r3]
              · rw [← hW3]
                repeat (first
                  | exact Below.refl _ _
                  | assumption
                  | refine Below.drew ?_
                  | refine below_drewN ?_ _
                  | refine Below.setCell ?_ (by first | (simp only [World.size_alloc, sz_setCell, sz_drew, sz_drewN, sz_putObj] at *; omega) | omega | (simp; omega) | simp) _
                  | refine Below.alloc ?_ (by first | (simp only [World.size_alloc, sz_setCell, sz_drew, sz_drewN, sz_putObj] at *; omega) | omega | (simp; omega) | simp) _
                  | refine Below.trans ?_ (Below.mono (by assumption) (by first | (simp only [World.size_alloc, sz_setCell, sz_drew, sz_drewN, sz_putObj] at *; omega) | omega | (simp; omega) | simp)))
            · have hS := fun W => rSize_any j W hj6
              have hm2 : ¬ ((M.sz j : Nat) : Int) = l.length := by omega
              generalize hmm : M.sz j = m at hS hm2
              replace hmm := Lib.hid hmm
              go_wp2_with (first | (go_at_call 46; refine (hS _).mono ?_; rintro e w' ⟨rfl, hw'⟩; obtain rfl := hw'.symm))
              go_round
              case rel => exact ⟨j + 1, by omega, by go_num, fun t ht => by
                by_cases e : t = j
                · subst e; rw [hmm.out]; omega
                · exact hno.out t (by omega)⟩
              case measure => simp [intOf]; omega
          · obtain rfl : j = 7 := by omega
            have HC : Hid (T.parseS l = (0, 0, 8)) := Lib.hid (by
              unfold T.parseS
              rw [if_neg hbig, if_pos hall1]
              cases he : T.expo l.length with
              | none => rfl
              | some n => exact absurd (T.expo_some he).2.symm (hno.out n (by have := (T.expo_some he).1; omega)))
            go_wp2_with (fail)
            generalize hW3 : World.setCell (World.setCell _ _ _) _ _ = W3
            have r1 : Blk W3 (w.heap.size) #[.int .i64 (0), .int .u64 ((0 : Nat))] 24 := by
              rw [← hW3]; exact ((a0).set 0 _).set 1 _
            have r2 := r1.cell 0
            have r3 := r1.cell 1
            refine bodyPost_ret (v := tabE (T.parseS l)) ?_ rfl ⟨rfl, ?_⟩
            · rw [HC.out]; simp [results, Tryd.results15, go_sem, r2, r3]
            · rw [← hW3]
              repeat (first
                | exact Below.refl _ _
                | assumption
                | refine Below.drew ?_
                | refine below_drewN ?_ _
                | refine Below.setCell ?_ (by first | (simp only [World.size_alloc, sz_setCell, sz_drew, sz_drewN, sz_putObj] at *; omega) | omega | (simp; omega) | simp) _
                | refine Below.alloc ?_ (by first | (simp only [World.size_alloc, sz_setCell, sz_drew, sz_drewN, sz_putObj] at *; omega) | omega | (simp; omega) | simp) _
                | refine Below.trans ?_ (Below.mono (by assumption) (by first | (simp only [World.size_alloc, sz_setCell, sz_drew, sz_drewN, sz_putObj] at *; omega) | omega | (simp; omega) | simp)))

end Go.Proofs.YtdkhdkldjpaadaaDoor
