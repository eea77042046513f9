/- Contracts of package truth that make tables: Const, Var, fixed, Cofactor. -/
import Derived.Test.YtmncplgccielbaaDoorTruth2
set_option maxHeartbeats 1000000
set_option maxRecDepth 4000
set_option linter.unusedSimpArgs false
set_option linter.unusedVariables false
set_option linter.unusedSectionVars false
namespace Go.Proofs.YtmncplgccielbaaDoor
open Go.RowKit Go.Shelf

/-- a table and an error number, as a call returns them -/
abbrev tabE (r : Int × Nat × Int) : Value := .tuple #[.agg #[.int .i64 r.1, .int .u64 (r.2.1 : Int)], .int .i64 r.2.2]

theorem tVar1_any (B i k : Nat) (hi : i < 64) (hk : k < 64) (w : World) (h : Blk w B #[.int .i64 i] 3) :
    Calls Tryd.prog 27 #[.int .i64 k, .pointer (some ⟨B, 0, none⟩)] w fun e w' => e = .returned (.bool (k.testBit i)) ∧ w' = w := by
  have h0 := h.cell 0
  simp only [List.getElem?_toArray, List.getElem?_cons_zero] at h0
  go_enter Tryd.func27, Tryd.ntmps27
  go_wp2
  go_ret
  exact ⟨ret_b (bit_i64 k i (by omega)), rfl⟩

set_option maxHeartbeats 400000 in
theorem tVar_any (N i : Int) (w : World) :
    Calls Tryd.prog 11 #[.int .i64 N, .int .i64 i] w fun e w' => e = .returned (tabE (T.varS N i)) ∧ Below w.heap.size w w' := by
  by_cases h : 0 ≤ N ∧ N ≤ 6
  · obtain ⟨n, rfl⟩ := Int.eq_ofNat_of_zero_le h.1
    have h2 : n ≤ 6 := by omega
    have hs := fun w => tSized_any (n : Int) w
    rw [show decide (0 ≤ (n : Int) ∧ (n : Int) ≤ 6) = true by simpa using h.2] at hs
    by_cases hi : 0 ≤ i ∧ i < n
    · obtain ⟨j, rfl⟩ := Int.eq_ofNat_of_zero_le hi.1
      have hj : j < n := by omega
      have HC : Hid (T.varS n j = ((n : Int), M.mkB (fun k => k.testBit j) (M.sz n), 0)) := by unfold T.varS; rw [if_pos ⟨h.1, h.2, hi⟩]; rfl
      have h1 : ¬ ((j : Int) < 0) := by omega
      have h1' : ¬ ((n : Int) ≤ (j : Int)) := by omega
      have h64 := M.sz_le h2
      clear h hi
      go_enter Tryd.func11, Tryd.ntmps11
      go_wp2_with (first
        | (go_at_call 26; refine (hs _).mono ?_; rintro e w' ⟨rfl, rfl⟩)
        | (go_at_call 18; refine (made_any n h2 27 #[.pointer (some ⟨w.heap.size, 0, none⟩)] (fun k => k.testBit j) _ (fun _ _ => Tryd.call27 _ _) (fun k W hk hb => (tVar1_any _ j k (by omega) (by omega) W ((Blk.alloc (Blk.new _ _ _) _).below hb (by simp; omega))).mono fun e w' ⟨h1, h2⟩ => ⟨h1, h2 ▸ Below.refl _ _⟩)).mono ?_; rintro e w' ⟨rfl, hb⟩; obtain ⟨hc, hf⟩ := bcell hb))
      generalize hW3 : World.setCell (World.setCell _ _ _) _ _ = W3
      have r1 : Blk W3 (w.heap.size + 1) #[.int .i64 n, .int .u64 (M.mkB (fun k => k.testBit j) (M.sz n))] 24 := by
        rw [← hW3]; exact (((Blk.new' (by simp)).ext hb).set 0 _).set 1 _
      have r2 := r1.cell 0
      have r3 := r1.cell 1
      refine bodyPost_ret (v := tabE (T.varS n j)) ?_ rfl ⟨rfl, ?_⟩
      · rw [HC.out]; simp [results, Tryd.results11, go_sem, r2, r3]
      · rw [← hW3]
        repeat (first
          | exact Below.refl _ _
          | assumption
          | refine Below.drew ?_
          | refine below_drewN ?_ _
          | refine Below.setCell ?_ (by first | (simp only [World.size_alloc, sz_setCell, sz_drew, sz_drewN, sz_putObj] at *; omega) | omega | (simp; omega) | simp) _
          | refine Below.alloc ?_ (by first | (simp only [World.size_alloc, sz_setCell, sz_drew, sz_drewN, sz_putObj] at *; omega) | omega | (simp; omega) | simp) _
          | refine Below.trans ?_ (Below.mono (by assumption) (by first | (simp only [World.size_alloc, sz_setCell, sz_drew, sz_drewN, sz_putObj] at *; omega) | omega | (simp; omega) | simp)))
    · have HC : Hid (T.varS n i = (0, 0, 2)) := by unfold T.varS; rw [if_neg (by omega)]; rfl
      clear h
      by_cases h0 : i < 0
      all_goals
        go_enter Tryd.func11, Tryd.ntmps11
        go_wp2_with (first
          | (go_at_call 26; refine (hs _).mono ?_; rintro e w' ⟨rfl, rfl⟩))
        refine bodyPost_ret (v := tabE (T.varS n i)) ?_ rfl ⟨rfl, ?_⟩
        · rw [HC.out]; simp [results, Tryd.results11, go_sem]
        · clear hs
          repeat (first
            | exact Below.refl _ _
            | assumption
            | refine Below.drew ?_
            | refine below_drewN ?_ _
            | refine Below.setCell ?_ (by first | (simp only [World.size_alloc, sz_setCell, sz_drew, sz_drewN, sz_putObj] at *; omega) | omega | (simp; omega) | simp) _
            | refine Below.alloc ?_ (by first | (simp only [World.size_alloc, sz_setCell, sz_drew, sz_drewN, sz_putObj] at *; omega) | omega | (simp; omega) | simp) _
            | refine Below.trans ?_ (Below.mono (by assumption) (by first | (simp only [World.size_alloc, sz_setCell, sz_drew, sz_drewN, sz_putObj] at *; omega) | omega | (simp; omega) | simp)))
  · have hs := fun w => tSized_any N w
    rw [show decide (0 ≤ N ∧ N ≤ 6) = false by simpa using h] at hs
    have HC : Hid (T.varS N i = (0, 0, 2)) := by unfold T.varS; rw [if_neg (by omega)]; rfl
    clear h
    go_enter Tryd.func11, Tryd.ntmps11
    go_wp2_with (first
      | (go_at_call 26; refine (hs _).mono ?_; rintro e w' ⟨rfl, rfl⟩))
    refine bodyPost_ret (v := tabE (T.varS N i)) ?_ rfl ⟨rfl, ?_⟩
    · rw [HC.out]; simp [results, Tryd.results11, go_sem]
    · clear hs
      repeat (first
        | exact Below.refl _ _
        | assumption
        | refine Below.drew ?_
        | refine below_drewN ?_ _
        | refine Below.setCell ?_ (by first | (simp only [World.size_alloc, sz_setCell, sz_drew, sz_drewN, sz_putObj] at *; omega) | omega | (simp; omega) | simp) _
        | refine Below.alloc ?_ (by first | (simp only [World.size_alloc, sz_setCell, sz_drew, sz_drewN, sz_putObj] at *; omega) | omega | (simp; omega) | simp) _
        | refine Below.trans ?_ (Below.mono (by assumption) (by first | (simp only [World.size_alloc, sz_setCell, sz_drew, sz_drewN, sz_putObj] at *; omega) | omega | (simp; omega) | simp)))

end Go.Proofs.YtmncplgccielbaaDoor
