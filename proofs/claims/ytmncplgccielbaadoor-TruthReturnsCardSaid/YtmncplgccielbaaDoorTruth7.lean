/- Contracts of package truth: And, Or, Xor, Unate, Depends, Points. -/
import Derived.Test.YtmncplgccielbaaDoorTruth6
set_option maxHeartbeats 1000000
set_option maxRecDepth 4000
set_option linter.unusedSimpArgs false
set_option linter.unusedVariables false
set_option linter.unusedSectionVars false
namespace Go.Proofs.YtmncplgccielbaaDoor
open Go.RowKit Go.Shelf
attribute [local go_sem] Oper.semAt_some

set_option maxHeartbeats 400000 in
theorem tAnd_any (N O : Int) (a b : Nat) (ha : a < 2 ^ 64) (hb : b < 2 ^ 64) (w : World) :
    Calls Tryd.prog 12 #[.agg #[.int .i64 N, .int .u64 a], .agg #[.int .i64 O, .int .u64 b]] w fun e w' => e = .returned (tabE (T.joinS (· &&& ·) N a O b)) ∧ Below w.heap.size w w' := by
  obtain ⟨W0, HW0⟩ : ∃ W0, (((w.alloc (.cells #[.int .i64 N, .int .u64 a] 24)).alloc (.cells #[.int .i64 O, .int .u64 b] 24)).alloc (.cells #[.int .i64 0, .int .u64 0] 24)) = W0 := ⟨_, rfl⟩
  have sW0 : W0.heap.size = w.heap.size + 3 := by rw [← HW0]; simp only [World.size_alloc]
  have W0b0 : Blk W0 (w.heap.size) #[.int .i64 N, .int .u64 a] 24 := by
    rw [← HW0]; repeat (first | (refine Blk.new' ?_; first | rfl | (simp only [World.size_alloc]; done)) | refine Blk.alloc ?_ _)
  have W0b1 : Blk W0 (w.heap.size + 1) #[.int .i64 O, .int .u64 b] 24 := by
    rw [← HW0]; repeat (first | (refine Blk.new' ?_; first | rfl | (simp only [World.size_alloc]; done)) | refine Blk.alloc ?_ _)
  have W0b2 : Blk W0 (w.heap.size + 1 + 1) #[.int .i64 0, .int .u64 0] 24 := by
    rw [← HW0]; repeat (first | (refine Blk.new' ?_; first | rfl | (simp only [World.size_alloc]; done)) | refine Blk.alloc ?_ _)
  have W0B : Below w.heap.size w W0 := by
    rw [← HW0]
    repeat (first
      | exact Below.refl _ _
      | assumption
      | refine Below.drew ?_
      | refine below_drewN ?_ _
      | refine Below.setCell ?_ (by first | (simp only [World.size_alloc, sz_setCell, sz_drew, sz_drewN, sz_putObj] at *; omega) | omega | (simp; omega) | simp) _
      | refine Below.alloc ?_ (by first | (simp only [World.size_alloc, sz_setCell, sz_drew, sz_drewN, sz_putObj] at *; omega) | omega | (simp; omega) | simp) _
      | refine Below.trans ?_ (Below.mono (by assumption) (by first | (simp only [World.size_alloc, sz_setCell, sz_drew, sz_drewN, sz_putObj] at *; omega) | omega | (simp; omega) | simp)))
  replace HW0 := Lib.hid HW0
  have hC := tJoined_any (· &&& ·) 29 N O a b ha hb W0 (fun _ _ => Tryd.call29 _ _) (fun W => tAnd1_any a b ha hb W)
  have HC : Hid (T.joinS (· &&& ·) N a O b = T.joinS (· &&& ·) N a O b) := Lib.hid rfl
  generalize hr : T.joinS (· &&& ·) N a O b = r at hC
  obtain ⟨r1, r2, r3⟩ := r
  replace HC := Lib.hid hr
  clear hr
  go_enter Tryd.func12, Tryd.ntmps12
  go_wp2_with (first | (go_at_call 28; rw [HW0.out]; refine (hC).mono ?_; rintro e w' ⟨rfl, hb⟩; have hz := hb.size; have dl0 := (W0b2.ext hb).lt; have d0 := (W0b2.ext hb).cell 0; have df0 := (W0b2.ext hb).frozen 0; have d1 := (W0b2.ext hb).cell 1; have df1 := (W0b2.ext hb).frozen 1; simp only [List.getElem?_toArray, List.getElem?_cons_zero, List.getElem?_cons_succ] at d0 d1))
  generalize hW3 : World.setCell (World.setCell _ _ _) _ _ = W3
  have R1 : Blk W3 (w.heap.size + 1 + 1) #[.int .i64 r1, .int .u64 r2] 24 := by
    rw [← hW3]; exact ((W0b2.ext hb).set 0 _).set 1 _
  have ql0 := (R1).lt
  have q0 := (R1).cell 0
  have qf0 := (R1).frozen 0
  have q1 := (R1).cell 1
  have qf1 := (R1).frozen 1
  simp only [List.getElem?_toArray, List.getElem?_cons_zero, List.getElem?_cons_succ] at q0 q1
  refine bodyPost_ret (v := tabE (r1, r2, r3)) ?_ rfl ⟨rfl, ?_⟩
  · simp [results, Tryd.results12, go_sem, q0, q1]
  · rw [← hW3]
    repeat (first
      | exact Below.refl _ _
      | assumption
      | refine Below.drew ?_
      | refine below_drewN ?_ _
      | refine Below.setCell ?_ (by first | (simp only [World.size_alloc, sz_setCell, sz_drew, sz_drewN, sz_putObj] at *; omega) | omega | (simp; omega) | simp) _
      | refine Below.alloc ?_ (by first | (simp only [World.size_alloc, sz_setCell, sz_drew, sz_drewN, sz_putObj] at *; omega) | omega | (simp; omega) | simp) _
      | refine Below.trans ?_ (Below.mono (by assumption) (by first | (simp only [World.size_alloc, sz_setCell, sz_drew, sz_drewN, sz_putObj] at *; omega) | omega | (simp; omega) | simp)))

set_option maxHeartbeats 400000 in
theorem tXor_any (N O : Int) (a b : Nat) (ha : a < 2 ^ 64) (hb : b < 2 ^ 64) (w : World) :
    Calls Tryd.prog 13 #[.agg #[.int .i64 N, .int .u64 a], .agg #[.int .i64 O, .int .u64 b]] w fun e w' => e = .returned (tabE (T.joinS (· ^^^ ·) N a O b)) ∧ Below w.heap.size w w' := by
  obtain ⟨W0, HW0⟩ : ∃ W0, (((w.alloc (.cells #[.int .i64 N, .int .u64 a] 24)).alloc (.cells #[.int .i64 O, .int .u64 b] 24)).alloc (.cells #[.int .i64 0, .int .u64 0] 24)) = W0 := ⟨_, rfl⟩
  have sW0 : W0.heap.size = w.heap.size + 3 := by rw [← HW0]; simp only [World.size_alloc]
  have W0b0 : Blk W0 (w.heap.size) #[.int .i64 N, .int .u64 a] 24 := by
    rw [← HW0]; repeat (first | (refine Blk.new' ?_; first | rfl | (simp only [World.size_alloc]; done)) | refine Blk.alloc ?_ _)
  have W0b1 : Blk W0 (w.heap.size + 1) #[.int .i64 O, .int .u64 b] 24 := by
    rw [← HW0]; repeat (first | (refine Blk.new' ?_; first | rfl | (simp only [World.size_alloc]; done)) | refine Blk.alloc ?_ _)
  have W0b2 : Blk W0 (w.heap.size + 1 + 1) #[.int .i64 0, .int .u64 0] 24 := by
    rw [← HW0]; repeat (first | (refine Blk.new' ?_; first | rfl | (simp only [World.size_alloc]; done)) | refine Blk.alloc ?_ _)
  have W0B : Below w.heap.size w W0 := by
    rw [← HW0]
    repeat (first
      | exact Below.refl _ _
      | assumption
      | refine Below.drew ?_
      | refine below_drewN ?_ _
      | refine Below.setCell ?_ (by first | (simp only [World.size_alloc, sz_setCell, sz_drew, sz_drewN, sz_putObj] at *; omega) | omega | (simp; omega) | simp) _
      | refine Below.alloc ?_ (by first | (simp only [World.size_alloc, sz_setCell, sz_drew, sz_drewN, sz_putObj] at *; omega) | omega | (simp; omega) | simp) _
      | refine Below.trans ?_ (Below.mono (by assumption) (by first | (simp only [World.size_alloc, sz_setCell, sz_drew, sz_drewN, sz_putObj] at *; omega) | omega | (simp; omega) | simp)))
  replace HW0 := Lib.hid HW0
  have hC := tJoined_any (· ^^^ ·) 30 N O a b ha hb W0 (fun _ _ => Tryd.call30 _ _) (fun W => tXor1_any a b ha hb W)
  have HC : Hid (T.joinS (· ^^^ ·) N a O b = T.joinS (· ^^^ ·) N a O b) := Lib.hid rfl
  generalize hr : T.joinS (· ^^^ ·) N a O b = r at hC
  obtain ⟨r1, r2, r3⟩ := r
  replace HC := Lib.hid hr
  clear hr
  go_enter Tryd.func13, Tryd.ntmps13
  go_wp2_with (first | (go_at_call 28; rw [HW0.out]; refine (hC).mono ?_; rintro e w' ⟨rfl, hb⟩; have hz := hb.size; have dl0 := (W0b2.ext hb).lt; have d0 := (W0b2.ext hb).cell 0; have df0 := (W0b2.ext hb).frozen 0; have d1 := (W0b2.ext hb).cell 1; have df1 := (W0b2.ext hb).frozen 1; simp only [List.getElem?_toArray, List.getElem?_cons_zero, List.getElem?_cons_succ] at d0 d1))
  generalize hW3 : World.setCell (World.setCell _ _ _) _ _ = W3
  have R1 : Blk W3 (w.heap.size + 1 + 1) #[.int .i64 r1, .int .u64 r2] 24 := by
    rw [← hW3]; exact ((W0b2.ext hb).set 0 _).set 1 _
  have ql0 := (R1).lt
  have q0 := (R1).cell 0
  have qf0 := (R1).frozen 0
  have q1 := (R1).cell 1
  have qf1 := (R1).frozen 1
  simp only [List.getElem?_toArray, List.getElem?_cons_zero, List.getElem?_cons_succ] at q0 q1
  refine bodyPost_ret (v := tabE (r1, r2, r3)) ?_ rfl ⟨rfl, ?_⟩
  · simp [results, Tryd.results13, go_sem, q0, q1]
  · rw [← hW3]
    repeat (first
      | exact Below.refl _ _
      | assumption
      | refine Below.drew ?_
      | refine below_drewN ?_ _
      | refine Below.setCell ?_ (by first | (simp only [World.size_alloc, sz_setCell, sz_drew, sz_drewN, sz_putObj] at *; omega) | omega | (simp; omega) | simp) _
      | refine Below.alloc ?_ (by first | (simp only [World.size_alloc, sz_setCell, sz_drew, sz_drewN, sz_putObj] at *; omega) | omega | (simp; omega) | simp) _
      | refine Below.trans ?_ (Below.mono (by assumption) (by first | (simp only [World.size_alloc, sz_setCell, sz_drew, sz_drewN, sz_putObj] at *; omega) | omega | (simp; omega) | simp)))

abbrev boolsE (r : Bool × Bool × Int) : Value := .tuple #[.bool r.1, .bool r.2.1, .int .i64 r.2.2]

theorem field_tab1 (x y : Value) (w : World) : (Instr.field 24 (.agg #[x, y]) 1).run Tryd.prog w = .ok y w := by kernel_rfl
theorem field_tab0 (x y : Value) (w : World) : (Instr.field 24 (.agg #[x, y]) 0).run Tryd.prog w = .ok x w := by kernel_rfl

theorem sub_u64 {a b m : Nat} (hm : m ≤ 64) (ha : a < 2 ^ m) (hb : b < 2 ^ 64) : (bits .andNot .u64 (a : Int) (b : Int) == 0) = T.subB a b m := by
  have ha64 : a < 2 ^ 64 := Nat.lt_of_lt_of_le ha (Nat.pow_le_pow_right (by omega) hm)
  rw [u64_andNot_nat a b ha64 hb]
  have key : (a &&& (18446744073709551615 - b) = 0) ↔ T.subB a b m = true := by
    unfold T.subB
    rw [List.all_eq_true]
    constructor
    · intro h k hk
      have := congrArg (fun x => Nat.testBit x k) h
      simp only [Nat.zero_testBit, testBit_andNot _ _ _ hb] at this
      have hk' : k < 64 := by have := List.mem_range.1 hk; omega
      cases ha' : a.testBit k <;> cases hb' : b.testBit k <;> simp_all
    · intro h
      apply Nat.eq_of_testBit_eq; intro k
      rw [Nat.zero_testBit, testBit_andNot _ _ _ hb]
      by_cases hk : k < m
      · have := h k (List.mem_range.2 hk)
        cases ha' : a.testBit k <;> cases hb' : b.testBit k <;> simp_all
      · rw [Nat.testBit_lt_two_pow (Nat.lt_of_lt_of_le ha (Nat.pow_le_pow_right (by omega) (by omega)))]; rfl
  cases h : T.subB a b m
  · have : ¬ (a &&& (18446744073709551615 - b) = 0) := fun e => by rw [key.1 e] at h; cases h
    simpa using this
  · rw [key.2 h]; rfl

set_option maxRecDepth 100000 in
set_option maxHeartbeats 1000000 in
theorem tUnate_any (N i : Int) (b : Nat) (hb : b < 2 ^ 64) (w : World) :
    Calls Tryd.prog 15 #[.agg #[.int .i64 N, .int .u64 b], .int .i64 i] w fun e w' => e = .returned (boolsE (T.unateS N b i)) ∧ Below w.heap.size w w' := by
  obtain ⟨W0, HW0⟩ : ∃ W0, (w.alloc (.cells #[.int .i64 N, .int .u64 b] 24)) = W0 := ⟨_, rfl⟩
  have sW0 : W0.heap.size = w.heap.size + 1 := by rw [← HW0]; simp only [World.size_alloc]
  have W0b0 : Blk W0 (w.heap.size) #[.int .i64 N, .int .u64 b] 24 := by
    rw [← HW0]; repeat (first | (refine Blk.new' ?_; first | rfl | (simp only [World.size_alloc]; done)) | refine Blk.alloc ?_ _)
  have W0B : Below w.heap.size w W0 := by
    rw [← HW0]
    repeat (first
      | exact Below.refl _ _
      | assumption
      | refine Below.drew ?_
      | refine below_drewN ?_ _
      | refine Below.setCell ?_ (by first | (simp only [World.size_alloc, sz_setCell, sz_drew, sz_drewN, sz_putObj] at *; omega) | omega | (simp; omega) | simp) _
      | refine Below.alloc ?_ (by first | (simp only [World.size_alloc, sz_setCell, sz_drew, sz_drewN, sz_putObj] at *; omega) | omega | (simp; omega) | simp) _
      | refine Below.trans ?_ (Below.mono (by assumption) (by first | (simp only [World.size_alloc, sz_setCell, sz_drew, sz_drewN, sz_putObj] at *; omega) | omega | (simp; omega) | simp)))
  replace HW0 := Lib.hid HW0
  have hC := tVariable_any N i b hb W0
  rcases vchk_cases N i b with ⟨hR, hi1, hi2, h0⟩ | h0 | h0
  · rw [h0] at hC
    obtain ⟨n, rfl⟩ := Int.eq_ofNat_of_zero_le hR.1
    obtain ⟨j, rfl⟩ := Int.eq_ofNat_of_zero_le hi1
    have hn : n ≤ 6 := by have := hR.2.1; omega
    have hj : j < n := by omega
    have h64 := M.sz_le hn
    have hF := fun v => tFixed_any n b j v hn hb hj
    have l1 : ∀ v, T.fixB b j v (M.sz n) < 2 ^ M.sz n := fun v => M.mkB_lt _ _
    have l2 : ∀ v, T.fixB b j v (M.sz n) < 2 ^ 64 := fun v => Nat.lt_of_lt_of_le (l1 v) (Nat.pow_le_pow_right (by omega) h64)
    have s1 := sub_u64 h64 (l1 false) (l2 true)
    have s2 := sub_u64 h64 (l1 true) (l2 false)
    have HC : Hid (T.unateS n b j = (T.subB (T.fixB b j false (M.sz n)) (T.fixB b j true (M.sz n)) (M.sz n), T.subB (T.fixB b j true (M.sz n)) (T.fixB b j false (M.sz n)) (M.sz n), 0)) := by unfold T.unateS; rw [if_pos h0]; rfl
    clear h0 hR hi1 hi2 l1 l2
    generalize T.subB (T.fixB b j false (M.sz n)) (T.fixB b j true (M.sz n)) (M.sz n) = u1 at s1 HC
    generalize T.subB (T.fixB b j true (M.sz n)) (T.fixB b j false (M.sz n)) (M.sz n) = u2 at s2 HC
    have hfl := field_tab1
    go_enter Tryd.func15, Tryd.ntmps15
    go_wp2_with (first | (go_at_call 31; rw [HW0.out]; refine (hC).mono ?_; rintro e w' ⟨rfl, hb⟩; have hz := hb.size; have dl0 := (W0b0.ext hb).lt; have d0 := (W0b0.ext hb).cell 0; have df0 := (W0b0.ext hb).frozen 0; have d1 := (W0b0.ext hb).cell 1; have df1 := (W0b0.ext hb).frozen 1; simp only [List.getElem?_toArray, List.getElem?_cons_zero, List.getElem?_cons_succ] at d0 d1))
    have l0 : w.heap.size < w'.heap.size := by omega
    go_region_held3 (fun W9 => Below w'.heap.size w' W9 ∧ W9.cell? ⟨w.heap.size, 0, none⟩ = some (.int .i64 n) ∧ W9.cell? ⟨w.heap.size, 1, none⟩ = some (.int .u64 b)) (first | exact ⟨hB9, (hB9.cell (p := ⟨w.heap.size, 0, none⟩) l0).trans d0, (hB9.cell (p := ⟨w.heap.size, 1, none⟩) l0).trans d1⟩ | exact ⟨(Below.refl _ _).drew, d0, d1⟩)
      (first | (go_at_call 32; refine (later (hF _ _) (by go_split_ands; assumption) (Nat.le_refl _)).mono ?_; rintro e w9 ⟨rfl, hB9⟩))
    go_wp2_with (fail)
    go_ret3
    refine ⟨ret_e (by rw [HC.out]; rfl), ?_⟩
    repeat (first
      | exact Below.refl _ _
      | assumption
      | refine Below.drew ?_
      | refine below_drewN ?_ _
      | refine Below.setCell ?_ (by first | (simp only [World.size_alloc, sz_setCell, sz_drew, sz_drewN, sz_putObj] at *; omega) | omega | (simp; omega) | simp) _
      | refine Below.alloc ?_ (by first | (simp only [World.size_alloc, sz_setCell, sz_drew, sz_drewN, sz_putObj] at *; omega) | omega | (simp; omega) | simp) _
      | refine Below.trans ?_ (Below.mono (by assumption) (by first | (simp only [World.size_alloc, sz_setCell, sz_drew, sz_drewN, sz_putObj] at *; omega) | omega | (simp; omega) | simp)))
  all_goals
    rw [h0] at hC
    have HC : Hid (T.unateS N b i = (false, false, T.vchk N b i)) := by unfold T.unateS; rw [if_neg (by omega)]; rfl
    rw [h0] at HC
    clear h0
    go_enter Tryd.func15, Tryd.ntmps15
    go_wp2_with (first | (go_at_call 31; rw [HW0.out]; refine (hC).mono ?_; rintro e w' ⟨rfl, hb⟩; have hz := hb.size; have dl0 := (W0b0.ext hb).lt; have d0 := (W0b0.ext hb).cell 0; have df0 := (W0b0.ext hb).frozen 0; have d1 := (W0b0.ext hb).cell 1; have df1 := (W0b0.ext hb).frozen 1; simp only [List.getElem?_toArray, List.getElem?_cons_zero, List.getElem?_cons_succ] at d0 d1))
    go_ret3
    refine ⟨ret_e (by rw [HC.out]; rfl), ?_⟩
    repeat (first
      | exact Below.refl _ _
      | assumption
      | refine Below.drew ?_
      | refine below_drewN ?_ _
      | refine Below.setCell ?_ (by first | (simp only [World.size_alloc, sz_setCell, sz_drew, sz_drewN, sz_putObj] at *; omega) | omega | (simp; omega) | simp) _
      | refine Below.alloc ?_ (by first | (simp only [World.size_alloc, sz_setCell, sz_drew, sz_drewN, sz_putObj] at *; omega) | omega | (simp; omega) | simp) _
      | refine Below.trans ?_ (Below.mono (by assumption) (by first | (simp only [World.size_alloc, sz_setCell, sz_drew, sz_drewN, sz_putObj] at *; omega) | omega | (simp; omega) | simp)))

end Go.Proofs.YtmncplgccielbaaDoor
