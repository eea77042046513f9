/- The iterator over points, and made: the table of a predicate. -/
import Derived.Test.YtmncplgccielbaaDoorTruth1
import Derived.Test.YtmncplgccielbaaDoorSlices
set_option maxHeartbeats 1000000
set_option maxRecDepth 4000
set_option linter.unusedSimpArgs false
set_option linter.unusedVariables false
set_option linter.unusedSectionVars false
namespace Go.Proofs.YtmncplgccielbaaDoor
open Go.RowKit Go.Shelf
attribute [local go_sem] Oper.semAt_some

set_option maxRecDepth 100000 in
set_option maxHeartbeats 1000000 in
theorem points1_runs (Bs N : Nat) (hN : N ≤ 6) (Kp : World → World → Prop) (w : World)
    (hc : Blk w Bs #[.int .i64 N] 3) :
    SeqRuns Tryd.prog 35 #[.pointer (some ⟨Bs, 0, none⟩)] (fun k : Nat => #[Value.int .i64 k]) Kp (List.range (M.sz N)) w := fun l J Jx W hW _ _ hY h0 => by
  have hc' := (hW.blk hc).cell 0
  simp only [List.getElem?_toArray, List.getElem?_cons_zero] at hc'
  have hsz := M.sz_le hN
  have hsm := shl_small N hN
  refine callsIn_of_wp Tryd.func35 rfl trivial ?_ rfl
  simp only [Tryd.ntmps35, List.size_toArray, List.length_cons, List.length_nil, Nat.reduceAdd, Nat.reduceSub, Array.replicate_succ, Array.replicate_zero, List.push_toArray, List.append_toArray, List.nil_append, List.cons_append]
  gi_wp2
  gi_loopw [6] (fun i wr => ∃ k : Nat, k ≤ M.sz N ∧ i = .int .i64 k ∧ J k wr) (fun i _ => M.sz N - (intOf i).toNat)
  case atStart => exact ⟨0, Nat.zero_le _, rfl, h0⟩
  case round =>
    obtain ⟨k, hk, rfl, hJs⟩ := hrel
    by_cases hlt : k < M.sz N
    · obtain ⟨fn, tmps, assign, body, hy, hR⟩ := hY k k wr (by simp [hlt]) hJs
      gi_wp2
      refine (roundIn_wide_n hR).mono ?_
      rintro e W3 (⟨rfl, hJ3, hk3⟩ | ⟨rfl, hJx3⟩)
      · gi_wp2
        go_roundw
        case rel => exact ⟨k + 1, by omega, by simp, hJ3⟩
        case measure => simp [intOf]; omega
      · gi_wp2
        refine bodyPost_ret (results_none rfl _ _ _) rfl ?_
        exact ⟨⟨_, rfl⟩, .inr ⟨k + 1, by simp; omega, hJx3⟩⟩
    · obtain rfl : k = M.sz N := by omega
      gi_wp2
      go_end0
      exact ⟨⟨_, rfl⟩, .inl (by simpa using hJs)⟩

theorem points_any (N : Int) (w : World) :
    Calls Tryd.prog 21 #[.int .i64 N] w fun e w' => e = .returned (.func (.func 35) #[] #[.pointer (some ⟨w.heap.size, 0, none⟩)]) ∧ w' = w.alloc (.cells #[.int .i64 N] 3) := by
  go_enter Tryd.func21, Tryd.ntmps21
  go_wp2
  go_ret
  exact ⟨rfl, rfl⟩

set_option maxRecDepth 100000 in
set_option maxHeartbeats 2000000 in
theorem made_any (N : Nat) (hN : N ≤ 6) (gf : Nat) (lb : Array Value) (p : Nat → Bool) (w : World)
    (eg : ∀ args w, (callFunc gf args).run Tryd.prog w = .ok (.enter gf args) w)
    (hp : ∀ k W, k < M.sz N → Below w.heap.size w W → Calls Tryd.prog gf (#[.int .i64 k] ++ lb) W fun e W' => e = .returned (.bool (p k)) ∧ Below W.heap.size W W') :
    Calls Tryd.prog 18 #[.int .i64 N, .func (.func gf) #[] lb] w fun e w' => e = .returned (.agg #[.int .i64 N, .int .u64 (M.mkB p (M.sz N))]) ∧ Below w.heap.size w w' := by
  refine calls_of_wp_marks Tryd.func18 rfl ?_
  simp only [Tryd.ntmps18, List.size_toArray, List.length_cons, List.length_nil, Nat.reduceAdd, Nat.reduceSub, Array.replicate_succ, Array.replicate_zero, List.push_toArray, List.append_toArray, List.nil_append, List.cons_append]
  go_wp2_with (go_at_call 21; refine (points_any _ _).mono ?_; rintro e w' ⟨rfl, rfl⟩)
  generalize hW0 : (World.alloc _ _ : World) = W0
  have hs0 : W0.heap.size = w.heap.size + 4 := by subst hW0; simp
  have b0 : Blk W0 w.heap.size #[Value.func (Fn.func gf) #[] lb] 48 := by subst hW0; repeat (first | exact Blk.new' (by simp only [World.size_alloc]) | exact Blk.new' rfl | refine Blk.alloc ?_ _)
  have b1 : Blk W0 (w.heap.size + 1) #[Value.int IntKind.i64 0, Value.int IntKind.u64 0] 24 := by subst hW0; repeat (first | exact Blk.new' (by simp only [World.size_alloc]) | exact Blk.new' rfl | refine Blk.alloc ?_ _)
  have b2 : Blk W0 (w.heap.size + 1 + 1) #[Value.int IntKind.i64 ↑N, Value.int IntKind.u64 0] 24 := by subst hW0; repeat (first | exact Blk.new' (by simp only [World.size_alloc]) | exact Blk.new' rfl | refine Blk.alloc ?_ _)
  have b3 : Blk W0 (w.heap.size + 1 + 1 + 1) #[Value.int IntKind.i64 ↑N] 3 := by subst hW0; repeat (first | exact Blk.new' (by simp only [World.size_alloc]) | exact Blk.new' rfl | refine Blk.alloc ?_ _)
  have hB0 : Below w.heap.size w W0 := by subst hW0; exact ((((Below.refl _ w).alloc (Nat.le_refl _) _).alloc (by simp) _).alloc (by simp; omega) _).alloc (by simp; omega) _
  clear hW0
  refine wp_range (gf := 35) (lb := #[.pointer (some ⟨w.heap.size + 1 + 1 + 1, 0, none⟩)]) rfl (enters_of Tryd.func35 (by kernel_rfl) rfl)
    (points1_runs (w.heap.size + 1 + 1 + 1) N hN (fun _ _ => True) W0 b3) (fun _ _ => trivial) (fun _ _ _ _ _ _ _ => trivial) (fun _ => rfl)
    (fun k W => Blk W (w.heap.size + 1 + 1) #[.int .i64 N, .int .u64 (M.mkB p k)] 24 ∧ Blk W w.heap.size #[Value.func (Fn.func gf) #[] lb] 48 ∧ Blk W (w.heap.size + 1) #[Value.int IntKind.i64 0, Value.int IntKind.u64 0] 24 ∧ Below w.heap.size w W)
    (fun _ _ _ => False)
    (fun k W W' hi hk => ⟨hk.blk hi.1, hk.blk hi.2.1, hk.blk hi.2.2.1, Keeps.below hi.2.2.2 hk (by omega) (Nat.le_refl _)⟩)
    (fun _ _ _ _ h _ => h)
    ⟨b2, b0, b1, hB0⟩ ?round ?done ?stop
  case round =>
    rintro l k x W hx ⟨a2, a0, a1, hB⟩
    obtain ⟨rfl, hkm⟩ := range_get hx
    clear hx
    gi_wp2
    refine ⟨KeepsOthers.refl _, trivial, fun l' W2 hk2 => ?_⟩
    replace a2 := hk2.blk a2
    replace a0 := hk2.blk a0
    replace a1 := hk2.blk a1
    replace hB := Keeps.below hB hk2 (by omega) (Nat.le_refl _)
    clear hk2
    have c0 := a0.cell 0
    simp only [List.getElem?_toArray, List.getElem?_cons_zero] at c0
    have hcall := hp x W2 hkm hB
    have hx64 : x < 64 := by have := M.sz_le hN; omega
    have hmx : Tryd.prog.follows .mixedOrders = true := by kernel_rfl
    cases hpx : p x
    · rw [hpx] at hcall
      gi_wp2_with (refine ⟨trivial, ?_⟩; refine CallsIn.mono (CallsIn.inRound l' (callsIn_wide.2 hcall)) ?_; rintro e w' ⟨rfl, hb'⟩)
      exact ⟨keepsOthers_of_below hb', trivial, by rw [M.mkB_succ_f hpx]; exact a2.ext hb', a0.ext hb', a1.ext hb', hB.trans (hb'.mono hB.size)⟩
    · rw [hpx] at hcall
      gi_wp2_with (refine ⟨trivial, ?_⟩; refine CallsIn.mono (CallsIn.inRound l' (callsIn_wide.2 hcall)) ?_; rintro e w' ⟨rfl, hb'⟩; have d0 := (a2.ext hb').cell 1; have d1 := (a2.ext hb').frozen 1; simp only [List.getElem?_toArray, List.getElem?_cons_zero, List.getElem?_cons_succ] at d0)
      gi_region_with_o (fail)
      all_goals gi_wp2
      all_goals (try go_bits)
      all_goals have hmb : M.mkB p x < 2 ^ 64 := Nat.lt_of_lt_of_le (M.mkB_lt p x) (Nat.pow_le_pow_right (by omega) (by omega))
      all_goals have hset := ((a2.ext hb').set 1 (Value.int IntKind.u64 (bits BinOp.or IntKind.u64 (↑(M.mkB p x)) (IntKind.u64.wrap (2 ^ x))))).drew
      all_goals rw [or_bit _ _ hmb hx64, ← M.mkB_succ_t hpx] at hset
      all_goals
        rw [or_bit _ _ (Nat.lt_of_lt_of_le (M.mkB_lt p x) (Nat.pow_le_pow_right (by omega) (by omega))) hx64, ← M.mkB_succ_t hpx]
        exact ⟨(keepsOthers_of_below hb').trans ((KeepsOthers.setCell _ _ _).trans (KeepsOthers.drew _)), trivial, hset, ((a0.ext hb').setOther _ (by simp; omega)).drew, ((a1.ext hb').setOther _ (by simp)).drew, ((hB.trans (hb'.mono hB.size)).setCell (by simp; omega) _).drew⟩
  case done =>
    rintro D W hD ⟨a2, a0, a1, hB⟩ hK
    have c0 := a2.cell 0
    have c1 := a2.cell 1
    have f0 := a1.frozen 0
    have f1 := a1.frozen 1
    have e0 := a1.cell 0
    have e1 := a1.cell 1
    simp only [List.getElem?_toArray, List.getElem?_cons_zero, List.getElem?_cons_succ] at c0 c1 e0 e1
    go_wp2
    have r1 := ((a1.set 0 (Value.int IntKind.i64 ↑N)).set 1 (Value.int IntKind.u64 ↑(M.mkB p (M.sz N)))).putObj (.deferred none) (((KeepsOthers.setCell _ _ _).trans (KeepsOthers.setCell _ _ _)).same D _ hK rfl) rfl
    have r2 := r1.cell 0
    have r3 := r1.cell 1
    have hK' := ((KeepsOthers.setCell W ⟨w.heap.size + 1, 0, none⟩ (Value.int IntKind.i64 ↑N)).trans (KeepsOthers.setCell _ ⟨w.heap.size + 1, 1, none⟩ (Value.int IntKind.u64 ↑(M.mkB p (M.sz N))))).same D _ hK rfl
    refine post_mark (v := .agg #[.int .i64 N, .int .u64 (M.mkB p (M.sz N))]) hK' ?_ ⟨rfl, ?_⟩
    · simp [results, Tryd.results18, go_sem, r2, r3]
    · exact (((hB.setCell (by simp) _).setCell (by simp) _)).trans (belowK_b (w := w) (Nat.le_refl _) _ D _ _ (by omega) hK' rfl rfl)
  case stop =>
    rintro D c k W _ _ h _
    exact h.elim
end Go.Proofs.YtmncplgccielbaaDoor
