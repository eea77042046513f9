/- Contracts of package truth that return lists: Points, Depends. -/
import Derived.Test.YtmncplgccielbaaDoorTruth7
set_option maxHeartbeats 1000000
set_option maxRecDepth 4000
set_option linter.unusedSimpArgs false
set_option linter.unusedVariables false
set_option linter.unusedSectionVars false
namespace Go.Proofs.YtmncplgccielbaaDoor
open Go.RowKit Go.Shelf
attribute [local go_sem] Oper.semAt_some

/-- '==' and '!=' on tables -/
theorem eq_tab (a b c d : Int) (w : World) : (binOp .eql 24 (.agg #[.int .i64 a, .int .u64 b]) (.agg #[.int .i64 c, .int .u64 d])).run Tryd.prog w = .ok (.bool (a == c && b == d)) w := by
  cases h : (a == c) <;> by_cases h2 : b = d <;> simp [go_sem, h, h2]
theorem ne_tab (a b c d : Int) (w : World) : (binOp .neq 24 (.agg #[.int .i64 a, .int .u64 b]) (.agg #[.int .i64 c, .int .u64 d])).run Tryd.prog w = .ok (.bool (!(a == c && b == d))) w := by
  cases h : (a == c) <;> by_cases h2 : b = d <;> simp [go_sem, h, h2]

theorem elInts : ElemT Tryd.prog 28 3 (.int .i64 0) 1 8 := ⟨Tryd.underlying28, by kernel_rfl, by kernel_rfl, by decide, by decide⟩

/-- a list of numbers in memory of the call's own, and an error number -/
def IntsE (w : World) (l : List Nat) (err : Int) (e : Ending) (w' : World) : Prop :=
  (∃ v, e = .returned (.tuple #[v, .int .i64 err]) ∧ w'.ownsRow w.heap.size 3 1 v l.length (nats l)) ∧ Below w.heap.size w w'

set_option maxRecDepth 100000 in
set_option maxHeartbeats 1000000 in
theorem tPoints_any (N : Int) (b : Nat) (hb : b < 2 ^ 64) (w : World) :
    Calls Tryd.prog 7 #[.agg #[.int .i64 N, .int .u64 b]] w (IntsE w (T.ptsS N b) (T.chk N b)) := by
  obtain ⟨W0, HW0⟩ : ∃ W0, (w.alloc (.cells #[.int .i64 N, .int .u64 b] 24)) = W0 := ⟨_, rfl⟩
  have sW0 : W0.heap.size = w.heap.size + 1 := by rw [← HW0]; simp only [World.size_alloc]
  have W0b0 : Blk W0 (w.heap.size) #[.int .i64 N, .int .u64 b] 24 := by
    rw [← HW0]; repeat (first | (refine Blk.new' ?_; first | rfl | (simp only [World.size_alloc]; done)) | refine Blk.alloc ?_ _)
  have W0B : Below w.heap.size w W0 := by
    rw [← HW0]
    repeat (first
      | exact Below.refl _ _
      | assumption
      | refine Below.drew ?_
      | refine below_drewN ?_ _
      | refine Below.setCell ?_ (by first | (simp only [World.size_alloc, sz_setCell, sz_drew, sz_drewN, sz_putObj] at *; omega) | omega | (simp; omega) | simp) _
      | refine Below.alloc ?_ (by first | (simp only [World.size_alloc, sz_setCell, sz_drew, sz_drewN, sz_putObj] at *; omega) | omega | (simp; omega) | simp) _
      | refine Below.trans ?_ (Below.mono (by assumption) (by first | (simp only [World.size_alloc, sz_setCell, sz_drew, sz_drewN, sz_putObj] at *; omega) | omega | (simp; omega) | simp)))
  replace HW0 := Lib.hid HW0
  have hC := tCheck_any N b W0 hb
  rcases T.chk_cases N b with ⟨hR, h0⟩ | ⟨hR, h0 | h0⟩
  · rw [h0] at hC
    obtain ⟨n, rfl⟩ := Int.eq_ofNat_of_zero_le hR.1
    have hn : n ≤ 6 := by have := hR.2.1; omega
    have h64 := M.sz_le hn
    have HC : Hid (T.ptsS n b = M.pts b.testBit (M.sz n)) := Lib.hid (by unfold T.ptsS; rw [if_pos h0]; rfl)
    rw [h0]
    clear h0 hR
    refine calls_of_wp_marks Tryd.func7 rfl ?_
    simp only [Tryd.ntmps7, List.size_toArray, List.length_cons, List.length_nil, Nat.reduceAdd, Nat.reduceSub, Array.replicate_succ, Array.replicate_zero, List.push_toArray, List.append_toArray, List.nil_append, List.cons_append]
    go_wp2_with (first | (go_at_call 16; rw [HW0.out]; refine (hC).mono ?_; rintro e w' ⟨rfl, hb⟩; have hz := hb.size; have dl0 := (W0b0.ext hb).lt; have d0 := (W0b0.ext hb).cell 0; have df0 := (W0b0.ext hb).frozen 0; have d1 := (W0b0.ext hb).cell 1; have df1 := (W0b0.ext hb).frozen 1; simp only [List.getElem?_toArray, List.getElem?_cons_zero, List.getElem?_cons_succ] at d0 d1) | (go_at_call 21; refine (points_any _ _).mono ?_; rintro e w' ⟨rfl, hw'⟩; obtain rfl := hw'.symm))
    generalize hW1 : (w'.alloc (.cells #[.slice none 0 0] 28)).alloc (.cells #[.int .i64 n] 3) = W1
    have b0 : Blk W1 w.heap.size #[.int .i64 n, .int .u64 b] 24 := by rw [← hW1]; exact ((W0b0.ext hb).alloc _).alloc _
    have b1 : Blk W1 w'.heap.size #[.slice none 0 0] 28 := by rw [← hW1]; exact (Blk.new _ _ _).alloc _
    have b2 : Blk W1 (w'.heap.size + 1) #[.int .i64 n] 3 := by rw [← hW1]; exact Blk.new' (by simp)
    have hB1 : Below w.heap.size w W1 := by
      rw [← hW1]
      repeat (first
        | exact Below.refl _ _
        | assumption
        | refine Below.drew ?_
        | refine below_drewN ?_ _
        | refine Below.setCell ?_ (by first | (simp only [World.size_alloc, sz_setCell, sz_drew, sz_drewN, sz_putObj] at *; omega) | omega | (simp; omega) | simp) _
        | refine Below.alloc ?_ (by first | (simp only [World.size_alloc, sz_setCell, sz_drew, sz_drewN, sz_putObj] at *; omega) | omega | (simp; omega) | simp) _
        | refine Below.trans ?_ (Below.mono (by assumption) (by first | (simp only [World.size_alloc, sz_setCell, sz_drew, sz_drewN, sz_putObj] at *; omega) | omega | (simp; omega) | simp)))
    have hs1 : W1.heap.size = w'.heap.size + 2 := by rw [← hW1]; simp
    have lt0 : w.heap.size < w'.heap.size := by omega
    clear hW1
    refine wp_range (gf := 35) (lb := #[.pointer (some ⟨w'.heap.size + 1, 0, none⟩)]) rfl (enters_of Tryd.func35 (by kernel_rfl) rfl)
      (points1_runs (w'.heap.size + 1) n hn (fun _ _ => True) W1 b2) (fun _ _ => trivial) (fun _ _ _ _ _ _ _ => trivial) (fun _ => rfl)
      (fun k W => (∃ v, Blk W w'.heap.size #[v] 28 ∧ W.ownsRow W1.heap.size 3 1 v (M.pts b.testBit k).length (nats (M.pts b.testBit k))) ∧ Blk W w.heap.size #[.int .i64 n, .int .u64 b] 24 ∧ Below w.heap.size w W ∧ W1.heap.size ≤ W.heap.size)
      (fun _ _ _ => False)
      (fun k W W' hi hk => ⟨by obtain ⟨v, h1, h2⟩ := hi.1; exact ⟨v, hk.blk h1, ownsRow_keeps h2 hk⟩, hk.blk hi.2.1, Keeps.below hi.2.2.1 hk (by omega) (Nat.le_refl _), Nat.le_trans hi.2.2.2 hk.size⟩)
      (fun _ _ _ _ h _ => h)
      ⟨⟨_, b1, World.ownsRow_nil _ _ _ _⟩, b0, hB1, Nat.le_refl _⟩ ?round ?done ?stop
    case round =>
      rintro l k x W hx hI
      obtain ⟨rfl, hkm⟩ := range_get hx
      clear hx
      gi_wp2
      refine ⟨KeepsOthers.refl _, trivial, fun l' W2 hk2 => ?_⟩
      obtain ⟨⟨v, a1, hown⟩, a0, hB, hW1⟩ := hI
      replace a1 := hk2.blk a1
      replace a0 := hk2.blk a0
      replace hown := ownsRow_keeps hown hk2
      replace hB := Keeps.below hB hk2 (by omega) (Nat.le_refl _)
      have hs2 := hk2.size
      clear hk2
      have cl0 := (a0).lt
      have c0 := (a0).cell 0
      have cf0 := (a0).frozen 0
      have c1 := (a0).cell 1
      have cf1 := (a0).frozen 1
      simp only [List.getElem?_toArray, List.getElem?_cons_zero, List.getElem?_cons_succ] at c0 c1
      have hcall := tAt_any n b x (by assumption) (by omega) W2
      have hlen := M.pts_length_le b.testBit x
      cases hpx : b.testBit x
      · rw [hpx] at hcall
        gi_wp2_with (refine ⟨trivial, ?_⟩; refine CallsIn.mono (CallsIn.inRound l' (callsIn_wide.2 hcall)) ?_; rintro e w2 ⟨rfl, hb'⟩)
        exact ⟨keepsOthers_of_below hb', trivial, ⟨v, a1.ext hb', by rw [M.pts_succ_f hpx]; exact ownsRow_below hown hb'⟩, a0.ext hb', hB.trans (hb'.mono hB.size), by have := hb'.size; omega⟩
      · rw [hpx] at hcall
        gi_wp2_with (first
          | (refine ⟨trivial, ?_⟩; refine CallsIn.mono (CallsIn.inRound l' (callsIn_wide.2 hcall)) ?_; rintro e w2 ⟨rfl, hb'⟩; have q0 := (a1.ext hb').cell 0; have q1 := (a1.ext hb').frozen 0; simp only [List.getElem?_toArray, List.getElem?_cons_zero] at q0)
          | (gi_at_builtin; refine app1In elInts rfl _ _ rfl W1.heap.size rfl (ownsRow_below hown hb') [.int .i64 x] rfl rfl (by simp [Value.oneCell']) (by omega) (by have := hb'.size; omega) ?_; rintro _ w3 hown3 hg3 ⟨g3, c3, rfl⟩; have hr3 := (a1.ext hb').app hg3 (ownsRow_below hown hb') (by omega); have e0 := hr3.cell 0; have e1 := hr3.frozen 0; simp only [List.getElem?_toArray, List.getElem?_cons_zero] at e0))
        refine ⟨(keepsOthers_of_below hb').trans ((keepsOthers_app hg3 (ownsRow_below hown hb')).trans (KeepsOthers.setCell _ _ _)), trivial, ⟨_, hr3.set 0 _, ?_⟩, ?_, ?_, ?_⟩
        · rw [M.pts_succ_t hpx]
          refine ownsRow_setOther ?_ _ (by simp; omega)
          simpa [nats] using hown3
        · exact ((a0.ext hb').app hg3 (ownsRow_below hown hb') (by omega)).setOther _ (by simp; omega)
        · exact (Below.app (hB.trans (hb'.mono hB.size)) hg3 (ownsRow_below hown hb') (by omega) (by have := hb'.size; omega)).setCell (by simp; omega) _
        · rw [sz_setCell]; have := hg3.size; have := hb'.size; omega
    case done =>
      rintro D W hD ⟨⟨v, a1, hown⟩, a0, hB, hW1⟩ hK
      have q0 := a1.cell 0
      simp only [List.getElem?_toArray, List.getElem?_cons_zero] at q0
      go_wp2
      refine post_mark (v := .tuple #[v, .int .i64 0]) hK (by simp [results, Tryd.results7, go_sem]) ⟨⟨v, rfl, ?_⟩, ?_⟩
      · rw [HC.out]
        simp only [List.length_range] at hown
        exact ownsRow_base (ownsRow_putObj hown _ hK rfl) (by omega)
      · exact hB.trans (belowK_b (w := w) (Nat.le_refl _) W D _ _ (by omega) hK rfl rfl)
    case stop =>
      rintro D c k W _ _ h _
      exact h.elim
  all_goals
    rw [h0] at hC
    have HC : Hid (T.ptsS N b = []) := Lib.hid (by unfold T.ptsS; rw [if_neg (by omega)])
    rw [h0]
    clear h0 hR
    refine calls_of_wp_marks Tryd.func7 rfl ?_
    simp only [Tryd.ntmps7, List.size_toArray, List.length_cons, List.length_nil, Nat.reduceAdd, Nat.reduceSub, Array.replicate_succ, Array.replicate_zero, List.push_toArray, List.append_toArray, List.nil_append, List.cons_append]
    go_wp2_with (first | (go_at_call 16; rw [HW0.out]; refine (hC).mono ?_; rintro e w' ⟨rfl, hb⟩; have hz := hb.size; have dl0 := (W0b0.ext hb).lt; have d0 := (W0b0.ext hb).cell 0; have df0 := (W0b0.ext hb).frozen 0; have d1 := (W0b0.ext hb).cell 1; have df1 := (W0b0.ext hb).frozen 1; simp only [List.getElem?_toArray, List.getElem?_cons_zero, List.getElem?_cons_succ] at d0 d1))
    refine post_nomark (v := .tuple #[.slice none 0 0, .int .i64 _]) (by simp [results, Tryd.results7, go_sem]) ⟨⟨_, rfl, ?_⟩, ?_⟩
    · rw [HC.out]; exact World.ownsRow_nil _ _ _ _
    · skip
      repeat (first
        | exact Below.refl _ _
        | assumption
        | refine Below.drew ?_
        | refine below_drewN ?_ _
        | refine Below.setCell ?_ (by first | (simp only [World.size_alloc, sz_setCell, sz_drew, sz_drewN, sz_putObj] at *; omega) | omega | (simp; omega) | simp) _
        | refine Below.alloc ?_ (by first | (simp only [World.size_alloc, sz_setCell, sz_drew, sz_drewN, sz_putObj] at *; omega) | omega | (simp; omega) | simp) _
        | refine Below.trans ?_ (Below.mono (by assumption) (by first | (simp only [World.size_alloc, sz_setCell, sz_drew, sz_drewN, sz_putObj] at *; omega) | omega | (simp; omega) | simp)))

end Go.Proofs.YtmncplgccielbaaDoor
