/- Contracts of package truth: Text. -/
import Derived.Test.YtmncplgccielbaaDoorTruth9
import Derived.Test.YtmncplgccielbaaDoorBuilder
set_option maxHeartbeats 1000000
set_option maxRecDepth 4000
set_option linter.unusedSimpArgs false
set_option linter.unusedVariables false
set_option linter.unusedSectionVars false
namespace Go.Proofs.YtmncplgccielbaaDoor
open Go.RowKit Go.Shelf
attribute [local go_sem] Oper.semAt_some

theorem bitv_u64 (b k : Nat) (hb : b < 2 ^ 64) : bits .and .u64 ((b : Int) / 2 ^ k) 1 = if b.testBit k then 1 else 0 := by
  rw [and1_u64 b k hb, M.testBit_mod]
  rcases Nat.mod_two_eq_zero_or_one (b / 2 ^ k) with h | h <;> rw [h] <;> rfl

theorem isB_same {B b : Nat} {bs : List Value} {w w' : World} (h : IsB B b bs w) (hs : ∀ (k : Nat) (o : Obj), w.heap[k]? = some o → o.isCells = true → w'.heap[k]? = some o) : IsB B b bs w' := by
  rcases h with ⟨hB, v, hb, hown, hne⟩ | ⟨hB, v, hb, hown, hne⟩
  · exact .inl ⟨hB, v, hs _ _ hb rfl, ⟨hown.1, hown.2.imp id fun ⟨g, cap, cur, hv, hg, hk, r⟩ => ⟨g, cap, cur, hv, hg, hs _ _ hk rfl, r⟩⟩, hne⟩
  · exact .inr ⟨hB, v, hs _ _ hb rfl, ⟨hown.1, hown.2.imp id fun ⟨g, cap, cur, hv, hg, hk, r⟩ => ⟨g, cap, cur, hv, hg, hs _ _ hk rfl, r⟩⟩, hne⟩
theorem isB_alloc {B b : Nat} {bs : List Value} {w : World} (h : IsB B b bs w) (o : Obj) : IsB B b bs (w.alloc o) :=
  isB_same h fun k _ hk _ => (Below.heap_alloc w o k (Array.getElem?_eq_some_iff.1 hk).1).trans hk
theorem isB_cells {B b : Nat} {bs : List Value} {w : World} (h : IsB B b bs w) : ∃ cs, w.heap[b]? = some (.cells cs 55 (0, 0)) := by
  rcases h with ⟨_, v, hb, _⟩ | ⟨_, v, hb, _⟩ <;> exact ⟨_, hb⟩
theorem keepsOthers_othersKept {B b : Nat} {bs : List Value} {w w' : World} (h : IsB B b bs w) (hk : Lib.OthersKept 5 (some b) w w') (hB : Below B w w') : KeepsOthers w w' := by
  obtain ⟨cs, hc⟩ := isB_cells h
  refine ⟨hB.size, fun k o ho hn => hk k o ho ?_ ?_⟩
  · rintro e
    obtain rfl := Option.some.inj e
    rw [hc] at ho
    obtain rfl := Option.some.inj ho
    cases hn
  · rintro c fz rfl
    cases hn
/-- a builder of the call's own, in rounds -/
theorem isB_keeps {B B' b : Nat} {bs : List Value} {w w' : World} (h : IsB B b bs w) (hk : Keeps B' w w') : IsB B b bs w' :=
  isB_same h fun k o ho hc => hk.same k o ho (.inr hc)

abbrev strE (r : List UInt8 × Int) : Value := .tuple #[.string ⟨r.1.toArray⟩, .int .i64 r.2]

theorem byteCells_snoc1 (l : List UInt8) (c : Bool) : Lib.byteCells l ++ [Value.int .u8 (if c then 49 else 48)] = Lib.byteCells (l ++ [if c then 49 else 48]) := by
  cases c <;> simp [Lib.byteCells]

set_option maxRecDepth 100000 in
set_option maxHeartbeats 1000000 in
theorem tText_any (N : Int) (b : Nat) (hb : b < 2 ^ 64) (w : World) :
    Calls Tryd.prog 8 #[.agg #[.int .i64 N, .int .u64 b]] w fun e w' => e = .returned (strE (T.textS N b)) ∧ Below w.heap.size w w' := by
  obtain ⟨W0, HW0⟩ : ∃ W0, (w.alloc (.cells #[.int .i64 N, .int .u64 b] 24)) = W0 := ⟨_, rfl⟩
  have sW0 : W0.heap.size = w.heap.size + 1 := by rw [← HW0]; simp only [World.size_alloc]
  have W0b0 : Blk W0 (w.heap.size) #[.int .i64 N, .int .u64 b] 24 := by
    rw [← HW0]; repeat (first | (refine Blk.new' ?_; first | rfl | (simp only [World.size_alloc]; done)) | refine Blk.alloc ?_ _)
  have W0B : Below w.heap.size w W0 := by
    rw [← HW0]
    repeat (first
      | exact Below.refl _ _
      | assumption
      | refine Below.drew ?_
      | refine below_drewN ?_ _
      | refine Below.setCell ?_ (by first | (simp only [World.size_alloc, sz_setCell, sz_drew, sz_drewN, sz_putObj] at *; omega) | omega | (simp; omega) | simp) _
      | refine Below.alloc ?_ (by first | (simp only [World.size_alloc, sz_setCell, sz_drew, sz_drewN, sz_putObj] at *; omega) | omega | (simp; omega) | simp) _
      | refine Below.trans ?_ (Below.mono (by assumption) (by first | (simp only [World.size_alloc, sz_setCell, sz_drew, sz_drewN, sz_putObj] at *; omega) | omega | (simp; omega) | simp)))
  replace HW0 := Lib.hid HW0
  have hC := tCheck_any N b W0 hb
  rcases T.chk_cases N b with ⟨hR, h0⟩ | ⟨hR, h0 | h0⟩
  · rw [h0] at hC
    obtain ⟨n, rfl⟩ := Int.eq_ofNat_of_zero_le hR.1
    have hn : n ≤ 6 := by have := hR.2.1; omega
    have h64 := M.sz_le hn
    have HC : Hid (T.textS n b = (T.txtL b (M.sz n), 0)) := Lib.hid (by unfold T.textS; rw [if_pos h0]; rfl)
    clear h0 hR
    refine calls_of_wp_marks Tryd.func8 rfl ?_
    simp only [Tryd.ntmps8, List.size_toArray, List.length_cons, List.length_nil, Nat.reduceAdd, Nat.reduceSub, Array.replicate_succ, Array.replicate_zero, List.push_toArray, List.append_toArray, List.nil_append, List.cons_append]
    go_wp2_with (first | (go_at_call 16; rw [HW0.out]; refine (hC).mono ?_; rintro e w' ⟨rfl, hb⟩; have hz := hb.size; have dl0 := (W0b0.ext hb).lt; have d0 := (W0b0.ext hb).cell 0; have df0 := (W0b0.ext hb).frozen 0; have d1 := (W0b0.ext hb).cell 1; have df1 := (W0b0.ext hb).frozen 1; simp only [List.getElem?_toArray, List.getElem?_cons_zero, List.getElem?_cons_succ] at d0 d1) | (go_at_call 21; refine (points_any _ _).mono ?_; rintro e w' ⟨rfl, hw'⟩; obtain rfl := hw'.symm))
    generalize hW1 : (w'.alloc (.cells #[.pointer none, .slice none 0 0] 55)).alloc (.cells #[.int .i64 n] 3) = W1
    have b0 : Blk W1 w.heap.size #[.int .i64 n, .int .u64 b] 24 := by rw [← hW1]; exact ((W0b0.ext hb).alloc _).alloc _
    have b1 : IsB w'.heap.size w'.heap.size (Lib.byteCells (T.txtL b 0)) W1 := by rw [← hW1]; exact isB_alloc (Lib.fresh_isBuilder _ _ w') _
    have b2 : Blk W1 (w'.heap.size + 1) #[.int .i64 n] 3 := by rw [← hW1]; exact Blk.new' (by simp)
    have hB1 : Below w.heap.size w W1 := by
      rw [← hW1]
      repeat (first
        | exact Below.refl _ _
        | assumption
        | refine Below.drew ?_
        | refine below_drewN ?_ _
        | refine Below.setCell ?_ (by first | (simp only [World.size_alloc, sz_setCell, sz_drew, sz_drewN, sz_putObj] at *; omega) | omega | (simp; omega) | simp) _
        | refine Below.alloc ?_ (by first | (simp only [World.size_alloc, sz_setCell, sz_drew, sz_drewN, sz_putObj] at *; omega) | omega | (simp; omega) | simp) _
        | refine Below.trans ?_ (Below.mono (by assumption) (by first | (simp only [World.size_alloc, sz_setCell, sz_drew, sz_drewN, sz_putObj] at *; omega) | omega | (simp; omega) | simp)))
    have hs1 : W1.heap.size = w'.heap.size + 2 := by rw [← hW1]; simp
    have lt0 : w.heap.size < w'.heap.size := by omega
    clear hW1
    refine wp_range (gf := 35) (lb := #[.pointer (some ⟨w'.heap.size + 1, 0, none⟩)]) rfl (enters_of Tryd.func35 (by kernel_rfl) rfl)
      (points1_runs (w'.heap.size + 1) n hn (fun _ _ => True) W1 b2) (fun _ _ => trivial) (fun _ _ _ _ _ _ _ => trivial) (fun _ => rfl)
      (fun k W => IsB w'.heap.size w'.heap.size (Lib.byteCells (T.txtL b k)) W ∧ Blk W w.heap.size #[.int .i64 n, .int .u64 b] 24 ∧ Below w.heap.size w W ∧ W1.heap.size ≤ W.heap.size)
      (fun _ _ _ => False)
      (fun k W W' hi hk => ⟨isB_keeps hi.1 hk, hk.blk hi.2.1, Keeps.below hi.2.2.1 hk (by omega) (Nat.le_refl _), Nat.le_trans hi.2.2.2 hk.size⟩)
      (fun _ _ _ _ h _ => h)
      ⟨b1, b0, hB1, Nat.le_refl _⟩ ?round ?done ?stop
    case round =>
      rintro l k x W hx hI
      obtain ⟨rfl, hkm⟩ := range_get hx
      clear hx
      gi_wp2
      refine ⟨KeepsOthers.refl _, trivial, fun l' W2 hk2 => ?_⟩
      obtain ⟨a1, a0, hB, hW1⟩ := hI
      replace a1 := isB_keeps a1 hk2
      replace a0 := hk2.blk a0
      replace hB := Keeps.below hB hk2 (by omega) (Nat.le_refl _)
      have hs2 := hk2.size
      clear hk2
      have cl0 := (a0).lt
      have c0 := (a0).cell 0
      have cf0 := (a0).frozen 0
      have c1 := (a0).cell 1
      have cf1 := (a0).frozen 1
      simp only [List.getElem?_toArray, List.getElem?_cons_zero, List.getElem?_cons_succ] at c0 c1
      have hbit := bitv_u64 b x (by assumption)
      have hlen := T.txtL_length b x
      cases hpx : b.testBit x
      · rw [hpx] at hbit
        simp only [Bool.false_eq_true, if_false] at hbit
        gi_wp2_with (refine ⟨trivial, ?_⟩; refine CallsIn.mono (CallsIn.inRound l' (callsIn_wide.2 (writeByte_any _ _ _ 48 W2 a1 (by rw [Lib.byteCells_length]; omega) (by omega)))) ?_; rintro e w2 ⟨rfl, h1, hb', hk'⟩)
        exact ⟨keepsOthers_othersKept a1 hk' hb', trivial, by rw [T.txtL_succ, hpx]; simpa [Lib.byteCells] using h1, a0.below hb' lt0, hB.trans (hb'.mono (by omega)), by have := hb'.size; omega⟩
      · rw [hpx] at hbit
        simp only [if_true] at hbit
        gi_wp2_with (refine ⟨trivial, ?_⟩; refine CallsIn.mono (CallsIn.inRound l' (callsIn_wide.2 (writeByte_any _ _ _ 49 W2 a1 (by rw [Lib.byteCells_length]; omega) (by omega)))) ?_; rintro e w2 ⟨rfl, h1, hb', hk'⟩)
        exact ⟨keepsOthers_othersKept a1 hk' hb', trivial, by rw [T.txtL_succ, hpx]; simpa [Lib.byteCells] using h1, a0.below hb' lt0, hB.trans (hb'.mono (by omega)), by have := hb'.size; omega⟩
    case done =>
      rintro D W hD ⟨a1, a0, hB, hW1⟩ hK
      go_wp2_with (go_at_call 23; refine (builder_String _ _ _ _ a1 (by omega)).mono ?_; rintro e w2 ⟨rfl, hb2, hk2⟩)
      simp only [List.length_range] at a1 hb2
      have hK2 : w2.heap[D]? = some (.deferred (some [])) := (keepsOthers_othersKept a1 hk2 hb2).same D _ hK rfl
      refine post_mark (v := .tuple #[.string ⟨(T.txtL b (List.range (M.sz n)).length).toArray⟩, .int .i64 0]) hK2 (by simp [results, Tryd.results8, go_sem]) ⟨?_, ?_⟩
      · rw [HC.out, List.length_range]
      · exact (hB.trans (hb2.mono (by omega))).trans (belowK_b (w := w) (Nat.le_refl _) w2 D _ _ (by omega) hK2 rfl rfl)
    case stop =>
      rintro D c k W _ _ h _
      exact h.elim
  all_goals
    rw [h0] at hC
    have HC : Hid (T.textS N b = ([], T.chk N b)) := Lib.hid (by unfold T.textS; rw [if_neg (by omega)])
    rw [h0] at HC
    clear h0 hR
    refine calls_of_wp_marks Tryd.func8 rfl ?_
    simp only [Tryd.ntmps8, List.size_toArray, List.length_cons, List.length_nil, Nat.reduceAdd, Nat.reduceSub, Array.replicate_succ, Array.replicate_zero, List.push_toArray, List.append_toArray, List.nil_append, List.cons_append]
    go_wp2_with (first | (go_at_call 16; rw [HW0.out]; refine (hC).mono ?_; rintro e w' ⟨rfl, hb⟩; have hz := hb.size; have dl0 := (W0b0.ext hb).lt; have d0 := (W0b0.ext hb).cell 0; have df0 := (W0b0.ext hb).frozen 0; have d1 := (W0b0.ext hb).cell 1; have df1 := (W0b0.ext hb).frozen 1; simp only [List.getElem?_toArray, List.getElem?_cons_zero, List.getElem?_cons_succ] at d0 d1))
    refine post_nomark (v := strE (T.textS N b)) (by rw [HC.out]; simp [results, Tryd.results8, go_sem]) ⟨rfl, ?_⟩
    repeat (first
      | exact Below.refl _ _
      | assumption
      | refine Below.drew ?_
      | refine below_drewN ?_ _
      | refine Below.setCell ?_ (by first | (simp only [World.size_alloc, sz_setCell, sz_drew, sz_drewN, sz_putObj] at *; omega) | omega | (simp; omega) | simp) _
      | refine Below.alloc ?_ (by first | (simp only [World.size_alloc, sz_setCell, sz_drew, sz_drewN, sz_putObj] at *; omega) | omega | (simp; omega) | simp) _
      | refine Below.trans ?_ (Below.mono (by assumption) (by first | (simp only [World.size_alloc, sz_setCell, sz_drew, sz_drewN, sz_putObj] at *; omega) | omega | (simp; omega) | simp)))

end Go.Proofs.YtmncplgccielbaaDoor
