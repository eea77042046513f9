/- A range over a function, by position: the contract of an iterator over a known list, and the law of the statement; over the wide fence, at a function's own level. -/
import Derived.Test.YtmncplgccielbaaDoorBase
set_option maxHeartbeats 1000000
set_option maxRecDepth 4000
set_option linter.unusedSimpArgs false
set_option linter.unusedVariables false
set_option linter.unusedSectionVars false
namespace Go.Proofs.YtmncplgccielbaaDoor
open Go.RowKit Go.Shelf

/-- What a loop's own book-keeping and an iterator that makes memory keep: all below B, and every row of cells. -/
structure Keeps (B : Nat) (W W' : World) : Prop where
  os : W'.os = W.os
  tape : W'.tape = W.tape
  output : W'.output = W.output
  size : W.heap.size ≤ W'.heap.size
  same : ∀ (k : Nat) (o : Obj), W.heap[k]? = some o → (k < B ∨ o.isCells = true) → W'.heap[k]? = some o

theorem Keeps.refl (B : Nat) (W : World) : Keeps B W W := ⟨rfl, rfl, rfl, Nat.le_refl _, fun _ _ h _ => h⟩
theorem Keeps.trans {B : Nat} {X Y Z : World} (h : Keeps B X Y) (k : Keeps B Y Z) : Keeps B X Z :=
  ⟨k.os.trans h.os, k.tape.trans h.tape, k.output.trans h.output, Nat.le_trans h.size k.size, fun i o hi ho => k.same i o (h.same i o hi ho) ho⟩
theorem Keeps.of_below {B : Nat} {W W' : World} (h : Below W.heap.size W W') : Keeps B W W' :=
  ⟨h.os, h.tape, h.output, h.size, fun k _ hk _ => (h.block k (Array.getElem?_eq_some_iff.1 hk).1).trans hk⟩
theorem Keeps.putObj {B l : Nat} {W : World} {o : Obj} (o' : Obj) (hB : B ≤ l) (hl : W.heap[l]? = some o) (ho : o.isCells = false) : Keeps B W (W.putObj l o') :=
  ⟨rfl, rfl, rfl, by simp, fun k o'' hk hc => by
    refine (World.putObj_heap_other ?_).trans hk
    rintro rfl
    rw [hl] at hk; cases hk
    rcases hc with hc | hc
    · omega
    · rw [ho] at hc; cases hc⟩
theorem Keeps.below {B B' : Nat} {X W W' : World} (hb : Below B' X W) (hk : Keeps B W W') (h : B' ≤ B) (hX : B' ≤ X.heap.size) : Below B' X W' :=
  hb.trans ⟨hk.os, hk.tape, hk.output, hk.size, fun k hkB => by
    have hlt : k < W.heap.size := Nat.lt_of_lt_of_le hkB (Nat.le_trans hX hb.size)
    rw [Array.getElem?_eq_getElem hlt]
    exact hk.same k _ (Array.getElem?_eq_getElem hlt) (.inl (by omega))⟩
theorem Keeps.blk {B b : Nat} {W W' : World} {cs : Array Value} {T : TypeId} (hk : Keeps B W W') (h : Blk W b cs T) : Blk W' b cs T :=
  hk.same b _ h (.inr rfl)
theorem Keeps.mono {B B' : Nat} {W W' : World} (h : Keeps B W W') (hB : B' ≤ B) : Keeps B' W W' :=
  ⟨h.os, h.tape, h.output, h.size, fun k o hk hc => h.same k o hk (hc.imp (fun x => by omega) id)⟩

/-- An invariant that speaks of cells, and of what lies below B, alone. -/
def Firm (B : Nat) (I : Nat → World → Prop) : Prop := ∀ k W W', I k W → Keeps B W W' → I k W'
theorem Firm.mono {B B' : Nat} {I : Nat → World → Prop} (h : Firm B I) (hB : B ≤ B') : Firm B' I := fun k W W' hi hk => h k W W' hi (hk.mono hB)

/-- THE ITERATOR's CONTRACT: it hands the elements of xs to yield, in order, until yield says no; Kp: what a round must keep. -/
def SeqRuns {α : Type} (P : Program) (g : Nat) (lb : Array Value) (encs : α → Array Value) (Kp : World → World → Prop) (xs : List α) (w : World) : Prop :=
  ∀ (l : Nat) (J Jx : Nat → World → Prop) (W : World), Keeps w.heap.size w W → Firm W.heap.size J → Firm W.heap.size Jx →
    (∀ k x W1, xs[k]? = some x → J k W1 → YieldAt Fence.wide 9 P l (encs x) W1 fun e W' =>
      (e = .returned (.bool true) ∧ J (k + 1) W' ∧ Kp W1 W') ∨ (e = .returned (.bool false) ∧ Jx (k + 1) W')) →
    J 0 W →
    CallsIn Fence.wide 9 P g (#[.func (.yield l) #[] #[]] ++ lb) W fun e W' => (∃ v, e = .returned v) ∧ (J xs.length W' ∨ ∃ k, k ≤ xs.length ∧ Jx k W')

/-- How the body of a round may be left. -/
def roundEnd (Kp : World → World → Prop) (I : Nat → World → Prop) (Ix : Code → Nat → World → Prop) (k : Nat) (W : World) : Exit → Act → World → Prop
  | .normal, _, W' => KeepsOthers W W' ∧ Kp W W' ∧ I (k + 1) W'
  | .ret, _, W' => KeepsOthers W W' ∧ Ix .ret (k + 1) W'
  | .exit id, _, W' => KeepsOthers W W' ∧ Ix (.exit id) (k + 1) W'
  | .goto t, _, W' => KeepsOthers W W' ∧ Ix (.goto t) (k + 1) W'
  | .panic _, _, _ => False
  | .outgrown, _, _ => False

theorem roundIn_wide_n {n m : Nat} {P : Program} {l : Nat} {f : FuncId} {tmps : Array Value} {assign body : Code} {w : World} {R : Ending → World → Prop}
    (h : RoundIn Fence.wide n P l f tmps assign body w R) : RoundIn Fence.wide m P l f tmps assign body w R :=
  ⟨trivial, fun c cs _ => h.2 c cs (room_wide _)⟩
theorem callsIn_wide_n {n m : Nat} {P : Program} {f : FuncId} {args : Array Value} {w : World} {R : Ending → World → Prop}
    (h : CallsIn Fence.wide n P f args w R) : CallsIn Fence.wide m P f args w R := callsIn_wide.2 (callsIn_wide.1 h)

variable {P : Program}

/-- THE LAW OF 'for x := range g { body }' at a function's own level; the loop's variables may lie in boxes (Ax). -/
theorem wp_range_box {α : Type} {g : Operand} {ps : Array Tmp} {assign body : Code} {Q : Exit → Act → World → Prop} {a : Act} {w : World}
    {gf : Nat} {lb : Array Value} (hg : a.eval g = .func (.func gf) #[] lb) (eg : ∀ args w, (callFunc gf args).run P w = .ok (.enter gf args) w)
    {encs : α → Array Value} {Kp : World → World → Prop} {xs : List α} (hseq : SeqRuns P gf lb encs Kp xs w)
    (hKt : ∀ {A B C : World}, Kp A B → Kp B C → Kp A C)
    (hKb : ∀ (W : World) (l : Nat) (o o' : Obj), w.heap.size ≤ l → W.heap[l]? = some o → o.isCells = false → Kp W (W.putObj l o'))
    (hps : ∀ x, (encs x).size = ps.size)
    (I : Nat → World → Prop) (Ix : Code → Nat → World → Prop) (hI : Firm w.heap.size I) (hIx : ∀ c, Firm w.heap.size (Ix c)) (h0 : I 0 w)
    (Ax : Nat → α → Act → World → Prop) (hAx : ∀ k x a' W W', Ax k x a' W → Keeps w.heap.size W W' → Ax k x a' W')
    (hassign : ∀ (l k : Nat) (x : α) (W : World), xs[k]? = some x → I k W →
      assign.wpIn (Fence.wide.inRound l) 9 P (Exit.then (fun a' W' => KeepsOthers W W' ∧ Kp W W' ∧ Ax k x a' W') (fun _ _ _ => False))
        { tmps := (ps.zip (encs x)).foldl (fun t (p, v) => t.setIfInBounds p v) a.tmps, defers := [] } W)
    (hbody : ∀ (l k : Nat) (x : α) (a' : Act) (W : World), xs[k]? = some x → Ax k x a' W → body.wpIn (Fence.wide.inRound l) 9 P (roundEnd Kp I Ix k W) a' W)
    (hdone : ∀ (D : Nat) (W : World), w.heap.size ≤ D → I xs.length W → W.heap[D]? = some (.deferred (some [])) → Q .normal { a with defers := { target := .collected D, args := #[] } :: a.defers } W)
    (hstop : ∀ (D : Nat) (c : Code) (k : Nat) (W : World), w.heap.size ≤ D → k ≤ xs.length → Ix c k W → W.heap[D]? = some (.deferred (some [])) → c.wp P Q { a with defers := { target := .collected D, args := #[] } :: a.defers } W) :
    (Code.rangeFunc g ps assign body).wp P Q a w := by
  refine (wpIn_wide (n := 9)).1 (wpIn_rangeFunc ?_)
  intro fn _
  -- the loop's record, by its state
  obtain ⟨rec, hrec⟩ : ∃ rec : LoopState → Option Code → Loop, rec = fun st pe => { state := st, pending := pe, fn, tmps := a.tmps, params := ps, assign, body, defers := w.heap.size } := ⟨_, rfl⟩
  obtain ⟨W1, hW1⟩ : ∃ W1, (w.alloc (.deferred (some []))).alloc (.loop (rec .ready none)) = W1 := ⟨_, rfl⟩
  have hL1 : W1.heap[w.heap.size + 1]? = some (.loop (rec .ready none)) := by
    rw [← hW1]; have := World.alloc_heap_new (w.alloc (.deferred (some []))) (.loop (rec .ready none)); rwa [World.size_alloc] at this
  have hK1 : W1.heap[w.heap.size]? = some (.deferred (some [])) := by
    rw [← hW1]; exact (Below.heap_alloc _ _ _ (by simp)).trans (World.alloc_heap_new w _)
  have hs1 : W1.heap.size = w.heap.size + 2 := by rw [← hW1]; simp
  have hkp1 : Keeps w.heap.size w W1 := Keeps.of_below (by rw [← hW1]; exact ((Below.refl _ w).alloc (Nat.le_refl _) _).alloc (by simp) _)
  have hI1 : I 0 W1 := hI _ _ _ h0 hkp1
  refine ⟨w.heap.size + 1, [{ target := .collected w.heap.size, args := #[] }], W1, { target := .fn (.func gf) lb, args := #[.func (.yield (w.heap.size + 1)) #[] #[]] }, W1, gf,
    #[.func (.yield (w.heap.size + 1)) #[] #[]] ++ lb, W1, ?_, ?_, ?_, ?_, by simp [Fence.wide], ?_⟩
  · rw [← hW1, hrec]; exact run_enterLoop_outer _ _ _ _ _
  · simp only [resolve, hg]
    simp [go_sem]
  · intro f' _; trivial
  · simp [invoke, go_sem, eg]
  · have keepL : ∀ {A B : World} (st : LoopState) (pe : Option Code), Keeps W1.heap.size A B → A.heap[w.heap.size + 1]? = some (.loop (rec st pe)) → B.heap[w.heap.size + 1]? = some (.loop (rec st pe)) :=
      fun st pe hk h => hk.same _ _ h (.inl (by omega))
    have keepD : ∀ {A B : World}, Keeps W1.heap.size A B → A.heap[w.heap.size]? = some (.deferred (some [])) → B.heap[w.heap.size]? = some (.deferred (some [])) :=
      fun hk h => hk.same _ _ h (.inl (by omega))
    refine (callsIn_wide_n (hseq (w.heap.size + 1)
      (fun k W => I k W ∧ W.heap[w.heap.size + 1]? = some (.loop (rec .ready none)) ∧ W.heap[w.heap.size]? = some (.deferred (some [])))
      (fun k W => ∃ c, Ix c k W ∧ W.heap[w.heap.size + 1]? = some (.loop (rec .done (some c))) ∧ W.heap[w.heap.size]? = some (.deferred (some [])))
      W1 hkp1
      (fun k A B hs hk => ⟨hI _ _ _ hs.1 (hk.mono (by omega)), keepL _ _ hk hs.2.1, keepD hk hs.2.2⟩)
      (fun k A B hs hk => by obtain ⟨c, hc, hl, hd⟩ := hs; exact ⟨c, hIx c _ _ _ hc (hk.mono (by omega)), keepL _ _ hk hl, keepD hk hd⟩)
      ?_ ⟨hI1, hL1, hK1⟩)).mono ?_
    · -- one round
      rintro k x W hx ⟨hi, hl, hd⟩
      have hlt : w.heap.size + 1 < W.heap.size := (Array.getElem?_eq_some_iff.1 hl).1
      have hy := run_yield (P := P) (args := encs x) hl (by rw [hrec]; exact hps x)
      rw [hrec] at hy
      refine ⟨fn, _, assign, body, hy, roundIn_of_wpIn trivial (wpIn_mono (hassign _ k x W hx hi) ?_)⟩
      rintro e a' Wa hp
      cases e with
      | normal =>
        obtain ⟨hka, hkpa, hax⟩ := hp
        have hla := hka.same _ _ hl rfl
        have hda := hka.same _ _ hd rfl
        have hlta : w.heap.size + 1 < Wa.heap.size := (Array.getElem?_eq_some_iff.1 hla).1
        refine ⟨_, run_beginRound hla (by rw [hrec]), ?_⟩
        have hl2 : (Wa.putObj (w.heap.size + 1) (.loop { rec .ready none with state := .busy })).heap[w.heap.size + 1]? = some (.loop { rec .ready none with state := .busy }) := World.putObj_heap_same hlta
        have hd2 : (Wa.putObj (w.heap.size + 1) (.loop { rec .ready none with state := .busy })).heap[w.heap.size]? = some (.deferred (some [])) := (World.putObj_heap_other (by omega)).trans hda
        have hkp2 : Kp Wa (Wa.putObj (w.heap.size + 1) (.loop { rec .ready none with state := .busy })) := hKb _ _ _ _ (by omega) hla rfl
        have hax2 := hAx _ _ _ _ _ hax (Keeps.putObj (.loop { rec .ready none with state := .busy }) (B := w.heap.size) (by omega) hla rfl)
        refine wpIn_mono (hbody _ k x a' _ hx hax2) ?_
        have fin : ∀ (jump : Option Code) (W3 : World), KeepsOthers (Wa.putObj (w.heap.size + 1) (.loop { rec .ready none with state := .busy })) W3 →
            (Instr.endRound (w.heap.size + 1) jump).run P W3 = .ok (.bool jump.isNone) (W3.putObj (w.heap.size + 1) (.loop (rec (if jump.isNone then .ready else .done) jump))) ∧
            W3.heap[w.heap.size + 1]? = some (.loop { rec .ready none with state := .busy }) ∧
            (W3.putObj (w.heap.size + 1) (.loop (rec (if jump.isNone then .ready else .done) jump))).heap[w.heap.size + 1]? = some (.loop (rec (if jump.isNone then .ready else .done) jump)) ∧
            (W3.putObj (w.heap.size + 1) (.loop (rec (if jump.isNone then .ready else .done) jump))).heap[w.heap.size]? = some (.deferred (some [])) := fun jump W3 hk3 => by
          have hl3 := hk3.same _ _ hl2 rfl
          have := run_endRound (P := P) jump hl3
          rw [hrec] at this ⊢
          exact ⟨this, by rw [hrec] at hl3; exact hl3, World.putObj_heap_same (Array.getElem?_eq_some_iff.1 hl3).1, (World.putObj_heap_other (by omega)).trans (hk3.same _ _ hd2 rfl)⟩
        rintro e a3 W3 hp
        cases e with
        | normal =>
          obtain ⟨hk3, hkp3, hi3⟩ := hp
          obtain ⟨hr, hl3, hl4, hd4⟩ := fin none W3 hk3
          exact ⟨_, _, hr, .inl ⟨rfl, ⟨hI _ _ _ hi3 (Keeps.putObj _ (by omega) hl3 rfl), hl4, hd4⟩, hKt hkpa (hKt (hKt hkp2 hkp3) (hKb _ _ _ _ (by omega) hl3 rfl))⟩⟩
        | ret =>
          obtain ⟨hk3, hi3⟩ := hp
          obtain ⟨hr, hl3, hl4, hd4⟩ := fin (some .ret) W3 hk3
          exact ⟨_, _, hr, .inr ⟨rfl, .ret, hIx _ _ _ _ hi3 (Keeps.putObj _ (by omega) hl3 rfl), hl4, hd4⟩⟩
        | exit id =>
          obtain ⟨hk3, hi3⟩ := hp
          obtain ⟨hr, hl3, hl4, hd4⟩ := fin (some (.exit id)) W3 hk3
          exact ⟨_, _, hr, .inr ⟨rfl, .exit id, hIx _ _ _ _ hi3 (Keeps.putObj _ (by omega) hl3 rfl), hl4, hd4⟩⟩
        | goto t =>
          obtain ⟨hk3, hi3⟩ := hp
          obtain ⟨hr, hl3, hl4, hd4⟩ := fin (some (.goto t)) W3 hk3
          exact ⟨_, _, hr, .inr ⟨rfl, .goto t, hIx _ _ _ _ hi3 (Keeps.putObj _ (by omega) hl3 rfl), hl4, hd4⟩⟩
        | panic ch => exact hp.elim
        | outgrown => exact hp.elim
      | ret => exact hp.elim
      | exit id => exact hp.elim
      | goto t => exact hp.elim
      | panic ch => exact hp.elim
      | outgrown => exact hp.elim
    · -- behind the iterator
      rintro e W2 ⟨⟨v, rfl⟩, (⟨hi, hl, hd⟩ | ⟨k, hk, c, hi, hl, hd⟩)⟩
      · exact ⟨none, _, by have := run_endLoop (P := P) hl (by rw [hrec]; simp); rw [hrec] at this; exact this, hdone _ _ (Nat.le_refl _) (hI _ _ _ hi (Keeps.putObj _ (by omega) hl rfl)) ((World.putObj_heap_other (by omega)).trans hd)⟩
      · exact ⟨some c, _, by have := run_endLoop (P := P) hl (by rw [hrec]; simp); rw [hrec] at this; exact this,
          wpIn_wide.2 (hstop _ c k _ (Nat.le_refl _) hk (hIx c _ _ _ hi (Keeps.putObj _ (by omega) hl rfl)) ((World.putObj_heap_other (by omega)).trans hd))⟩

/-- The same, assignment and body walked in one go. -/
theorem wp_range {α : Type} {g : Operand} {ps : Array Tmp} {assign body : Code} {Q : Exit → Act → World → Prop} {a : Act} {w : World}
    {gf : Nat} {lb : Array Value} (hg : a.eval g = .func (.func gf) #[] lb) (eg : ∀ args w, (callFunc gf args).run P w = .ok (.enter gf args) w)
    {encs : α → Array Value} {Kp : World → World → Prop} {xs : List α} (hseq : SeqRuns P gf lb encs Kp xs w)
    (hKt : ∀ {A B C : World}, Kp A B → Kp B C → Kp A C)
    (hKb : ∀ (W : World) (l : Nat) (o o' : Obj), w.heap.size ≤ l → W.heap[l]? = some o → o.isCells = false → Kp W (W.putObj l o'))
    (hps : ∀ x, (encs x).size = ps.size)
    (I : Nat → World → Prop) (Ix : Code → Nat → World → Prop) (hI : Firm w.heap.size I) (hIx : ∀ c, Firm w.heap.size (Ix c)) (h0 : I 0 w)
    (hround : ∀ (l k : Nat) (x : α) (W : World), xs[k]? = some x → I k W →
      assign.wpIn (Fence.wide.inRound l) 9 P (Exit.then (fun a' W' => KeepsOthers W W' ∧ Kp W W' ∧ ∀ (l' : Nat) (W'' : World), Keeps w.heap.size W' W'' → body.wpIn (Fence.wide.inRound l') 9 P (roundEnd Kp I Ix k W'') a' W'') (fun _ _ _ => False))
        { tmps := (ps.zip (encs x)).foldl (fun t (p, v) => t.setIfInBounds p v) a.tmps, defers := [] } W)
    (hdone : ∀ (D : Nat) (W : World), w.heap.size ≤ D → I xs.length W → W.heap[D]? = some (.deferred (some [])) → Q .normal { a with defers := { target := .collected D, args := #[] } :: a.defers } W)
    (hstop : ∀ (D : Nat) (c : Code) (k : Nat) (W : World), w.heap.size ≤ D → k ≤ xs.length → Ix c k W → W.heap[D]? = some (.deferred (some [])) → c.wp P Q { a with defers := { target := .collected D, args := #[] } :: a.defers } W) :
    (Code.rangeFunc g ps assign body).wp P Q a w :=
  wp_range_box hg eg hseq hKt hKb hps I Ix hI hIx h0 (fun k _ a' W' => ∀ (l' : Nat) (W'' : World), Keeps w.heap.size W' W'' → body.wpIn (Fence.wide.inRound l') 9 P (roundEnd Kp I Ix k W'') a' W'')
    (fun _ _ _ _ _ h hk l' W'' hk' => h l' W'' (hk.trans hk')) hround (fun l _ _ _ W _ h => h l W (Keeps.refl _ _)) hdone hstop

/-- A function whose body holds a range over a function: its contract from its body. -/
theorem calls_of_wp_marks {f : FuncId} {fn : Func} {c : Code} {args : Array Value} {w : World} {R : Ending → World → Prop}
    (hf : P.funcs[f]? = some fn) (hb : fn.body = some c)
    (h : c.wp P (bodyPostM Fence.wide 9 P fn R) { tmps := args ++ Array.replicate (fn.ntmps - args.size) undef, defers := [] } w) : Calls P f args w R :=
  callsIn_wide.1 (callsIn_of_wp_marks (n := 9) hf hb trivial (wpIn_wide.2 h) rfl)

/-- It leaves with one mark. -/
theorem post_mark {fn : Func} {R : Ending → World → Prop} {tmps : Array Value} {D : Nat} {w : World} {v : Value}
    (hD : w.heap[D]? = some (.deferred (some [])))
    (hres : (results fn tmps).run P (w.putObj D (.deferred none)) = .ok v (w.putObj D (.deferred none)))
    (hR : R (.returned v) (w.putObj D (.deferred none))) :
    bodyPostM Fence.wide 9 P fn R .ret { tmps := tmps, defers := [{ target := .collected D, args := #[] }] } w :=
  ⟨by simp, .inl ⟨_, _, rfl, run_takeDeferred hD, _, hres, hR⟩⟩
/-- It leaves with no mark. -/
theorem post_nomark {fn : Func} {R : Ending → World → Prop} {tmps : Array Value} {w : World} {v : Value}
    (hres : (results fn tmps).run P w = .ok v w) (hR : R (.returned v) w) :
    bodyPostM Fence.wide 9 P fn R .ret { tmps := tmps, defers := [] } w :=
  ⟨_, hres, hR⟩

end Go.Proofs.YtmncplgccielbaaDoor
