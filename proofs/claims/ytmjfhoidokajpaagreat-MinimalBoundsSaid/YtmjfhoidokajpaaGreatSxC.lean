/- The symbolic executor stands for the model: regions in the order of the text. -/
import Derived.Test.YtmjfhoidokajpaaGreatSxB
import Derived.LoopNIn
set_option maxHeartbeats 1000000
set_option maxRecDepth 4000
set_option linter.unusedSimpArgs false
set_option linter.unusedVariables false
set_option linter.unusedSectionVars false
namespace Go.Sx
open Go

/-- what the caller of an iterator promises -/
structure Yields (C : Ctx) (P : Program) (l : Nat) (xs : List (List Value)) : Prop where
  at_ : ∀ (k : Nat) (x : List Value) (I : Nat → Prop) (W1 : World), xs[k]? = some x → C.J (some k) I W1 → YieldAt Fence.wide 9 P l x.toArray W1 fun e W' =>
      KeepsI I C.mem0 W1 W' ∧ ((e = .returned (.bool true) ∧ C.J (some (k + 1)) I W') ∨ (e = .returned (.bool false) ∧ C.J none I W'))
  stab : StabJ C.J
  wk : C.wk.heap = #[]
  m : C.m = 0
  kh : C.kh = 0
structure CX (C : Ctx) (X : Cfg) (F : Fence) : Prop where
  m : C.m = X.m
  y : ∀ l xs, X.yl = some (l, xs) → Yields C X.P l xs ∧ F = Fence.wide
  f : X.rnd = false → F = Fence.wide ∧ C.nm = false
  lent : ∀ i b, i < C.m → (C.hd0 i).bind blockOf = some b → b < C.base
  rm : C.ro ≤ C.m
  gl : ∀ p ∈ X.gl, C.mem0 p.1 = some p.2

theorem arr1 {α : Type} {a : Array α} {x : α} (h : a = ⟨[x]⟩) : a = #[x] := h

theorem callVal_sound {gr : Bool} {C : Ctx} {E : Env} {st : St} {a : Act} {w : World} (h : Models C E st a w) {X : Cfg} (hnt : C.nt = X.nt) (hro : C.ro = X.ro) (hgl : ∀ p ∈ X.gl, C.mem0 p.1 = some p.2) {o : Oper} (hd : okDst X.nt o.dst = true) {f : Operand} {args : Array Operand} {ts : Array TypeId} (ho : o.op = .call ⟨.value f, args, ts⟩)
    {F : Fence} (hF : Wide F) {K : St → Prop} {k : Nat} {capt : List SV} {cvs : Array Value} (hfe : a.eval f = .func (.func k) #[] cvs) (hcl : cvs.size = capt.length) (hce : ∀ (q : Nat) (u : Value) (s : SV), cvs[q]? = some u → capt[q]? = some s → SRep E u s)
    (hk : callK X gr k (evs st args.toList ++ capt) o.dst st K) {next : Act → World → Prop} {Q : Exit → Act → World → Prop}
    (hn : ∀ st' E' a' w', K st' → Models C E' st' a' w' → (gr = true → isGrow o.op = true → Grow w w') → next a' w') : o.wpIn F 9 X.P a w next Q := by
  have hnd : ∀ c', o.op ≠ .defer c' := by simp [ho]
  obtain ⟨e1, e2⟩ := evs_rep h args.toList
  have hsz : (args.map a.eval ++ cvs).size = (evs st args.toList ++ capt).length := by simp [e1, hcl]
  have hvs : ∀ (q : Nat) (u : Value) (s : SV), (args.map a.eval ++ cvs)[q]? = some u → (evs st args.toList ++ capt)[q]? = some s → SRep E u s := by
    intro q u s hu hs
    by_cases hq : q < args.size
    · rw [Array.getElem?_append_left (by simpa using hq)] at hu
      rw [List.getElem?_append_left (by rw [e1]; simpa using hq)] at hs
      exact e2 q u s (by simpa using hu) hs
    · rw [Array.getElem?_append_right (by simp; omega)] at hu
      rw [List.getElem?_append_right (by rw [e1]; simp; omega)] at hs
      rw [e1] at hs
      simp only [Array.size_map] at hu
      simp only [Array.length_toList] at hs
      exact hce _ u s hu hs
  obtain ⟨⟨fn, hfn, hb, hnm⟩, hcalls⟩ := callK_sound h hnt hro hd hsz hvs hgl hk fun st' E' a' w' hk' h' hg => hn st' E' a' w' hk' h' fun g1 _ => hg g1
  refine ⟨fun g _ => hF.fn g, ?_⟩
  have hrun : (execOp a.eval o).run X.P w = .ok (.enter k (args.map a.eval ++ cvs)) w := by
    simp [execOp, ho, resolve, hfe, Deferred.ofValue, invoke, callFunc_run hfn hb hnm]
  rw [Oper.semAt_plain F _ _ hnd, hrun]
  rw [Oper.uponIn_enter]
  refine ⟨fun hdep => (by rw [hF.depth] at hdep; cases hdep), hF.calls (hcalls.mono ?_)⟩
  rintro e w' ⟨v, rfl, hv⟩
  exact hv

/-- a row of the call's own that nobody writes any more -/
theorem HRep.freeze {C : Ctx} {E : Env} {st : St} {w : World} (h : HRep C E st w) {i : Nat} {T : TypeId} {sz n : Nat} {f : Nat → List PV} (hob : st.obj i = some (.row T sz n f)) (hm : C.m ≤ i) :
    ∃ E', E.Le E' ∧ (E'.ws = E.ws ∧ E'.I = E.I) ∧ HRep C E' (st.setOb i none) w ∧ ∀ v, SRep E v (.row i) → PRep E'.mem v (.seq n f) := by
  have hset : ∀ k, (st.setOb i none).obj k = if i = k then none else st.obj k := fun k => obj_cons st.fr st.ob st.no _ _ _ _
  have hold : ∀ k o, (st.setOb i none).obj k = some o → st.obj k = some o ∧ i ≠ k := fun k o ho => by
    rw [hset] at ho
    by_cases e : i = k
    · rw [if_pos e] at ho; cases ho
    · rw [if_neg e] at ho; exact ⟨ho, e⟩
  obtain ⟨v0, xs, u, hh, hw, hmax, hl, hc, he⟩ := row_inv (h.ob _ _ hob)
  rcases hw.2 with ⟨e0, rfl⟩ | ⟨g, cap, cur, e0, _⟩
  · subst e0
    refine ⟨E, Env.Le.refl E, ⟨rfl, rfl⟩, ⟨fun k o ho => h.ob k o (hold k o ho).1, fun a b o o' bl ho ho' => h.sep a b o o' bl (hold a o ho).1 (hold b o' ho').1, fun k o b ho => h.own k o b (hold k o ho).1, h.mem, h.mem0, h.memnew, h.new, h.base, h.fr, h.hd0, h.mno, h.mkh, h.kk⟩, fun v hv => ?_⟩
    cases hv with
    | row _ _ hh2 _ => rw [hh] at hh2; cases hh2; exact .nil _
  · subst e0
    obtain ⟨_, cur, u, hR⟩ := (h.ob _ _ hob).row_at hh
    have hbk : E.blk i = some g := by simp [Env.blk, hh, blockOf]
    obtain ⟨hg0, hg1, hg2⟩ := h.own i _ g hob hbk
    have hgb : C.base ≤ g := hg1.resolve_right (fun x => by omega)
    have hgm : E.mine g := hg2.resolve_right (fun x => by omega)
    have hle : E.Le (E.addMem g cur) := ⟨fun _ _ x => x, fun b c hc => by
      simp only [Env.addMem]
      by_cases e : b = g
      · subst e; rw [hg0] at hc; cases hc
      · rw [if_neg e]; exact hc, rfl⟩
    have new : ∀ {b c}, (E.addMem g cur).mem b = some c → (b = g ∧ c = cur) ∨ E.mem b = some c := by
      intro b c hc
      simp only [Env.addMem] at hc
      by_cases e : b = g
      · rw [if_pos e] at hc; exact .inl ⟨e, (Option.some.inj hc).symm⟩
      · rw [if_neg e] at hc; exact .inr hc
    refine ⟨E.addMem g cur, hle, ⟨rfl, rfl⟩, ⟨fun k o ho => (h.ob k o (hold k o ho).1).mono hle, fun a b o o' bl ho ho' => h.sep a b o o' bl (hold a o ho).1 (hold b o' ho').1, fun k o b ho hb => ?_, fun b c hc => ?_, fun b c hc => hle.mem b c (h.mem0 b c hc), fun b c hc => ?_, h.new, h.base, ⟨h.fr.os, h.fr.tape, h.fr.output, h.fr.bsz, h.fr.wsz, h.fr.wos, h.fr.isz, h.fr.block, h.fr.sync⟩, h.hd0, h.mno, h.mkh, h.kk⟩, fun v hv => ?_⟩
    · obtain ⟨ho, hik⟩ := hold k o ho
      obtain ⟨q1, q2⟩ := h.own k o b ho hb
      refine ⟨?_, q2⟩
      simp only [Env.addMem]
      rw [if_neg (fun e => hik (h.sep i k _ _ g hob ho hbk (by subst e; exact hb)))]; exact q1
    · rcases new hc with ⟨rfl, rfl⟩ | h1
      · exact ⟨_, _, hR.heap⟩
      · exact h.mem b c h1
    · rcases new hc with ⟨rfl, rfl⟩ | h1
      · exact .inr ⟨hgb, hgm⟩
      · exact h.memnew b c h1
    · cases hv with
      | row _ _ hh2 _ =>
        rw [hh] at hh2; cases hh2
        exact .seq g 0 n cap sz f cur u (by simp [Env.addMem]) hR.hn hR.hmax hR.hl (fun j k s hj hs => by rw [Nat.zero_add]; exact hR.hc j k s hj hs) (fun j k s hj hs => (hR.he j k s hj hs).mono hle.mem)

theorem frzV_sound {C : Ctx} {E : Env} {st : St} {a : Act} {w : World} (h : Models C E st a w) {X : Cfg} (hnt : C.nt = X.nt) (hcm : C.m = X.m) {d : Option Nat} (hd : okDst X.nt d = true) {s : SV} {v : Value} (hv : SRep E v s)
    {K : St → Prop} (hk : frzV X s d st K) {next : Act → World → Prop} (hn : ∀ st' E' a' w', K st' → Models C E' st' a' w' → next a' w') : next (a.put d v) w := by
  unfold frzV at hk
  split at hk
  · rename_i i
    split at hk
    · rename_i _ _ n f hb hob
      obtain ⟨E', hle, hs, hh, hv'⟩ := h.heap.freeze hob (by rw [hcm]; exact Nat.le_of_ble_eq_true hb)
      exact putK_sound (h.heapTo (st' := st.setOb i none) hle rfl hh hs (KeepNC.refl w)) hnt hd hk (.p false _ _ (hv' _ hv)) hn
    · exact hk.elim
  · rename_i i sz lo n
    split at hk
    · rename_i _ sz' m f hb hob
      cases hbq : sz.beq sz' with
      | false => simp [hbq] at hk
      | true =>
        simp only [hbq] at hk
        obtain rfl := Nat.eq_of_beq_eq_true hbq
        obtain ⟨E', hle, hs, hh, hv'⟩ := h.heap.freeze hob (by rw [hcm]; exact Nat.le_of_ble_eq_true hb)
        refine putK_sound (h.heapTo (st' := st.setOb i none) hle rfl hh hs (KeepNC.refl w)) hnt hd hk (.p false _ _ ?_) hn
        cases hv with
        | sub _ _ _ _ b n' cap c ad hh2 hle2 hc hr ha =>
          obtain ⟨rfl, cur, u, hR⟩ := (h.heap.ob i _ hob).row_at hh2
          rcases Nat.eq_zero_or_pos n with rfl | hn0
          · exact .emp _ _ _
          · obtain rfl := ha (by omega)
            have hp := hv' _ (.row i _ hh2 rfl)
            cases hp with
            | emp => omega
            | seq _ _ _ _ sz2 _ cs u2 hm hcap hmax hl2 hc2 he2 =>
              have e : sz2 = sz := by rw [← hl2 0 (by omega), hR.hl 0 (by omega)]
              subst e
              refine .seq b (lo * sz2) n c sz2 _ cs (fun j k => u2 (lo + j) k) hm hc (by omega) (fun j hj => hl2 _ (by omega)) (fun j k s hj hs => ?_) (fun j k s hj hs => he2 _ _ _ (by omega) hs)
              have := hc2 (lo + j) k s (by omega) hs
              rw [Nat.zero_add, Nat.add_mul, Nat.add_assoc] at this
              exact this
    · exact hk.elim
  · exact putK_sound h hnt hd hk hv hn

/-- a function's code run in place -/
theorem inlVal_sound {C : Ctx} {E : Env} {st : St} {a : Act} {w : World} (h : Models C E st a w) {X : Cfg} (hnt : C.nt = X.nt) (hro : C.ro = X.ro) {F : Fence} (hcm : CX C X F) {o : Oper} (hd : okDst X.nt o.dst = true) {f : Operand} {args : Array Operand} {ts : Array TypeId} (ho : o.op = .call ⟨.value f, args, ts⟩)
    (hF : Wide F) {K : St → Prop} {k : Nat} {capt : List SV} {cvs : Array Value} (hfe : a.eval f = .func (.func k) #[] cvs) (hcl : cvs.size = capt.length) (hce : ∀ (q : Nat) (u : Value) (s : SV), cvs[q]? = some u → capt[q]? = some s → SRep E u s)
    (hk : FnInl X k (evs st args.toList ++ capt) st (backF X st.fr o.dst K)) {next : Act → World → Prop} {Q : Exit → Act → World → Prop}
    (hn : ∀ st' E' a' w', K st' → Models C E' st' a' w' → next a' w') : o.wpIn F 9 X.P a w next Q := by
  have hnd : ∀ c', o.op ≠ .defer c' := by simp [ho]
  obtain ⟨e1, e2⟩ := evs_rep h args.toList
  have hsz : (args.map a.eval ++ cvs).size = (evs st args.toList ++ capt).length := by simp [e1, hcl]
  have hvs : ∀ (q : Nat) (u : Value) (s : SV), (args.map a.eval ++ cvs)[q]? = some u → (evs st args.toList ++ capt)[q]? = some s → SRep E u s := by
    intro q u s hu hs
    by_cases hq : q < args.size
    · rw [Array.getElem?_append_left (by simpa using hq)] at hu
      rw [List.getElem?_append_left (by rw [e1]; simpa using hq)] at hs
      exact e2 q u s (by simpa using hu) hs
    · rw [Array.getElem?_append_right (by simp; omega)] at hu
      rw [List.getElem?_append_right (by rw [e1]; simp; omega)] at hs
      rw [e1] at hs
      simp only [Array.size_map] at hu
      simp only [Array.length_toList] at hs
      exact hce _ u s hu hs
  obtain ⟨⟨fn, hfn, hb, hnm⟩, hcalls⟩ := hk
  refine ⟨fun g _ => hF.fn g, ?_⟩
  have hrun : (execOp a.eval o).run X.P w = .ok (.enter k (args.map a.eval ++ cvs)) w := by
    simp [execOp, ho, resolve, hfe, Deferred.ofValue, invoke, callFunc_run hfn hb hnm]
  rw [Oper.semAt_plain F _ _ hnd, hrun]
  rw [Oper.uponIn_enter]
  refine ⟨fun hdep => (by rw [hF.depth] at hdep; cases hdep), hF.calls ((hcalls C E _ w hcm.m hro hcm.rm hcm.lent hcm.gl h.heap ⟨hsz, hvs⟩).mono ?_)⟩
  rintro e w' ⟨v, E', s, st', rfl, hv, ⟨hle, hws, hI⟩, hh, hnc, hK⟩
  cases st' with
  | mk fr' ob' no' k' =>
    have hM := h.heapTo (st' := ⟨st.fr, ob', no', k'⟩) hle rfl (hh.withFr' st.fr) ⟨hws, hI⟩ hnc
    unfold backF at hK
    cases hfz : frz X o.dst with
    | true => simp only [hfz] at hK; exact frzV_sound hM hnt hcm.m hd hv hK hn
    | false => simp only [hfz] at hK; exact putK_sound hM hnt hd hK hv hn

/-- a part of a row of the call's own set to zero -/
theorem clear_sound {C : Ctx} {E : Env} {st : St} {a : Act} {w : World} (h : Models C E st a w) {X : Cfg} (hTb : X.Tb.Ok X.P) (hnt : C.nt = X.nt) (hro : C.ro = X.ro) {d : Option Nat} (hd : okDst X.nt d = true) {t : Nat} {v : Value} {s : SV} {K : St → Prop}
    (hk : match look X.Tb t with
    | some ⟨.slice e, _, _, _⟩ => match look X.Tb e with
      | some ⟨_, sz + 1, _, z⟩ => match s with
        | .sub i sz' lo n => match (sz'.beq (sz + 1)).and (X.ro.ble i), st.obj i with
          | true, some (.row T' sz'' m f) => match sz''.beq (sz + 1) with
            | true => putK (st.setOb i (some (.row T' (sz + 1) m (clrF f lo n (vals z))))) d .any K
            | false => False
          | _, _ => False
        | _ => False
      | _ => False
    | _ => False) (hv : SRep E v s) {next : Act → World → Prop} (hn : ∀ st' E' a' w', K st' → Models C E' st' a' w' → next a' w') (ty : TypeId) :
    ∃ w', (Builtin.clear_ #[t] ty #[v]).run X.P w = .ok (.tuple #[]) w' ∧ next (a.put d (.tuple #[])) w' := by
  split at hk
  · rename_i e _ _ _ hi
    have hu : X.P.underlying t = some (.slice e) := (hTb _ _ hi).desc
    split at hk
    · rename_i _ sz by_ z hie
      split at hk
      · rename_i i sz' lo n
        split at hk
        · rename_i T' sz'' m f hble hob
          cases hbq : sz''.beq (sz + 1) with
          | false => simp [hbq] at hk
          | true =>
            simp only [hbq] at hk
            simp only [Bool.and_eq_true] at hble
            obtain ⟨hb1, hb2⟩ := hble
            obtain rfl := Nat.eq_of_beq_eq_true hb1
            obtain rfl := Nat.eq_of_beq_eq_true hbq
            have hri : C.ro ≤ i := by rw [hro]; exact Nat.le_of_ble_eq_true hb2
            cases hv with
            | sub _ _ _ _ b n' cap c ad hh hle hc hr ha =>
              obtain ⟨rfl, vs, u, hR⟩ := (h.heap.ob i _ hob).row_at hh
              rcases Nat.eq_zero_or_pos n with rfl | hn0
              · refine ⟨w, ?_, putK_sound (h.heapTo (st' := st.setOb i (some (.row T' (sz + 1) n' (clrF f lo 0 (vals z))))) (Env.Le.refl E) rfl ?_ ⟨rfl, rfl⟩ (KeepNC.refl w)) hnt hd hk (.any _) hn⟩
                · simp [Builtin.clear_, run_underlying hu]
                · have e : ∀ j, clrF f lo 0 (vals z) j = f j := fun j => by unfold clrF; rw [if_neg (by omega)]
                  have e2 : clrF f lo 0 (vals z) = f := funext e
                  rw [e2]
                  exact h.heap.write hob (b := b) (by simp [Env.blk, hh, blockOf]) hri (w' := w) (h.heap.ob i _ hob) rfl rfl rfl rfl (fun _ _ => rfl)
              · obtain rfl := ha (by omega)
                obtain ⟨I, hI, hIs, hIb, zv, hz, hzz, hone, hzc⟩ := (hTb _ _ hie).info
                simp only at hzz hzc
                have hzrun : ∀ w, (zeroValue e).run X.P w = .ok zv w := fun w => by simp [zeroValue, typeInfo, hI, hz]
                obtain ⟨L, hL⟩ : ∃ L, L = (Builtin.zeroCells zv.cells n).toList := ⟨_, rfl⟩
                have hLl : L.length = n * (sz + 1) := by rw [hL]; simp [Builtin.zeroCells, hzc]
                have hLg : ∀ j k, j < n → k < sz + 1 → L[j * (sz + 1) + k]? = zv.cells[k]? := by
                  intro j k hj hk
                  have hlt := flat_lt hj hk
                  have hmod : (j * (sz + 1) + k) % zv.cells.size = k := by rw [hzc, Nat.add_comm, Nat.add_mul_mod_self_right, Nat.mod_eq_of_lt hk]
                  have e1 : zv.cells[k]? = some (zv.cells[k]'(by omega)) := Array.getElem?_eq_getElem _
                  rw [hL, e1]
                  simp [Builtin.zeroCells, hzc, hlt, hmod, getElem!_def, e1]
                  rw [Nat.mod_eq_of_lt hk, e1]
                have hLone : ∀ v ∈ L, v.oneCell' = true := by
                  intro v hv
                  obtain ⟨q, hq⟩ := List.getElem?_of_mem hv
                  have hql : q < n * (sz + 1) := by rw [← hLl]; exact (List.getElem?_eq_some_iff.1 hq).1
                  obtain ⟨d1, d2, d3⟩ := flat_div hql
                  have := hLg _ _ d1 d2
                  rw [d3, hq] at this
                  exact hone _ _ this.symm
                have hfit : lo * (sz + 1) + n * (sz + 1) ≤ vs.size := by
                  rw [hR.size, ← Nat.add_mul]; exact Nat.mul_le_mul_right _ (by have := hR.hn; omega)
                have hst := run_storeCells_at X.P b (lo * (sz + 1)) T' L 0 vs w hR.heap (by rw [hLl]; omega) hLone
                simp only [Nat.add_zero] at hst
                generalize hcs' : (vs.toList.take (lo * (sz + 1)) ++ L ++ vs.toList.drop (lo * (sz + 1) + L.length)).toArray = vs' at hst
                have hvs' : vs'.size = vs.size := by
                  rw [← hcs']; simp only [List.size_toArray, List.length_append, List.length_take, List.length_drop, hLl, Array.length_toList]; omega
                have hat : ∀ q, vs'[q]? = if lo * (sz + 1) ≤ q ∧ q < lo * (sz + 1) + n * (sz + 1) then L[q - lo * (sz + 1)]? else vs[q]? := by
                  intro q
                  have hl1 : (vs.toList.take (lo * (sz + 1))).length = lo * (sz + 1) := by rw [List.length_take, Array.length_toList]; omega
                  rw [← hcs']
                  simp only [List.getElem?_toArray]
                  by_cases hin : lo * (sz + 1) ≤ q ∧ q < lo * (sz + 1) + n * (sz + 1)
                  · rw [if_pos hin, List.getElem?_append_left (by rw [List.length_append, hl1, hLl]; omega), List.getElem?_append_right (by omega), hl1]
                  · rw [if_neg hin]
                    by_cases hlt : q < lo * (sz + 1)
                    · rw [List.getElem?_append_left (by rw [List.length_append, hl1]; omega), List.getElem?_append_left (by omega), List.getElem?_take, if_pos hlt, Array.getElem?_toList]
                    · rw [List.getElem?_append_right (by rw [List.length_append, hl1, hLl]; omega), List.length_append, hl1, hLl, List.getElem?_drop, show lo * (sz + 1) + n * (sz + 1) + (q - (lo * (sz + 1) + n * (sz + 1))) = q by omega, Array.getElem?_toList]
                have flen : ∀ j', j' < n' → (clrF f lo n (vals z) j').length = sz + 1 := by
                  intro j' hj'
                  unfold clrF
                  split
                  · rw [vals_length, ← hzz, Array.length_toList]; exact hzc
                  · exact hR.hl j' hj'
                have cellOf : ∀ j' k s, j' < n' → (clrF f lo n (vals z) j')[k]? = some s → ∃ v, vs'[j' * (sz + 1) + k]? = some v ∧ v.oneCell' = true ∧ PRep E.mem v s := by
                  intro j' k s hj' hs
                  have hks : k < sz + 1 := by rw [← flen j' hj']; exact (List.getElem?_eq_some_iff.1 hs).1
                  unfold clrF at hs
                  rw [hat]
                  by_cases hin : lo ≤ j' ∧ j' < lo + n
                  · rw [if_pos hin, vals_get, ← hzz, Array.getElem?_toList] at hs
                    obtain ⟨q, rfl⟩ : ∃ q, j' = lo + q := ⟨j' - lo, by omega⟩
                    have hq := flat_lt (show q < n by omega) hks
                    have e3 : (lo + q) * (sz + 1) + k = lo * (sz + 1) + (q * (sz + 1) + k) := by rw [Nat.add_mul]; omega
                    rw [e3, if_pos (by omega), Nat.add_sub_cancel_left, hLg q k (by omega) hks]
                    cases hq2 : zv.cells[k]? with
                    | none => rw [hq2] at hs; cases hs
                    | some x =>
                      rw [hq2] at hs; simp only [Option.map_some, Option.some.injEq] at hs; subst hs
                      exact ⟨x, rfl, hone _ _ hq2, .val x⟩
                  · rw [if_neg hin] at hs
                    have hout : ¬ (lo * (sz + 1) ≤ j' * (sz + 1) + k ∧ j' * (sz + 1) + k < lo * (sz + 1) + n * (sz + 1)) := by
                      rintro ⟨h1, h2⟩
                      apply hin
                      rw [← Nat.add_mul] at h2
                      constructor
                      · exact Classical.byContradiction fun hh => by
                          have := flat_lt (Nat.lt_of_not_le hh) hks; omega
                      · exact Classical.byContradiction fun hh => by
                          have := Nat.mul_le_mul_right (sz + 1) (Nat.le_of_not_lt hh); omega
                    rw [if_neg hout]
                    obtain ⟨h1, h2⟩ := hR.hc j' k s hj' hs
                    exact ⟨_, h1, h2, hR.he j' k s hj' hs⟩
                have hh2 := h.heap.write (o' := .row T' (sz + 1) n' (clrF f lo n (vals z))) hob (b := b) (by simp [Env.blk, hh, blockOf]) hri (w' := w.setRow b vs')
                  (.row T' (sz + 1) n' _ _ (vs'.toList.take (n' * (sz + 1))) (fun j' k => vs'.getD (j' * (sz + 1) + k) undef) hh
                    ⟨by rw [List.length_take, Array.length_toList, hvs', hR.size]; have := Nat.mul_le_mul_right (sz + 1) hR.hn; omega, .inr ⟨b, cap, vs', rfl, Nat.zero_le _, setRow_heap w b vs vs' T' (0, 0) hR.heap, hR.hn, hR.hcap, by rw [hvs']; exact hR.size, rfl⟩⟩ hR.hmax
                    flen
                    (fun j' k s hj' hs => by
                      obtain ⟨v, h1, h2, h3⟩ := cellOf j' k s hj' hs
                      have hks : k < sz + 1 := by rw [← flen j' hj']; exact (List.getElem?_eq_some_iff.1 hs).1
                      rw [List.getElem?_take, if_pos (flat_lt hj' hks), Array.getElem?_toList, Array.getD_eq_getD_getElem?, h1]
                      exact ⟨rfl, h2⟩)
                    (fun j' k s hj' hs => by
                      obtain ⟨v, h1, h2, h3⟩ := cellOf j' k s hj' hs
                      rw [Array.getD_eq_getD_getElem?, h1]; exact h3)) rfl rfl rfl (by simp) (fun k hk => setRow_other w b k vs' hk)
                refine ⟨w.setRow b vs', ?_, putK_sound (h.heapTo (st' := st.setOb i (some (.row T' (sz + 1) n' (clrF f lo n (vals z))))) (Env.Le.refl E) rfl hh2 ⟨rfl, rfl⟩ (keepNC_one hR.heap fun k hk => setRow_other w b k vs' hk)) hnt hd hk (.any _) hn⟩
                obtain ⟨n1, rfl⟩ : ∃ n1, n = n1 + 1 := ⟨n - 1, by omega⟩
                rw [hL] at hst
                simp [Builtin.clear_, run_underlying hu, hzrun, hst]
        · exact hk.elim
      · exact hk.elim
    · exact hk.elim
  · exact hk.elim

theorem toPV_inv {μ : Nat → Option (Array Value)} {u v : Value} (h : PRep μ u (toPV v)) : u = v := by
  cases v with
  | agg cs =>
    obtain ⟨vs, rfl, hl, h1, he⟩ := h.agg_inv
    have hsz : vs.size = cs.size := by simpa using hl
    congr 1
    apply Array.ext_getElem?
    intro k
    rcases Nat.lt_or_ge k vs.size with hk | hk
    · have h2 := he k vs[k] (.val cs[k]) (Array.getElem?_eq_getElem hk) (by rw [hsz] at hk; simp [hk])
      rw [Array.getElem?_eq_getElem hk, h2.val_inv, Array.getElem?_eq_getElem (by omega)]
    · rw [Array.getElem?_eq_none hk, Array.getElem?_eq_none (by omega)]
  | _ => exact h.val_inv

theorem yieldArgs_get {E : Env} : ∀ (ss : List SV) (vs : List Value), yieldArgs ss vs → ss.length = vs.length ∧ ∀ (k : Nat) s v u, ss[k]? = some s → vs[k]? = some v → SRep E u s → u = v
  | [], [], _ => by simp
  | [], _ :: _, h => by simp [yieldArgs] at h
  | s :: ss, [], h => by cases s <;> simp [yieldArgs] at h
  | s :: ss, v :: vs, h => by
    have one : ∀ {b : Bool} {d : PV} {u : Value}, ple d (toPV v) → SRep E u (.p b d) → u = v := fun h1 h2 => by
      cases h2 with | p _ _ _ hp => exact toPV_inv (ple_rep h1 hp)
    have h' : (∃ b d, s = .p b d ∧ ple d (toPV v)) ∧ (yieldArgs ss vs) := by
      cases s with
      | p b d =>
        cases ss with
        | nil => cases vs with
          | nil => exact ⟨⟨b, d, rfl, h⟩, trivial⟩
          | cons _ _ => exact ⟨⟨b, d, rfl, h.1⟩, h.2⟩
        | cons _ _ => exact ⟨⟨b, d, rfl, h.1⟩, h.2⟩
      | _ => simp [yieldArgs] at h
    obtain ⟨⟨b, d, rfl, hd⟩, hr⟩ := h'
    obtain ⟨h1, h2⟩ := yieldArgs_get (E := E) ss vs hr
    refine ⟨by simp [h1], fun k s v' u hs hv hu => ?_⟩
    cases k with
    | zero => simp at hs hv; subst hs; subst hv; exact one hd hu
    | succ k => exact h2 k s v' u (by simpa using hs) (by simpa using hv) hu

/-- the world behind a call of yield -/
theorem Models.yielded {C : Ctx} {E : Env} {st : St} {a : Act} {w : World} (h : Models C E st a w) (hwk : C.wk.heap = #[]) (hm : C.m = 0) (hkh : C.kh = 0) {w' : World} {k' : Option Nat}
    (hk : KeepsI (fun b => E.I b ∨ (E.ws.heap.size ≤ b ∧ b < w.heap.size)) C.mem0 w w') (hj : C.J k' (fun b => E.I b ∨ (E.ws.heap.size ≤ b ∧ b < w.heap.size)) w') :
    Models C { E with ws := w', I := fun b => E.I b ∨ (E.ws.heap.size ≤ b ∧ b < w.heap.size), k := k' } { st with k := k' } a w' := by
  have hmine : ∀ b, E.mine b → b < w.heap.size → (E.I b ∨ (E.ws.heap.size ≤ b ∧ b < w.heap.size)) := fun b hb hlt => hb.elim (fun x => .inr ⟨x, hlt⟩) .inl
  have hle : E.Le { E with ws := w', I := fun b => E.I b ∨ (E.ws.heap.size ≤ b ∧ b < w.heap.size), k := k' } := ⟨fun _ _ h => h, fun _ _ h => h, rfl⟩
  refine ⟨h.size, fun t => (h.slot t).mono hle, ⟨fun i o ho => ?_, h.heap.sep, fun i o b ho hb => ?_, fun b cs hb => ?_, h.heap.mem0, fun b cs hb => ?_, h.heap.new, h.heap.base, ⟨?_, ?_, ?_, ?_, Nat.le_refl _, ?_, ?_, fun _ _ _ => rfl, hj⟩, fun k hk => by omega, h.heap.mno, h.heap.mkh, rfl⟩, ?_⟩
  · refine ((h.heap.ob i o ho).mono hle).world fun b hb => ?_
    have hb' : E.blk i = some b := hb
    have := (h.heap.own i o b ho hb').2.2.resolve_right (fun x => by omega)
    exact hk.own b (hmine b this ((h.heap.ob i o ho).blk_lt hb'))
  · obtain ⟨g1, g2, g3⟩ := h.heap.own i o b ho hb
    exact ⟨g1, g2, .inl (.inr (hmine b (g3.resolve_right (fun x => by omega)) ((h.heap.ob i o ho).blk_lt hb)))⟩
  · rcases h.heap.memnew b cs hb with h1 | h1
    · exact hk.mem b cs h1 (h.heap.mem b cs hb)
    · obtain ⟨T, fr, hw⟩ := h.heap.mem b cs hb
      exact ⟨T, fr, by rw [hk.own b (hmine b h1.2 (h.heap.mem_lt hb))]; exact hw⟩
  · rcases h.heap.memnew b cs hb with h1 | h1
    · exact .inl h1
    · exact .inr ⟨h1.1, .inr (hmine b h1.2 (h.heap.mem_lt hb))⟩
  · exact hk.os.trans h.heap.fr.os
  · exact hk.tape.trans h.heap.fr.tape
  · exact hk.output.trans h.heap.fr.output
  · exact Nat.le_trans (Nat.le_trans h.heap.fr.bsz h.heap.fr.wsz) hk.size
  · exact ⟨hk.os.trans h.heap.fr.os, hk.tape.trans h.heap.fr.tape, hk.output.trans h.heap.fr.output⟩
  · exact fun b hb => hb.elim (fun x => Nat.lt_of_lt_of_le (h.heap.fr.isz b x) (Nat.le_trans h.heap.fr.wsz hk.size)) (fun x => Nat.lt_of_lt_of_le x.2 hk.size)
  · obtain ⟨_, l, l0, l1, l2, l3⟩ := h.marks
    refine ⟨fun D o hD _ => by rw [hwk] at hD; simp at hD, l, l0, l1, l2, fun D hD => ?_⟩
    obtain ⟨⟨d1, d2⟩, d3⟩ := l3 D hD
    have := hmine D d2 (Array.getElem?_eq_some_iff.1 d3).1
    exact ⟨⟨d1, .inr this⟩, by rw [hk.own D this]; exact d3⟩

theorem yield_sound {C : Ctx} {E : Env} {st : St} {a : Act} {w : World} (h : Models C E st a w) {X : Cfg} (hnt : C.nt = X.nt) {F : Fence} (hcm : CX C X F) {o : Oper} (hd : okDst X.nt o.dst = true) {f : Operand} {args : Array Operand} {ts : Array TypeId} (ho : o.op = .call ⟨.value f, args, ts⟩)
    {K : St → Prop} {l : Nat} (hfe : a.eval f = .func (.yield l) #[] #[]) (hk : yieldK X l (evs st args.toList) o.dst st K) {next : Act → World → Prop} {Q : Exit → Act → World → Prop}
    (hn : ∀ st' E' a' w', K st' → Models C E' st' a' w' → next a' w') : o.wpIn F 9 X.P a w next Q := by
  have hnd : ∀ c', o.op ≠ .defer c' := by simp [ho]
  unfold yieldK at hk
  split at hk
  · rename_i l' xs fr ob no k hyl
    obtain ⟨rfl, vs, hvs, hargs, hk1, hk2⟩ := hk
    obtain ⟨Y, hF⟩ := hcm.y _ _ hyl
    subst hF
    obtain ⟨e1, e2⟩ := evs_rep h args.toList
    obtain ⟨g1, g2⟩ := yieldArgs_get (E := E) _ _ hargs
    have hav : args.map a.eval = vs.toArray := by
      apply Array.ext_getElem?
      intro q
      rcases Nat.lt_or_ge q args.size with hq | hq
      · have hu : (args.map a.eval)[q]? = some (a.eval args[q]) := by simp [hq]
        have hq2 : q < (evs ⟨fr, ob, no, some k⟩ args.toList).length := by rw [e1]; simpa using hq
        have hv : vs[q]? = some vs[q] := List.getElem?_eq_getElem (by omega)
        have := g2 q _ _ _ (List.getElem?_eq_getElem hq2) hv (e2 q _ _ (by simpa using hu) (List.getElem?_eq_getElem hq2))
        rw [hu, this]; simp
      · rw [Array.getElem?_eq_none (by simpa using hq)]
        have : vs.length ≤ q := by rw [← g1, e1]; simpa using hq
        simp [this]
    have hkE : E.k = some k := h.heap.kk
    have hsync := h.heap.fr.sync
    rw [hkE] at hsync
    have hJ : C.J (some k) (fun b => E.I b ∨ (E.ws.heap.size ≤ b ∧ b < w.heap.size)) w :=
      Y.stab _ _ _ _ _ hsync (fun b hb => .inl hb) (fun b hb => hb.imp id (fun x => x.1)) (fun b hb => hb.elim (fun x => Nat.lt_of_lt_of_le (h.heap.fr.isz b x) h.heap.fr.wsz) (fun x => x.2)) (h.heap.fr.os.trans h.heap.fr.wos.1.symm) (h.heap.fr.tape.trans h.heap.fr.wos.2.1.symm) (h.heap.fr.output.trans h.heap.fr.wos.2.2.symm) h.heap.fr.wsz h.heap.fr.block
    obtain ⟨fn, tmps, assign, body, hy, hround⟩ := Y.at_ k vs _ w hvs hJ
    refine ⟨fun g _ => trivial, ?_⟩
    have hrun : (execOp a.eval o).run X.P w = .ok (.round l fn tmps assign body) w := by
      simp [execOp, ho, resolve, hfe, Deferred.ofValue, invoke, hav, hy]
    rw [Oper.semAt_plain Fence.wide _ _ hnd, hrun]
    rw [Oper.uponIn_round]
    refine ⟨fun hdep => (by simp [Fence.wide] at hdep), ?_⟩
    have hround' : RoundIn Fence.wide 8 X.P l fn tmps assign body w _ := ⟨trivial, fun c cs _ => hround.2 c cs (room_wide _)⟩
    refine hround'.mono ?_
    rintro e w' ⟨hk, ⟨rfl, hj⟩ | ⟨rfl, hj⟩⟩
    · exact putK_sound (h.yielded Y.wk Y.m Y.kh hk hj) hnt hd hk1 (.val _ _) hn
    · exact putK_sound (h.yielded Y.wk Y.m Y.kh hk hj) hnt hd hk2 (.val _ _) hn
  · exact hk.elim

theorem stepCall_sound {gr : Bool} {C : Ctx} {E : Env} {st : St} {a : Act} {w : World} (h : Models C E st a w) {X : Cfg} (hTb : X.Tb.Ok X.P) (hnt : C.nt = X.nt) (hro : C.ro = X.ro) {F : Fence} (hcm : CX C X F) {o : Oper} (hd : okDst X.nt o.dst = true) {c : Call} (ho : o.op = .call c)
    (hF : Wide F) {K : St → Prop} (hk : stepCall X gr c o st K) {next : Act → World → Prop} {Q : Exit → Act → World → Prop}
    (hn : ∀ st' E' a' w', K st' → Models C E' st' a' w' → (gr = true → isGrow o.op = true → Grow w w') → next a' w') : o.wpIn F 9 X.P a w next Q := by
  have hnd : ∀ c', o.op ≠ .defer c' := by simp [ho]
  unfold stepCall at hk
  split at hk
  · rename_i f args _
    split at hk
    · rename_i k capt hf
      have hfv := ev_rep h f
      rw [hf] at hfv
      generalize hfe : a.eval f = v at hfv
      cases hfv with
      | fn _ cvs _ hcl hce =>
        split at hk
        · exact callVal_sound h hnt hro hcm.gl hd ho hF hfe hcl hce hk hn
        · exact inlVal_sound h hnt hro hcm hd ho hF hfe hcl hce hk fun st' E' a' w' hk' h' => hn st' E' a' w' hk' h' (by simp)
        · exact hk.elim
    · rename_i b k capt hf
      have hfv := ev_rep h f
      rw [hf] at hfv
      generalize hfe : a.eval f = v at hfv
      cases hfv with
      | p _ _ _ hp => cases hp with
        | fn _ cvs _ hcl hce =>
          refine callVal_sound h hnt hro hcm.gl hd ho hF hfe (by rw [mapP_length]; exact hcl) (fun q u s hu hs => ?_) hk hn
          rw [mapP_get] at hs
          cases hd' : capt[q]? with
          | none => simp [hd'] at hs
          | some d => simp [hd'] at hs; subst hs; exact .p _ _ _ (hce q u d hu hd')
    · rename_i b l hf
      have hfv := ev_rep h f
      rw [hf] at hfv
      cases gr with
      | true => exact hk.elim
      | false => exact yield_sound h hnt hcm hd ho hfv.val_inv hk fun st' E' a' w' hk' h' => hn st' E' a' w' hk' h' (by simp)
    · exact hk.elim
  · rename_i s x t t'
    cases htt : t.beq t' with
    | false => simp [htt] at hk
    | true =>
      obtain rfl := Nat.eq_of_beq_eq_true htt
      simp only [htt] at hk
      obtain ⟨v', w', hr, hnx⟩ := appendK_sound h hTb hnt hro hcm.m hd (ev_rep h s) (ev_rep h x) hk (fun st' E' a' w' hk' h' => hn st' E' a' w' hk' h' (by simp [isGrow, ho])) o.type
      refine wpIn_val hF hnd (v := v') (w' := w') ?_ hnx
      simp only [execOp, ho, resolve, invoke, builtin, Sem.run_bind, Sem.run_pure, Result.andThen_ok, List.map_toArray, List.map_cons, List.map_nil, hr]
  · rename_i x y _
    split at hk
    · rename_i _ k a0 _ k' b0 hx hy
      have hxv := ev_rep h x
      have hyv := ev_rep h y
      rw [hx] at hxv
      rw [hy] at hyv
      have hxe := hxv.val_inv
      have hye := hyv.val_inv
      refine wpIn_val hF hnd (v := .int k (if b0 < a0 then b0 else a0)) (w' := w) ?_ (putK_soundw h hnt hd hk (.val _ _) fun st' E' a' w' hk' h' hw => hn st' E' a' w' hk' h' fun _ _ => hw ▸ Grow.refl w)
      simp [execOp, ho, resolve, invoke, builtin, Builtin.min_, Builtin.min2, hxe, hye]
    · exact hk.elim
  · rename_i x y _
    split at hk
    · rename_i _ k a0 _ k' b0 hx hy
      have hxv := ev_rep h x
      have hyv := ev_rep h y
      rw [hx] at hxv
      rw [hy] at hyv
      have hxe := hxv.val_inv
      have hye := hyv.val_inv
      refine wpIn_val hF hnd (v := .int k (if b0 > a0 then b0 else a0)) (w' := w) ?_ (putK_soundw h hnt hd hk (.val _ _) fun st' E' a' w' hk' h' hw => hn st' E' a' w' hk' h' fun _ _ => hw ▸ Grow.refl w)
      simp [execOp, ho, resolve, invoke, builtin, Builtin.max_, Builtin.max2, hxe, hye]
    · exact hk.elim
  · rename_i x t
    obtain ⟨w', hr, hnx⟩ := clear_sound h hTb hnt hro hd hk (ev_rep h x) (fun st' E' a' w' hk' h' => hn st' E' a' w' hk' h' (by simp [isGrow, ho])) o.type
    refine wpIn_val hF hnd (v := .tuple #[]) (w' := w') ?_ hnx
    simp only [execOp, ho, resolve, invoke, builtin, Sem.run_bind, Sem.run_pure, Result.andThen_ok, List.map_toArray, List.map_cons, List.map_nil, hr]
  · exact hk.elim

theorem stepLen_sound {C : Ctx} {E : Env} {st : St} {a : Act} {w : World} {R : World → Prop} (h : Models C E st a w) {X : Cfg} (hTb : X.Tb.Ok X.P) (hnt : C.nt = X.nt) {o : Oper} (hR : ∀ w1, R w1 → readsHeap o.op = true → Grow w w1) (hd : okDst X.nt o.dst = true) {c : Call} (ho : o.op = .call c)
    {K : St → Prop} (hk : stepLen X c o st K) {next : Act → World → Prop}
    (hn : ∀ st' E' a' w', K st' → Models C E' st' a' w' → next a' w') : FloatTo R X.P o a w next := by
  unfold stepLen at hk
  split at hk
  · rename_i x t
    split at hk
    · rename_i hi
      have hu : X.P.underlying t = some .string := (hTb _ _ hi).desc
      split at hk
      · rename_i _ s hx
        have hxv := ev_rep h x
        rw [hx] at hxv
        have hxe := hxv.val_inv
        exact FloatTo.mk' (v := .int .i64 s.size) (fun w1 hg => by simp [execOp, ho, resolve, invoke, builtin, Builtin.len_, run_underlying hu, hxe, goInt]) (putK_sound h hnt hd hk (.val _ _) hn)
      · exact hk.elim
    · rename_i e _ _ _ hi
      have hu : X.P.underlying t = some (.slice e) := (hTb _ _ hi).desc
      have go : ∀ (n : Nat), (∃ (ad : Option Addr) (c : Nat), a.eval x = .slice ad n c) → putK st o.dst (.p true (.val (.int .i64 n))) K → FloatTo R X.P o a w next := by
        rintro n ⟨ad, c, hx⟩ hk
        exact FloatTo.mk' (v := .int .i64 n) (fun w1 hg => by simp [execOp, ho, resolve, invoke, builtin, Builtin.len_, run_underlying hu, hx, goInt]) (putK_sound h hnt hd hk (.val _ _) hn)
      split at hk
      · rename_i b n f hx
        have hxv := ev_rep h x
        rw [hx] at hxv
        refine go n ?_ hk
        generalize a.eval x = v at hxv
        cases hxv with
        | p _ _ _ hp =>
          cases hp with
          | nil => exact ⟨_, _, rfl⟩
          | emp => exact ⟨_, _, rfl⟩
          | seq => exact ⟨_, _, rfl⟩
      · rename_i b hx
        have hxv := ev_rep h x
        rw [hx] at hxv
        exact go 0 ⟨_, _, hxv.val_inv⟩ hk
      · rename_i i hx
        split at hk
        · rename_i T sz n f hob
          have hxv := ev_rep h x
          rw [hx] at hxv
          refine go n ?_ hk
          generalize a.eval x = v at hxv
          obtain ⟨v0, xs, u, hh, hw, _⟩ := row_inv (h.heap.ob _ _ hob)
          cases hxv with
          | row _ _ hh2 _ =>
            rw [hh] at hh2; cases hh2
            rcases hw.2 with ⟨rfl, rfl⟩ | ⟨g, cap, cur, rfl, _⟩
            · exact ⟨_, _, rfl⟩
            · exact ⟨_, _, rfl⟩
        · exact hk.elim
      · rename_i i sz lo n hx
        have hxv := ev_rep h x
        rw [hx] at hxv
        refine go n ?_ hk
        generalize a.eval x = v at hxv
        cases hxv with
        | sub => exact ⟨_, _, rfl⟩
      · exact hk.elim
    · exact hk.elim
  · exact hk.elim

theorem frz_sound {C : Ctx} {E : Env} {st : St} {a : Act} {w : World} {R : World → Prop} (h : Models C E st a w) {X : Cfg} (hnt : C.nt = X.nt) (hcm : C.m = X.m) {o : Oper} (hd : okDst X.nt o.dst = true) {x : Operand} (ho : o.op = .assign x)
    {K : St → Prop} (hk : frzK X x o.dst st K) {next : Act → World → Prop} (hn : ∀ st' E' a' w', K st' → Models C E' st' a' w' → next a' w') : FloatTo R X.P o a w next :=
  FloatTo.mk' (v := a.eval x) (fun w1 hg => by simp [execOp, ho]) (frzV_sound h hnt hcm hd (ev_rep h x) hk hn)

theorem stepF_sound {C : Ctx} {E : Env} {st : St} {a : Act} {w : World} {R : World → Prop} (h : Models C E st a w) {X : Cfg} (hTb : X.Tb.Ok X.P) (hnt : C.nt = X.nt) (hcm : C.m = X.m) {o : Oper} (hR : ∀ w1, R w1 → readsHeap o.op = true → Grow w w1) (hd : okDst X.nt o.dst = true)
    {K : St → Prop} (hk : stepF X o st K) {next : Act → World → Prop} (hn : ∀ st' E' a' w', K st' → Models C E' st' a' w' → next a' w') : FloatTo R X.P o a w next := by
  unfold stepF at hk
  split at hk
  · rename_i c ho
    exact stepLen_sound h hTb hnt hR hd ho hk hn
  · exact stepRead_sound h hTb hnt hR hd hk hn
  · exact stepRead_sound h hTb hnt hR hd hk hn
  · exact stepRead_sound h hTb hnt hR hd hk hn
  · rename_i x ho
    split at hk
    · exact frz_sound h hnt hcm hd ho hk hn
    · exact stepPure_sound h hTb hnt hR hd hk hn
  · exact stepPure_sound h hTb hnt hR hd hk hn

theorem stepA_sound {gr : Bool} {C : Ctx} {E : Env} {st : St} {a : Act} {w : World} (h : Models C E st a w) {X : Cfg} (hTb : X.Tb.Ok X.P) (hnt : C.nt = X.nt) (hro : C.ro = X.ro) {F : Fence} (hcm : CX C X F) {o : Oper} (hd : okDst X.nt o.dst = true)
    (hF : Wide F) {K : St → Prop} (hk : stepA X gr o st K) {next : Act → World → Prop} {Q : Exit → Act → World → Prop}
    (hn : ∀ st' E' a' w', K st' → Models C E' st' a' w' → (gr = true → isGrow o.op = true → Grow w w') → next a' w') : o.wpIn F 9 X.P a w next Q := by
  unfold stepA at hk
  split at hk
  · rename_i c ho
    exact stepCall_sound h hTb hnt hro hcm hd ho hF hk hn
  · exact stepMem_sound h hTb hnt hro hd hF hk fun st' E' a' w' hk' h' hg => hn st' E' a' w' hk' h' fun _ => hg

theorem bytesRow_some (s : ByteArray) (cap j : Nat) (hj : j < s.size) : (bytesRow s cap)[j]? = some (.int .u8 (s.data.getD j 0).toNat) := by
  rw [bytesRow_at s cap j hj]
  have : s.data.getD j 0 = s.data[j] := by simp [Array.getD]; exact dif_pos hj
  rw [this]

theorem stepBytes_sound {C : Ctx} {E : Env} {st : St} {a : Act} {w : World} (h : Models C E st a w) {X : Cfg} (hTb : X.Tb.Ok X.P) (hnt : C.nt = X.nt) {o : Oper} (hd : okDst X.nt o.dst = true)
    {F : Fence} (hF : Wide F) {K : St → Prop} (hk : stepBytes X o st K) {next : Act → World → Prop} {Q : Exit → Act → World → Prop}
    (hn : ∀ st' E' a' w', K st' → Models C E' st' a' w' → next a' w') : o.wpIn F 9 X.P a w next Q := by
  unfold stepBytes at hk
  split at hk
  · rename_i s t x ho
    split at hk
    · rename_i e _ _ _ hi1 hi2
      split at hk
      · rename_i hie
        split at hk
        · rename_i _ v hx
          obtain ⟨hmax, hk⟩ := hk
          have hxv := ev_rep h x
          rw [hx] at hxv
          have hxe := hxv.val_inv
          have hs : X.P.underlying s = some .string := (hTb _ _ hi1).desc
          have hd2 : X.P.underlying t = some (.slice e) := (hTb _ _ hi2).desc
          have he8 : X.P.underlying e = some (.int .u8) := (hTb _ _ hie).desc
          have hrun := run_bytes_of_string (P := X.P) w s t e v hs hd2 he8
          generalize hcap : grownCap w v.size 0 e = cap at hrun
          generalize hcs : bytesRow v cap = cs at hrun
          have hnew : (w.drew.alloc (.cells cs e (cs.size, cs.size + 1))).heap[w.heap.size]? = some (.cells cs e (cs.size, cs.size + 1)) := by
            show (w.heap.push _)[w.heap.size]? = _
            simp
          have hkeep : ∀ k, k < w.heap.size → (w.drew.alloc (.cells cs e (cs.size, cs.size + 1))).heap[k]? = w.heap[k]? := fun k hk => RowKit.Below.heap_alloc w.drew _ k hk
          obtain ⟨hh, hle⟩ := h.heap.newMem hnew rfl rfl rfl (by show w.heap.size ≤ (w.heap.push _).size; simp) hkeep
          have hM := h.heapTo (st' := st) hle rfl hh ⟨rfl, rfl⟩ (keepNC_alloc w.drew _)
          have hb0 : C.base ≤ w.heap.size := Nat.le_trans h.heap.fr.bsz h.heap.fr.wsz
          have hvle : v.size ≤ cap := by
            rw [← hcap]; exact grownCap_ge w v.size 0 e
          refine wpIn_val hF (by simp [ho]) (by simp [execOp, ho, hxe, hrun]) (putK_sound hM hnt hd hk (.p true _ _ (.seq w.heap.size 0 v.size cap 1 _ cs (fun j _ => .int .u8 (v.data.getD j 0).toNat) ?_ hvle hmax (fun j hj => rfl) (fun j k s hj hs => ?_) (fun j k s hj hs => ?_))) hn)
          · have : E.base = C.base := h.heap.base
            simp only [Env.m, Env.addMem]
            rw [if_pos (by omega)]; exact if_pos trivial
          · cases k with
            | zero =>
              simp only [Nat.zero_add, Nat.mul_one, Nat.add_zero]
              rw [← hcs, bytesRow_some v cap j hj]
              exact ⟨rfl, rfl⟩
            | succ k => simp [bCell] at hs
          · cases k with
            | zero => obtain rfl := Option.some.inj hs; exact .val _
            | succ k => simp [bCell] at hs
        · exact hk.elim
      · exact hk.elim
    · exact hk.elim
  · exact hk.elim

theorem step_sound {gr : Bool} {C : Ctx} {E : Env} {st : St} {a : Act} {w : World} (h : Models C E st a w) {X : Cfg} (hTb : X.Tb.Ok X.P) (hnt : C.nt = X.nt) (hro : C.ro = X.ro) {F : Fence} (hcm : CX C X F) {o : Oper}
    (hF : Wide F) {K : St → Prop} (hk : step X gr o st K) {next : Act → World → Prop} {Q : Exit → Act → World → Prop}
    (hn : ∀ st' E' a' w', K st' → Models C E' st' a' w' → (gr = true → isGrow o.op = true → Grow w w') → next a' w') : o.wpIn F 9 X.P a w next Q := by
  unfold step at hk
  split at hk
  · rename_i hd hf
    have hk' : stepF X o st K ∨ (gr = false ∧ stepBytes X o st K) := by
      split at hk
      · split at hk
        · exact .inr ⟨rfl, hk⟩
        · exact .inl hk
      · exact .inl hk
    clear hk
    rcases hk' with hk | ⟨hgr, hk⟩
    case inr => exact stepBytes_sound h hTb hnt hd hF hk fun st' E' a' w' hk' h' => hn st' E' a' w' hk' h' fun hg _ => by rw [hgr] at hg; cases hg
    by_cases hdef : ∃ c, o.op = .defer c
    · obtain ⟨c, hc⟩ := hdef
      simp [stepF, stepPure, hc] at hk
    · obtain ⟨v, hv, hnx⟩ := stepF_sound (R := Grow w) (next := fun a' w' => w' = w → next a' w') h hTb hnt hcm.m (fun _ hg _ => hg) hd hk (fun st' E' a' w' hk' h' hw => hn st' E' a' w' hk' h' fun _ _ => hw ▸ Grow.refl w)
      exact wpIn_val hF (fun c hc => hdef ⟨c, hc⟩) (hv w (Grow.refl w)) (hnx rfl)
  · rename_i hd hf
    exact stepA_sound h hTb hnt hro hcm hd hF hk hn
  · exact hk.elim

theorem selB_or {want lit : Bool} {A B : Prop} (h : selB want lit A B) : (lit = want ∧ A) ∨ (lit ≠ want ∧ B) := by
  cases want <;> cases lit <;> first | exact .inl ⟨rfl, h⟩ | exact .inr ⟨by simp, h⟩

theorem Models.putSame {C : Ctx} {E : Env} {st : St} {a : Act} {w : World} (h : Models C E st a w) {d : Nat} {b : Bool} (hv : a.tmps.getD d undef = .bool b) : Models C E (st.put d (.p true (.val (.bool b)))) a w := by
  refine ⟨h.size, fun t => ?_, ⟨h.heap.ob, h.heap.sep, h.heap.own, h.heap.mem, h.heap.mem0, h.heap.memnew, h.heap.new, h.heap.base, h.heap.fr, h.heap.hd0, h.heap.mno, h.heap.mkh, h.heap.kk⟩, h.marks⟩
  rw [get_put]
  by_cases e : d = t
  · subst e; rw [if_pos rfl, hv]; exact .val _ _
  · rw [if_neg e]; exact h.slot t

theorem guard_slot {C : Ctx} {E : Env} {st : St} {a : Act} {w : World} (h : Models C E st a w) {all : Array Oper} {j d : Nat} {oj : Oper} {b t : Bool} (hoj : nth all.toList j = some oj) (hdj : oj.dst = some d) (hget : st.get d = .p b (.val (.bool t))) :
    a.tmps.getD d undef = .bool t ∧ yielded all a.tmps j = some t := by
  have hv : a.tmps.getD d undef = .bool t := by
    have := h.slot d
    rw [hget] at this
    exact this.val_inv
  refine ⟨hv, ?_⟩
  have hlt : d < a.tmps.size := by
    rcases Nat.lt_or_ge d a.tmps.size with h1 | h1
    · exact h1
    · rw [Array.getD_eq_getD_getElem?, Array.getElem?_eq_none h1] at hv
      simp [undef] at hv
  rw [nth_eq] at hoj
  have hoj' : all[j]? = some oj := by simpa using hoj
  rw [Array.getD_eq_getD_getElem?] at hv
  have hv' : a.tmps[d]? = some (.bool t) := by
    rw [Array.getElem?_eq_getElem hlt] at hv ⊢
    simpa using hv
  simp [yielded, hoj', hdj, hv']

/-- the guard seen to: it is carried out, in a state of the same kind, or left out -/
theorem stepG_split {gr : Bool} {C : Ctx} {E : Env} {st : St} {a : Act} {w : World} (h : Models C E st a w) {X : Cfg} {all : Array Oper} {o : Oper} {K : St → Prop} (hk : stepG X gr all.toList o st K) :
    (Region.wanted o (yielded all a.tmps) = true ∧ ∃ st1, Models C E st1 a w ∧ step X gr o st1 K) ∨
    (Region.wanted o (yielded all a.tmps) = false ∧ okDst X.nt o.dst = true ∧ ∃ st1, Models C E st1 a w ∧ putK st1 o.dst skipped K) := by
  unfold stepG at hk
  split at hk
  · rename_i hg
    exact .inl ⟨by simp [Region.wanted, hg], st, h, hk⟩
  · rename_i j want hg
    split at hk
    · rename_i oj hoj
      split at hk
      · rename_i d hdj
        split at hk
        · rename_i b t hget hdo
          obtain ⟨hv, hy⟩ := guard_slot h hoj hdj hget
          have fin : ∀ (lit : Bool), t = lit → selB want lit (step X gr o (st.put d (.p true (.val (.bool lit)))) K) (putK (st.put d (.p true (.val (.bool lit)))) o.dst skipped K) →
              ((Region.wanted o (yielded all a.tmps) = true ∧ ∃ st1, Models C E st1 a w ∧ step X gr o st1 K) ∨
              (Region.wanted o (yielded all a.tmps) = false ∧ okDst X.nt o.dst = true ∧ ∃ st1, Models C E st1 a w ∧ putK st1 o.dst skipped K)) := by
            intro lit hlit hsel
            subst hlit
            have hM := h.putSame hv
            rcases selB_or hsel with ⟨h1, h2⟩ | ⟨h1, h2⟩
            · exact .inl ⟨by simp [Region.wanted, hg, hy, h1], _, hM, h2⟩
            · exact .inr ⟨by simp [Region.wanted, hg, hy, h1], hdo, _, hM, h2⟩
          rcases bcase_elim hk with ⟨h1, h2⟩ | ⟨h1, h2⟩
          · rw [putK_eq] at h2; exact fin true h1 h2
          · rw [putK_eq] at h2; exact fin false h1 h2
        · rename_i b hget hdo
          have hk : putK st o.dst skipped K := hk
          refine .inr ⟨?_, hdo, st, h, hk⟩
          have hv : a.tmps.getD d undef = undef := by
            have := h.slot d
            rw [hget] at this
            exact this.val_inv
          have hy : yielded all a.tmps j = none := by
            rw [nth_eq] at hoj
            have hoj' : all[j]? = some oj := by simpa using hoj
            rw [Array.getD_eq_getD_getElem?] at hv
            simp only [yielded, hoj', Option.bind_some, hdj]
            cases hq : a.tmps[d]? with
            | none => rfl
            | some q => rw [hq] at hv; simp only [Option.getD_some] at hv; subst hv; rfl
          simp [Region.wanted, hg, hy]
        · exact hk.elim
      · exact hk.elim
    · exact hk.elim

theorem vcOps_sound {C : Ctx} {X : Cfg} (hTb : X.Tb.Ok X.P) (hnt : C.nt = X.nt) (hro : C.ro = X.ro) {F : Fence} (hcm : CX C X F) (hF : Wide F) (all : Array Oper) {K : St → Prop} {Q : Exit → Act → World → Prop}
    (hn : ∀ st' E' a' w', K st' → Models C E' st' a' w' → Q .normal a' w') : ∀ (ops : List Oper) (st : St) (E : Env) (a : Act) (w : World), vcOps X all.toList ops st K → Models C E st a w → wpListIn F 9 X.P all Q ops a w
  | [], st, E, a, w, hk, h => hn st E a w hk h
  | o :: rest, st, E, a, w, hk, h => by
    simp only [vcOps] at hk
    simp only [wpListIn]
    have ih := vcOps_sound hTb hnt hro hcm hF all hn rest
    rcases stepG_split h hk with ⟨h1, st1, h2, h3⟩ | ⟨h1, hdo, st1, h2, h3⟩
    · rw [if_pos h1]
      exact step_sound h2 hTb hnt hro hcm hF h3 fun st' E' a' w' hk' h' _ => ih st' E' a' w' hk' h'
    · rw [if_neg (by simp [h1])]
      exact ⟨fun f _ => hF.fn f, putK_sound h2 hnt hdo h3 (.val true undef) fun st' E' a' w' hk' h' => ih st' E' a' w' hk' h'⟩

end Go.Sx

namespace Go.Sx
open Go

section
variable {F : Fence} {n : Nat} {P : Program} {ops : Array Oper} {Q : Exit → Act → World → Prop} {md : Region.Mode}

/-- an operation's value, in every world of a kind -/
def YieldsG (P : Program) (ops : Array Oper) (R : World → Prop) (o : Oper) (v : Value) (a : Act) : Prop :=
  (Region.wanted o (yielded ops a.tmps) = true ∧ (∀ c, o.op ≠ .defer c) ∧ ∀ w, R w → (execOp a.eval o).run P w = .ok (.value v) w) ∨
  (Region.wanted o (yielded ops a.tmps) = false ∧ v = undef)

theorem YieldsG.same {R : World → Prop} {o : Oper} {v : Value} {a a' : Act} (h : YieldsG P ops R o v a) (he : execOp a'.eval o = execOp a.eval o) (hw : Region.wanted o (yielded ops a'.tmps) = Region.wanted o (yielded ops a.tmps)) : YieldsG P ops R o v a' := by
  unfold YieldsG at *; rw [he, hw]; exact h

theorem YieldsG.op (hF : Wide F) {R : World → Prop} {w : World} {i : Nat} {o : Oper} {v : Value} {a : Act} (hi : ops[i]? = some o) (h : YieldsG P ops R o v a) (hg : R w) {K : Act → World → Prop} (hk : K (a.put o.dst v) w) : wpOpIn F 9 P ops Q i K a w := by
  unfold wpOpIn
  simp only [hi]
  rcases h with ⟨h1, h2, h3⟩ | ⟨h1, rfl⟩
  · rw [if_pos h1]; exact wpIn_val hF h2 (h3 w hg) hk
  · rw [if_neg (by simp [h1])]; exact ⟨fun f _ => hF.fn f, hk⟩

/-- two operations apart: one of them may have come already -/
theorem opIn_put (hF : Wide F) {w0 : World → Prop} {j : Nat} {oi oj : Oper} {v : Value} (hj : ops[j]? = some oj) (hap : oi.apart ops oj = true) (hsi : ∀ cs b, oi.op ≠ .select cs b) (hsj : ∀ cs b, oj.op ≠ .select cs b) (hdj : ∀ c, oj.op ≠ .defer c)
    (hQ : ∀ c a w, ¬ Q (.panic c) a w) {K : Act → World → Prop} {a : Act} {w : World} (hy : YieldsG P ops w0 oi v a) (h : wpOpIn F 9 P ops Q j K (a.put oi.dst v) w) :
    wpOpIn F 9 P ops Q j (fun a' w' => YieldsG P ops w0 oi v a' ∧ K (a'.put oi.dst v) w') a w := by
  obtain ⟨p1, p2, p3⟩ := Oper.apart_spec hap
  have keep : ∀ u, YieldsG P ops w0 oi v (a.put oj.dst u) := fun u => hy.same (execOp_put oi hsi a oj.dst u p3) (wanted_put oi a oj.dst u p3)
  have swap : ∀ u w', K ((a.put oi.dst v).put oj.dst u) w' → YieldsG P ops w0 oi v (a.put oj.dst u) ∧ K ((a.put oj.dst u).put oi.dst v) w' := fun u w' hk => ⟨keep u, by rw [← Act.put_comm a v u p2]; exact hk⟩
  unfold wpOpIn at *
  simp only [hj] at *
  rw [wanted_put oj a oi.dst v p1] at h
  by_cases hw : Region.wanted oj (yielded ops a.tmps) = true
  · rw [if_pos hw] at h ⊢
    refine ⟨fun f _ => hF.fn f, ?_⟩
    have h2 := h.2
    rw [Oper.semAt_plain F _ _ hdj] at h2 ⊢
    rw [execOp_put oj hsj a oi.dst v p1] at h2
    generalize (execOp a.eval oj).run P w = r at h2 ⊢
    cases r with
    | halt x w' => cases x <;> simp only [Oper.uponIn] at h2 ⊢; exact absurd h2 (hQ _ _ _)
    | ok x w' =>
      cases x <;> simp only [Oper.uponIn] at h2 ⊢
      case value u => exact swap u w' h2
      case skip => exact swap undef w' h2
      case defer d =>
        refine ⟨(keep undef).same (by cases oj.dst <;> rfl) (by cases oj.dst <;> rfl), ?_⟩
        rw [← Act.put_comm _ v undef p2, ← Act.put_defers]
        exact h2
      case enter f args =>
        refine ⟨h2.1, CallsIn.mono h2.2 fun e w'' he => ?_⟩
        cases e with
        | returned u => exact swap u w'' he
        | panicked c => exact absurd he (hQ _ _ _)
        | outgrown => exact he
      case row row args => exact ⟨h2.1, RowsIn.mono h2.2 fun u w'' he => swap u w'' he⟩
      case round l f tmps assign body =>
        refine ⟨h2.1, RoundIn.mono h2.2 fun e w'' he => ?_⟩
        cases e with
        | returned u => exact swap u w'' he
        | panicked c => exact absurd he (hQ _ _ _)
        | outgrown => exact he
  · rw [if_neg hw] at h ⊢
    exact ⟨fun f _ => hF.fn f, swap undef w h.2⟩

/-- whatever comes up; behind the operations that only grow the world has grown -/
def anyG (F : Fence) (P : Program) (md : Region.Mode) (ops : Array Oper) (Q : Exit → Act → World → Prop) (g : Nat → Bool) : Nat → Array Bool → Act → World → Prop
  | 0, listed, a, w => Region.ready md ops listed = [] ∧ Q .normal a w
  | fuel + 1, listed, a, w =>
    (Region.ready md ops listed = [] → Q .normal a w) ∧
    ∀ i ∈ Region.ready md ops listed, wpOpIn F 9 P ops Q i (fun a' w' => (g i = true → Grow w w') ∧ anyG F P md ops Q g fuel (listed.setIfInBounds i true) a' w') a w

theorem anyG_any {g : Nat → Bool} : ∀ (fuel : Nat) (listed : Array Bool) (a : Act) (w : World), anyG F P md ops Q g fuel listed a w → wpAnyIn F 9 P md ops Q fuel listed a w
  | 0, _, _, _, h => h
  | fuel + 1, _, _, _, h => ⟨h.1, fun i hi => wpOpIn_mono (fun a' w' h' => anyG_any fuel _ a' w' h'.2) (h.2 i hi)⟩

/-- does j wait for i, be it through others -/
def waits (md : Region.Mode) (ops : Array Oper) (i : Nat) : Nat → Nat → Bool
  | 0, _ => false
  | f + 1, j => match ops[j]? with
    | none => false
    | some o => o.after.any fun e => Region.binds md e && (e.on == i || waits md ops i f e.on)
theorem waits_some {i f j : Nat} (h : waits md ops i (f + 1) j = true) : ∃ o, ops[j]? = some o ∧ ∃ e ∈ o.after, Region.binds md e = true ∧ (e.on = i ∨ waits md ops i f e.on = true) := by
  unfold waits at h
  split at h
  · cases h
  · rename_i o ho
    obtain ⟨e, he, h1⟩ := Array.any_eq_true'.1 h
    simp only [Bool.and_eq_true, Bool.or_eq_true, beq_iff_eq] at h1
    exact ⟨o, ho, e, he, h1⟩
theorem waits_mono {i : Nat} : ∀ {f j : Nat}, waits md ops i f j = true → waits md ops i (f + 1) j = true
  | 0, _, h => by simp [waits] at h
  | f + 1, j, h => by
    obtain ⟨o, ho, e, he, hb, h1⟩ := waits_some h
    unfold waits
    simp only [ho]
    refine Array.any_eq_true'.2 ⟨e, he, ?_⟩
    simp only [Bool.and_eq_true, Bool.or_eq_true, beq_iff_eq]
    exact ⟨hb, h1.imp id waits_mono⟩
theorem waits_step {i f j : Nat} (h : waits md ops i f j = true) : ∃ o, ops[j]? = some o ∧ ∃ e ∈ o.after, Region.binds md e = true ∧ (e.on = i ∨ waits md ops i f e.on = true) := by
  cases f with
  | zero => simp [waits] at h
  | succ f =>
    obtain ⟨o, ho, e, he, hb, h1⟩ := waits_some h
    exact ⟨o, ho, e, he, hb, h1.imp id waits_mono⟩

/-- no operation still to come, but those that wait for i, touches i's slots or does more than grow, unless i does not look into memory -/
def clearFor (md : Region.Mode) (ops : Array Oper) (g : Nat → Bool) (listed : Array Bool) (i : Nat) : Bool :=
  match ops[i]? with
  | none => false
  | some oi => (List.range ops.size).all fun j => j == i || match listed.getD j true with
    | true => !waits md ops i 12 j
    | false => match ops[j]? with
      | some oj => waits md ops i 12 j || (oi.apart ops oj && (g j || !readsHeap oi.op))
      | none => true

theorem clearFor_spec {g : Nat → Bool} {i : Nat} {oi : Oper} {listed : Array Bool} (hi : ops[i]? = some oi) (h : clearFor md ops g listed i = true) :
    (∀ j, j ≠ i → listed.getD j true = true → waits md ops i 12 j = false) ∧
    ∀ (j : Nat) (oj : Oper), ops[j]? = some oj → j ≠ i → listed.getD j true = false → waits md ops i 12 j = false → oi.apart ops oj = true ∧ (g j || !readsHeap oi.op) = true := by
  simp only [clearFor, hi, List.all_eq_true, List.mem_range] at h
  constructor
  · intro j hne hl
    cases hw : waits md ops i 12 j with
    | false => rfl
    | true =>
      obtain ⟨o, ho, _⟩ := waits_step hw
      have h1 := h j (Array.getElem?_eq_some_iff.1 ho).1
      simp [hne, hl, hw] at h1
  · intro j oj hj hne hun hw
    have h1 := h j (Array.getElem?_eq_some_iff.1 hj).1
    simp only [Bool.or_eq_true, beq_iff_eq, hne, false_or, hun, hj, hw, Bool.false_eq_true, Bool.and_eq_true] at h1
    exact ⟨h1.1, by simpa using h1.2⟩

theorem anyG_first (hF : Wide F) {g : Nat → Bool} {i : Nat} {oi : Oper} {v : Value} {R : World → Prop} {pu : Bool} (hRs : ∀ (b : Bool) (w w' : World), R w → (b = true → Grow w w') → (b || pu) = true → R w')
    (hi : ops[i]? = some oi) (hsel : ∀ (j : Nat) (o : Oper), ops[j]? = some o → (∀ cs b, o.op ≠ .select cs b) ∧ ∀ c, o.op ≠ .defer c) (hQ : ∀ c a w, ¬ Q (.panic c) a w) :
    ∀ (fuel : Nat) (listed : Array Bool) (a : Act) (w : World),
      (∀ j, j ≠ i → listed.getD j true = true → waits md ops i 12 j = false) →
      (∀ j oj, ops[j]? = some oj → j ≠ i → listed.getD j true = false → waits md ops i 12 j = false → oi.apart ops oj = true ∧ (g j || pu) = true) →
      i ∈ Region.ready md ops listed → YieldsG P ops R oi v a → R w → anyG F P md ops Q g fuel (listed.setIfInBounds i true) (a.put oi.dst v) w → anyG F P md ops Q g (fuel + 1) listed a w := by
  intro fuel
  induction fuel with
  | zero =>
    intro listed a w _ _ hr hy hg H
    refine ⟨fun h => (by rw [h] at hr; cases hr), fun j hj => ?_⟩
    by_cases hji : j = i
    · subst hji; exact hy.op hF hi hg ⟨fun _ => Grow.refl w, H⟩
    · have := ready_mono hj hji
      rw [H.1] at this
      cases this
  | succ fuel ih =>
    intro listed a w hdone hfree hr hy hg H
    refine ⟨fun h => (by rw [h] at hr; cases hr), fun j hj => ?_⟩
    by_cases hji : j = i
    · subst hji; exact hy.op hF hi hg ⟨fun _ => Grow.refl w, H⟩
    · have h1 := H.2 j (ready_mono hj hji)
      obtain ⟨hjun, oj, hoj, hall⟩ := mem_ready.1 hj
      have hnot : waits md ops i 12 j = false := by
        cases hw : waits md ops i 12 j with
        | false => rfl
        | true =>
          exfalso
          obtain ⟨o, ho, e, he, hb, h2⟩ := waits_step hw
          obtain rfl : oj = o := by rw [hoj] at ho; exact Option.some.inj ho
          have h3 := hall e he hb
          have h0 := (mem_ready.1 hr).1
          have h4 : listed.getD e.on true = true := by
            rcases Nat.lt_or_ge e.on listed.size with h' | h'
            · simp [h'] at h3 ⊢; exact h3
            · simp [Array.getElem?_eq_none h'] at h3
          rcases h2 with h2 | h2
          · rw [h2, h0] at h4; cases h4
          · have hne : e.on ≠ i := fun e1 => by rw [e1, h0] at h4; cases h4
            rw [hdone _ hne h4] at h2; cases h2
      obtain ⟨hap, hgj⟩ := hfree j oj hoj hji hjun hnot
      have h2 := opIn_put hF hoj hap (hsel i oi hi).1 (hsel j oj hoj).1 (hsel j oj hoj).2 hQ hy h1
      refine wpOpIn_mono (fun a' w' ⟨h3, h4, h5⟩ => ⟨h4, ?_⟩) h2
      refine ih (listed.setIfInBounds j true) a' w' (fun k hki hk => ?_) (fun k ok hk hki hun hno => ?_) (ready_mono hr (Ne.symm hji)) h3 (hRs (g j) w w' hg h4 hgj) ?_
      · by_cases hjk : j = k
        · subst hjk; exact hnot
        · rw [getD_set_ne true hjk] at hk; exact hdone k hki hk
      · refine hfree k ok hk hki ?_ hno
        by_cases hjk : j = k
        · subst hjk; exact hjun
        · rw [getD_set_ne true hjk] at hun; exact hun
      · rw [Array.setIfInBounds_comm _ _ hji]; exact h5

end

/-- an order in which a region may be walked -/
def growsAt (ops : Array Oper) (i : Nat) : Bool := match ops[i]? with | some o => isGrow o.op | none => true
def OT.heads : OT → List Nat
  | .alt i _ u => i :: u.heads
  | _ => []
def OT.wrs : OT → List Nat
  | .one _ t => t.wrs
  | .alt _ t u => t.wrs ++ u.wrs
  | .wr i t => i :: t.wrs
  | _ => []
/-- which operations may but grow: all but some calls -/
def growsBut (ops : Array Oper) (l : List Nat) (i : Nat) : Bool := growsAt ops i && !(inL i l)
def treeGo (ops : Array Oper) (g : Nat → Bool) : OT → Bool → Nat → Array Bool → Bool
  | .done, first, fuel, listed => first && (Nat.beq fuel 0 && (Region.ready .any ops listed).isEmpty)
  | .one i t, first, fuel + 1, listed =>
    first && ((match ops[i]? with
    | some o => match isFloat o.op with
      | true => (Region.ready .any ops listed).contains i && clearFor .any ops g listed i
      | false => Region.ready .any ops listed == [i]
    | none => false) && treeGo ops g t true fuel (listed.setIfInBounds i true))
  | .wr i t, first, fuel + 1, listed =>
    first && ((match ops[i]? with
    | some o => match isFloat o.op with
      | true => false
      | false => Region.ready .any ops listed == [i] && !(g i)
    | none => false) && treeGo ops g t true fuel (listed.setIfInBounds i true))
  | .alt i t u, first, fuel + 1, listed =>
    (!first || Region.ready .any ops listed == i :: u.heads) && (treeGo ops g t true fuel (listed.setIfInBounds i true) && treeGo ops g u false (fuel + 1) listed)
  | .stop, first, _, _ => !first
  | _, _, _, _ => false
def ordOk (ops : Array Oper) (ord : OT) : Bool :=
  (ops.all fun o => match o.op with | .select .. => false | .defer _ => false | _ => true) && treeGo ops (growsBut ops ord.wrs) ord true ops.size (Array.replicate ops.size false)

section
variable {C : Ctx} {X : Cfg} (hTb : X.Tb.Ok X.P) (hnt : C.nt = X.nt) (hro : C.ro = X.ro) {F : Fence} (hcm : CX C X F) (hF : Wide F) (ops : Array Oper) (hsel : ∀ (j : Nat) (o : Oper), ops[j]? = some o → (∀ cs b, o.op ≠ .select cs b) ∧ ∀ c, o.op ≠ .defer c)
  {K : St → Prop} {Q : Exit → Act → World → Prop} (hQ : ∀ c a w, ¬ Q (.panic c) a w) {g : Nat → Bool} (hg0 : ∀ i, g i = true → growsAt ops i = true)
include hTb hnt hro hcm hF hsel hQ hg0

/-- one operation that comes next -/
theorem vcNext_sound {gr : Bool} {i fuel : Nat} {o : Oper} (hgr : gr = true ∨ (g i = false ∧ isFloat o.op = false)) (hoi : ops[i]? = some o) {st : St} {E : Env} {a : Act} {w : World} {listed : Array Bool} {V : St → Prop}
    (ih : ∀ st' E' a' w', V st' → Models C E' st' a' w' → anyG F X.P .any ops Q g fuel (listed.setIfInBounds i true) a' w')
    (hk : stepG X gr ops.toList o st V) (h : Models C E st a w) :
    wpOpIn F 9 X.P ops Q i (fun a' w' => (g i = true → Grow w w') ∧ anyG F X.P .any ops Q g fuel (listed.setIfInBounds i true) a' w') a w := by
  rcases stepG_split h hk with ⟨h1, st1, h2, h3⟩ | ⟨h1, hdo, st1, h2, h3⟩
  · cases hfl : isFloat o.op with
    | true =>
      obtain rfl : gr = true := hgr.resolve_right (by simp [hfl])
      unfold step at h3
      rw [hfl] at h3
      cases hd : okDst X.nt o.dst with
      | false => simp [hd] at h3
      | true =>
        simp only [hd] at h3
        obtain ⟨v, hv, hnx⟩ := stepF_sound (R := Grow w) (next := fun a' w' => anyG F X.P .any ops Q g fuel (listed.setIfInBounds i true) a' w') h2 hTb hnt hcm.m (fun _ hg _ => hg) hd h3 (fun st' E' a' w' hk' h' => ih st' E' a' w' hk' h')
        exact YieldsG.op hF hoi (.inl ⟨h1, (hsel i o hoi).2, hv⟩) (Grow.refl w) ⟨fun _ => Grow.refl w, hnx⟩
    | false =>
      unfold wpOpIn
      simp only [hoi]
      rw [if_pos h1]
      exact step_sound h2 hTb hnt hro hcm hF h3 fun st' E' a' w' hk' h' hg => ⟨fun hgi => hg (hgr.resolve_right (by simp [hgi])) (by simpa [growsAt, hoi] using hg0 i hgi), ih st' E' a' w' hk' h'⟩
  · unfold wpOpIn
    simp only [hoi]
    rw [if_neg (by simp [h1])]
    exact ⟨fun f _ => hF.fn f, putK_soundw (next := fun a' w' => (g i = true → Grow w w') ∧ anyG F X.P .any ops Q g fuel (listed.setIfInBounds i true) a' w') h2 hnt hdo h3 (.val true undef) fun st' E' a' w' hk' h' hw => ⟨fun _ => hw ▸ Grow.refl w, ih st' E' a' w' hk' h'⟩⟩

theorem vcTree_sound (hn : ∀ st' E' a' w', K st' → Models C E' st' a' w' → Q .normal a' w') : ∀ (t : OT) (first : Bool) (fuel : Nat) (listed : Array Bool) (st : St) (E : Env) (a : Act) (w : World), treeGo ops g t first fuel listed = true → vcTree X ops.toList t st K → Models C E st a w →
      (first = true → anyG F X.P .any ops Q g fuel listed a w) ∧
      ∀ n, fuel = n + 1 → ∀ i ∈ t.heads, wpOpIn F 9 X.P ops Q i (fun a' w' => (g i = true → Grow w w') ∧ anyG F X.P .any ops Q g n (listed.setIfInBounds i true) a' w') a w
  | .done, first, fuel, listed, st, E, a, w, ho, hk, h => by
    simp only [treeGo, Bool.and_eq_true, List.isEmpty_iff] at ho
    obtain ⟨rfl, hf, he⟩ := ho
    obtain rfl := Nat.eq_of_beq_eq_true hf
    exact ⟨fun _ => ⟨he, hn st E a w hk h⟩, fun n hn => by omega⟩
  | .stop, first, fuel, listed, st, E, a, w, ho, hk, h => by
    cases first with
    | true => simp [treeGo] at ho
    | false => exact ⟨fun h => (by cases h), fun n _ i hi => (by cases hi)⟩
  | .one i t, first, 0, listed, st, E, a, w, ho, hk, h => by simp [treeGo] at ho
  | .wr i t, first, 0, listed, st, E, a, w, ho, hk, h => by simp [treeGo] at ho
  | .wr i rest, first, fuel + 1, listed, st, E, a, w, ho, hk, h => by
    refine ⟨fun _ => ?_, fun n _ j hj => by cases hj⟩
    simp only [treeGo, Bool.and_eq_true] at ho
    obtain ⟨-, ho, hrest⟩ := ho
    simp only [vcTree, nth_eq, Array.getElem?_toList] at hk
    have ih := fun st' E' a' w' hk' h' => (vcTree_sound hn rest true fuel (listed.setIfInBounds i true) st' E' a' w' hrest hk' h').1 rfl
    cases hoi : ops[i]? with
    | none => simp [hoi] at ho
    | some o =>
      simp only [hoi] at ho hk
      cases hfl : isFloat o.op with
      | true => simp [hfl] at ho
      | false =>
        simp only [hfl, Bool.and_eq_true, beq_iff_eq, Bool.not_eq_true'] at ho
        refine ⟨fun h0 => (by rw [ho.1] at h0; cases h0), fun j hj => ?_⟩
        rw [ho.1] at hj
        obtain rfl : j = i := by simpa using hj
        exact vcNext_sound hTb hnt hro hcm hF ops hsel hQ hg0 (.inr ⟨ho.2, hfl⟩) hoi ih hk h
  | .alt i t u, first, 0, listed, st, E, a, w, ho, hk, h => by simp [treeGo] at ho
  | .alt i t u, first, fuel + 1, listed, st, E, a, w, ho, hk, h => by
    simp only [treeGo, Bool.and_eq_true, Bool.or_eq_true, Bool.not_eq_true', beq_iff_eq] at ho
    obtain ⟨hr, h1, h2⟩ := ho
    obtain ⟨hk1, hk2⟩ := hk
    have ih1 := vcTree_sound hn t
    have ih2 := (vcTree_sound hn u false (fuel + 1) listed st E a w h2 hk2 h).2
    simp only [nth_eq, Array.getElem?_toList] at hk1
    have all : ∀ n, fuel + 1 = n + 1 → ∀ j ∈ (OT.alt i t u).heads, wpOpIn F 9 X.P ops Q j (fun a' w' => (g j = true → Grow w w') ∧ anyG F X.P .any ops Q g n (listed.setIfInBounds j true) a' w') a w := by
      intro n hnn j hj
      obtain rfl : fuel = n := by omega
      rcases List.mem_cons.1 hj with rfl | hj
      · cases hoi : ops[j]? with
        | none => simp [hoi] at hk1
        | some o =>
          simp only [hoi] at hk1
          exact vcNext_sound hTb hnt hro hcm hF ops hsel hQ hg0 (.inl rfl) hoi (fun st' E' a' w' hk' h' => (ih1 true fuel _ st' E' a' w' h1 hk' h').1 rfl) hk1 h
      · exact ih2 fuel rfl j hj
    refine ⟨fun hf => ?_, all⟩
    subst hf
    have hr : Region.ready .any ops listed = i :: u.heads := by simpa using hr
    refine ⟨fun h0 => (by rw [hr] at h0; cases h0), fun j hj => ?_⟩
    rw [hr] at hj
    exact all fuel rfl j hj
  | .one i rest, first, fuel + 1, listed, st, E, a, w, ho, hk, h => by
    refine ⟨fun _ => ?_, fun n _ j hj => by cases hj⟩
    simp only [treeGo, Bool.and_eq_true] at ho
    obtain ⟨-, ho, hrest⟩ := ho
    simp only [vcTree, nth_eq, Array.getElem?_toList] at hk
    have ih := fun st' E' a' w' hk' h' => (vcTree_sound hn rest true fuel (listed.setIfInBounds i true) st' E' a' w' hrest hk' h').1 rfl
    cases hoi : ops[i]? with
    | none => simp [hoi] at ho
    | some o =>
      simp only [hoi] at ho hk
      cases hfl : isFloat o.op with
      | true =>
        simp only [hfl, Bool.and_eq_true, List.contains_eq_mem, decide_eq_true_eq] at ho
        obtain ⟨R, hRw, hRr, hRs⟩ : ∃ R : World → Prop, R w ∧ (∀ w1, R w1 → readsHeap o.op = true → Grow w w1) ∧ ∀ (b : Bool) (w1 w2 : World), R w1 → (b = true → Grow w1 w2) → (b || !readsHeap o.op) = true → R w2 := by
          cases hrh : readsHeap o.op with
          | true => exact ⟨Grow w, Grow.refl w, fun _ h _ => h, fun b w1 w2 h hb hbb => h.trans (hb (by simpa using hbb))⟩
          | false => exact ⟨fun _ => True, trivial, fun _ _ h => (by cases h), fun _ _ _ _ _ _ => trivial⟩
        obtain ⟨hc1, hc2⟩ := clearFor_spec hoi ho.2
        have go : ∀ v, YieldsG X.P ops R o v a → anyG F X.P .any ops Q g fuel (listed.setIfInBounds i true) (a.put o.dst v) w → anyG F X.P .any ops Q g (fuel + 1) listed a w := fun v hy H =>
          anyG_first hF hRs hoi hsel hQ fuel listed a w hc1 hc2 ho.1 hy hRw H
        rcases stepG_split h hk with ⟨h1, st1, h2, h3⟩ | ⟨h1, hdo, st1, h2, h3⟩
        · unfold step at h3
          rw [hfl] at h3
          cases hd : okDst X.nt o.dst with
          | false => simp [hd] at h3
          | true =>
            simp only [hd] at h3
            obtain ⟨v, hv, hnx⟩ := stepF_sound (R := R) (next := fun a' w' => anyG F X.P .any ops Q g fuel (listed.setIfInBounds i true) a' w') h2 hTb hnt hcm.m hRr hd h3 (fun st' E' a' w' hk' h' => ih st' E' a' w' hk' h')
            exact go v (.inl ⟨h1, (hsel i o hoi).2, hv⟩) hnx
        · exact go undef (.inr ⟨h1, rfl⟩) (putK_sound (next := fun a' w' => anyG F X.P .any ops Q g fuel (listed.setIfInBounds i true) a' w') h2 hnt hdo h3 (.val true undef) fun st' E' a' w' hk' h' => ih st' E' a' w' hk' h')
      | false =>
        simp only [hfl, beq_iff_eq] at ho
        refine ⟨fun h0 => (by rw [ho] at h0; cases h0), fun j hj => ?_⟩
        rw [ho] at hj
        obtain rfl : j = i := by simpa using hj
        exact vcNext_sound hTb hnt hro hcm hF ops hsel hQ hg0 (.inl rfl) hoi ih hk h
end

theorem Models.drew {C : Ctx} {E : Env} {st : St} {a : Act} {w : World} (h : Models C E st a w) : Models C E st a { w with drawn := w.drawn + 1 } :=
  ⟨h.size, h.slot, ⟨fun i o ho => (h.heap.ob i o ho).world fun _ _ => rfl, h.heap.sep, h.heap.own, h.heap.mem, h.heap.mem0, h.heap.memnew, h.heap.new, h.heap.base, ⟨h.heap.fr.os, h.heap.fr.tape, h.heap.fr.output, h.heap.fr.bsz, h.heap.fr.wsz, h.heap.fr.wos, h.heap.fr.isz, h.heap.fr.block, h.heap.fr.sync⟩, h.heap.hd0, h.heap.mno, h.heap.mkh, h.heap.kk⟩, h.marks⟩

def noPanic (Q : Exit → Act → World → Prop) : Exit → Act → World → Prop
  | .panic _, _, _ => False
  | e, a, w => Q e a w
theorem noPanic_imp {Q : Exit → Act → World → Prop} (e : Exit) (a : Act) (w : World) (h : noPanic Q e a w) : Q e a w := by
  cases e <;> first | exact h | exact h.elim

theorem region_draw_sound {C : Ctx} {X : Cfg} (hm : X.P.follows .mixedOrders = true) (hTb : X.Tb.Ok X.P) (hnt : C.nt = X.nt) (hro : C.ro = X.ro) {F : Fence} (hcm : CX C X F) (hF : Wide F) {id : Nat} {ops : Array Oper} {ord : OT} (ho : ordOk ops ord = true)
    {K : St → Prop} {Q : Exit → Act → World → Prop} (hn : ∀ st' E' a' w', K st' → Models C E' st' a' w' → Q .normal a' w') {st : St} {E : Env} {a : Act} {w : World} (hk : vcTree X ops.toList ord st K) (h : Models C E st a w) :
    (Code.region id ops true).wpIn F 9 X.P Q a w := by
  simp only [ordOk, Bool.and_eq_true] at ho
  obtain ⟨h1, h3⟩ := ho
  refine wpIn_mono (Q := noPanic Q) (wpIn_region_any hm (anyG_any (g := growsBut ops ord.wrs) _ _ _ _ ?_)) noPanic_imp
  refine (vcTree_sound (Q := noPanic Q) hTb hnt hro hcm hF ops (fun j o hj => ?_) (fun c a w h => h) (g := growsBut ops ord.wrs) (fun i hi => by simp only [growsBut, Bool.and_eq_true] at hi; exact hi.1) (fun st' E' a' w' hk' h' => hn st' E' a' w' hk' h') ord true _ _ st E a _ h3 hk h.drew).1 rfl
  have := Array.all_eq_true_iff_forall_mem.1 h1 o (Array.mem_of_getElem? hj)
  refine ⟨fun cs b e => by simp [e] at this, fun c e => by simp [e] at this⟩

theorem region_sound {C : Ctx} {X : Cfg} (hTb : X.Tb.Ok X.P) (hnt : C.nt = X.nt) (hro : C.ro = X.ro) {F : Fence} (hcm : CX C X F) (hF : Wide F) {id : Nat} {ops : Array Oper}
    {K : St → Prop} {Q : Exit → Act → World → Prop} (hn : ∀ st' E' a' w', K st' → Models C E' st' a' w' → Q .normal a' w') {st : St} {E : Env} {a : Act} {w : World} (hk : vcOps X ops.toList ops.toList st K) (h : Models C E st a w) :
    (Code.region id ops false).wpIn F 9 X.P Q a w :=
  wpIn_region_list (vcOps_sound hTb hnt hro hcm hF ops hn ops.toList st E a w hk h)

end Go.Sx

namespace Go.Sx
open Go

def writesOps : List Oper → List Nat
  | [] => []
  | o :: l => match o.dst with
    | some d => d :: writesOps l
    | none => writesOps l
def writesC : Code → List Nat
  | .region _ ops _ => writesOps ops.toList
  | .seq a b => writesC a ++ writesC b
  | .cond _ a b => writesC a ++ writesC b
  | .block _ c => writesC c
  | .loop c => writesC c
  | _ => []

def dropKeys (W : List Nat) : List (Nat × SV) → List (Nat × SV)
  | [] => []
  | (t, s) :: l => match inL t W with
    | true => dropKeys W l
    | false => (t, s) :: dropKeys W l

/- what stands for the rows and values at a loop's head -/
def svsOf : Nat → List LV → List SV
  | _, [] => []
  | no, .s s :: l => s :: svsOf no l
  | no, .rw _ _ _ _ :: l => .row no :: svsOf (no + 1) l
def rowsOf : Nat → List LV → List (Nat × Option Ob)
  | _, [] => []
  | no, .s _ :: l => rowsOf no l
  | no, .rw T sz n f :: l => (no, some (.row T sz n f)) :: rowsOf (no + 1) l
def cntOf : Nat → List LV → Nat
  | no, [] => no
  | no, .s _ :: l => cntOf no l
  | no, .rw _ _ _ _ :: l => cntOf (no + 1) l

def keysOf {α : Type} : List (Nat × α) → List Nat
  | [] => []
  | (t, _) :: l => t :: keysOf l
def valsOf {α : Type} : List (Nat × α) → List α
  | [] => []
  | (_, v) :: l => v :: valsOf l
def zipK : List Nat → List SV → List (Nat × SV)
  | t :: ts, s :: ss => (t, s) :: zipK ts ss
  | _, _ => []

/-- the cells of an object at a loop's head -/
structure UO where
  i : Nat
  T : TypeId
  l : List LV

def uoObs : Nat → List UO → List (Nat × Option Ob)
  | _, [] => []
  | no, u :: us => (u.i, some (.cells u.T (svsOf no u.l))) :: (rowsOf no u.l ++ uoObs (cntOf no u.l) us)
def uoCnt : Nat → List UO → Nat
  | no, [] => no
  | no, u :: us => uoCnt (cntOf no u.l) us
def uoIdx : List UO → List Nat
  | [] => []
  | u :: us => u.i :: uoIdx us

def goneOb : List Nat → List (Nat × Option Ob) → List (Nat × Option Ob)
  | [], l => l
  | j :: js, l => (j, none) :: goneOb js l

/-- the state at a loop's head -/
def headSt (st : St) (W G : List Nat) (ups : List (Nat × LV)) (uos : List UO) (c : Option Nat) : St :=
  { fr := zipK (keysOf ups) (svsOf st.no (valsOf ups)) ++ dropKeys W st.fr
    ob := rowsOf st.no (valsOf ups) ++ (uoObs (cntOf st.no (valsOf ups)) uos ++ goneOb G st.ob)
    no := uoCnt (cntOf st.no (valsOf ups)) uos
    k := c }

/-- a value is as the head of the loop says -/
def okLt0 (no : Nat) : SV → Bool
  | .p _ _ => true
  | .own i _ => i.blt no
  | .any => true
  | _ => false
def okLts (no : Nat) : List SV → Bool
  | [] => true
  | s :: l => (okLt0 no s).and (okLts no l)
def sle0 (s c : SV) : Prop :=
  match c with
  | .any => True
  | .p b d => match s with
    | .p b' d' => (b = true → b' = true) ∧ ple d' d
    | _ => False
  | .own i o => match s with
    | .own i' o' => i' = i ∧ o' = o
    | _ => False
  | _ => False
def lvM (st : St) (no : Nat) (s : SV) : LV → Prop
  | .s (.fn f l) => s = .fn f l ∧ okLts no l = true
  | .s c => sle0 s c ∧ okLt0 no c = true
  | .rw T sz n f => match s with
    | .row j => match st.obj j with
      | some (.row T' sz' n' f') => T' = T ∧ sz' = sz ∧ n' = n ∧ ∀ k, k < n' → f' k = f k
      | _ => False
    | .p _ (.val (.slice none 0 0)) => n = 0
    | _ => False
def lvMs (st : St) (no : Nat) : List SV → List LV → Prop
  | [], [] => True
  | [s], [c] => lvM st no s c
  | s :: ss, c :: cs => lvM st no s c ∧ lvMs st no ss cs
  | _, _ => False
def rowsIn : List SV → List LV → List Nat
  | .row j :: ss, .rw _ _ _ _ :: cs => j :: rowsIn ss cs
  | _ :: ss, _ :: cs => rowsIn ss cs
  | _, _ => []
def getAll (st : St) : List Nat → List SV
  | [] => []
  | t :: l => st.get t :: getAll st l

def cellsAt (st : St) (i : Nat) (T : TypeId) : Option (List SV) :=
  match st.obj i with
  | some (.cells T' cs) => match T'.beq T with
    | true => some cs
    | false => none
  | _ => none
def uoM (st : St) (no : Nat) : List UO → Prop
  | [] => True
  | u :: us => (match cellsAt st u.i u.T with
    | some cs => lvMs st no cs u.l
    | none => False) ∧ uoM st no us
def uoRows (st : St) : List UO → List Nat
  | [] => []
  | u :: us => (match cellsAt st u.i u.T with
    | some cs => rowsIn cs u.l
    | none => []) ++ uoRows st us

def allRows (st : St) (ups : List (Nat × LV)) (uos : List UO) : List Nat := rowsIn (getAll st (keysOf ups)) (valsOf ups) ++ uoRows st uos
def allLt (no : Nat) : List Nat → Bool
  | [] => true
  | j :: l => (j.blt no).and (allLt no l)
def uoOk (ro no : Nat) : List Nat → Bool
  | [] => true
  | u :: us => ((ro.ble u).and (u.blt no)).and (uoOk ro no us)

def subLen {α : Type} : List α → List α → Nat
  | _ :: a, _ :: b => subLen a b
  | a, [] => a.length
  | [], _ => 0
def keysIn {α : Type} (W : List Nat) : Nat → List (Nat × α) → Bool
  | 0, _ => true
  | _ + 1, [] => true
  | n + 1, (t, _) :: l => (inL t W).and (keysIn W n l)
def keysGe {α : Type} (no : Nat) (P : List Nat) : Nat → List (Nat × α) → Bool
  | 0, _ => true
  | _ + 1, [] => true
  | n + 1, (t, _) :: l => ((no.ble t).or (inL t P)).and (keysGe no P n l)

/-- at the loop's beginning -/
def enterM (X : Cfg) (st : St) (W G : List Nat) (ups : List (Nat × LV)) (uos : List UO) : Prop :=
  (distinct (keysOf ups) = true ∧ allLt X.nt (keysOf ups) = true ∧ distinct (uoIdx uos) = true ∧ uoOk X.ro st.no (uoIdx uos) = true ∧ distinct G = true ∧ allGe X.m G = true) ∧
    lvMs st st.no (getAll st (keysOf ups)) (valsOf ups) ∧ uoM st st.no uos
/-- at the end of a round -/
def againM (st0 hd st : St) (W : List Nat) (ups : List (Nat × LV)) (uos : List UO) : Prop :=
  dropKeys W st.fr = dropKeys W hd.fr ∧
  (dropN (subLen st.ob hd.ob) st.ob = hd.ob ∧ keysGe st0.no (uoIdx uos) (subLen st.ob hd.ob) st.ob = true) ∧
  (distinct (allRows st ups uos) = true ∧ allGe st0.no (allRows st ups uos) = true) ∧
  lvMs st st0.no (getAll st (keysOf ups)) (valsOf ups) ∧ uoM st st0.no uos

def forceCs : List SV → (List SV → Prop) → Prop
  | [], K => K []
  | s :: l, K => forceS s fun s => forceCs l fun l => K (s :: l)
theorem forceCs_eq : ∀ (l : List SV) (K : List SV → Prop), forceCs l K = K l
  | [], K => rfl
  | s :: l, K => by simp only [forceCs, forceS_eq, forceCs_eq]
def forceO (o : Option Ob) (K : Option Ob → Prop) : Prop :=
  match o with
  | none => K none
  | some (.cells T cs) => forceCs cs fun cs => K (some (.cells T cs))
  | some (.row T sz n f) => K (some (.row T sz n f))
theorem forceO_eq (o : Option Ob) (K : Option Ob → Prop) : forceO o K = K o := by
  unfold forceO; split <;> first | rfl | exact forceCs_eq _ _
def forceFr : List (Nat × SV) → (List (Nat × SV) → Prop) → Prop
  | [], K => K []
  | (t, s) :: l, K => forceS s fun s => forceFr l fun l => K ((t, s) :: l)
theorem forceFr_eq : ∀ (l : List (Nat × SV)) (K : List (Nat × SV) → Prop), forceFr l K = K l
  | [], K => rfl
  | (t, s) :: l, K => by simp only [forceFr, forceS_eq, forceFr_eq]
def forceOb : List (Nat × Option Ob) → (List (Nat × Option Ob) → Prop) → Prop
  | [], K => K []
  | (t, s) :: l, K => forceO s fun s => forceOb l fun l => K ((t, s) :: l)
theorem forceOb_eq : ∀ (l : List (Nat × Option Ob)) (K : List (Nat × Option Ob) → Prop), forceOb l K = K l
  | [], K => rfl
  | (t, s) :: l, K => by simp only [forceOb, forceO_eq, forceOb_eq]
def forceN (n : Nat) (K : Nat → Prop) : Prop := match n with | 0 => K 0 | n + 1 => K (n + 1)
theorem forceN_eq (n : Nat) (K : Nat → Prop) : forceN n K = K n := by cases n <;> rfl
def forceK (n : Option Nat) (K : Option Nat → Prop) : Prop := match n with | none => K none | some n => K (some n)
theorem forceK_eq (n : Option Nat) (K : Option Nat → Prop) : forceK n K = K n := by cases n <;> rfl
def forceSt (st : St) (K : St → Prop) : Prop := forceFr st.fr fun fr => forceOb st.ob fun ob => forceN st.no fun no => forceK st.k fun k => K ⟨fr, ob, no, k⟩
theorem forceSt_eq (st : St) (K : St → Prop) : forceSt st K = K st := by simp only [forceSt, forceFr_eq, forceOb_eq, forceN_eq, forceK_eq]

def rounds (f : St → (Exit → St → Prop) → Prop) (Q : Exit → St → Prop) : Nat → St → Prop
  | 0, _ => False
  | n + 1, st => f st fun e st' => match e with
    | .normal => rounds f Q n st'
    | e => Q e st'

/-- a loop's annotation: what its head is like -/
structure LInv where
  X : Type
  up : X → List (Nat × LV)
  uo : X → List UO
  inv : X → Prop
  meas : X → Nat
  x0 : X
  cnt : X → Option Nat := fun _ => none

inductive LAnn : Type 1
  | unroll (n : Nat)
  | inv (i : LInv)

def loopInv (X : Cfg) (f : St → (Exit → St → Prop) → Prop) (Q : Exit → St → Prop) (st : St) (L : LInv) (W G : List Nat) : Prop :=
  (enterM X st W G (L.up L.x0) (L.uo L.x0) ∧ st.k = L.cnt L.x0) ∧ L.inv L.x0 ∧
    ∀ x, L.inv x → forceSt (headSt st W G (L.up x) (L.uo x) (L.cnt x)) fun hd => f hd fun e st' => match e with
      | .normal => ∃ x', (keysOf (L.up x') = keysOf (L.up x) ∧ uoIdx (L.uo x') = uoIdx (L.uo x)) ∧ (againM st hd st' W (L.up x') (L.uo x') ∧ st'.k = L.cnt x') ∧ L.inv x' ∧ L.meas x' < L.meas x
      | e => Q e st'

/- iterators -/
structure SeqSpec where
  A : Type
  capt : A → List PV
  pre : A → Prop
  xs : A → List (List Value)

def IsFn (P : Program) (f : Nat) : Prop := ∃ fn, P.funcs[f]? = some fn ∧ fn.body.isSome = true ∧ (fn.name == "runtime.NumGoroutine") = false
def SeqOk (P : Program) (g : Nat) (S : SeqSpec) : Prop :=
  IsFn P g ∧ ∀ a, S.pre a → (∀ x ∈ S.xs a, ∀ v ∈ x, vOk v = true) ∧ ∀ (μ : Nat → Option (Array Value)) (lb : Array Value),
    lb.size = (S.capt a).length → (∀ (k : Nat) (u : Value) (s : PV), lb[k]? = some u → (S.capt a)[k]? = some s → PRep μ u s) → SeqRuns P g lb μ ((S.xs a).map List.toArray)

/-- what the head of a range over a function is like -/
structure RInv where
  X : Type
  uo : X → List UO
  inv : Nat → X → Prop
  x0 : X

def againO (st0 hd st : St) (uos : List UO) : Prop :=
  (dropN (subLen st.ob hd.ob) st.ob = hd.ob ∧ keysGe st0.no (uoIdx uos) (subLen st.ob hd.ob) st.ob = true) ∧
  (distinct (uoRows st uos) = true ∧ allGe st0.no (uoRows st uos) = true) ∧ uoM st st0.no uos

def putPs : List Nat → List Value → St → (St → Prop) → Prop
  | [], [], st, K => K st
  | p :: ps, v :: vs, st, K => putK st (some p) (.p true (toPV v)) fun st => putPs ps vs st K
  | _, _, _, _ => False

def rangeVC (X : Cfg) (st : St) (g : Operand) (ps : Array Tmp) (fa fb : St → (Exit → St → Prop) → Prop) (Q : Exit → St → Prop) : Prop :=
  match st.ev g with
  | .p _ (.fn gf capt) => (X.rnd = false ∧ allLt X.nt ps.toList = true) ∧ ∃ S : SeqSpec, SeqOk X.P gf S ∧ ∃ a : S.A, ples1 capt (S.capt a) ∧ S.pre a ∧ (∀ x ∈ S.xs a, x.length = ps.size) ∧ ∃ L : RInv,
      (distinct (uoIdx (L.uo L.x0)) = true ∧ uoOk X.ro st.no (uoIdx (L.uo L.x0)) = true ∧ distinct (uoRows st (L.uo L.x0)) = true ∧ allGe X.m (uoRows st (L.uo L.x0)) = true) ∧
      uoM st st.no (L.uo L.x0) ∧ L.inv 0 L.x0 ∧
      (∀ (k : Nat) (x : L.X) (vs : List Value), L.inv k x → (S.xs a)[k]? = some vs → forceSt (headSt st [] (uoRows st (L.uo L.x0)) [] (L.uo x) st.k) fun hd => putPs ps.toList vs hd fun hd' => fa hd' fun e st1 => match e with
        | .normal => fb st1 fun e st2 => match e with
          | .normal => ∃ x', uoIdx (L.uo x') = uoIdx (L.uo x) ∧ againO st hd st2 (L.uo x') ∧ L.inv (k + 1) x'
          | .ret => Q .ret ⟨hd.fr, st2.ob, st2.no, st2.k⟩
          | .exit id => Q (.exit id) ⟨hd.fr, st2.ob, st2.no, st2.k⟩
          | _ => False
        | _ => False) ∧
      ∀ x, L.inv (S.xs a).length x → forceSt (headSt st [] (uoRows st (L.uo L.x0)) [] (L.uo x) st.k) fun hd => Q .normal hd
  | _ => False

def vc : Code → Cfg → St → (Exit → St → Prop) → Prop
  | .skip, _, st, Q => Q .normal st
  | .region _ ops false, X, st, Q => vcOps X ops.toList ops.toList st fun st' => Q .normal st'
  | .region _ ops true, X, st, Q => ∃ ord : OT, ordOk ops ord = true ∧ vcTree X ops.toList ord st fun st' => Q .normal st'
  | .seq a b, X, st, Q => vc a X st fun e st' => match e with
    | .normal => vc b X st' Q
    | e => Q e st'
  | .cond c a b, X, st, Q => match st.ev c with
    | .p _ (.val (.bool t)) => bcase t (vc a X st Q) (vc b X st Q)
    | _ => False
  | .block id c, X, st, Q => vc c X st fun e st' => match e with
    | .exit j => match j.beq id with
      | true => Q .normal st'
      | false => Q (.exit j) st'
    | e => Q e st'
  | .loop c, X, st, Q => ∃ L : LAnn, match L with
    | .unroll n => rounds (vc c X) Q n st
    | .inv L => loopInv X (vc c X) Q st L (writesC c ++ keysOf (L.up L.x0)) (allRows st (L.up L.x0) (L.uo L.x0))
  | .rangeFunc g ps assign body, X, st, Q => rangeVC X st g ps (vc assign { X with rnd := true, yl := none }) (vc body { X with rnd := true, yl := none }) Q
  | .exit id, _, st, Q => Q (.exit id) st
  | .ret, _, st, Q => Q .ret st
  | _, _, _, _ => False

end Go.Sx

namespace Go.Sx
open Go

inductive SLt (no : Nat) : SV → Prop
  | p (b d) : SLt no (.p b d)
  | own (i off) (h : i < no) : SLt no (.own i off)
  | row (i) (h : i < no) : SLt no (.row i)
  | el (i sz j off) (h : i < no) : SLt no (.el i sz j off)
  | sub (i sz lo n) (h : i < no) : SLt no (.sub i sz lo n)
  | agg (l) (h : ∀ (k : Nat) s, l[k]? = some s → SLt no s) : SLt no (.agg l)
  | tup (l) (h : ∀ (k : Nat) s, l[k]? = some s → SLt no s) : SLt no (.tup l)
  | fn (f l) (h : ∀ (k : Nat) s, l[k]? = some s → SLt no s) : SLt no (.fn f l)
  | full (n f) : SLt no (.full n f)
  | any : SLt no .any

theorem SRep.lt {E : Env} {no : Nat} (hnew : ∀ i, no ≤ i → E.hd i = none) {v : Value} {s : SV} (h : SRep E v s) : SLt no s := by
  have one : ∀ i u, E.hd i = some u → i < no := fun i u hu => by
    rcases Nat.lt_or_ge i no with h1 | h1
    · exact h1
    · rw [hnew i h1] at hu; cases hu
  have vget : ∀ (vs : Array Value) (l : List SV), vs.size = l.length → ∀ (k : Nat) s, l[k]? = some s → ∃ u, vs[k]? = some u := fun vs l hl k s hs => ⟨_, Array.getElem?_eq_getElem (by rw [hl]; exact (List.getElem?_eq_some_iff.1 hs).1)⟩
  induction h with
  | p => exact .p _ _
  | own i off b hb => exact .own _ _ (one _ _ hb)
  | row i v hv _ => exact .row _ (one _ _ hv)
  | el i sz j off b n cap hv => exact .el _ _ _ _ (one _ _ hv)
  | sub i sz lo n b n' cap c a hv _ _ _ _ => exact .sub _ _ _ _ (one _ _ hv)
  | agg vs l hl _ _ ih => exact .agg _ fun k s hs => by obtain ⟨u, hu⟩ := vget vs l hl k s hs; exact ih k u s hu hs
  | tup vs l hl _ ih => exact .tup _ fun k s hs => by obtain ⟨u, hu⟩ := vget vs l hl k s hs; exact ih k u s hu hs
  | fn f vs l hl _ ih => exact .fn _ _ fun k s hs => by obtain ⟨u, hu⟩ := vget vs l hl k s hs; exact ih k u s hu hs
  | full a n f h => exact .full _ _
  | any => exact .any

theorem PRep.move {E E' : Env} (hmem : ∀ b cs, E.mem b = some cs → E'.mem b = some cs) (hbase : E'.base = E.base) {fr : Bool} {v : Value} {d : PV} (h : PRep (E.m fr) v d) : PRep (E'.m fr) v d := by
  refine h.mono fun b cs hb => ?_
  cases fr with
  | false => exact hmem b cs hb
  | true =>
    simp only [Env.m] at hb ⊢
    rw [hbase]
    split at hb
    · rename_i hx; rw [if_pos hx]; exact hmem b cs hb
    · cases hb

theorem SRep.move {E E' : Env} {no : Nat} (hhd : ∀ i, i < no → E'.hd i = E.hd i) (hmem : ∀ b cs, E.mem b = some cs → E'.mem b = some cs) (hbase : E'.base = E.base) {v : Value} {s : SV} (h : SRep E v s) : SLt no s → SRep E' v s := by
  induction h with
  | p fr v d h => exact fun _ => .p fr v d (h.move hmem hbase)
  | own i off b hb => intro hs; cases hs with | own _ _ hi => exact .own _ _ b (by rw [hhd i hi]; exact hb)
  | row i v hv hsl => intro hs; cases hs with | row _ hi => exact .row _ _ (by rw [hhd i hi]; exact hv) hsl
  | el i sz j off b n cap hb => intro hs; cases hs with | el _ _ _ _ hi => exact .el _ _ _ _ b n cap (by rw [hhd i hi]; exact hb)
  | sub i sz lo n b n' cap c a hb hle hc hr ha => intro hs; cases hs with | sub _ _ _ _ hi => exact .sub _ _ _ _ b n' cap c a (by rw [hhd i hi]; exact hb) hle hc hr ha
  | agg vs l hl h1 _ ih => intro hs; cases hs with | agg _ hh => exact .agg vs l hl h1 fun k u s hu hs => ih k u s hu hs (hh k s hs)
  | tup vs l hl _ ih => intro hs; cases hs with | tup _ hh => exact .tup vs l hl fun k u s hu hs => ih k u s hu hs (hh k s hs)
  | fn f vs l hl _ ih => intro hs; cases hs with | fn _ _ hh => exact .fn f vs l hl fun k u s hu hs => ih k u s hu hs (hh k s hs)
  | full a n f h => exact fun _ => .full a n f (h.move (fr := false) hmem hbase)
  | any v => exact fun _ => .any v

/-- an object whose cells speak of old objects alone -/
def OLt (no : Nat) : Ob → Prop
  | .cells _ cs => ∀ (k : Nat) s, cs[k]? = some s → SLt no s
  | .row _ _ _ _ => True
theorem ORep.lt {E : Env} {no : Nat} (hnew : ∀ i, no ≤ i → E.hd i = none) {w : World} {i : Nat} {o : Ob} (h : ORep E w i o) : OLt no o := by
  cases h with
  | cells b T vs cs hh hw hl h1 he =>
    intro k s hs
    have hk : k < vs.size := by rw [hl]; exact (List.getElem?_eq_some_iff.1 hs).1
    exact (he k _ s (Array.getElem?_eq_getElem hk) hs).lt hnew
  | row => trivial
theorem ORep.move {E E' : Env} {no : Nat} (hhd : ∀ i, i < no → E'.hd i = E.hd i) (hmem : ∀ b cs, E.mem b = some cs → E'.mem b = some cs) (hbase : E'.base = E.base) {w : World} {i : Nat} (hi : i < no) {o : Ob} (h : ORep E w i o) (ho : OLt no o) : ORep E' w i o := by
  cases h with
  | cells b T vs cs hh hw hl h1 he => exact .cells b T vs cs (by rw [hhd i hi]; exact hh) hw hl h1 fun k u s hu hs => (he k u s hu hs).move hhd hmem hbase (ho k s hs)
  | row T sz n f v xs u hh hw hmax hl hc he => exact .row T sz n f v xs u (by rw [hhd i hi]; exact hh) hw hmax hl hc fun j k s hj hs => (he j k s hj hs).mono hmem

/- rows among what a head says -/
def rwList : List LV → List Ob
  | [] => []
  | .s _ :: l => rwList l
  | .rw T sz n f :: l => .row T sz n f :: rwList l
def rowVals : List LV → List Value → List Value
  | .rw _ _ _ _ :: cs, v :: vs => v :: rowVals cs vs
  | .s _ :: cs, _ :: vs => rowVals cs vs
  | _, _ => []
def rowSrc : List SV → List LV → List (Option Nat)
  | .row j :: ss, .rw _ _ _ _ :: cs => some j :: rowSrc ss cs
  | _ :: ss, .rw _ _ _ _ :: cs => none :: rowSrc ss cs
  | _ :: ss, .s _ :: cs => rowSrc ss cs
  | _, _ => []

theorem cntOf_eq : ∀ (n : Nat) (cs : List LV), cntOf n cs = n + (rwList cs).length
  | n, [] => rfl
  | n, .s _ :: cs => by simp [cntOf, rwList, cntOf_eq n cs]
  | n, .rw _ _ _ _ :: cs => by simp [cntOf, rwList, cntOf_eq (n + 1) cs]; omega
theorem rowsOf_look : ∀ (n : Nat) (cs : List LV) (i : Nat), look (rowsOf n cs) i = if n ≤ i then ((rwList cs)[i - n]?).map some else none
  | n, [], i => by simp [rowsOf, look, rwList]
  | n, .s _ :: cs, i => by simp only [rowsOf, rwList]; exact rowsOf_look n cs i
  | n, .rw T sz m f :: cs, i => by
    simp only [rowsOf, rwList, look_cons, rowsOf_look (n + 1) cs i]
    by_cases h : n = i
    · subst h; simp
    · rw [if_neg h]
      by_cases h2 : n ≤ i
      · rw [if_pos h2, if_pos (by omega), show i - n = (i - (n + 1)) + 1 by omega]; simp
      · rw [if_neg h2, if_neg (by omega)]
theorem rowVals_length : ∀ (cs : List LV) (vs : List Value), vs.length = cs.length → (rowVals cs vs).length = (rwList cs).length
  | [], _, _ => by simp [rowVals, rwList]
  | .s _ :: cs, [], h => by simp at h
  | .s _ :: cs, v :: vs, h => by simp [rowVals, rwList, rowVals_length cs vs (by simpa using h)]
  | .rw _ _ _ _ :: cs, [], h => by simp at h
  | .rw _ _ _ _ :: cs, v :: vs, h => by simp [rowVals, rwList, rowVals_length cs vs (by simpa using h)]
theorem rowSrc_length : ∀ (ss : List SV) (cs : List LV), ss.length = cs.length → (rowSrc ss cs).length = (rwList cs).length
  | [], [], _ => by simp [rowSrc, rwList]
  | [], _ :: _, h => by simp at h
  | _ :: _, [], h => by simp at h
  | s :: ss, .s _ :: cs, h => by cases s <;> simp [rowSrc, rwList, rowSrc_length ss cs (by simpa using h)]
  | s :: ss, .rw _ _ _ _ :: cs, h => by cases s <;> simp [rowSrc, rwList, rowSrc_length ss cs (by simpa using h)]
theorem rowSrc_in : ∀ (ss : List SV) (cs : List LV), (rowSrc ss cs).filterMap id = rowsIn ss cs
  | [], cs => by cases cs <;> simp [rowSrc, rowsIn]
  | s :: ss, [] => by cases s <;> simp [rowSrc, rowsIn]
  | s :: ss, .s _ :: cs => by cases s <;> simp [rowSrc, rowsIn, rowSrc_in ss cs]
  | s :: ss, .rw _ _ _ _ :: cs => by cases s <;> simp [rowSrc, rowsIn, rowSrc_in ss cs]

theorem lvMs_get (st : St) (no : Nat) : ∀ (ss : List SV) (cs : List LV), lvMs st no ss cs → ss.length = cs.length ∧ ∀ (k : Nat) s c, ss[k]? = some s → cs[k]? = some c → lvM st no s c
  | [], [], _ => by simp
  | [], _ :: _, h => by simp [lvMs] at h
  | _ :: _, [], h => by simp [lvMs] at h
  | [x], [y], h => by
    refine ⟨rfl, fun k a b ha hb => ?_⟩
    cases k with
    | zero => simp at ha hb; subst ha; subst hb; exact h
    | succ k => simp at ha
  | [x], y :: z :: ys, h => by simp [lvMs] at h
  | x :: z :: xs, [y], h => by simp [lvMs] at h
  | x :: x2 :: xs, y :: y2 :: ys, h => by
    simp only [lvMs] at h
    obtain ⟨h1, h2⟩ := lvMs_get st no (x2 :: xs) (y2 :: ys) h.2
    refine ⟨by simpa using h1, fun k a b ha hb => ?_⟩
    cases k with
    | zero => simp at ha hb; subst ha; subst hb; exact h.1
    | succ k => simp only [List.getElem?_cons_succ] at ha hb; exact h2 k a b ha hb

/-- values that are as the head says -/
structure Grp (E : Env) (ss : List SV) (vs : List Value) : Prop where
  len : vs.length = ss.length
  rep : ∀ (k : Nat) v s, vs[k]? = some v → ss[k]? = some s → SRep E v s

theorem okLts_get {no : Nat} : ∀ {l : List SV}, okLts no l = true → ∀ (k : Nat) s, l[k]? = some s → SLt no s
  | [], _, k, s, h => by simp at h
  | x :: l, ho, k, s, h => by
    simp only [okLts, Bool.and_eq_true] at ho
    cases k with
    | zero =>
      simp at h; subst h
      cases x <;> simp [okLt0] at ho
      · exact .p _ _
      · exact .own _ _ (by simpa [Nat.blt_eq] using ho.1)
      · exact .any
    | succ k => exact okLts_get ho.2 k s (by simpa using h)

theorem sle0_rep {E : Env} {v : Value} {s c : SV} (h : sle0 s c) (hv : SRep E v s) : SRep E v c := by
  unfold sle0 at h
  split at h
  · exact .any v
  · split at h
    · cases hv with
      | p fr _ d hp =>
        have weak : ∀ (x y : Bool) (B : Nat) (cs : Array Value), (x = true → y = true) → E.m y B = some cs → E.m x B = some cs := by
          intro x y B cs hxy hb
          cases x with
          | true => rw [hxy rfl] at hb; exact hb
          | false => exact E.m_false y _ _ hb
        exact .p _ _ _ (ple_rep h.2 (hp.mono fun b cs hb => weak _ _ b cs h.1 hb))
    · exact h.elim
  · split at h
    · obtain ⟨rfl, rfl⟩ := h; exact hv
    · exact h.elim
  · exact h.elim

theorem grp_rep {E1 E2 : Env} {st1 : St} {no0 : Nat} (hhd : ∀ i, i < no0 → E2.hd i = E1.hd i) (hmem : ∀ b cs, E1.mem b = some cs → E2.mem b = some cs) (hbase : E2.base = E1.base) :
    ∀ (ss : List SV) (cs : List LV) (vs : List Value) (n : Nat), (∀ (k : Nat) s c, ss[k]? = some s → cs[k]? = some c → lvM st1 no0 s c) → ss.length = cs.length → Grp E1 ss vs →
      (∀ p v, (rowVals cs vs)[p]? = some v → E2.hd (n + p) = some v) → ∀ (k : Nat) v s, vs[k]? = some v → (svsOf n cs)[k]? = some s → SRep E2 v s
  | [], [], vs, n, _, _, hg, _, k, v, s, hv, hs => by simp [svsOf] at hs
  | [], _ :: _, _, _, _, hl, _, _, _, _, _, _, _ => by simp at hl
  | _ :: _, [], _, _, _, hl, _, _, _, _, _, _, _ => by simp at hl
  | x :: ss, c :: cs, [], n, _, _, hg, _, k, v, s, hv, hs => by simp at hv
  | x :: ss, c :: cs, u :: vs, n, hM, hl, hg, hrow, k, v, s, hv, hs => by
    have hM0 := hM 0 x c rfl rfl
    have hr0 := hg.rep 0 u x rfl rfl
    have hg' : Grp E1 ss vs := ⟨by simpa using hg.len, fun k v s h1 h2 => hg.rep (k + 1) v s (by simpa using h1) (by simpa using h2)⟩
    have hM' : ∀ (k : Nat) s c, ss[k]? = some s → cs[k]? = some c → lvM st1 no0 s c := fun k s c h1 h2 => hM (k + 1) s c (by simpa using h1) (by simpa using h2)
    cases c with
    | s c0 =>
      have ih := grp_rep hhd hmem hbase ss cs vs n hM' (by simpa using hl) hg' (fun p v hp => hrow p v (by simpa [rowVals] using hp))
      cases k with
      | zero =>
        simp [svsOf] at hv hs; subst hv; subst hs
        unfold lvM at hM0
        split at hM0
        · rename_i hh
          cases hh
          obtain ⟨rfl, h2⟩ := hM0
          exact hr0.move hhd hmem hbase (.fn _ _ (okLts_get h2))
        · rename_i hh
          cases hh
          have := sle0_rep hM0.1 hr0
          refine this.move hhd hmem hbase ?_
          have h2 := hM0.2
          cases c0 <;> simp [okLt0] at h2
          · exact .p _ _
          · exact .own _ _ (by simpa [Nat.blt_eq] using h2)
          · exact .any
        · rename_i hh; cases hh
      | succ k => exact ih k v s (by simpa using hv) (by simpa [svsOf] using hs)
    | rw T sz m f =>
      have ih := grp_rep hhd hmem hbase ss cs vs (n + 1) hM' (by simpa using hl) hg' (fun p v hp => by rw [show n + 1 + p = n + (p + 1) by omega]; exact hrow (p + 1) v (by simpa [rowVals] using hp))
      cases k with
      | zero =>
        simp [svsOf] at hv hs; subst hv; subst hs
        refine .row n u (hrow 0 u (by simp [rowVals])) ?_
        simp only [lvM] at hM0
        split at hM0
        · cases hr0 with | row _ _ _ hs => exact hs
        · have := hr0.val_inv; subst this; rfl
        · exact hM0.elim
      | succ k => exact ih k v s (by simpa using hv) (by simpa [svsOf] using hs)

/-- where a row of the head's comes from -/
theorem grp_rows {E1 : Env} {st1 : St} {no0 : Nat} : ∀ (ss : List SV) (cs : List LV) (vs : List Value), (∀ (k : Nat) s c, ss[k]? = some s → cs[k]? = some c → lvM st1 no0 s c) → ss.length = cs.length → Grp E1 ss vs →
    ∀ (p : Nat) (o : Ob), (rwList cs)[p]? = some o → ∃ (v : Value) (T : TypeId) (sz n : Nat) (f : Nat → List PV), o = .row T sz n f ∧ (rowVals cs vs)[p]? = some v ∧
      ((∃ j f', (rowSrc ss cs)[p]? = some (some j) ∧ E1.hd j = some v ∧ st1.obj j = some (.row T sz n f') ∧ ∀ k, k < n → f' k = f k) ∨ ((rowSrc ss cs)[p]? = some none ∧ v = .slice none 0 0 ∧ n = 0))
  | [], [], vs, _, _, _, p, o, h => by simp [rwList] at h
  | [], _ :: _, _, _, hl, _, _, _, _ => by simp at hl
  | _ :: _, [], _, _, hl, _, _, _, _ => by simp at hl
  | x :: ss, c :: cs, [], _, _, hg, p, o, h => by have := hg.len; simp at this
  | x :: ss, c :: cs, u :: vs, hM, hl, hg, p, o, h => by
    have hM0 := hM 0 x c rfl rfl
    have hr0 := hg.rep 0 u x rfl rfl
    have hg' : Grp E1 ss vs := ⟨by simpa using hg.len, fun k v s h1 h2 => hg.rep (k + 1) v s (by simpa using h1) (by simpa using h2)⟩
    have hM' : ∀ (k : Nat) s c, ss[k]? = some s → cs[k]? = some c → lvM st1 no0 s c := fun k s c h1 h2 => hM (k + 1) s c (by simpa using h1) (by simpa using h2)
    have ih := grp_rows ss cs vs hM' (by simpa using hl) hg'
    cases c with
    | s c0 =>
      obtain ⟨v, T, sz, n, f, h1, h2, h3⟩ := ih p o (by simpa [rwList] using h)
      refine ⟨v, T, sz, n, f, h1, by simpa [rowVals] using h2, ?_⟩
      have : rowSrc (x :: ss) (.s c0 :: cs) = rowSrc ss cs := by cases x <;> simp [rowSrc]
      rw [this]; exact h3
    | rw T sz m f =>
      cases p with
      | zero =>
        simp [rwList] at h; subst h
        simp only [lvM] at hM0
        split at hM0
        · rename_i j
          split at hM0
          · rename_i T' sz' n' f' hob
            obtain ⟨rfl, rfl, rfl, h4⟩ := hM0
            cases hr0 with
            | row _ _ hh _ => exact ⟨u, _, _, _, f, rfl, by simp [rowVals], .inl ⟨j, f', by simp [rowSrc], hh, hob, h4⟩⟩
          · exact hM0.elim
        · have := hr0.val_inv; subst this
          subst hM0
          exact ⟨_, _, _, _, f, rfl, by simp [rowVals], .inr ⟨by simp [rowSrc], rfl, rfl⟩⟩
        · exact hM0.elim
      | succ p =>
        obtain ⟨v, T', sz', n, f', h1, h2, h3⟩ := ih p o (by simpa [rwList] using h)
        refine ⟨v, T', sz', n, f', h1, by simpa [rowVals] using h2, ?_⟩
        have : (rowSrc (x :: ss) (.rw T sz m f :: cs))[p + 1]? = (rowSrc ss cs)[p]? := by cases x <;> simp [rowSrc]
        rw [this]; exact h3

/- the groups: the slots, then each object's cells -/
structure Group where
  ss : List SV
  cs : List LV
  vs : List Value

def gVals : List Group → List Value
  | [] => []
  | g :: l => rowVals g.cs g.vs ++ gVals l
def gSrc : List Group → List (Option Nat)
  | [] => []
  | g :: l => rowSrc g.ss g.cs ++ gSrc l
def gList : List Group → List Ob
  | [] => []
  | g :: l => rwList g.cs ++ gList l

structure Group.Ok (E : Env) (st : St) (no : Nat) (g : Group) : Prop where
  m : lvMs st no g.ss g.cs
  grp : Grp E g.ss g.vs

theorem gRows {E1 : Env} {st1 : St} {no0 : Nat} : ∀ (gs : List Group), (∀ g ∈ gs, g.Ok E1 st1 no0) → (gVals gs).length = (gList gs).length ∧ (gSrc gs).length = (gList gs).length ∧
    ∀ (p : Nat) (o : Ob), (gList gs)[p]? = some o → ∃ (v : Value) (T : TypeId) (sz n : Nat) (f : Nat → List PV), o = .row T sz n f ∧ (gVals gs)[p]? = some v ∧
      ((∃ j f', (gSrc gs)[p]? = some (some j) ∧ E1.hd j = some v ∧ st1.obj j = some (.row T sz n f') ∧ ∀ k, k < n → f' k = f k) ∨ ((gSrc gs)[p]? = some none ∧ v = .slice none 0 0 ∧ n = 0))
  | [], _ => by simp [gVals, gSrc, gList]
  | g :: gs, h => by
    obtain ⟨h1, h2, h3⟩ := gRows gs fun x hx => h x (by simp [hx])
    obtain ⟨hm, hg⟩ := h g (by simp)
    obtain ⟨hl, hget⟩ := lvMs_get _ _ _ _ hm
    have l1 := rowVals_length g.cs g.vs (by rw [hg.len, hl])
    have l2 := rowSrc_length g.ss g.cs hl
    refine ⟨by simp [gVals, gList, l1, h1], by simp [gSrc, gList, l2, h2], fun p o hp => ?_⟩
    simp only [gList] at hp
    by_cases hlt : p < (rwList g.cs).length
    · rw [List.getElem?_append_left hlt] at hp
      obtain ⟨v, T, sz, n, f, e1, e2, e3⟩ := grp_rows g.ss g.cs g.vs hget hl hg p o hp
      refine ⟨v, T, sz, n, f, e1, by simp only [gVals]; rw [List.getElem?_append_left (by omega)]; exact e2, ?_⟩
      simp only [gSrc]; rw [List.getElem?_append_left (by omega)]; exact e3
    · rw [List.getElem?_append_right (by omega)] at hp
      obtain ⟨v, T, sz, n, f, e1, e2, e3⟩ := h3 _ o hp
      refine ⟨v, T, sz, n, f, e1, by simp only [gVals]; rw [List.getElem?_append_right (by omega), l1]; exact e2, ?_⟩
      simp only [gSrc]; rw [List.getElem?_append_right (by omega), l2]; exact e3

/-- the head's world: old handles below no, then the rows -/
def headEnv (E : Env) (no : Nat) (vals : List Value) : Env :=
  { E with hd := fun i => if i < no then E.hd i else vals[i - no]? }

theorem filterMap_get {α : Type} : ∀ (l : List (Option α)) (p : Nat) (a : α), l[p]? = some (some a) → a ∈ l.filterMap id
  | [], p, a, h => by simp at h
  | x :: l, 0, a, h => by simp at h; subst h; simp
  | x :: l, p + 1, a, h => by
    have := filterMap_get l p a (by simpa using h)
    cases x <;> simp [List.filterMap_cons] <;> first | (simpa using this) | (right; simpa using this)
theorem filterMap_inj : ∀ (l : List (Option Nat)), distinct (l.filterMap id) = true → ∀ (p q j : Nat), l[p]? = some (some j) → l[q]? = some (some j) → p = q
  | [], _, p, q, j, h, _ => by simp at h
  | none :: l, hd, p, q, j, hp, hq => by
    cases p with
    | zero => simp at hp
    | succ p => cases q with
      | zero => simp at hq
      | succ q => rw [filterMap_inj l (by simpa using hd) p q j (by simpa using hp) (by simpa using hq)]
  | some i :: l, hd, p, q, j, hp, hq => by
    simp only [List.filterMap_cons, id, distinct, Bool.and_eq_true, Bool.not_eq_true'] at hd
    have hi : i ∉ l.filterMap id := fun hm => by have := (inL_iff i _).2 hm; rw [hd.1] at this; cases this
    cases p with
    | zero =>
      simp at hp; subst hp
      cases q with
      | zero => rfl
      | succ q => exact absurd (filterMap_get l q _ (by simpa using hq)) hi
    | succ p =>
      cases q with
      | zero => simp at hq; subst hq; exact absurd (filterMap_get l p _ (by simpa using hp)) hi
      | succ q => rw [filterMap_inj l hd.2 p q j (by simpa using hp) (by simpa using hq)]

/-- **The heap at a loop's head.** st1 is the state before, h what it stands for; no the number of objects at the loop's beginning; hobj says what each object of the head is. -/
theorem head_heap {C : Ctx} {E1 : Env} {st1 hd : St} {w : World} (h : HRep C E1 st1 w) {no : Nat} (hmno : C.kh ≤ no) (hkk : hd.k = st1.k) {gs : List Group} (hgs : ∀ g ∈ gs, g.Ok E1 st1 no) (hdist : distinct ((gSrc gs).filterMap id) = true)
    (hge : ∀ j, j ∈ (gSrc gs).filterMap id → C.m ≤ j ∧ (j < no → hd.obj j = none))
    (hhi : ∀ i, no ≤ i → hd.obj i = (gList gs)[i - no]?) (hhno : hd.no = no + (gList gs).length)
    (hlo : ∀ i o, i < no → hd.obj i = some o → (∃ o1, st1.obj i = some o1) ∧ ((st1.obj i = some o ∧ OLt no o) ∨ ORep (headEnv E1 no (gVals gs)) w i o)) :
    HRep C (headEnv E1 no (gVals gs)) hd w := by
  obtain ⟨len1, len2, rows⟩ := gRows gs hgs
  have lo : ∀ i, i < no → (headEnv E1 no (gVals gs)).hd i = E1.hd i := fun i hi => by simp [headEnv, hi]
  have hi' : ∀ p, (headEnv E1 no (gVals gs)).hd (no + p) = (gVals gs)[p]? := fun p => by
    have : ¬ no + p < no := by omega
    simp only [headEnv, if_neg this, Nat.add_sub_cancel_left]
  have blkLo : ∀ i, i < no → (headEnv E1 no (gVals gs)).blk i = E1.blk i := fun i hi => by simp [Env.blk, lo i hi]
  -- whose block a row of the head has
  have rowBlk : ∀ p o, (gList gs)[p]? = some o → ∀ b, (headEnv E1 no (gVals gs)).blk (no + p) = some b → ∃ j o', (gSrc gs)[p]? = some (some j) ∧ st1.obj j = some o' ∧ E1.blk j = some b := by
    intro p o hp b hb
    obtain ⟨v, T, sz, n, f, e1, e2, e3⟩ := rows p o hp
    have hb' : blockOf v = some b := by simpa [Env.blk, hi', e2] using hb
    rcases e3 with ⟨j, f', s1, s2, s3, _⟩ | ⟨_, rfl, _⟩
    · exact ⟨j, _, s1, s3, by simp [Env.blk, s2, hb']⟩
    · simp [blockOf] at hb'
  have isRow : ∀ i o, no ≤ i → hd.obj i = some o → ∃ p, i = no + p ∧ (gList gs)[p]? = some o := fun i o hi ho => ⟨i - no, by omega, by rw [← hhi i hi]; exact ho⟩
  refine ⟨fun i o ho => ?_, fun i j o o' b ho ho' hb hb' => ?_, fun i o b ho hb => ?_, h.mem, h.mem0, h.memnew, fun i hi => ?_, h.base, ⟨h.fr.os, h.fr.tape, h.fr.output, h.fr.bsz, h.fr.wsz, h.fr.wos, h.fr.isz, h.fr.block, h.fr.sync⟩, fun k hk => ?_, by omega, h.mkh, h.kk.trans hkk.symm⟩
  · by_cases hi : i < no
    · rcases (hlo i o hi ho).2 with ⟨h1, h2⟩ | h1
      · exact (h.ob i o h1).move (fun k hk => lo k hk) (fun _ _ h => h) rfl hi h2
      · exact h1
    · obtain ⟨p, rfl, hp⟩ := isRow i o (by omega) ho
      obtain ⟨v, T, sz, n, f, e1, e2, e3⟩ := rows p o hp
      subst e1
      rcases e3 with ⟨j, f', s1, s2, s3, s4⟩ | ⟨_, rfl, rfl⟩
      · obtain ⟨v0, xs, u, hh, hw, hmax, hl, hc, he⟩ := row_inv (h.ob j _ s3)
        rw [s2] at hh; cases hh
        exact .row T sz n f v xs u (by rw [hi', e2]) hw hmax (fun j hj => by rw [← s4 j hj]; exact hl j hj) (fun j k s hj hs => hc j k s hj (by rw [s4 j hj]; exact hs)) (fun j k s hj hs => he j k s hj (by rw [s4 j hj]; exact hs))
      · exact .row T sz 0 f _ [] (fun _ _ => undef) (by rw [hi', e2]) (World.ownsRow_nil w 0 T sz) (Nat.zero_le _) (fun j hj => by omega) (fun j k s hj => by omega) (fun j k s hj => by omega)
  · by_cases hi : i < no
    · by_cases hj : j < no
      · obtain ⟨o1, h1⟩ := (hlo i o hi ho).1
        obtain ⟨o2, h2⟩ := (hlo j o' hj ho').1
        rw [blkLo i hi] at hb; rw [blkLo j hj] at hb'
        exact h.sep i j o1 o2 b h1 h2 hb hb'
      · obtain ⟨p, rfl, hp⟩ := isRow j o' (by omega) ho'
        obtain ⟨k, ok, s1, s2, s3⟩ := rowBlk p o' hp b hb'
        obtain ⟨o1, h1⟩ := (hlo i o hi ho).1
        rw [blkLo i hi] at hb
        have := h.sep i k o1 ok b h1 s2 hb s3
        subst this
        rw [(hge i (filterMap_get _ _ _ s1)).2 hi] at ho; cases ho
    · obtain ⟨p, rfl, hp⟩ := isRow i o (by omega) ho
      obtain ⟨k, ok, s1, s2, s3⟩ := rowBlk p o hp b hb
      by_cases hj : j < no
      · obtain ⟨o1, h1⟩ := (hlo j o' hj ho').1
        rw [blkLo j hj] at hb'
        have := h.sep k j ok o1 b s2 h1 s3 hb'
        subst this
        rw [(hge k (filterMap_get _ _ _ s1)).2 hj] at ho'; cases ho'
      · obtain ⟨q, rfl, hq⟩ := isRow j o' (by omega) ho'
        obtain ⟨k', ok', t1, t2, t3⟩ := rowBlk q o' hq b hb'
        have := h.sep k k' ok ok' b s2 t2 s3 t3
        subst this
        rw [filterMap_inj _ hdist p q k s1 t1]
  · by_cases hi : i < no
    · obtain ⟨o1, h1⟩ := (hlo i o hi ho).1
      rw [blkLo i hi] at hb
      exact h.own i o1 b h1 hb
    · obtain ⟨p, rfl, hp⟩ := isRow i o (by omega) ho
      obtain ⟨k, ok, s1, s2, s3⟩ := rowBlk p o hp b hb
      obtain ⟨g1, g2, g3⟩ := h.own k ok b s2 s3
      have := (hge k (filterMap_get _ _ _ s1)).1
      exact ⟨g1, .inl (g2.resolve_right (fun x => by omega)), .inl (g3.resolve_right (fun x => by omega))⟩
  · rw [hhno] at hi
    have : i = no + (i - no) := by omega
    rw [this, hi', List.getElem?_eq_none (by omega)]
  · rw [lo k (by omega)]; exact h.hd0 k hk

end Go.Sx
