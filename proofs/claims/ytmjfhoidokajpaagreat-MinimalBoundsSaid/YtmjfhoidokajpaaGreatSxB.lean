/- The symbolic executor stands for the model: the operations on memory. -/
import Derived.Test.YtmjfhoidokajpaaGreatSxA
import Derived.Laws.MakeOwn
import Derived.Laws.OwnMore
import Derived.RangeFuncSeq
set_option maxHeartbeats 1000000
set_option maxRecDepth 4000
set_option linter.unusedSimpArgs false
set_option linter.unusedVariables false
set_option linter.unusedSectionVars false
namespace Go.Sx
open Go

theorem ORep.blk_lt {E : Env} {w : World} {i : Nat} {o : Ob} (h : ORep E w i o) {b : Nat} (hb : E.blk i = some b) : b < w.heap.size := by
  cases h with
  | cells b' T vs cs hh hw _ _ _ =>
    simp [Env.blk, hh, blockOf] at hb; subst hb; exact (Array.getElem?_eq_some_iff.1 hw).1
  | row T sz n f v xs u hh hw _ _ _ _ =>
    rcases hw.2 with ⟨rfl, _⟩ | ⟨g, cap, cur, rfl, _, hg, _⟩
    · simp [Env.blk, hh, blockOf] at hb
    · simp [Env.blk, hh, blockOf] at hb; subst hb; exact (Array.getElem?_eq_some_iff.1 hg).1
theorem ORep.hd_some {E : Env} {w : World} {i : Nat} {o : Ob} (h : ORep E w i o) : ∃ v, E.hd i = some v := by
  cases h with
  | cells b' T vs cs hh hw _ _ _ => exact ⟨_, hh⟩
  | row T sz n f v xs u hh hw _ _ _ _ => exact ⟨_, hh⟩
theorem HRep.lt {C : Ctx} {E : Env} {st : St} {w : World} (h : HRep C E st w) {i : Nat} {o : Ob} (ho : st.obj i = some o) : i < st.no := by
  rcases Nat.lt_or_ge i st.no with hi | hi
  · exact hi
  · obtain ⟨v, hv⟩ := (h.ob i o ho).hd_some
    rw [h.new i hi] at hv; cases hv
theorem HRep.mem_lt {C : Ctx} {E : Env} {st : St} {w : World} (h : HRep C E st w) {b : Nat} {cs : Array Value} (hb : E.mem b = some cs) : b < w.heap.size := by
  obtain ⟨T, fr, hw⟩ := h.mem b cs hb
  exact (Array.getElem?_eq_some_iff.1 hw).1

theorem obj_cons (fr : List (Nat × SV)) (ob : List (Nat × Option Ob)) (no no' : Nat) {c c' : Option Nat} (k : Nat) (o : Option Ob) (i : Nat) :
    St.obj ⟨fr, (k, o) :: ob, no', c'⟩ i = if k = i then o else St.obj ⟨fr, ob, no, c⟩ i := by
  unfold St.obj
  simp only [look_cons]
  by_cases h : k = i <;> simp [h]
theorem obj_fr (fr fr' : List (Nat × SV)) (ob : List (Nat × Option Ob)) (no no' : Nat) (c c' : Option Nat) (i : Nat) : St.obj ⟨fr, ob, no, c⟩ i = St.obj ⟨fr', ob, no', c'⟩ i := rfl

def Env.add (E : Env) (i : Nat) (v : Value) : Env := { E with hd := fun k => if k = i then some v else E.hd k }
theorem Env.add_le {E : Env} {i : Nat} {v : Value} (h : E.hd i = none) : E.Le (E.add i v) :=
  ⟨fun k u hk => by
    simp only [Env.add]
    by_cases e : k = i
    · subst e; rw [h] at hk; cases hk
    · rw [if_neg e]; exact hk, fun _ _ h => h, rfl⟩
theorem Env.add_hd (E : Env) (i : Nat) (v : Value) : (E.add i v).hd i = some v := by simp [Env.add]
theorem Env.add_ne (E : Env) {i k : Nat} (v : Value) (h : k ≠ i) : (E.add i v).hd k = E.hd k := by simp [Env.add, h]

/-- The world has grown, some objects have gone, one has come. -/
theorem HRep.step {C : Ctx} {E : Env} {st : St} {w w' : World} (h : HRep C E st w) {st' : St} {i : Nat} {v : Value} {o : Ob}
    (hi : st.no ≤ i) (hno : i < st'.no) (hkk : st'.k = st.k) (hi' : st'.obj i = some o)
    (hold : ∀ k o', k ≠ i → st'.obj k = some o' → st.obj k = some o')
    (hrep : ORep (E.add i v) w' i o)
    (hos : w'.os = w.os) (htape : w'.tape = w.tape) (hout : w'.output = w.output) (hsz : w.heap.size ≤ w'.heap.size)
    (hkeep : ∀ k, k < w.heap.size → w'.heap[k]? = w.heap[k]? ∨ (∃ j o', C.m ≤ j ∧ st.obj j = some o' ∧ st'.obj j = none ∧ E.blk j = some k))
    (hblk : ∀ b, blockOf v = some b → w.heap.size ≤ b ∨ (∃ j o', C.m ≤ j ∧ st.obj j = some o' ∧ st'.obj j = none ∧ E.blk j = some b)) :
    HRep C (E.add i v) st' w' := by
  have hno0 := h.new i hi
  have hle := Env.add_le (v := v) hno0
  have blk_ne : ∀ k, k ≠ i → (E.add i v).blk k = E.blk k := fun k hk => by simp [Env.blk, E.add_ne v hk]
  have blk_i : (E.add i v).blk i = blockOf v := by simp [Env.blk, E.add_hd]
  -- an object that has stayed is untouched
  have stays : ∀ k o', k ≠ i → st'.obj k = some o' → ∀ b, E.blk k = some b → w'.heap[b]? = w.heap[b]? := by
    intro k o' hk ho b hb
    have hs := hold k o' hk ho
    rcases hkeep b ((h.ob k o' hs).blk_lt hb) with h1 | ⟨j, o2, hro, h1, h2, h3⟩
    · exact h1
    · have := h.sep k j o' o2 b hs h1 hb h3
      subst this; rw [ho] at h2; cases h2
  refine ⟨fun k o' ho => ?_, fun k j o1 o2 b h1 h2 b1 b2 => ?_, fun k o' b ho hb => ?_, fun b cs hb => ?_, h.mem0, h.memnew, fun k hk => ?_, h.base, ?_, fun k hk => ?_, ?_, h.mkh, h.kk.trans hkk.symm⟩
  · by_cases hk : k = i
    · subst hk; rw [hi'] at ho; cases ho; exact hrep
    · exact ((h.ob k o' (hold k o' hk ho)).mono hle).world fun b hb => stays k o' hk ho b (by rwa [blk_ne k hk] at hb)
  · -- apart
    have one : ∀ k o1, k ≠ i → st'.obj k = some o1 → ∀ b, E.blk k = some b → blockOf v = some b → False := by
      intro k o1 hk ho b hb hv
      have hs := hold k o1 hk ho
      rcases hblk b hv with h1 | ⟨j, o2, hro, h1, h2, h3⟩
      · have := (h.ob k o1 hs).blk_lt hb; omega
      · have := h.sep k j o1 o2 b hs h1 hb h3
        subst this; rw [ho] at h2; cases h2
    by_cases hk : k = i
    · by_cases hj : j = i
      · rw [hk, hj]
      · subst hk
        rw [blk_i] at b1; rw [blk_ne j hj] at b2
        exact (one j o2 hj h2 b b2 b1).elim
    · by_cases hj : j = i
      · subst hj
        rw [blk_i] at b2; rw [blk_ne k hk] at b1
        exact (one k o1 hk h1 b b1 b2).elim
      · rw [blk_ne k hk] at b1; rw [blk_ne j hj] at b2
        exact h.sep k j o1 o2 b (hold k o1 hk h1) (hold j o2 hj h2) b1 b2
  · by_cases hk : k = i
    · subst hk
      rw [blk_i] at hb
      rcases hblk b hb with h1 | ⟨j, o2, hro, h1, h2, h3⟩
      · refine ⟨?_, .inl (Nat.le_trans h.fr.bsz (Nat.le_trans h.fr.wsz h1)), .inl (.inl (Nat.le_trans h.fr.wsz h1))⟩
        cases hm : (E.add k v).mem b with
        | none => rfl
        | some cs => have := h.mem_lt (b := b) (cs := cs) hm; omega
      · obtain ⟨g1, g2, g3⟩ := h.own j o2 b h1 h3
        exact ⟨g1, .inl (g2.resolve_right (fun x => by omega)), .inl (g3.resolve_right (fun x => by omega))⟩
    · rw [blk_ne k hk] at hb
      exact h.own k o' b (hold k o' hk ho) hb
  · obtain ⟨T, fr, hw⟩ := h.mem b cs hb
    refine ⟨T, fr, ?_⟩
    rcases hkeep b (Array.getElem?_eq_some_iff.1 hw).1 with h1 | ⟨j, o2, hro, h1, h2, h3⟩
    · rw [h1]; exact hw
    · have := (h.own j o2 b h1 h3).1
      have hb' : E.mem b = some cs := hb
      rw [this] at hb'; cases hb'
  · rw [E.add_ne v (by omega)]; exact h.new k (by omega)
  · refine ⟨hos.trans h.fr.os, htape.trans h.fr.tape, hout.trans h.fr.output, h.fr.bsz, Nat.le_trans h.fr.wsz hsz, h.fr.wos, h.fr.isz, fun k hk hbor => ?_, h.fr.sync⟩
    rcases hkeep k (Nat.lt_of_lt_of_le hk h.fr.wsz) with h1 | ⟨j, o2, hro, h1, h2, h3⟩
    · rw [h1]; exact h.fr.block k hk hbor
    · rcases (h.own j o2 k h1 h3).2.2 with (h4 | h4) | h4
      · have hk' : k < E.ws.heap.size := hk; omega
      · exact absurd h4 hbor
      · omega
  · have : k ≠ i := by have := h.mno; omega
    rw [E.add_ne v this]; exact h.hd0 k hk
  · have := h.mno; omega

/-- a new block, a new object -/
theorem HRep.newOb {C : Ctx} {E : Env} {st : St} {w : World} (h : HRep C E st w) (obj : Obj) {v : Value} {o : Ob} (hv : ∀ b, blockOf v = some b → b = w.heap.size)
    (hrep : ORep (E.add st.no v) (w.alloc obj) st.no o) : HRep C (E.add st.no v) (st.alloc o) (w.alloc obj) := by
  refine h.step (Nat.le_refl _) (by simp [St.alloc]) rfl ?_ (fun k o' hk ho => ?_) hrep rfl rfl rfl (by simp) (fun k hk => .inl (RowKit.Below.heap_alloc w obj k hk)) (fun b hb => .inl (by rw [hv b hb]; exact Nat.le_refl _))
  · have : (st.alloc o).obj st.no = if st.no = st.no then some o else st.obj st.no := obj_cons st.fr st.ob st.no _ _ _ _
    rw [this, if_pos rfl]
  · have : (st.alloc o).obj k = if st.no = k then some o else st.obj k := obj_cons st.fr st.ob st.no _ _ _ _
    rw [this, if_neg (fun e => hk e.symm)] at ho; exact ho

/-- an object's block is written -/
theorem HRep.write {C : Ctx} {E : Env} {st : St} {w w' : World} (h : HRep C E st w) {i b : Nat} {o o' : Ob} (ho : st.obj i = some o) (hb : E.blk i = some b) (hro : C.ro ≤ i)
    (hrep : ORep E w' i o') (hos : w'.os = w.os) (htape : w'.tape = w.tape) (hout : w'.output = w.output) (hsz : w'.heap.size = w.heap.size) (hkeep : ∀ k, k ≠ b → w'.heap[k]? = w.heap[k]?) :
    HRep C E (st.setOb i (some o')) w' := by
  have get : ∀ k, (st.setOb i (some o')).obj k = if i = k then some o' else st.obj k := fun k => obj_cons st.fr st.ob st.no _ _ _ _
  have old : ∀ k o1, (st.setOb i (some o')).obj k = some o1 → ∃ o2, st.obj k = some o2 := by
    intro k o1 hk
    rw [get] at hk
    by_cases e : i = k
    · subst e; exact ⟨o, ho⟩
    · rw [if_neg e] at hk; exact ⟨o1, hk⟩
  refine ⟨fun k o1 hk => ?_, fun k j o1 o2 c h1 h2 b1 b2 => ?_, fun k o1 c hk hc => ?_, fun c cs hc => ?_, h.mem0, h.memnew, h.new, h.base, ?_, h.hd0, h.mno, h.mkh, h.kk⟩
  · rw [get] at hk
    by_cases e : i = k
    · subst e; rw [if_pos rfl] at hk; cases hk; exact hrep
    · rw [if_neg e] at hk
      exact (h.ob k o1 hk).world fun c hc => hkeep c (fun e2 => by subst e2; exact e (h.sep i k o o1 c ho hk hb hc))
  · obtain ⟨o3, h3⟩ := old k o1 h1
    obtain ⟨o4, h4⟩ := old j o2 h2
    exact h.sep k j o3 o4 c h3 h4 b1 b2
  · obtain ⟨o3, h3⟩ := old k o1 hk
    exact h.own k o3 c h3 hc
  · obtain ⟨T, fr, hw⟩ := h.mem c cs hc
    refine ⟨T, fr, ?_⟩
    rw [hkeep c (fun e => by subst e; rw [(h.own i o c ho hb).1] at hc; cases hc)]; exact hw
  · refine ⟨hos.trans h.fr.os, htape.trans h.fr.tape, hout.trans h.fr.output, h.fr.bsz, by rw [hsz]; exact h.fr.wsz, h.fr.wos, h.fr.isz, fun k hk hbor => ?_, h.fr.sync⟩
    rw [hkeep k (fun e => by subst e; rcases (h.own i o k ho hb).2.2 with (h4 | h4) | h4 <;> first | omega | exact hbor h4)]
    exact h.fr.block k hk hbor

theorem Models.heapTo {C : Ctx} {E E' : Env} {st st' : St} {a : Act} {w w' : World} (h : Models C E st a w) (hle : E.Le E') (hf : st'.fr = st.fr) (hh : HRep C E' st' w') (hs : E'.ws = E.ws ∧ E'.I = E.I) (hnc : KeepNC w w') : Models C E' st' a w' :=
  ⟨h.size, fun t => by
    have : st'.get t = st.get t := by unfold St.get; rw [hf]
    rw [this]; exact (h.slot t).mono hle, hh, h.marks.keep hs hnc⟩

theorem HRep.withFr' {C : Ctx} {E : Env} {st : St} {w : World} (h : HRep C E st w) (f : List (Nat × SV)) : HRep C E ⟨f, st.ob, st.no, st.k⟩ w :=
  ⟨h.ob, h.sep, h.own, h.mem, h.mem0, h.memnew, h.new, h.base, h.fr, h.hd0, h.mno, h.mkh, h.kk⟩
theorem keepNC_alloc (w : World) (o : Obj) : KeepNC w (w.alloc o) := fun D o' h _ => (RowKit.Below.heap_alloc w o D (Array.getElem?_eq_some_iff.1 h).1).trans h
theorem keepNC_one {w w' : World} {b : Nat} {cs : Array Value} {T : TypeId} {fr : Nat × Nat} (hb : w.heap[b]? = some (.cells cs T fr)) (h : ∀ k, k ≠ b → w'.heap[k]? = w.heap[k]?) : KeepNC w w' := fun D o ho hc => by
  rw [h D (fun e => by subst e; rw [hb] at ho; cases ho; cases hc)]; exact ho

theorem own_inv {E : Env} {v : Value} {i off : Nat} (h : SRep E v (.own i off)) : ∃ b, E.hd i = some (.pointer (some ⟨b, 0, none⟩)) ∧ v = .pointer (some ⟨b, off, none⟩) := by
  cases h with | own _ _ b hb => exact ⟨b, hb, rfl⟩

theorem ORep.cells_inv {E : Env} {w : World} {i : Nat} {T : TypeId} {cs : List SV} (h : ORep E w i (.cells T cs)) :
    ∃ b vs, E.hd i = some (.pointer (some ⟨b, 0, none⟩)) ∧ w.heap[b]? = some (.cells vs T (0, 0)) ∧ ARep E vs cs := by
  cases h with | cells b _ vs _ hh hw hl h1 he => exact ⟨b, vs, hh, hw, hl, h1, he⟩

theorem el_inv {E : Env} {v : Value} {i sz j off : Nat} (h : SRep E v (.el i sz j off)) : ∃ b n cap, E.hd i = some (.slice (some ⟨b, 0, none⟩) n cap) ∧ v = .pointer (some ⟨b, j * sz + off, none⟩) := by
  cases h with | el _ _ _ _ b n cap hb => exact ⟨b, n, cap, hb, rfl⟩

theorem RowAt.cells {E : Env} {w : World} {T : TypeId} {sz n : Nat} {f : Nat → List PV} {b cap : Nat} {cur : Array Value} {u : Nat → Nat → Value} (h : RowAt E w T sz n f b cap cur u) {j : Nat} (hj : j < n) :
    CellsAt E (fun k => w.cell? ⟨b, j * sz + k, none⟩) (mapP false (f j)) := by
  intro k s hs
  rw [mapP_get] at hs
  cases hl : (f j)[k]? with
  | none => simp [hl] at hs
  | some d' =>
    simp [hl] at hs; subst hs
    obtain ⟨h1, h2⟩ := h.hc j k d' hj hl
    exact ⟨u j k, by simp [World.cell?, h.heap]; exact h1, h2, .p _ _ _ (h.he j k d' hj hl)⟩

theorem putEl_length {f : Nat → List PV} {j off : Nat} {ds : List PV} {sz j' : Nat} (hl : (f j').length = sz) (ho : off + ds.length ≤ sz) : (putEl f j off ds j').length = sz := by
  unfold putEl
  split
  · rename_i h; subst h; simp only [List.length_append, List.length_take, List.length_drop]; omega
  · exact hl

theorem putEl_get {f : Nat → List PV} {j off : Nat} {ds : List PV} {sz j' k : Nat} (hl : (f j').length = sz) (ho : off + ds.length ≤ sz) :
    (putEl f j off ds j')[k]? = if j' = j ∧ off ≤ k ∧ k < off + ds.length then ds[k - off]? else (f j')[k]? := by
  unfold putEl
  by_cases h : j' = j
  · subst h
    have h1 : ((f j').take off).length = off := by rw [List.length_take]; omega
    rw [if_pos rfl]
    by_cases hk : off ≤ k ∧ k < off + ds.length
    · rw [if_pos ⟨rfl, hk⟩, List.getElem?_append_left (by rw [List.length_append, h1]; omega), List.getElem?_append_right (by omega), h1]
    · rw [if_neg (fun x => hk x.2)]
      by_cases h2 : k < off
      · rw [List.getElem?_append_left (by rw [List.length_append, h1]; omega), List.getElem?_append_left (by omega), List.getElem?_take, if_pos h2]
      · rw [List.getElem?_append_right (by rw [List.length_append, h1]; omega), List.length_append, h1, List.getElem?_drop, show off + ds.length + (k - (off + ds.length)) = k by omega]
  · rw [if_neg h, if_neg (fun x => h x.1)]

theorem el_apart {j j' k off len sz : Nat} (hk : k < sz) (ho : off + len ≤ sz) (h : ¬ (j' = j ∧ off ≤ k ∧ k < off + len)) : ¬ (j * sz + off ≤ j' * sz + k ∧ j' * sz + k < j * sz + off + len) := by
  intro ⟨h1, h2⟩
  by_cases e : j' = j
  · subst e; exact h ⟨rfl, by omega, by omega⟩
  · rcases Nat.lt_or_ge j' j with hlt | hge
    · have := Nat.mul_le_mul_right sz (show j' + 1 ≤ j from hlt)
      rw [Nat.succ_mul] at this; omega
    · have := Nat.mul_le_mul_right sz (show j + 1 ≤ j' by omega)
      rw [Nat.succ_mul] at this; omega

theorem vals_get : ∀ (l : List Value) (k : Nat), (vals l)[k]? = (l[k]?).map PV.val
  | [], k => by simp [vals]
  | v :: l, 0 => by simp [vals]
  | v :: l, k + 1 => by simp [vals, vals_get l k]
theorem vals_length : ∀ (l : List Value), (vals l).length = l.length
  | [] => rfl
  | v :: l => by simp [vals, vals_length l]

theorem load_run {P : Program} {t : Nat} {i : TI} (hi : i.Ok P t) {E : Env} {w : World} {b base : Nat} {cs : List SV} (hc : CellsAt E (fun k => w.cell? ⟨b, base + k, none⟩) cs) {off : Nat} {s : SV}
    (hr : readCells i.desc.isAgg i.size off cs = some s) : ∃ v, (∀ w1 : World, (∀ k, w1.cell? ⟨b, k, none⟩ = w.cell? ⟨b, k, none⟩) → (loadVar t ⟨b, base + off, none⟩).run P w1 = .ok v w1) ∧ SRep E v s := by
  cases hag : i.desc.isAgg with
  | true =>
    rw [hag] at hr
    obtain ⟨h1, h2⟩ := readAgg hc hr
    have hcell : ∀ j, j < i.size → w.cell? ((⟨b, base + off, none⟩ : Addr).add j) = some ((w.cell? ⟨b, base + (off + j), none⟩).getD undef) := by
      intro j hj
      rw [Addr.add_lit]
      have hk : off + j < cs.length := by omega
      obtain ⟨u, hu, _⟩ := hc (off + j) cs[off + j] (List.getElem?_eq_getElem hk)
      simp only at hu
      rw [show base + off + j = base + (off + j) by omega, hu]; rfl
    have hl := fun (w1 : World) (hw1 : ∀ k, w1.cell? ⟨b, k, none⟩ = w.cell? ⟨b, k, none⟩) => run_loadCells (P := P) w1 ⟨b, base + off, none⟩ i.size (fun j => (w.cell? ⟨b, base + (off + j), none⟩).getD undef) (fun j hj => by
      have := hcell j hj
      rw [Addr.add_lit] at this ⊢
      rw [hw1]; exact this)
    refine ⟨.agg ((List.range i.size).map fun j => (w.cell? ⟨b, base + (off + j), none⟩).getD undef).toArray, fun w1 hw1 => by unfold loadVar; simp [run_isAgg hi, hag, run_size hi, hl w1 hw1], h2 _ (by simp) fun k hk => ?_⟩
    have hk2 : off + k < cs.length := by omega
    obtain ⟨u, hu, _⟩ := hc (off + k) cs[off + k] (List.getElem?_eq_getElem hk2)
    simp only at hu
    simp [hk, hu]
  | false =>
    rw [hag] at hr
    simp only [readCells, nth_eq] at hr
    obtain ⟨u, hu, _, hs⟩ := hc _ _ hr
    exact ⟨u, fun w1 hw1 => by unfold loadVar; simp [run_isAgg hi, hag, hw1, hu], hs⟩

theorem repZ_length : ∀ (n : Nat) (z : List SV), (repZ n z).length = n * z.length
  | 0, z => by simp [repZ]
  | n + 1, z => by simp [repZ, repZ_length n z, Nat.succ_mul]; omega
theorem repZ_get : ∀ (n : Nat) (z : List SV) (k : Nat), k < n * z.length → (repZ n z)[k]? = z[k % z.length]?
  | 0, z, k, h => by simp at h
  | n + 1, z, k, h => by
    simp only [repZ]
    by_cases hk : k < z.length
    · rw [List.getElem?_append_left hk, Nat.mod_eq_of_lt hk]
    · rw [List.getElem?_append_right (by omega), repZ_get n z (k - z.length) (by rw [Nat.succ_mul] at h; omega)]
      rw [show k % z.length = (k - z.length) % z.length by rw [← Nat.mod_eq_sub_mod (by omega)]]

theorem takeN_some {α : Type} : ∀ (n : Nat) (l : List α), n ≤ l.length → takeN n l = some (l.take n)
  | 0, l, _ => by simp [takeN]
  | n + 1, [], h => by simp at h
  | n + 1, x :: l, h => by simp [takeN, takeN_some n l (by simpa using h)]

theorem elemsAt_get {sz : Nat} {l : List PV} {n : Nat} (hl : l.length = n * sz) {j : Nat} (hj : j < n) : (elemsAt sz l j).length = sz ∧ ∀ k, k < sz → (elemsAt sz l j)[k]? = l[j * sz + k]? := by
  have hle : j * sz + sz ≤ l.length := by rw [hl, ← Nat.succ_mul]; exact Nat.mul_le_mul_right _ hj
  unfold elemsAt
  have h1 : takeN sz (dropN (j * sz) l) = some ((l.drop (j * sz)).take sz) := by
    rw [dropN_eq]; exact takeN_some _ _ (by simp; omega)
  rw [h1]
  refine ⟨by simp; omega, fun k hk => ?_⟩
  simp only
  rw [List.getElem?_take, if_pos hk, List.getElem?_drop]

theorem fillS_length {place : Nat → Option (Nat × Nat)} {st : St} : ∀ {parts : List (Nat × Operand)} {cs cs' : List SV}, fillS place st cs parts = some cs' → cs'.length = cs.length
  | [], cs, cs', h => by simp [fillS] at h; rw [h]
  | (i, x) :: rest, cs, cs', h => by
    simp only [fillS] at h
    split at h
    · split at h
      · split at h
        · rename_i r hr
          rw [fillS_length h, (splice_spec _ _ _ _ hr).1]
        · cases h
      · cases h
    · cases h

theorem zerosOf_run {P : Program} {T : Nat} {i : TI} (hi : i.Ok P T) {E : Env} : ∃ z, (∀ w, (zeroValue T).run P w = .ok z w) ∧ ARep E z.cells (zeros i.zero) := by
  obtain ⟨I, z, hI, hz, _, _, hA⟩ := hi.zero_rep E
  exact ⟨z, fun w => by simp [zeroValue, typeInfo, hI, hz], hA⟩

theorem grow_alloc (w : World) (o : Obj) : Grow w (w.alloc o) := ⟨by simp, fun b hb => RowKit.Below.heap_alloc w o b hb⟩
theorem putK_soundw {C : Ctx} {E : Env} {st : St} {a : Act} {w : World} (h : Models C E st a w) {X : Cfg} (hnt : C.nt = X.nt) {d : Option Nat} (hd : okDst X.nt d = true) {s : SV} {v : Value} {K : St → Prop}
    (hk : putK st d s K) (hs : SRep E v s) {next : Act → World → Prop} (hn : ∀ st' E' a' w', K st' → Models C E' st' a' w' → w' = w → next a' w') : next (a.put d v) w := by
  rw [putK_eq] at hk
  exact hn _ E _ _ hk (h.puto (by rw [hnt]; exact hd) hs) rfl

theorem newOb_sound {C : Ctx} {E : Env} {st : St} {a : Act} {w : World} (h : Models C E st a w) {X : Cfg} (hnt : C.nt = X.nt) {o : Oper} (hd : okDst X.nt o.dst = true)
    {vs : Array Value} {T : TypeId} {cs : List SV} (hA : ARep E vs cs) {K : St → Prop}
    (hk : objK st (.cells T cs) fun st i => putK st o.dst (.own i 0) K) {next : Act → World → Prop}
    (hn : ∀ st' E' a' w', K st' → Models C E' st' a' w' → w' = w.alloc (.cells vs T) → next a' w') : next (a.put o.dst (.pointer (some ⟨w.heap.size, 0, none⟩))) (w.alloc (.cells vs T)) := by
  have hle := Env.add_le (v := .pointer (some ⟨w.heap.size, 0, none⟩)) (h.heap.new st.no (Nat.le_refl _))
  have hh := h.heap.newOb (.cells vs T) (v := .pointer (some ⟨w.heap.size, 0, none⟩)) (o := .cells T cs) (fun b hb => by simpa [blockOf] using hb.symm)
    (.cells w.heap.size T vs cs (E.add_hd _ _) (World.alloc_heap_new w _) hA.size hA.one fun k u s h1 h2 => (hA.rep k u s h1 h2).mono hle)
  rw [objK_eq] at hk
  exact putK_soundw (h.heapTo (st' := st.alloc (.cells T cs)) hle rfl hh ⟨rfl, rfl⟩ (keepNC_alloc w _)) hnt hd hk (.own _ 0 w.heap.size (E.add_hd _ _)) hn

theorem stepRead_sound {C : Ctx} {E : Env} {st : St} {a : Act} {w : World} {R : World → Prop} (h : Models C E st a w) {X : Cfg} (hTb : X.Tb.Ok X.P) (hnt : C.nt = X.nt) {o : Oper} (hR : ∀ w1, R w1 → readsHeap o.op = true → Grow w w1) (hd : okDst X.nt o.dst = true)
    {K : St → Prop} (hk : stepRead X o st K) {next : Act → World → Prop}
    (hn : ∀ st' E' a' w', K st' → Models C E' st' a' w' → next a' w') : FloatTo R X.P o a w next := by
  unfold stepRead at hk
  split at hk
  · -- load
    rename_i T x ho
    split at hk
    · rename_i d size _ _ hi
      have go : ∀ (b base off : Nat) (cs : List SV) (s : SV), b < w.heap.size → a.eval x = .pointer (some ⟨b, base + off, none⟩) → CellsAt E (fun k => w.cell? ⟨b, base + k, none⟩) cs → readCells d.isAgg size off cs = some s → putK st o.dst s K → FloatTo R X.P o a w next := by
        intro b base off cs s hlt hx hc hr hk
        obtain ⟨v, hv, hs⟩ := load_run (hTb _ _ hi) hc hr
        exact FloatTo.mk' (v := v) (fun w1 hg => by simp [execOp, ho, Instr.loadAt, hx, Instr.sureAddr, hv w1 (fun k => (hR w1 hg (by simp [readsHeap, ho])).cell hlt k)]) (putK_sound h hnt hd hk hs hn)
      split at hk
      · rename_i i off hx
        split at hk
        · rename_i T' cs hob
          split at hk
          · rename_i s hr
            have hxv := ev_rep h x
            rw [hx] at hxv
            obtain ⟨b, hb, hxe⟩ := own_inv hxv
            obtain ⟨b', vs, hb', hw, hA⟩ := (h.heap.ob i _ hob).cells_inv
            rw [hb] at hb'; cases hb'
            refine go b 0 off cs s (Array.getElem?_eq_some_iff.1 hw).1 (by rw [hxe]; simp) (fun k s hs => ?_) hr hk
            obtain ⟨u, hu, h1, h2⟩ := hA.at k s hs
            exact ⟨u, by simp [World.cell?, hw]; exact hu, h1, h2⟩
          · exact hk.elim
        · exact hk.elim
      · rename_i i sz j off hx
        split at hk
        · rename_i T' sz' n f hob
          cases hb : sz.beq sz' with
          | false => simp [hb] at hk
          | true =>
            simp only [hb] at hk
            obtain rfl := Nat.eq_of_beq_eq_true hb
            obtain ⟨hj, hk⟩ := hk
            split at hk
            · rename_i s hr
              have hxv := ev_rep h x
              rw [hx] at hxv
              obtain ⟨b, n', cap, hb, hxe⟩ := el_inv hxv
              obtain ⟨rfl, cur, u, hR⟩ := (h.heap.ob i _ hob).row_at hb
              exact go b (j * sz) off _ s (Array.getElem?_eq_some_iff.1 hR.heap).1 hxe (hR.cells hj) hr hk
            · exact hk.elim
        · exact hk.elim
      · rename_i b l off hx
        split at hk
        · rename_i s hr
          have hxv := ev_rep h x
          rw [hx] at hxv
          generalize hvx : a.eval x = v at hxv
          cases hxv with
          | p _ _ _ hp =>
            cases hp with
            | pt b' o' _ _ cs u hm hc he =>
              have hm' := E.m_false b _ _ hm
              obtain ⟨T', fr, hw⟩ := h.heap.mem _ _ hm'
              refine go b' o' off (mapP b l) s (Array.getElem?_eq_some_iff.1 hw).1 hvx (fun k s hs => ?_) hr hk
              rw [mapP_get] at hs
              cases hl : l[k]? with
              | none => simp [hl] at hs
              | some d' =>
                simp [hl] at hs; subst hs
                obtain ⟨h1, h2⟩ := hc k d' hl
                exact ⟨u k, by simp [World.cell?, hw]; exact h1, h2, .p _ _ _ (he k d' hl)⟩
        · exact hk.elim
      · exact hk.elim
    · exact hk.elim
  · -- fieldAddr
    rename_i T x f ho
    split at hk
    · rename_i fs _ _ _ hi
      split at hk
      · rename_i off sz hsp
        obtain ⟨Fs, hu, hfs, _⟩ := (hTb _ _ hi).desc
        subst hfs
        obtain ⟨fd, hf1, hf2, hf3⟩ := structPlace_run hTb hsp
        simp only at hf2 hf3
        have hsz : ∀ w, (sizeOf fd.type).run X.P w = .ok (sz + 1) w := fun w => by
          cases hI : X.P.info? fd.type with
          | none => simp [hI] at hf3
          | some I => simp [hI] at hf3; simp [sizeOf, typeInfo, hI, hf3]
        have hrun : ∀ (b p : Nat), a.eval x = .pointer (some ⟨b, p, none⟩) → ∀ w1, R w1 → (execOp a.eval o).run X.P w1 = .ok (.value (.pointer (some ⟨b, p + off, none⟩))) w1 := by
          intro b p hx w1 hg
          simp [execOp, ho, Instr.fieldAt, run_underlying hu, hf1, hx, Instr.sureAddr, fieldPlace, hsz, Addr.add_lit, hf2]
        split at hk
        · rename_i i o' hx
          have hxv := ev_rep h x
          rw [hx] at hxv
          obtain ⟨b, hb, hxe⟩ := own_inv hxv
          exact FloatTo.mk' (hrun b o' hxe) (putK_sound h hnt hd hk (.own _ _ b hb) hn)
        · rename_i i sz' j o' hx
          have hxv := ev_rep h x
          rw [hx] at hxv
          obtain ⟨b, n', cap, hb, hxe⟩ := el_inv hxv
          refine FloatTo.mk' (hrun b _ hxe) (putK_sound h hnt hd hk ?_ hn)
          rw [Nat.add_assoc]
          exact .el _ _ _ _ b n' cap hb
        · rename_i b l o' hx
          have hxv := ev_rep h x
          rw [hx] at hxv
          generalize hvx : a.eval x = v at hxv
          cases hxv with
          | p _ _ _ hp =>
            cases hp with
            | pt b' q _ _ cs u hm hc he =>
              refine FloatTo.mk' (hrun b' _ hvx) (putK_sound h hnt hd hk (.p _ _ _ ?_) hn)
              rw [Nat.add_assoc]
              exact .pt b' q (o' + off) l cs u hm hc he
        · exact hk.elim
      · exact hk.elim
    · exact hk.elim
  · -- indexAddr
    rename_i T x i ho
    split at hk
    · rename_i e _ _ _ hi
      split at hk
      · rename_i _ sz _ _ hie
        split at hk
        · rename_i b n f _ k j hx hj
          obtain ⟨⟨h0, h1⟩, hlen, hk⟩ := hk
          have hu : X.P.underlying T = some (.slice e) := (hTb _ _ hi).desc
          have hjv := ev_rep h i
          rw [hj] at hjv
          have hje := hjv.val_inv
          have hxv := ev_rep h x
          rw [hx] at hxv
          generalize hvx : a.eval x = v at hxv
          have hjn : j.toNat < n := by omega
          cases hxv with
          | p _ _ _ hp =>
            cases hp with
            | nil => omega
            | emp => omega
            | seq b' q _ cap sz' _ cs u hm hcap hmax hl hc he =>
              have hsz' : sz' = sz + 1 := by rw [← hl _ hjn, hlen]
              refine FloatTo.mk' (v := .pointer (some ⟨b', q + j.toNat * (sz + 1) + 0, none⟩)) ?_ (putK_sound h hnt hd hk (.p _ _ _ (.pt b' (q + j.toNat * (sz + 1)) 0 _ cs (u j.toNat) hm (fun k s hs => ?_) (fun k s hs => he _ _ _ hjn hs))) hn)
              · intro w1 hg
                simp [execOp, ho, Instr.indexAt, hje, asIntOf, run_underlying hu, hvx, h0, h1, run_size (hTb _ _ hie), Addr.add_lit]
              · have := hc _ _ _ hjn hs
                rw [hsz'] at this
                rwa [show q + j.toNat * (sz + 1) + k = q + (j.toNat * (sz + 1) + k) by omega]
        · rename_i r _ k j hx hj
          split at hk
          · rename_i T' sz' n f hob
            cases hb : sz'.beq (sz + 1) with
            | false => simp [hb] at hk
            | true =>
              simp only [hb] at hk
              obtain rfl := Nat.eq_of_beq_eq_true hb
              obtain ⟨⟨h0, h1⟩, hk⟩ := hk
              have hu : X.P.underlying T = some (.slice e) := (hTb _ _ hi).desc
              have hjv := ev_rep h i
              rw [hj] at hjv
              have hje := hjv.val_inv
              have hxv := ev_rep h x
              rw [hx] at hxv
              obtain ⟨b, cap, hb⟩ := (h.heap.ob r _ hob).row_some (by omega)
              have hvx : a.eval x = .slice (some ⟨b, 0, none⟩) n cap := by
                generalize a.eval x = v at hxv
                cases hxv with | row _ _ hh _ => rw [hb] at hh; exact (Option.some.inj hh).symm
              refine FloatTo.mk' (v := .pointer (some ⟨b, j.toNat * (sz + 1) + 0, none⟩)) ?_ (putK_sound h hnt hd hk (.el r (sz + 1) j.toNat 0 b n cap hb) hn)
              intro w1 hg
              simp [execOp, ho, Instr.indexAt, hje, asIntOf, run_underlying hu, hvx, h0, h1, run_size (hTb _ _ hie), Addr.add_lit]
          · exact hk.elim
        · exact hk.elim
      · exact hk.elim
    · rename_i n e _ _ _ hi
      split at hk
      · rename_i _ sz _ _ hie
        split at hk
        · rename_i q off _ k j hx hj
          obtain ⟨⟨h0, h1⟩, hk⟩ := hk
          have hu : X.P.underlying T = some (.array n e) := (hTb _ _ hi).desc
          have hjv := ev_rep h i
          rw [hj] at hjv
          have hje := hjv.val_inv
          have hxv := ev_rep h x
          rw [hx] at hxv
          obtain ⟨b, hb, hxe⟩ := own_inv hxv
          refine FloatTo.mk' (v := .pointer (some ⟨b, off + j.toNat * sz, none⟩)) ?_ (putK_sound h hnt hd hk (.own _ _ b hb) hn)
          intro w1 hg
          simp [execOp, ho, Instr.indexAt, hje, asIntOf, run_underlying hu, hxe, Instr.sureAddr, h0, h1, run_size (hTb _ _ hie), Addr.add_lit]
        · exact hk.elim
      · exact hk.elim
    · exact hk.elim
  · exact hk.elim

theorem stepMem_sound {C : Ctx} {E : Env} {st : St} {a : Act} {w : World} (h : Models C E st a w) {X : Cfg} (hTb : X.Tb.Ok X.P) (hnt : C.nt = X.nt) (hro : C.ro = X.ro) {o : Oper} (hd : okDst X.nt o.dst = true)
    {F : Fence} (hF : Wide F) {K : St → Prop} (hk : stepMem X o st K) {next : Act → World → Prop} {Q : Exit → Act → World → Prop}
    (hn : ∀ st' E' a' w', K st' → Models C E' st' a' w' → (isGrow o.op = true → Grow w w') → next a' w') : o.wpIn F 9 X.P a w next Q := by
  unfold stepMem at hk
  split at hk
  · -- alloc
    rename_i T ho
    split at hk
    · rename_i _ _ _ z hi
      obtain ⟨zv, hz, hA⟩ := zerosOf_run (hTb _ _ hi) (E := E)
      refine wpIn_val hF (by simp [ho]) (w' := w.alloc (.cells zv.cells T)) ?_ (newOb_sound h hnt hd hA hk fun st' E' a' w' hk' h' hw' => hn st' E' a' w' hk' h' fun _ => hw' ▸ grow_alloc w _)
      simp [execOp, ho, Instr.alloc, hz, newVar, newRow]
    · exact hk.elim
  · -- box
    rename_i T x ho
    split at hk
    · rename_i cs hc
      obtain ⟨g1, g2, g3⟩ := cellsOf_rep (ev_rep h x) hc
      refine wpIn_val hF (by simp [ho]) (w' := w.alloc (.cells (a.eval x).cells T)) ?_ (newOb_sound h hnt hd ⟨g1, g2, g3⟩ hk fun st' E' a' w' hk' h' hw' => hn st' E' a' w' hk' h' fun _ => hw' ▸ grow_alloc w _)
      simp [execOp, ho, Instr.box, newVar, newRow]
    · exact hk.elim
  · -- store
    rename_i T x y ho
    split at hk
    · rename_i d size _ _ hi
      split at hk
      · rename_i i off new hx hc
        cases hb : new.length.beq size with
        | false => simp [hb] at hk
        | true =>
          simp only [hb] at hk
          have hnew := Nat.eq_of_beq_eq_true hb
          split at hk
          · rename_i T' cs hob
            split at hk
            · rename_i r hble hs
              have hri : C.ro ≤ i := by rw [hro]; exact Nat.le_of_ble_eq_true hble
              obtain ⟨g1, g2, g3⟩ := cellsOf_rep (ev_rep h y) hc
              obtain ⟨r1, r2, r3⟩ := splice_spec cs off new r hs
              have hxv := ev_rep h x
              rw [hx] at hxv
              obtain ⟨b, hb, hxe⟩ := own_inv hxv
              obtain ⟨b', vs, hb', hw, hA⟩ := (h.heap.ob i _ hob).cells_inv
              rw [hb] at hb'; cases hb'
              have hsize : (sizeOf T).run X.P w = .ok size w := run_size (hTb _ _ hi) w
              have hst := run_storeCells_at X.P b off T' (a.eval y).cells.toList 0 vs w hw (by have := hA.size; simp; omega) (fun v hv => by
                obtain ⟨k, hk, rfl⟩ := List.getElem_of_mem hv
                exact g2 k _ (by rw [← Array.getElem?_toList]; exact List.getElem?_eq_getElem hk))
              simp only [Nat.add_zero] at hst
              generalize hcs' : (vs.toList.take off ++ (a.eval y).cells.toList ++ vs.toList.drop (off + (a.eval y).cells.toList.length)).toArray = vs' at hst
              have hA' : ARep E vs' r := by
                have hlen : (a.eval y).cells.toList.length = new.length := by simpa using g1
                have hvl : vs.toList.length = cs.length := by simpa using hA.size
                have hl1 : (vs.toList.take off).length = off := by rw [List.length_take]; omega
                refine ARep.of (by rw [← hcs', r1, ← hvl]; simp only [List.size_toArray, List.length_append, List.length_take, List.length_drop]; omega) fun k hk => ?_
                have hk' : k < cs.length := by
                  rw [← hcs'] at hk
                  simp only [List.size_toArray, List.length_append, List.length_take, List.length_drop] at hk
                  omega
                rw [← hcs', r3 k]
                simp only [List.getElem?_toArray]
                by_cases hin : off ≤ k ∧ k < off + new.length
                · rw [if_pos hin, List.getElem?_append_left (by rw [List.length_append, hl1]; omega), List.getElem?_append_right (by omega), hl1]
                  have e2 : new[k - off]? = some new[k - off] := List.getElem?_eq_getElem (by omega)
                  have e1 : (a.eval y).cells[k - off]? = some ((a.eval y).cells[k - off]'(by omega)) := Array.getElem?_eq_getElem (by omega)
                  exact ⟨_, _, by rw [Array.getElem?_toList]; exact e1, e2, g2 _ _ e1, g3 _ _ _ e1 e2⟩
                · rw [if_neg hin]
                  have e2 : cs[k]? = some cs[k] := List.getElem?_eq_getElem hk'
                  have e1 : vs[k]? = some (vs[k]'(by have := hA.size; omega)) := Array.getElem?_eq_getElem (by have := hA.size; omega)
                  refine ⟨_, _, ?_, e2, hA.one _ _ e1, hA.rep _ _ _ e1 e2⟩
                  by_cases hlt : k < off
                  · rw [List.getElem?_append_left (by rw [List.length_append, hl1]; omega), List.getElem?_append_left (by omega), List.getElem?_take, if_pos hlt, Array.getElem?_toList]; exact e1
                  · rw [List.getElem?_append_right (by rw [List.length_append, hl1]; omega), List.length_append, hl1, hlen, List.getElem?_drop, show off + new.length + (k - (off + new.length)) = k by omega, Array.getElem?_toList]; exact e1
              have hh := h.heap.write (o' := .cells T' r) hob (b := b) (by simp [Env.blk, hb, blockOf]) hri (w' := w.setRow b vs')
                (.cells b T' vs' r hb (setRow_heap w b vs vs' T' (0, 0) hw) hA'.size hA'.one hA'.rep) rfl rfl rfl (by simp) (fun k hk => setRow_other w b k vs' hk)
              refine wpIn_unit hF (by simp [ho]) (w' := w.setRow b vs') ?_ (putK_sound (h.heapTo (st' := st.setOb i (some (.cells T' r))) (Env.Le.refl E) rfl hh ⟨rfl, rfl⟩ (keepNC_one hw fun k hk => setRow_other w b k vs' hk)) hnt hd hk (.any _) fun st' E' a' w' hk' h' => hn st' E' a' w' hk' h' (by simp [isGrow, ho]))
              have hcz : (a.eval y).cells.size = size := by omega
              simp [execOp, ho, Instr.storeAt, Instr.sureAddr, hxe, storeVar, hsize, hcz, hst]
            · exact hk.elim
          · exact hk.elim
      · -- an element of a row
        rename_i i sz j off new hx hc
        cases hb : new.length.beq size with
        | false => simp [hb] at hk
        | true =>
          simp only [hb] at hk
          have hnew := Nat.eq_of_beq_eq_true hb
          split at hk
          · rename_i bb ds hb1 hall
            split at hk
            · rename_i T' sz' n f hob
              cases hble : X.ro.ble i with
              | false => simp [hble] at hk
              | true =>
                cases hbq : sz.beq sz' with
                | false => simp [hble, hbq] at hk
                | true =>
                  simp only [hble, hbq] at hk
                  obtain rfl := Nat.eq_of_beq_eq_true hbq
                  obtain ⟨⟨hj, hoff⟩, hk⟩ := hk
                  have hri : C.ro ≤ i := by rw [hro]; exact Nat.le_of_ble_eq_true hble
                  obtain ⟨g1, g2, g3⟩ := cellsOf_rep (ev_rep h y) hc
                  obtain ⟨hdl, hdr⟩ := allP_rep (E := E) new bb ds hall
                  have hxv := ev_rep h x
                  rw [hx] at hxv
                  obtain ⟨b, n', cap, hb, hxe⟩ := el_inv hxv
                  obtain ⟨rfl, vs, u, hR⟩ := (h.heap.ob i _ hob).row_at hb
                  have hlen : (a.eval y).cells.toList.length = ds.length := by rw [← hdl]; simpa using g1
                  have hjsz : j * sz + sz ≤ n' * sz := by rw [← Nat.succ_mul]; exact Nat.mul_le_mul_right _ hj
                  have hncap : n' * sz ≤ cap * sz := Nat.mul_le_mul_right _ hR.hn
                  have hfit : j * sz + off + ds.length ≤ vs.size := by rw [hR.size]; omega
                  have hsize : (sizeOf T).run X.P w = .ok size w := run_size (hTb _ _ hi) w
                  have hst := run_storeCells_at X.P b (j * sz + off) T' (a.eval y).cells.toList 0 vs w hR.heap (by rw [hlen]; omega) (fun v hv => by
                    obtain ⟨k, hk, rfl⟩ := List.getElem_of_mem hv
                    exact g2 k _ (by rw [← Array.getElem?_toList]; exact List.getElem?_eq_getElem hk))
                  simp only [Nat.add_zero] at hst
                  generalize hcs' : (vs.toList.take (j * sz + off) ++ (a.eval y).cells.toList ++ vs.toList.drop (j * sz + off + (a.eval y).cells.toList.length)).toArray = vs' at hst
                  have hvs' : vs'.size = vs.size := by
                    rw [← hcs']; simp only [List.size_toArray, List.length_append, List.length_take, List.length_drop, hlen, Array.length_toList]; omega
                  have hat : ∀ q, vs'[q]? = if j * sz + off ≤ q ∧ q < j * sz + off + ds.length then (a.eval y).cells[q - (j * sz + off)]? else vs[q]? := by
                    intro q
                    have hl1 : (vs.toList.take (j * sz + off)).length = j * sz + off := by rw [List.length_take, Array.length_toList]; omega
                    rw [← hcs']
                    simp only [List.getElem?_toArray]
                    by_cases hin : j * sz + off ≤ q ∧ q < j * sz + off + ds.length
                    · rw [if_pos hin, List.getElem?_append_left (by rw [List.length_append, hl1]; omega), List.getElem?_append_right (by omega), hl1, Array.getElem?_toList]
                    · rw [if_neg hin]
                      by_cases hlt : q < j * sz + off
                      · rw [List.getElem?_append_left (by rw [List.length_append, hl1]; omega), List.getElem?_append_left (by omega), List.getElem?_take, if_pos hlt, Array.getElem?_toList]
                      · rw [List.getElem?_append_right (by rw [List.length_append, hl1]; omega), List.length_append, hl1, hlen, List.getElem?_drop, show j * sz + off + ds.length + (q - (j * sz + off + ds.length)) = q by omega, Array.getElem?_toList]
                  have cellOf : ∀ j' k s, j' < n' → (putEl f j off ds j')[k]? = some s → ∃ v, vs'[j' * sz + k]? = some v ∧ v.oneCell' = true ∧ PRep E.mem v s := by
                    intro j' k s hj' hs
                    have hfl := hR.hl j' hj'
                    have hks : k < sz := by rw [← putEl_length (f := f) (j := j) (off := off) (ds := ds) hfl hoff]; exact (List.getElem?_eq_some_iff.1 hs).1
                    rw [putEl_get hfl hoff] at hs
                    rw [hat]
                    by_cases hin : j' = j ∧ off ≤ k ∧ k < off + ds.length
                    · rw [if_pos hin] at hs
                      obtain ⟨rfl, hk1, hk2⟩ := hin
                      rw [if_pos (by omega), show j' * sz + k - (j' * sz + off) = k - off by omega]
                      have hcl : (a.eval y).cells.size = ds.length := by simpa using hlen
                      have e1 : (a.eval y).cells[k - off]? = some ((a.eval y).cells[k - off]'(by omega)) := Array.getElem?_eq_getElem _
                      have e2 : new[k - off]? = some (new[k - off]'(by omega)) := List.getElem?_eq_getElem _
                      exact ⟨_, e1, g2 _ _ e1, (hdr _ _ _ _ e2 hs (g3 _ _ _ e1 e2)).mono fun B cs hB => E.m_false bb _ _ hB⟩
                    · rw [if_neg hin] at hs
                      rw [if_neg (el_apart hks hoff hin)]
                      obtain ⟨h1, h2⟩ := hR.hc j' k s hj' hs
                      exact ⟨_, h1, h2, hR.he j' k s hj' hs⟩
                  have hh := h.heap.write (o' := .row T' sz n' (putEl f j off ds)) hob (b := b) (by simp [Env.blk, hb, blockOf]) hri (w' := w.setRow b vs')
                    (.row T' sz n' _ _ (vs'.toList.take (n' * sz)) (fun j' k => vs'.getD (j' * sz + k) undef) hb
                      ⟨by rw [List.length_take, Array.length_toList, hvs', hR.size]; omega, .inr ⟨b, cap, vs', rfl, Nat.zero_le _, setRow_heap w b vs vs' T' (0, 0) hR.heap, hR.hn, hR.hcap, by rw [hvs']; exact hR.size, rfl⟩⟩ hR.hmax
                      (fun j' hj' => putEl_length (hR.hl j' hj') hoff)
                      (fun j' k s hj' hs => by
                        obtain ⟨v, h1, h2, h3⟩ := cellOf j' k s hj' hs
                        have hks : k < sz := by rw [← putEl_length (f := f) (j := j) (off := off) (ds := ds) (hR.hl j' hj') hoff]; exact (List.getElem?_eq_some_iff.1 hs).1
                        have hlt : j' * sz + k < n' * sz := by
                          have := Nat.mul_le_mul_right sz (show j' + 1 ≤ n' from hj'); rw [Nat.succ_mul] at this; omega
                        rw [List.getElem?_take, if_pos hlt, Array.getElem?_toList, Array.getD_eq_getD_getElem?, h1]
                        exact ⟨rfl, h2⟩)
                      (fun j' k s hj' hs => by
                        obtain ⟨v, h1, h2, h3⟩ := cellOf j' k s hj' hs
                        rw [Array.getD_eq_getD_getElem?, h1]; exact h3)) rfl rfl rfl (by simp) (fun k hk => setRow_other w b k vs' hk)
                  refine wpIn_unit hF (by simp [ho]) (w' := w.setRow b vs') ?_ (putK_sound (h.heapTo (st' := st.setOb i (some (.row T' sz n' (putEl f j off ds)))) (Env.Le.refl E) rfl hh ⟨rfl, rfl⟩ (keepNC_one hR.heap fun k hk => setRow_other w b k vs' hk)) hnt hd hk (.any _) fun st' E' a' w' hk' h' => hn st' E' a' w' hk' h' (by simp [isGrow, ho]))
                  have hcz : (a.eval y).cells.size = size := by omega
                  simp [execOp, ho, Instr.storeAt, Instr.sureAddr, hxe, storeVar, hsize, hcz, hst]
            · exact hk.elim
          · exact hk.elim
      · exact hk.elim
    · exact hk.elim
  · -- makeSlice
    rename_i T l c ho
    split at hk
    · rename_i e _ _ _ hi
      split at hk
      · rename_i _ sz by_ z hie
        split at hk
        · rename_i _ k1 n _ k2 m hl hc
          obtain ⟨⟨h0, h1, h2, h3⟩, hk⟩ := hk
          have hlv := ev_rep h l
          rw [hl] at hlv
          have hle1 := hlv.val_inv
          have hcv := ev_rep h c
          rw [hc] at hcv
          have hce := hcv.val_inv
          have hu : X.P.underlying T = some (.slice e) := (hTb _ _ hi).desc
          obtain ⟨I, hI, hIs, hIb, zv, hz, hzz, hone, hzc⟩ := (hTb _ _ hie).info
          simp only at hIs hIb hzz hzc
          have hbyt : (I.bytes : Int) * m ≤ 281474976710656 := by
            have e : m = (m.toNat : Int) := by omega
            rw [hIb, e]
            have h5 : ((by_ * m.toNat : Nat) : Int) ≤ ((281474976710656 : Nat) : Int) := Int.ofNat_le.2 h3
            rw [Int.natCast_mul] at h5; exact h5
          have hrun := run_make (P := X.P) w T e I zv hu hI hz k1 k2 n m h0 h1 hbyt (by omega)
          rw [hIs] at hrun
          have hzl : z.length = sz + 1 := by rw [← hzz, Array.length_toList]; exact hzc
          have hmc := size_madeCells zv.cells (m.toNat * (sz + 1))
          have hnm : n.toNat ≤ m.toNat := by omega
          have hmx : m.toNat ≤ maxLen := by unfold maxLen; omega
          have hzc : zv.cells.size = sz + 1 := hzc
          have hle := Env.add_le (v := .slice (some ⟨w.heap.size, 0, none⟩) n.toNat m.toNat) (h.heap.new st.no (Nat.le_refl _))
          have hnsz : n.toNat * (sz + 1) ≤ m.toNat * (sz + 1) := Nat.mul_le_mul_right _ hnm
          have hcell : ∀ j k, j < n.toNat → k < sz + 1 → (madeCells zv.cells (m.toNat * (sz + 1)))[j * (sz + 1) + k]? = zv.cells[k]? := by
            intro j k hj hk
            have hlt : j * (sz + 1) + k < m.toNat * (sz + 1) := by
              have := Nat.mul_le_mul_right (sz + 1) (show j + 1 ≤ m.toNat by omega); rw [Nat.succ_mul] at this; omega
            have hmod : (j * (sz + 1) + k) % zv.cells.size = k := by rw [hzc, Nat.add_comm, Nat.add_mul_mod_self_right, Nat.mod_eq_of_lt hk]
            have e1 : zv.cells[k]? = some (zv.cells[k]'(by omega)) := Array.getElem?_eq_getElem _
            rw [e1]
            simp [madeCells, hlt, hmod, getElem!_def, e1]
          have hh := h.heap.newOb (.cells (madeCells zv.cells (m.toNat * (sz + 1))) e) (v := .slice (some ⟨w.heap.size, 0, none⟩) n.toNat m.toNat) (o := .row e (sz + 1) n.toNat fun _ => vals z) (fun b hb => by simpa [blockOf] using hb.symm)
            (.row e (sz + 1) n.toNat _ _ ((madeCells zv.cells (m.toNat * (sz + 1))).toList.take (n.toNat * (sz + 1))) (fun j k => zv.cells.getD k undef) (E.add_hd _ _)
              ⟨by rw [List.length_take, Array.length_toList, hmc]; omega, .inr ⟨w.heap.size, m.toNat, _, rfl, Nat.zero_le _, World.alloc_heap_new w _, hnm, hmx, hmc, rfl⟩⟩ (Nat.le_trans hnm hmx)
              (fun j hj => by rw [vals_length]; exact hzl)
              (fun j k s hj hs => by
                rw [vals_get, ← hzz, Array.getElem?_toList] at hs
                have hks : k < sz + 1 := by
                  cases hq : zv.cells[k]? with
                  | none => rw [hq] at hs; cases hs
                  | some q => have := (Array.getElem?_eq_some_iff.1 hq).1; omega
                have hlt : j * (sz + 1) + k < n.toNat * (sz + 1) := by
                  have := Nat.mul_le_mul_right (sz + 1) (show j + 1 ≤ n.toNat from hj); rw [Nat.succ_mul] at this; omega
                rw [List.getElem?_take, if_pos hlt, Array.getElem?_toList, hcell j k hj hks]
                have e1 : zv.cells[k]? = some (zv.cells[k]'(by omega)) := Array.getElem?_eq_getElem _
                rw [Array.getD_eq_getD_getElem?, e1]
                exact ⟨rfl, hone _ _ e1⟩)
              (fun j k s hj hs => by
                rw [vals_get, ← hzz, Array.getElem?_toList] at hs
                cases hq : zv.cells[k]? with
                | none => rw [hq] at hs; cases hs
                | some q =>
                  rw [hq] at hs; simp only [Option.map_some, Option.some.injEq] at hs; subst hs
                  rw [Array.getD_eq_getD_getElem?, hq]; exact .val q))
          rw [objK_eq] at hk
          refine wpIn_val hF (by simp [ho]) (v := .slice (some ⟨w.heap.size, 0, none⟩) n.toNat m.toNat) (w' := w.alloc (.cells (madeCells zv.cells (m.toNat * (sz + 1))) e)) ?_
            (putK_soundw (h.heapTo (st' := st.alloc _) hle rfl hh ⟨rfl, rfl⟩ (keepNC_alloc w _)) hnt hd hk (.row _ _ (E.add_hd _ _) rfl) fun st' E' a' w' hk' h' hw' => hn st' E' a' w' hk' h' fun _ => hw' ▸ grow_alloc w _)
          simp [execOp, ho, hle1, hce, hrun]
        · exact hk.elim
      · exact hk.elim
    · exact hk.elim
  · -- buildSlice
    rename_i T len parts ho
    split at hk
    · rename_i e _ _ _ hi
      split at hk
      · rename_i _ sz _ z hie
        split at hk
        · rename_i cs hf
          split at hk
          · rename_i b ds hall
            cases hbl : (len * (sz + 1)).blt 1000 with
            | false => simp [hbl] at hk
            | true =>
              simp only [hbl] at hk
              have hlt : len * (sz + 1) < 1000 := by simpa [Nat.blt_eq] using hbl
              obtain ⟨zv, hz, hZ⟩ := zerosOf_run (hTb _ _ hie) (E := E)
              have hu : X.P.underlying T = some (.slice e) := (hTb _ _ hi).desc
              have hzl : (zeros z).length = sz + 1 := by
                obtain ⟨I, zz, _, _, _, hs, hA⟩ := (hTb _ _ hie).zero_rep E
                have := hA.size; simp only at this hs; omega
              have hzs : zv.cells.size = sz + 1 := by rw [hZ.size]; exact hzl
              have hZ0 : ARep E ((Array.range (len * (sz + 1))).map (zv.cells[· % zv.cells.size]!)) (repZ len (zeros z)) := by
                refine ARep.of (by rw [repZ_length, hzl]; simp) fun k hk => ?_
                have hk2 : k < len * (sz + 1) := by simpa using hk
                have hm : k % (sz + 1) < sz + 1 := Nat.mod_lt _ (by omega)
                have e1 : zv.cells[k % (sz + 1)]? = some (zv.cells[k % (sz + 1)]'(by omega)) := Array.getElem?_eq_getElem (by omega)
                have e2 : (zeros z)[k % (sz + 1)]? = some ((zeros z)[k % (sz + 1)]'(by omega)) := List.getElem?_eq_getElem (by omega)
                have hm2 : k % (zeros z).length = k % (sz + 1) := by rw [hzl]
                refine ⟨_, _, ?_, by rw [repZ_get _ _ _ (by rw [hzl]; exact hk2), hm2]; exact e2, hZ.one _ _ e1, hZ.rep _ _ _ e1 e2⟩
                simp [hk2, hzs, getElem!_def, e1]
              obtain ⟨vs', hfill, hA⟩ := fill_rep h _ (fun i => some (i * (sz + 1), sz + 1)) (fun i p hp => by
                split at hp
                · exact hp
                · cases hp) parts.toList _ _ _ hZ0 hf
              obtain ⟨hdl, hdr⟩ := allP_rep (E := E) cs b ds hall
              have hvl : vs'.size = len * (sz + 1) := by
                have := (fillS_length hf); rw [hA.size, this, repZ_length, hzl]
              have hle := Env.add_le (v := .slice (some ⟨w.heap.size, 0, none⟩) len len) (h.heap.new st.no (Nat.le_refl _))
              have hdn : ds.length = len * (sz + 1) := by rw [← hdl, ← hA.size, hvl]
              have hmx : len ≤ maxLen := by unfold maxLen; have := Nat.le_mul_of_pos_right len (show 0 < sz + 1 by omega); omega
              have hh := h.heap.newOb (.cells vs' e) (v := .slice (some ⟨w.heap.size, 0, none⟩) len len) (o := .row e (sz + 1) len (elemsAt (sz + 1) ds)) (fun b hb => by simpa [blockOf] using hb.symm)
                (.row e (sz + 1) len _ _ vs'.toList (fun j k => vs'.getD (j * (sz + 1) + k) undef) (E.add_hd _ _)
                  ⟨by simp [hvl], .inr ⟨w.heap.size, len, vs', rfl, Nat.zero_le _, World.alloc_heap_new w _, Nat.le_refl _, hmx, hvl, by rw [List.take_of_length_le]; simp [hvl]⟩⟩ hmx
                  (fun j hj => (elemsAt_get hdn hj).1)
                  (fun j k s hj hs => ?_) (fun j k s hj hs => ?_))
              · rw [objK_eq] at hk
                refine wpIn_val hF (by simp [ho]) (v := .slice (some ⟨w.heap.size, 0, none⟩) len len) (w' := w.alloc (.cells vs' e)) ?_
                  (putK_soundw (h.heapTo (st' := st.alloc _) hle rfl hh ⟨rfl, rfl⟩ (keepNC_alloc w _)) hnt hd hk (.row _ _ (E.add_hd _ _) rfl) fun st' E' a' w' hk' h' hw' => hn st' E' a' w' hk' h' fun _ => hw' ▸ grow_alloc w _)
                have h24 : ¬ (len * (sz + 1) > 2 ^ 24) := by omega
                have hfill' : Instr.fill (fun i => some (i * (sz + 1), sz + 1)) ((Array.range (len * (sz + 1))).map (zv.cells[· % zv.cells.size]!)) (parts.map fun p => (p.1, a.eval p.2)).toList = some vs' := by simpa using hfill
                by_cases h0 : len * (sz + 1) = 0
                · have hz0 : ∀ g : Nat → Value, (Array.range (len * (sz + 1))).map g = #[] := fun g => by rw [h0]; simp
                  rw [hz0] at hfill'
                  simp only [execOp, ho, Instr.buildSlice, Sem.run_bind, run_underlying hu, Result.andThen_ok, run_size (hTb _ _ hie), h0, show ¬ ((0 : Nat) > 2 ^ 24) by omega, if_false, if_true, Sem.run_pure]
                  simp only [show Array.range 0 = #[] from rfl, Array.map_empty, hfill', newRow, Sem.run_bind, run_newObj, Result.andThen_ok, Sem.run_pure]
                  rfl
                · simp only [execOp, ho, Instr.buildSlice, Sem.run_bind, run_underlying hu, Result.andThen_ok, run_size (hTb _ _ hie), h24, if_false, h0, hz, Sem.run_pure]
                  simp only [hfill', newRow, Sem.run_bind, run_newObj, Result.andThen_ok, Sem.run_pure]
                  rfl
              · have hk1 : k < sz + 1 := by rw [← (elemsAt_get hdn hj).1]; exact (List.getElem?_eq_some_iff.1 hs).1
                have hin : j * (sz + 1) + k < vs'.size := by
                  rw [hvl]; have := Nat.mul_le_mul_right (sz + 1) (show j + 1 ≤ len from hj); rw [Nat.succ_mul] at this; omega
                have e1 : vs'[j * (sz + 1) + k]? = some vs'[j * (sz + 1) + k] := Array.getElem?_eq_getElem hin
                rw [Array.getElem?_toList, Array.getD_eq_getD_getElem?, e1]
                exact ⟨rfl, hA.one _ _ e1⟩
              · have hk1 : k < sz + 1 := by rw [← (elemsAt_get hdn hj).1]; exact (List.getElem?_eq_some_iff.1 hs).1
                have hin : j * (sz + 1) + k < vs'.size := by
                  rw [hvl]; have := Nat.mul_le_mul_right (sz + 1) (show j + 1 ≤ len from hj); rw [Nat.succ_mul] at this; omega
                have e1 : vs'[j * (sz + 1) + k]? = some vs'[j * (sz + 1) + k] := Array.getElem?_eq_getElem hin
                have e2 : cs[j * (sz + 1) + k]? = some (cs[j * (sz + 1) + k]'(by rw [← hA.size]; exact hin)) := List.getElem?_eq_getElem _
                rw [(elemsAt_get hdn hj).2 k hk1] at hs
                rw [Array.getD_eq_getD_getElem?, e1]
                exact (hdr _ _ _ _ e2 hs (hA.rep _ _ _ e1 e2)).mono fun B cs hB => E.m_false b _ _ hB
          · exact hk.elim
        · exact hk.elim
      · exact hk.elim
    · exact hk.elim
  · exact hk.elim

end Go.Sx

namespace Go.Sx
open Go

theorem blockOf_ownBlock (v : Value) (h : isSl v = true) : blockOf v = v.ownBlock := by
  cases v <;> simp [isSl] at h
  rename_i a _ _
  cases a <;> rfl

/-- append to an owned row, and where the result lies -/
theorem append_run {P : Program} {w : World} (t ty e : TypeId) (i : TypeInfo) (z : Value) (size bytes : Nat) (ht : P.underlying t = some (.slice e)) (hi : P.info? e = some i) (hz : i.zero = some z)
    (hsize : i.size = size) (hby : i.bytes = bytes) (hzs : z.cells.size = size) (hsz : 0 < size)
    (v : Value) (n : Nat) (xs : List Value) (hown : w.ownsRow 0 e size v n xs)
    (a : Addr) (m c : Nat) (news : List Value) (hl : news.length = m * size) (hnews : ∀ (j : Nat) (u : Value), news[j]? = some u → w.cell? (a.add j) = some u) (h1 : ∀ u ∈ news, u.oneCell' = true)
    (h63 : n + m ≤ maxLen) (hbytes : (n + m) * bytes ≤ 140737488355328) :
    ∃ v' w', (Builtin.append_ #[t, t] ty #[v, .slice (some a) m c]).run P w = .ok v' w' ∧ w'.ownsRow 0 e size v' (n + m) (xs ++ news) ∧ w.grownBy w' v.ownBlock ∧ isSl v' = true ∧
      (∀ b, blockOf v' = some b → w.heap.size ≤ b ∨ v.ownBlock = some b) := by
  obtain ⟨v', w', hr, ho, hg, _⟩ := run_append_own (P := P) w 0 t ty e i z size bytes ht hi hz hsize hby hzs hsz v n xs hown a m c news hl hnews h1 h63 hbytes (Nat.zero_le _)
  have hsl : isSl v' = true := by
    rcases ho.2 with ⟨rfl, _⟩ | ⟨g, cap, cur, rfl, _⟩ <;> rfl
  refine ⟨v', w', hr, ho, hg, hsl, ?_⟩
  subst hsize; subst hby
  have hsmall : n + m ≤ 9223372036854775807 := by simp only [maxLen] at h63; omega
  rcases hown.2 with ⟨rfl, rfl⟩ | ⟨g, cap, cur, rfl, _, hgg, hnc, hcm, hcs, htake⟩
  · have hx : xs = [] := List.eq_nil_of_length_eq_zero (by simpa using hown.1)
    subst hx
    by_cases hm : m = 0
    · subst hm
      have hr2 : (Builtin.append_ #[t, t] ty #[.slice none 0 0, .slice (some a) 0 c]).run P w = .ok (.slice none 0 0) w := by
        simp [Builtin.append_, run_underlying ht, sizeOf, typeInfo, hi, Builtin.lenOf, Builtin.firstCells, loadCells, loadCellsFrom]
      rw [hr2] at hr; cases hr
      intro b hb; simp [blockOf] at hb
    · have hr2 := run_append_nil (P := P) w t ty e i z ht hi hz a m c news hl hnews (by omega) (by omega) (by have hb := hbytes; simp only [Nat.zero_add] at hb; omega)
      rw [hr2] at hr; cases hr
      intro b hb; simp [blockOf] at hb; left; omega
  · by_cases hroom : n + m ≤ cap
    · have hfit : n * i.size + news.length ≤ cur.size := by rw [hl, hcs, ← Nat.add_mul]; exact Nat.mul_le_mul_right _ hroom
      have hr2 := run_append_room (P := P) w t ty e i ht hi g n cap cur hgg a m c news hl hnews h1 hroom hfit
      rw [hr2] at hr; cases hr
      intro b hb; simp [blockOf] at hb; right; simp [Value.ownBlock, hb]
    · have holds : ∀ j u, xs[j]? = some u → w.cell? ((⟨g, 0, none⟩ : Addr).add j) = some u := hown.cells (g := g) rfl
      have hr2 := run_append_grow (P := P) w t ty e i z ht hi hz ⟨g, 0, none⟩ n cap xs hown.1 holds a m c news hl hnews (by omega) (by omega) (growslice_fits (by omega) hbytes)
      rw [hr2] at hr; cases hr
      intro b hb; simp [blockOf] at hb; left; omega

theorem joinF_lt {n k : Nat} (f g : Nat → List PV) (h : k < n) : joinF n f g k = f k := by simp [joinF, h]
theorem joinF_ge {n k : Nat} (f g : Nat → List PV) (h : n ≤ k) : joinF n f g k = g (k - n) := by simp [joinF, Nat.not_lt.2 h]

/-- a slice that is read: its cells, one after the other -/
def Src (E : Env) (w : World) (v : Value) (sz m : Nat) (g : Nat → List PV) : Prop :=
  (v = .slice none 0 0 ∧ m = 0) ∨ ∃ (a : Addr) (c : Nat) (news : List Value) (u : Nat → Nat → Value), v = .slice (some a) m c ∧ news.length = m * sz ∧ (∀ (j : Nat) (x : Value), news[j]? = some x → w.cell? (a.add j) = some x) ∧
    (∀ x ∈ news, x.oneCell' = true) ∧ (∀ j k s, j < m → (g j)[k]? = some s → news[j * sz + k]? = some (u j k) ∧ (u j k).oneCell' = true) ∧ (∀ j k s, j < m → (g j)[k]? = some s → PRep E.mem (u j k) s)

theorem row_inv {E : Env} {w : World} {i : Nat} {T : TypeId} {sz n : Nat} {f : Nat → List PV} (h : ORep E w i (.row T sz n f)) :
    ∃ (v : Value) (xs : List Value) (u : Nat → Nat → Value), E.hd i = some v ∧ w.ownsRow 0 T sz v n xs ∧ n ≤ maxLen ∧ (∀ j, j < n → (f j).length = sz) ∧
      (∀ j k s, j < n → (f j)[k]? = some s → xs[j * sz + k]? = some (u j k) ∧ (u j k).oneCell' = true) ∧ (∀ j k s, j < n → (f j)[k]? = some s → PRep E.mem (u j k) s) := by
  cases h with | row _ _ _ _ v xs u hh hw hmax hl hc he => exact ⟨v, xs, u, hh, hw, hmax, hl, hc, he⟩

theorem flat_lt {j k n sz : Nat} (hj : j < n) (hk : k < sz) : j * sz + k < n * sz := by
  have := Nat.mul_le_mul_right sz (show j + 1 ≤ n from hj)
  rw [Nat.succ_mul] at this; omega
theorem flat_div {x n sz : Nat} (h : x < n * sz) : x / sz < n ∧ x % sz < sz ∧ x / sz * sz + x % sz = x := by
  have hs : 0 < sz := by rcases Nat.eq_zero_or_pos sz with rfl | h1; · simp at h
                         · exact h1
  exact ⟨(Nat.div_lt_iff_lt_mul hs).2 h, Nat.mod_lt _ hs, by rw [Nat.mul_comm]; exact Nat.div_add_mod x sz⟩

theorem src_of {C : Ctx} {E : Env} {st : St} {w : World} (h : HRep C E st w) {e sz : Nat} {x : SV} {m : Nat} {g : Nat → List PV} {j : Option Nat} (hs : srcOf st e sz x = some (m, g, j)) {v : Value} (hv : SRep E v x)
    (hg : ∀ k, k < m → (g k).length = sz) : Src E w v sz m g := by
  unfold srcOf at hs
  split at hs
  · rename_i j0
    split at hs
    · rename_i e' sz' m' g' hob
      split at hs
      · rename_i hb
        cases hs
        simp only [Bool.and_eq_true] at hb
        obtain rfl := Nat.eq_of_beq_eq_true hb.1
        obtain rfl := Nat.eq_of_beq_eq_true hb.2
        obtain ⟨v0, xs, u, hh, hw, hmax, hl, hc, he⟩ := row_inv (h.ob _ _ hob)
        cases hv with
        | row _ _ hh2 hsl =>
          rw [hh] at hh2; cases hh2
          rcases hw.2 with ⟨rfl, h0⟩ | ⟨gg, cap, cur, rfl, _, hgg, hnc, hcm, hcs, htake⟩
          · exact .inl ⟨rfl, h0⟩
          · refine .inr ⟨⟨gg, 0, none⟩, cap, xs, u, rfl, hw.1, hw.cells (g := gg) rfl, fun x hx => ?_, hc, he⟩
            obtain ⟨q, hq, rfl⟩ := List.getElem_of_mem hx
            rw [hw.1] at hq
            obtain ⟨d1, d2, d3⟩ := flat_div hq
            have hlen := hl _ d1
            obtain ⟨c1, c2⟩ := hc _ _ _ d1 (List.getElem?_eq_getElem (by rw [hlen]; exact d2))
            rw [d3, List.getElem?_eq_getElem (by rw [hw.1]; exact hq)] at c1
            have c3 := Option.some.inj c1
            rw [c3]; exact c2
      · cases hs
    · cases hs
  · rename_i b _ _
    cases hs
    cases hv with
    | p _ _ _ hp =>
      cases hp with
      | nil => exact .inl ⟨rfl, rfl⟩
      | emp a c => exact .inr ⟨a, c, [], fun _ _ => undef, rfl, by simp, by simp, by simp, by intro j k s hj; omega, by intro j k s hj; omega⟩
      | seq b' o _ cap sz' _ cs u hm hcap hmax hl hc he =>
        have hsz : ∀ j, j < m → sz' = sz := fun j hj => by rw [← hl j hj, hg j hj]
        obtain ⟨T, fr, hw⟩ := h.mem _ _ (E.m_false _ _ _ hm)
        have hcell : ∀ x, x < m * sz → ∃ s : PV, (g (x / sz))[x % sz]? = some s ∧ cs[o + x]? = some (u (x / sz) (x % sz)) ∧ (u (x / sz) (x % sz)).oneCell' = true := by
          intro x hx
          obtain ⟨d1, d2, d3⟩ := flat_div hx
          have := hsz _ d1; subst this
          have e1 : (g (x / sz'))[x % sz']? = some ((g (x / sz'))[x % sz']'(by rw [hl _ d1]; exact d2)) := List.getElem?_eq_getElem _
          obtain ⟨c1, c2⟩ := hc _ _ _ d1 e1
          rw [d3] at c1
          exact ⟨_, e1, c1, c2⟩
        refine .inr ⟨⟨b', o, none⟩, cap, (List.range (m * sz)).map fun x => u (x / sz) (x % sz), u, rfl, by simp, fun j x hx => ?_, fun x hx => ?_, fun j k s hj hs => ?_, fun j k s hj hs => (he j k s hj hs).mono (E.m_false _)⟩
        · simp only [List.getElem?_map] at hx
          by_cases hj : j < m * sz
          · rw [List.getElem?_range hj] at hx
            simp only [Option.map_some, Option.some.injEq] at hx
            obtain ⟨s, _, c1, _⟩ := hcell j hj
            rw [Addr.add_lit]
            simp [World.cell?, hw]
            rw [← hx]; exact c1
          · rw [List.getElem?_eq_none (by simpa using hj)] at hx; cases hx
        · obtain ⟨y, hy, rfl⟩ := List.mem_map.1 hx
          obtain ⟨s, _, _, c2⟩ := hcell y (by simpa using hy)
          exact c2
        · have hk : k < sz := by rw [← hg j hj]; exact (List.getElem?_eq_some_iff.1 hs).1
          have hlt := flat_lt hj hk
          have hd1 : (j * sz + k) / sz = j := by rw [Nat.mul_comm, Nat.mul_add_div (by omega), Nat.div_eq_of_lt hk]; omega
          have hd2 : (j * sz + k) % sz = k := by rw [Nat.mul_comm, Nat.mul_add_mod, Nat.mod_eq_of_lt hk]
          refine ⟨by simp only [List.getElem?_map]; rw [List.getElem?_range hlt]; simp [hd1, hd2], (hc j k s hj hs).2⟩
  · cases hs

theorem Models.of_heap {C : Ctx} {E E' : Env} {st st' : St} {a : Act} {w w' : World} (h : Models C E st a w) (hle : E.Le E') (hf : st'.fr = st.fr) (hh : HRep C E' st' w') (hs : E'.ws = E.ws ∧ E'.I = E.I) (hnc : KeepNC w w') : Models C E' st' a w' := h.heapTo hle hf hh hs hnc

theorem append_ret {C : Ctx} {E : Env} {st : St} {a : Act} {w : World} (h : Models C E st a w) {X : Cfg} (hTb : X.Tb.Ok X.P) (hnt : C.nt = X.nt) {d : Option Nat} (hd : okDst X.nt d = true)
    {t e sz : Nat} {d1 : Nat} {b1 : Nat} {z1 : List Value} {d2 : TD} {by_ : Nat} {z2 : List Value} (ht : look X.Tb t = some ⟨.slice e, d1, b1, z1⟩) (hie : look X.Tb e = some ⟨d2, sz + 1, by_, z2⟩)
    {m : Nat} {g : Nat → List PV} {vs vx : Value} (hsrc : Src E w vx (sz + 1) m g)
    {n : Nat} {f : Nat → List PV} {xs : List Value} {u : Nat → Nat → Value} (hown : w.ownsRow 0 e (sz + 1) vs n xs)
    (hl : ∀ j, j < n → (f j).length = sz + 1) (hc : ∀ j k s, j < n → (f j)[k]? = some s → xs[j * (sz + 1) + k]? = some (u j k) ∧ (u j k).oneCell' = true) (he : ∀ j k s, j < n → (f j)[k]? = some s → PRep E.mem (u j k) s)
    (hgl : ∀ k, k < m → (g k).length = sz + 1) (hmax : n + m ≤ maxLen) (hby : (n + m) * by_ ≤ 140737488355328)
    {st1 : St} (hfr : st1.fr = st.fr) (hno : st1.no = st.no) (hkk : st1.k = st.k) (hold : ∀ k o, st1.obj k = some o → st.obj k = some o)
    (hgone : ∀ b, vs.ownBlock = some b → ∃ j o', C.m ≤ j ∧ st.obj j = some o' ∧ st1.obj j = none ∧ E.blk j = some b)
    {K : St → Prop} (hk : putK (st1.alloc (.row e (sz + 1) (n + m) (joinF n f g))) d (.row st1.no) K) {next : Act → World → Prop}
    (hn : ∀ st' E' a' w', K st' → Models C E' st' a' w' → next a' w') (ty : Nat) :
    ∃ v' w', (Builtin.append_ #[t, t] ty #[vs, vx]).run X.P w = .ok v' w' ∧ next (a.put d v') w' := by
  have hu : X.P.underlying t = some (.slice e) := (hTb _ _ ht).desc
  obtain ⟨I, zz, hI, hz, hs, hzs, _⟩ := (hTb _ _ hie).zero_rep E
  obtain ⟨I', hI', _, hb', _⟩ := (hTb _ _ hie).info
  rw [hI] at hI'; cases hI'
  simp only at hs hzs hb'
  -- the run
  obtain ⟨v', w', news, u', hrun, hown', hgrow, hsl, hblk, hnl, hnc, hne⟩ : ∃ (v' : Value) (w' : World) (news : List Value) (u' : Nat → Nat → Value), (Builtin.append_ #[t, t] ty #[vs, vx]).run X.P w = .ok v' w' ∧ w'.ownsRow 0 e (sz + 1) v' (n + m) (xs ++ news) ∧ w.grownBy w' vs.ownBlock ∧ isSl v' = true ∧
      (∀ b, blockOf v' = some b → w.heap.size ≤ b ∨ vs.ownBlock = some b) ∧ news.length = m * (sz + 1) ∧ (∀ j k s, j < m → (g j)[k]? = some s → news[j * (sz + 1) + k]? = some (u' j k) ∧ (u' j k).oneCell' = true) ∧ (∀ j k s, j < m → (g j)[k]? = some s → PRep E.mem (u' j k) s) := by
    rcases hsrc with ⟨rfl, rfl⟩ | ⟨ad, c, news, u', rfl, hnl, hnews, h1, hnc, hne⟩
    · have hr := run_append_owned_none (P := X.P) w 0 t ty e I (sz + 1) hu hI vs n xs hown
      have hsl : isSl vs = true := by rcases hown.2 with ⟨rfl, _⟩ | ⟨g, cap, cur, rfl, _⟩ <;> rfl
      exact ⟨vs, w, [], fun _ _ => undef, hr, by simpa using hown, ⟨rfl, rfl, rfl, Nat.le_refl _, fun _ _ _ => rfl⟩, hsl, fun b hb => .inr (by rw [← blockOf_ownBlock vs hsl]; exact hb), by simp, by intro j k s hj; omega, by intro j k s hj; omega⟩
    · obtain ⟨v', w', h2, h3, h4, h5, h6⟩ := append_run (P := X.P) (w := w) t ty e I zz (sz + 1) by_ hu hI hz hs hb' hzs (by omega) vs n xs hown ad m c news hnl hnews h1 hmax hby
      exact ⟨v', w', news, u', h2, h3, h4, h5, h6, hnl, hnc, hne⟩
  refine ⟨v', w', hrun, ?_⟩
  have hle := Env.add_le (v := v') (h.heap.new st.no (Nat.le_refl _))
  have get : ∀ k, (st1.alloc (.row e (sz + 1) (n + m) (joinF n f g))).obj k = if st1.no = k then some (.row e (sz + 1) (n + m) (joinF n f g)) else st1.obj k := fun k => obj_cons st1.fr st1.ob st1.no _ _ _ _
  have hnone : ∀ j o, st.obj j = some o → j ≠ st.no := fun j o ho e => by have := h.heap.lt ho; omega
  have hkeep : ∀ k, k < w.heap.size → w'.heap[k]? = w.heap[k]? ∨ (∃ j o', C.m ≤ j ∧ st.obj j = some o' ∧ (st1.alloc (.row e (sz + 1) (n + m) (joinF n f g))).obj j = none ∧ E.blk j = some k) := by
    intro k hk
    by_cases hv : vs.ownBlock = some k
    · obtain ⟨j, o', h0, h1, h2, h3⟩ := hgone k hv
      refine .inr ⟨j, o', h0, h1, ?_, h3⟩
      rw [get, hno, if_neg (fun e => hnone j o' h1 e.symm)]; exact h2
    · exact .inl (hgrow.block k hk (fun e => hv e.symm))
  have hh : HRep C (E.add st.no v') (st1.alloc (.row e (sz + 1) (n + m) (joinF n f g))) w' := by
    refine h.heap.step (o := .row e (sz + 1) (n + m) (joinF n f g)) (Nat.le_refl _) (by rw [← hno]; simp [St.alloc]) hkk (by rw [get, hno, if_pos rfl]) (fun k o' hk ho => ?_) ?_ hgrow.os hgrow.tape hgrow.output hgrow.size hkeep (fun b hb => ?_)
    · rw [get, hno, if_neg (fun e => hk e.symm)] at ho
      exact hold k o' ho
    · refine .row e (sz + 1) (n + m) _ v' (xs ++ news) (fun j k => if j < n then u j k else u' (j - n) k) (E.add_hd _ _) hown' hmax (fun j hj => ?_) (fun j k s hj hs => ?_) (fun j k s hj hs => ?_)
      · by_cases hjn : j < n
        · rw [joinF_lt f g hjn]; exact hl j hjn
        · rw [joinF_ge f g (by omega)]; exact hgl _ (by omega)
      · by_cases hjn : j < n
        · rw [joinF_lt f g hjn] at hs
          rw [if_pos hjn]
          have hk1 : k < sz + 1 := by rw [← hl j hjn]; exact (List.getElem?_eq_some_iff.1 hs).1
          rw [List.getElem?_append_left (by rw [hown.1]; exact flat_lt hjn hk1)]
          exact hc j k s hjn hs
        · rw [joinF_ge f g (by omega)] at hs
          rw [if_neg hjn]
          have := hnc (j - n) k s (by omega) hs
          refine ⟨?_, this.2⟩
          have hmul : n * (sz + 1) + (j - n) * (sz + 1) = j * (sz + 1) := by rw [← Nat.add_mul]; congr 1; omega
          rw [List.getElem?_append_right (by rw [hown.1]; omega), hown.1, show j * (sz + 1) + k - n * (sz + 1) = (j - n) * (sz + 1) + k by omega]
          exact this.1
      · by_cases hjn : j < n
        · rw [joinF_lt f g hjn] at hs
          simp only [if_pos hjn]
          exact (he j k s hjn hs).mono hle.mem
        · rw [joinF_ge f g (by omega)] at hs
          simp only [if_neg hjn]
          exact (hne (j - n) k s (by omega) hs).mono hle.mem
    · rcases hblk b hb with h1 | h1
      · exact .inl h1
      · obtain ⟨j, o', h0, h2, h3, h4⟩ := hgone b h1
        refine .inr ⟨j, o', h0, h2, ?_, h4⟩
        rw [get, hno, if_neg (fun e => hnone j o' h2 e.symm)]; exact h3
  have hnc : KeepNC w w' := by
    intro D o ho hc
    have hD := (Array.getElem?_eq_some_iff.1 ho).1
    rw [hgrow.block D hD (fun e => ?_)]; exact ho
    rcases hown.2 with ⟨rfl, _⟩ | ⟨g, cap, cur, rfl, _, hg, _⟩
    · simp [Value.ownBlock] at e
    · simp [Value.ownBlock] at e; subst e; rw [hg] at ho; cases ho; cases hc
  exact putK_sound (h.heapTo (st' := st1.alloc _) hle (by simp [St.alloc, hfr]) hh ⟨rfl, rfl⟩ hnc) hnt hd hk (.row _ _ (by rw [hno]; exact E.add_hd _ _) hsl) hn

/-- memory that the call makes -/
def Env.addMem (E : Env) (b : Nat) (cs : Array Value) : Env := { E with mem := fun k => if k = b then some cs else E.mem k }
theorem HRep.newMem {C : Ctx} {E : Env} {st : St} {w w' : World} (h : HRep C E st w) {cs : Array Value} {T : TypeId} {fr : Nat × Nat} (hb : w'.heap[w.heap.size]? = some (.cells cs T fr))
    (hos : w'.os = w.os) (htape : w'.tape = w.tape) (hout : w'.output = w.output) (hsz : w.heap.size ≤ w'.heap.size) (hkeep : ∀ k, k < w.heap.size → w'.heap[k]? = w.heap[k]?) :
    HRep C (E.addMem w.heap.size cs) st w' ∧ E.Le (E.addMem w.heap.size cs) := by
  have hle : E.Le (E.addMem w.heap.size cs) := ⟨fun _ _ x => x, fun b c hc => by
    have := h.mem_lt hc
    simp only [Env.addMem]
    rw [if_neg (by omega)]; exact hc, rfl⟩
  have blk : ∀ i, (E.addMem w.heap.size cs).blk i = E.blk i := fun _ => rfl
  have new : ∀ {b c}, (E.addMem w.heap.size cs).mem b = some c → (b = w.heap.size ∧ c = cs) ∨ E.mem b = some c := by
    intro b c hc
    simp only [Env.addMem] at hc
    by_cases e : b = w.heap.size
    · rw [if_pos e] at hc; exact .inl ⟨e, (Option.some.inj hc).symm⟩
    · rw [if_neg e] at hc; exact .inr hc
  refine ⟨⟨fun i o ho => ((h.ob i o ho).mono hle).world fun b hbk => hkeep b ((h.ob i o ho).blk_lt hbk), h.sep, fun i o b ho hbk => ?_, fun b c hc => ?_, fun b c hc => hle.mem b c (h.mem0 b c hc), fun b c hc => ?_, h.new, h.base, ?_, h.hd0, h.mno, h.mkh, h.kk⟩, hle⟩
  · obtain ⟨g1, g2⟩ := h.own i o b ho hbk
    refine ⟨?_, g2⟩
    have hlt := (h.ob i o ho).blk_lt hbk
    simp only [Env.addMem]
    rw [if_neg (by omega)]; exact g1
  · rcases new hc with ⟨rfl, rfl⟩ | h1
    · exact ⟨T, fr, hb⟩
    · obtain ⟨T', fr', hw⟩ := h.mem b c h1
      exact ⟨T', fr', (hkeep b (h.mem_lt h1)).trans hw⟩
  · rcases new hc with ⟨rfl, rfl⟩ | h1
    · exact .inr ⟨Nat.le_trans h.fr.bsz h.fr.wsz, .inl h.fr.wsz⟩
    · exact h.memnew b c h1
  · exact ⟨hos.trans h.fr.os, htape.trans h.fr.tape, hout.trans h.fr.output, h.fr.bsz, Nat.le_trans h.fr.wsz hsz, h.fr.wos, h.fr.isz, fun k hk hI => by rw [hkeep k (Nat.lt_of_lt_of_le hk h.fr.wsz)]; exact h.fr.block k hk hI, h.fr.sync⟩

/-- append to a slice without room: the result is memory that nobody writes -/
theorem append_full {C : Ctx} {E : Env} {st : St} {a : Act} {w : World} (h : Models C E st a w) {X : Cfg} (hTb : X.Tb.Ok X.P) (hnt : C.nt = X.nt) {d : Option Nat} (hd : okDst X.nt d = true)
    {t e sz : Nat} {d1 : Nat} {b1 : Nat} {z1 : List Value} {d2 : TD} {by_ : Nat} {z2 : List Value} (ht : look X.Tb t = some ⟨.slice e, d1, b1, z1⟩) (hie : look X.Tb e = some ⟨d2, sz + 1, by_, z2⟩)
    {m : Nat} {g : Nat → List PV} {vx : Value} (hsrc : Src E w vx (sz + 1) m g)
    {n : Nat} {f : Nat → List PV} {ad : Option Addr} (hold : Src E w (.slice ad n n) (sz + 1) n f)
    (hfl : ∀ k, k < n → (f k).length = sz + 1) (hgl : ∀ k, k < m → (g k).length = sz + 1) (hm0 : 0 < m) (hmax : n + m ≤ maxLen) (hby : (n + m) * by_ ≤ 140737488355328)
    {K : St → Prop} (hk : putK st d (.p false (.seq (n + m) (joinF n f g))) K) {next : Act → World → Prop}
    (hn : ∀ st' E' a' w', K st' → Models C E' st' a' w' → next a' w') (ty : Nat) :
    ∃ v' w', (Builtin.append_ #[t, t] ty #[.slice ad n n, vx]).run X.P w = .ok v' w' ∧ next (a.put d v') w' := by
  have hu : X.P.underlying t = some (.slice e) := (hTb _ _ ht).desc
  obtain ⟨I, zz, hI, hz, hs, hzs, _⟩ := (hTb _ _ hie).zero_rep E
  obtain ⟨I', hI', _, hb', _⟩ := (hTb _ _ hie).info
  rw [hI] at hI'; cases hI'
  simp only at hs hzs hb'
  have hmx : n + m ≤ 9223372036854775807 := hmax
  rcases hsrc with ⟨_, h0⟩ | ⟨ax, c, news, u', rfl, hnl, hnews, h1, hnc, hne⟩
  · omega
  obtain ⟨olds, u, cap, w', hrun, hol, hoc, hoe, hw'⟩ : ∃ (olds : List Value) (u : Nat → Nat → Value) (cap : Nat) (w' : World),
      (Builtin.append_ #[t, t] ty #[.slice ad n n, .slice (some ax) m c]).run X.P w = .ok (.slice (some ⟨w.heap.size, 0, none⟩) (n + m) cap) w' ∧ olds.length = n * (sz + 1) ∧
      (∀ j k s, j < n → (f j)[k]? = some s → olds[j * (sz + 1) + k]? = some (u j k) ∧ (u j k).oneCell' = true) ∧ (∀ j k s, j < n → (f j)[k]? = some s → PRep E.mem (u j k) s) ∧
      (n + m ≤ cap ∧ ∃ zs fr, w' = w.drew.alloc (.cells (olds.toArray ++ news.toArray ++ zs) e fr)) := by
    rcases hold with ⟨e1, h0⟩ | ⟨ao, c', olds, u, e1, hol, holds, ho1, hoc, hoe⟩
    · cases e1
      have hr := run_append_nil (P := X.P) w t ty e I zz hu hI hz ax m c news (by rw [hs]; exact hnl) hnews hm0 (by omega) (by rw [hb']; have : (0 + m) * by_ ≤ 140737488355328 := hby; rw [Nat.zero_add] at this; omega)
      have e0 : 0 + m = m := Nat.zero_add m
      refine ⟨[], fun _ _ => undef, _, _, (show _ = Result.ok (Value.slice (some ⟨w.heap.size, 0, none⟩) (0 + m) _) _ by rw [e0]; exact hr), by simp, by intro j k s hj; omega, by intro j k s hj; omega, ?_⟩
      exact ⟨by rw [e0]; exact grownCap_ge w m 0 e, Builtin.zeroCells zz.cells (grownCap w m 0 e - m), (0, 0), by rw [show ([] : List Value).toArray ++ news.toArray = news.toArray by simp]⟩
    · cases e1
      have hcov : olds.length = n * I.size := by rw [hs]; exact hol
      refine ⟨olds, u, _, _, run_append_grow (P := X.P) w t ty e I zz hu hI hz ao n n olds hcov holds ax m c news (by rw [hs]; exact hnl) hnews (by omega) (by omega) (growslice_fits (by omega) (by rw [hb']; exact hby)), hol, hoc, hoe, grownCap_ge w (n + m) n e, _, _, rfl⟩
  obtain ⟨hcap, zs, fr, rfl⟩ := hw'
  refine ⟨_, _, hrun, ?_⟩
  generalize hcs : olds.toArray ++ news.toArray ++ zs = cs
  have hnew : (w.drew.alloc (.cells cs e fr)).heap[w.heap.size]? = some (.cells cs e fr) := by
    show (w.heap.push _)[w.heap.size]? = _
    simp
  have hkeep : ∀ k, k < w.heap.size → (w.drew.alloc (.cells cs e fr)).heap[k]? = w.heap[k]? := fun k hk => RowKit.Below.heap_alloc w.drew _ k hk
  obtain ⟨hh, hle⟩ := h.heap.newMem hnew rfl rfl rfl (by show w.heap.size ≤ (w.heap.push _).size; simp) hkeep
  have hM := h.heapTo (st' := st) hle rfl hh ⟨rfl, rfl⟩ (keepNC_alloc w.drew _)
  have hget : ∀ x, x < n * (sz + 1) → cs[x]? = olds[x]? := fun x hx => by
    rw [← hcs, Array.append_assoc, Array.getElem?_append_left (by simp [hol]; exact hx)]; simp
  have hget2 : ∀ x, x < m * (sz + 1) → cs[n * (sz + 1) + x]? = news[x]? := fun x hx => by
    rw [← hcs, Array.getElem?_append_left (by simp [hol, hnl]; omega), Array.getElem?_append_right (by simp [hol])]; simp [hol]
  refine putK_sound hM hnt hd hk (.p false _ _ (.seq w.heap.size 0 (n + m) cap (sz + 1) _ cs (fun j k => if j < n then u j k else u' (j - n) k) ?_ hcap hmax (fun j hj => ?_) (fun j k s hj hs => ?_) (fun j k s hj hs => ?_))) hn
  · show (E.addMem w.heap.size cs).mem w.heap.size = some cs
    simp [Env.addMem]
  · by_cases hjn : j < n
    · rw [joinF_lt f g hjn]; exact hfl j hjn
    · rw [joinF_ge f g (by omega)]; exact hgl _ (by omega)
  · rw [Nat.zero_add]
    by_cases hjn : j < n
    · rw [joinF_lt f g hjn] at hs
      rw [if_pos hjn]
      have hk1 : k < sz + 1 := by rw [← hfl j hjn]; exact (List.getElem?_eq_some_iff.1 hs).1
      rw [hget _ (flat_lt hjn hk1)]
      exact hoc j k s hjn hs
    · rw [joinF_ge f g (by omega)] at hs
      rw [if_neg hjn]
      have := hnc (j - n) k s (by omega) hs
      have hk1 : k < sz + 1 := by rw [← hgl (j - n) (by omega)]; exact (List.getElem?_eq_some_iff.1 hs).1
      have hmul : n * (sz + 1) + (j - n) * (sz + 1) = j * (sz + 1) := by rw [← Nat.add_mul]; congr 1; omega
      rw [show j * (sz + 1) + k = n * (sz + 1) + ((j - n) * (sz + 1) + k) by omega, hget2 _ (flat_lt (by omega) hk1)]
      exact this
  · by_cases hjn : j < n
    · rw [joinF_lt f g hjn] at hs
      simp only [if_pos hjn]
      exact (hoe j k s hjn hs).mono hle.mem
    · rw [joinF_ge f g (by omega)] at hs
      simp only [if_neg hjn]
      exact (hne (j - n) k s (by omega) hs).mono hle.mem

/-- append within a row of the call's own -/
theorem appendIn_sound {C : Ctx} {E : Env} {st : St} {a : Act} {w : World} (h : Models C E st a w) {X : Cfg} (hTb : X.Tb.Ok X.P) (hnt : C.nt = X.nt) (hro : C.ro = X.ro) {d : Option Nat} (hd : okDst X.nt d = true)
    {t e sz : Nat} {d1 : Nat} {b1 : Nat} {z1 : List Value} {d2 : TD} {by_ : Nat} {z2 : List Value} (ht : look X.Tb t = some ⟨.slice e, d1, b1, z1⟩) (hie : look X.Tb e = some ⟨d2, sz + 1, by_, z2⟩)
    {s x : SV} {vs vx : Value} (hs : SRep E vs s) (hx : SRep E vx x) {K : St → Prop} (hk : appendIn X e (sz + 1) s x d st K) {next : Act → World → Prop}
    (hn : ∀ st' E' a' w', K st' → Models C E' st' a' w' → next a' w') (ty : Nat) :
    ∃ v' w', (Builtin.append_ #[t, t] ty #[vs, vx]).run X.P w = .ok v' w' ∧ next (a.put d v') w' := by
  unfold appendIn at hk
  split at hk
  · rename_i i sz' n j sz'' lo m
    split at hk
    · rename_i e' sz3 N f hble hob
      split at hk
      · rename_i hbe
        simp only [Bool.and_eq_true] at hble hbe
        obtain ⟨⟨b1, b2⟩, b3, b4⟩ := hble
        obtain rfl := Nat.eq_of_beq_eq_true b1
        obtain rfl := Nat.eq_of_beq_eq_true b3
        obtain rfl := Nat.eq_of_beq_eq_true b4
        obtain rfl := Nat.eq_of_beq_eq_true hbe.1
        obtain rfl := Nat.eq_of_beq_eq_true hbe.2
        have hri : C.ro ≤ i := by rw [hro]; exact Nat.le_of_ble_eq_true b2
        obtain ⟨⟨k1, k2, k3⟩, hk⟩ := hk
        have hu : X.P.underlying t = some (.slice e') := (hTb _ _ ht).desc
        obtain ⟨I, hI, hIs, _⟩ := (hTb _ _ hie).info
        simp only at hIs
        cases hs with
        | sub _ _ _ _ b n' cap c ad hh hle hc hr ha =>
        cases hx with
        | sub _ _ _ _ b2 n2 cap2 c2 ad2 hh2 hle2 hc2 hr2 ha2 =>
        rw [hh] at hh2
        obtain ⟨⟨rfl, _⟩, rfl, rfl⟩ : (b = b2 ∧ True) ∧ n' = n2 ∧ cap = cap2 := by
          have := Option.some.inj hh2
          simp only [Value.slice.injEq, Option.some.injEq, Addr.mk.injEq] at this
          exact ⟨⟨this.1.1, trivial⟩, this.2.1, this.2.2⟩
        obtain ⟨rfl, cur, u, hR⟩ := (h.heap.ob i _ hob).row_at hh
        obtain rfl := ha (by omega)
        have hcn := hR.hn
        have hcs := hR.size
        have hNs : n' * (sz + 1) ≤ cur.size := by rw [hcs]; exact Nat.mul_le_mul_right _ hcn
        have hlm : (lo + m) * (sz + 1) ≤ n' * (sz + 1) := Nat.mul_le_mul_right _ k2
        have hnm : (n + m) * (sz + 1) ≤ n' * (sz + 1) := Nat.mul_le_mul_right _ k1
        rw [Nat.add_mul] at hlm hnm
        obtain ⟨news, hnews⟩ : ∃ news, news = (cur.toList.drop (lo * (sz + 1))).take (m * (sz + 1)) := ⟨_, rfl⟩
        have hnl : news.length = m * (sz + 1) := by
          rw [hnews, List.length_take, List.length_drop, Array.length_toList]; omega
        have hng : ∀ q, q < m * (sz + 1) → news[q]? = cur[lo * (sz + 1) + q]? := fun q hq => by
          rw [hnews, List.getElem?_take, if_pos hq, List.getElem?_drop, Array.getElem?_toList]
        have hone : ∀ q, q < n' * (sz + 1) → ∃ v, cur[q]? = some v ∧ v.oneCell' = true := fun q hq => by
          obtain ⟨q1, q2, q3⟩ := flat_div hq
          have hl := hR.hl _ q1
          obtain ⟨s, hs⟩ : ∃ s, (f (q / (sz + 1)))[q % (sz + 1)]? = some s := ⟨_, List.getElem?_eq_getElem (by omega)⟩
          have := hR.hc _ _ s q1 hs
          rw [q3] at this
          exact ⟨_, this.1, this.2⟩
        have hrun := run_append_room (P := X.P) w t ty e' I hu hI b n c cur hR.heap ad2 m c2 news (by rw [hIs]; exact hnl)
          (fun q v hq => by
            have hql : q < m * (sz + 1) := by rw [← hnl]; exact (List.getElem?_eq_some_iff.1 hq).1
            have hm0 : 0 < m := Nat.pos_of_ne_zero fun e => by rw [e, Nat.zero_mul] at hql; omega
            obtain rfl := ha2 (by omega)
            rw [hng q hql] at hq
            simp only [World.cell?, Addr.add_lit, hR.heap]
            exact hq)
          (fun v hv => by
            obtain ⟨q, hq⟩ := List.getElem?_of_mem hv
            have hql : q < m * (sz + 1) := by rw [← hnl]; exact (List.getElem?_eq_some_iff.1 hq).1
            rw [hng q hql] at hq
            obtain ⟨v', h1, h2⟩ := hone (lo * (sz + 1) + q) (by omega)
            rw [h1] at hq; cases hq; exact h2)
          (by omega) (by rw [hIs, hnl]; omega)
        rw [hIs] at hrun
        generalize hcs' : (cur.toList.take (n * (sz + 1)) ++ news ++ cur.toList.drop (n * (sz + 1) + news.length)).toArray = vs' at hrun
        have hvs' : vs'.size = cur.size := by
          rw [← hcs']; simp only [List.size_toArray, List.length_append, List.length_take, List.length_drop, hnl, Array.length_toList]; omega
        have hat : ∀ q, vs'[q]? = if n * (sz + 1) ≤ q ∧ q < n * (sz + 1) + m * (sz + 1) then cur[lo * (sz + 1) + (q - n * (sz + 1))]? else cur[q]? := by
          intro q
          have hl1 : (cur.toList.take (n * (sz + 1))).length = n * (sz + 1) := by rw [List.length_take, Array.length_toList]; omega
          rw [← hcs']
          simp only [List.getElem?_toArray]
          by_cases hin : n * (sz + 1) ≤ q ∧ q < n * (sz + 1) + m * (sz + 1)
          · rw [if_pos hin, List.getElem?_append_left (by rw [List.length_append, hl1, hnl]; omega), List.getElem?_append_right (by omega), hl1, hng _ (by omega)]
          · rw [if_neg hin]
            by_cases hlt : q < n * (sz + 1)
            · rw [List.getElem?_append_left (by rw [List.length_append, hl1]; omega), List.getElem?_append_left (by omega), List.getElem?_take, if_pos hlt, Array.getElem?_toList]
            · rw [List.getElem?_append_right (by rw [List.length_append, hl1, hnl]; omega), List.length_append, hl1, hnl, List.getElem?_drop, show n * (sz + 1) + m * (sz + 1) + (q - (n * (sz + 1) + m * (sz + 1))) = q by omega, Array.getElem?_toList]
        have flen : ∀ j, j < n' → (ovl n lo m f j).length = sz + 1 := by
          intro j hj
          unfold ovl
          split
          · exact hR.hl _ (by omega)
          · exact hR.hl _ hj
        have cellOf : ∀ j k s, j < n' → (ovl n lo m f j)[k]? = some s → ∃ v, vs'[j * (sz + 1) + k]? = some v ∧ v.oneCell' = true ∧ PRep E.mem v s := by
          intro j k s hj hs
          have hks : k < sz + 1 := by rw [← flen j hj]; exact (List.getElem?_eq_some_iff.1 hs).1
          unfold ovl at hs
          rw [hat]
          by_cases hin : n ≤ j ∧ j < n + m
          · rw [if_pos hin] at hs
            obtain ⟨q, rfl⟩ : ∃ q, j = n + q := ⟨j - n, by omega⟩
            have hq := flat_lt (show q < m by omega) hks
            have e3 : (n + q) * (sz + 1) + k = n * (sz + 1) + (q * (sz + 1) + k) := by rw [Nat.add_mul]; omega
            rw [e3, if_pos (by omega), Nat.add_sub_cancel_left]
            rw [Nat.add_sub_cancel_left] at hs
            have g1 := hR.hc (lo + q) k s (by omega) hs
            have g2 := hR.he (lo + q) k s (by omega) hs
            rw [Nat.add_mul, Nat.add_assoc] at g1
            exact ⟨_, g1.1, g1.2, g2⟩
          · rw [if_neg hin] at hs
            have hout : ¬ (n * (sz + 1) ≤ j * (sz + 1) + k ∧ j * (sz + 1) + k < n * (sz + 1) + m * (sz + 1)) := by
              rintro ⟨h1, h2⟩
              apply hin
              rw [← Nat.add_mul] at h2
              constructor
              · exact Classical.byContradiction fun hh => by
                  have := flat_lt (Nat.lt_of_not_le hh) hks; omega
              · exact Classical.byContradiction fun hh => by
                  have := Nat.mul_le_mul_right (sz + 1) (Nat.le_of_not_lt hh); omega
            rw [if_neg hout]
            obtain ⟨h1, h2⟩ := hR.hc j k s hj hs
            exact ⟨_, h1, h2, hR.he j k s hj hs⟩
        have hh3 := h.heap.write (o' := .row e' (sz + 1) n' (ovl n lo m f)) hob (b := b) (by simp [Env.blk, hh, blockOf]) hri (w' := w.setRow b vs')
          (.row e' (sz + 1) n' _ _ (vs'.toList.take (n' * (sz + 1))) (fun j k => vs'.getD (j * (sz + 1) + k) undef) hh
            ⟨by rw [List.length_take, Array.length_toList, hvs']; omega, .inr ⟨b, cap, vs', rfl, Nat.zero_le _, setRow_heap w b cur vs' e' (0, 0) hR.heap, hR.hn, hR.hcap, by rw [hvs']; exact hR.size, rfl⟩⟩ hR.hmax
            flen
            (fun j k s hj hs => by
              obtain ⟨v, h1, h2, h3⟩ := cellOf j k s hj hs
              have hks : k < sz + 1 := by rw [← flen j hj]; exact (List.getElem?_eq_some_iff.1 hs).1
              rw [List.getElem?_take, if_pos (flat_lt hj hks), Array.getElem?_toList, Array.getD_eq_getD_getElem?, h1]
              exact ⟨rfl, h2⟩)
            (fun j k s hj hs => by
              obtain ⟨v, h1, h2, h3⟩ := cellOf j k s hj hs
              rw [Array.getD_eq_getD_getElem?, h1]; exact h3)) rfl rfl rfl (by simp) (fun k hk => setRow_other w b k vs' hk)
        refine ⟨_, _, (by rw [Nat.zero_mul]; exact hrun), putK_sound (h.heapTo (st' := st.setOb i (some (.row e' (sz + 1) n' (ovl n lo m f)))) (Env.Le.refl E) rfl hh3 ⟨rfl, rfl⟩ (keepNC_one hR.heap fun k hk => setRow_other w b k vs' hk)) hnt hd hk ?_ hn⟩
        exact .sub _ _ _ _ b n' cap c _ hh (by omega) (by omega) hr (fun _ => by rw [Nat.zero_mul])
      · exact hk.elim
    · exact hk.elim
  · exact hk.elim

theorem appendK_sound {C : Ctx} {E : Env} {st : St} {a : Act} {w : World} (h : Models C E st a w) {X : Cfg} (hTb : X.Tb.Ok X.P) (hnt : C.nt = X.nt) (hro : C.ro = X.ro) (hcm : C.m = X.m) {d : Option Nat} (hd : okDst X.nt d = true)
    {t : Nat} {s x : SV} {vs vx : Value} (hs : SRep E vs s) (hx : SRep E vx x) {K : St → Prop} (hk : appendK X t s x d st K) {next : Act → World → Prop}
    (hn : ∀ st' E' a' w', K st' → Models C E' st' a' w' → next a' w') (ty : Nat) :
    ∃ v' w', (Builtin.append_ #[t, t] ty #[vs, vx]).run X.P w = .ok v' w' ∧ next (a.put d v') w' := by
  unfold appendK at hk
  split at hk
  · rename_i e _ _ _ ht
    split at hk
    · rename_i _ sz by_ _ hie
      split at hk
      · rename_i m g j hsrc
        split at hk
        · rename_i i
          split at hk
          · rename_i e' sz' n f hoth hob
            split at hk
            · rename_i hb
              simp only [Bool.and_eq_true] at hb
              obtain rfl := Nat.eq_of_beq_eq_true hb.1
              obtain rfl := Nat.eq_of_beq_eq_true hb.2
              obtain ⟨⟨h1, h2⟩, h3, hk⟩ := hk
              rw [objK_eq] at hk
              obtain ⟨v0, xs, u, hh, hw, hmax, hl, hc, he⟩ := row_inv (h.heap.ob _ _ hob)
              cases hs with
              | row _ _ hh2 hsl =>
                rw [hh] at hh2; cases hh2
                have hset : ∀ k, (st.setOb i none).obj k = if i = k then none else st.obj k := fun k => obj_cons st.fr st.ob st.no _ _ _ _
                refine append_ret (st1 := st.setOb i none) h hTb hnt hd ht hie (src_of h.heap hsrc hx h3) hw hl hc he h3 h1 h2 rfl rfl rfl (fun k o ho => ?_) (fun b hb => ?_) hk hn ty
                · rw [hset] at ho
                  by_cases hik : i = k
                  · rw [if_pos hik] at ho; cases ho
                  · rw [if_neg hik] at ho; exact ho
                · refine ⟨i, _, by simp only [Bool.and_eq_true] at hoth; rw [hcm]; exact Nat.le_of_ble_eq_true hoth.2, hob, by rw [hset, if_pos rfl], ?_⟩
                  simp only [Env.blk, hh, Option.bind_some]
                  rw [blockOf_ownBlock _ hsl]; exact hb
            · exact hk.elim
          · exact hk.elim
        · obtain ⟨⟨h1, h2⟩, h3, hk⟩ := hk
          obtain rfl := hs.val_inv
          rw [objK_eq] at hk
          have hk' : putK (st.alloc (.row e (sz + 1) (0 + m) (joinF 0 (fun _ => []) g))) d (.row st.no) K := by
            rw [Nat.zero_add]
            have : joinF 0 (fun _ => []) g = g := by funext k; simp [joinF]
            rw [this]; exact hk
          exact append_ret (st1 := st) (n := 0) (f := fun _ => []) (u := fun _ _ => undef) h hTb hnt hd ht hie (src_of h.heap hsrc hx h3) (World.ownsRow_nil w 0 e (sz + 1)) (by intro j hj; omega) (by intro j k s hj; omega) (by intro j k s hj; omega) h3 (by omega) (by simpa using h2) rfl rfl rfl (fun _ _ h => h)
            (fun b hb => by simp [Value.ownBlock] at hb) hk' hn ty
        · rename_i n f
          obtain ⟨⟨h0, h1, h2⟩, h3, h4, hk⟩ := hk
          cases hs with
          | full ad _ _ hp =>
            exact append_full h hTb hnt hd ht hie (src_of h.heap hsrc hx h4) (src_of h.heap (x := .p false (.seq n f)) (e := e) (j := none) rfl (.p false _ _ hp) h3) h3 h4 h0 h1 h2 hk hn ty
        · exact hk.elim
      · exact appendIn_sound h hTb hnt hro hd ht hie hs hx hk hn ty
    · exact hk.elim
  · exact hk.elim

end Go.Sx

namespace Go.Sx
open Go

/- refinement of data -/
theorem ple0_rep {μ : Nat → Option (Array Value)} {v : Value} {d d' : PV} (h : ple0 d d') (hv : PRep μ v d) : PRep μ v d' := by
  unfold ple0 at h
  split at h
  · obtain rfl := hv.val_inv; subst h; exact .nil _
  · split at h
    · rename_i hk; obtain rfl := sameKind_eq hk; subst h; exact hv
    · exact h.elim
  · subst h; exact hv
  · subst h; exact hv
  · subst h; exact hv
  · obtain ⟨rfl, h⟩ := h
    cases hv with
    | nil => exact .nil _
    | emp a c => exact .emp a c _
    | seq b o _ cap sz _ cs u hm hcap hmax hl hc he =>
      exact .seq b o _ cap sz _ cs u hm hcap hmax (fun j hj => by rw [← h j hj]; exact hl j hj) (fun j k s hj hs => hc j k s hj (by rw [h j hj]; exact hs)) (fun j k s hj hs => he j k s hj (by rw [h j hj]; exact hs))
  · obtain ⟨rfl, rfl⟩ := h; exact hv
  · obtain ⟨rfl, rfl⟩ := h; exact hv
  · exact h.elim

theorem ples0_get : ∀ (xs ys : List PV), ples0 xs ys → xs.length = ys.length ∧ ∀ (k : Nat) (x y : PV), xs[k]? = some x → ys[k]? = some y → ple0 x y
  | [], [], _ => by simp
  | [], _ :: _, h => by simp [ples0] at h
  | _ :: _, [], h => by simp [ples0] at h
  | [x], [y], h => by
    refine ⟨rfl, fun k a b ha hb => ?_⟩
    cases k with
    | zero => simp at ha hb; subst ha; subst hb; exact h
    | succ k => simp at ha
  | [x], y :: z :: ys, h => by simp [ples0] at h
  | x :: z :: xs, [y], h => by simp [ples0] at h
  | x :: x2 :: xs, y :: y2 :: ys, h => by
    simp only [ples0] at h
    obtain ⟨h1, h2⟩ := ples0_get (x2 :: xs) (y2 :: ys) h.2
    refine ⟨by simpa using h1, fun k a b ha hb => ?_⟩
    cases k with
    | zero => simp at ha hb; subst ha; subst hb; exact h.1
    | succ k => simp only [List.getElem?_cons_succ] at ha hb; exact h2 k a b ha hb

theorem ple1_rep {μ : Nat → Option (Array Value)} {v : Value} {d d' : PV} (h : ple1 d d') (hv : PRep μ v d) : PRep μ v d' := by
  unfold ple1 at h
  split at h
  · rename_i xs ys
    obtain ⟨h1, h2⟩ := ples0_get xs ys h
    cases hv with
    | agg vs _ hl hone he =>
      refine .agg vs _ (by omega) hone fun k u s hu hs => ?_
      have hk : k < xs.length := by rw [← hl]; exact (Array.getElem?_eq_some_iff.1 hu).1
      exact ple0_rep (h2 k _ s (List.getElem?_eq_getElem hk) hs) (he k u _ hu (List.getElem?_eq_getElem hk))
  · exact ple0_rep h hv

theorem ples1_get : ∀ (xs ys : List PV), ples1 xs ys → xs.length = ys.length ∧ ∀ (k : Nat) (x y : PV), xs[k]? = some x → ys[k]? = some y → ple1 x y
  | [], [], _ => by simp
  | [], _ :: _, h => by simp [ples1] at h
  | _ :: _, [], h => by simp [ples1] at h
  | [x], [y], h => by
    refine ⟨rfl, fun k a b ha hb => ?_⟩
    cases k with
    | zero => simp at ha hb; subst ha; subst hb; exact h
    | succ k => simp at ha
  | [x], y :: z :: ys, h => by simp [ples1] at h
  | x :: z :: xs, [y], h => by simp [ples1] at h
  | x :: x2 :: xs, y :: y2 :: ys, h => by
    simp only [ples1] at h
    obtain ⟨h1, h2⟩ := ples1_get (x2 :: xs) (y2 :: ys) h.2
    refine ⟨by simpa using h1, fun k a b ha hb => ?_⟩
    cases k with
    | zero => simp at ha hb; subst ha; subst hb; exact h.1
    | succ k => simp only [List.getElem?_cons_succ] at ha hb; exact h2 k a b ha hb

theorem ple_rep {μ : Nat → Option (Array Value)} {v : Value} {d d' : PV} (h : ple d d') (hv : PRep μ v d) : PRep μ v d' := by
  unfold ple at h
  split at h
  · rename_i xs ys
    obtain ⟨h1, h2⟩ := ples1_get xs ys h
    cases hv with
    | tup vs _ hl he =>
      refine .tup vs _ (by omega) fun k u s hu hs => ?_
      have hk : k < xs.length := by rw [← hl]; exact (Array.getElem?_eq_some_iff.1 hu).1
      exact ple1_rep (h2 k _ s (List.getElem?_eq_getElem hk) hs) (he k u _ hu (List.getElem?_eq_getElem hk))
  · exact ple1_rep h hv

/- lists of numbers -/
theorem inL_iff (i : Nat) : ∀ (l : List Nat), inL i l = true ↔ i ∈ l
  | [] => by simp [inL]
  | j :: l => by
    simp only [inL, Bool.or_eq_true, inL_iff i l, List.mem_cons]
    constructor
    · rintro (h | h)
      · exact .inl (Nat.eq_of_beq_eq_true h)
      · exact .inr h
    · rintro (rfl | h)
      · exact .inl (Nat.beq_refl _)
      · exact .inr h
theorem distinct_inj : ∀ (l : List Nat), distinct l = true → ∀ (k k' i : Nat), l[k]? = some i → l[k']? = some i → k = k'
  | [], _, k, k', i, h, _ => by simp at h
  | j :: l, hd, k, k', i, h, h' => by
    simp only [distinct, Bool.and_eq_true, Bool.not_eq_true'] at hd
    have hj : j ∉ l := fun hm => by have := (inL_iff j l).2 hm; rw [hd.1] at this; cases this
    cases k with
    | zero =>
      simp at h; subst h
      cases k' with
      | zero => rfl
      | succ k' => simp at h'; exact absurd (List.mem_of_getElem? h') hj
    | succ k =>
      simp at h
      cases k' with
      | zero => simp at h'; subst h'; exact absurd (List.mem_of_getElem? h) hj
      | succ k' => simp at h'; rw [distinct_inj l hd.2 k k' i h h']
theorem allGe_get {ro : Nat} : ∀ (l : List Nat), allGe ro l = true → ∀ (k i : Nat), l[k]? = some i → ro ≤ i
  | [], _, k, i, h => by simp at h
  | j :: l, hd, k, i, h => by
    simp only [allGe, Bool.and_eq_true] at hd
    cases k with
    | zero => simp at h; subst h; exact Nat.le_of_ble_eq_true hd.1
    | succ k => simp at h; exact allGe_get l hd.2 k i h

theorem enumOb_look : ∀ (l : List Ob) (i k : Nat), look (enumOb i l) k = if i ≤ k then (l[k - i]?).map some else none
  | [], i, k => by simp [enumOb, look]
  | o :: l, i, k => by
    simp only [enumOb, look_cons, enumOb_look l (i + 1) k]
    by_cases h : i = k
    · subst h; simp
    · rw [if_neg h]
      by_cases h2 : i ≤ k
      · rw [if_pos h2, if_pos (by omega), show k - i = (k - (i + 1)) + 1 by omega]; simp
      · rw [if_neg h2, if_neg (by omega)]
theorem stOf_obj (l : List Ob) (k : Nat) : (stOf l).obj k = l[k]? := by
  unfold stOf St.obj
  simp only [enumOb_look, Nat.zero_le, if_true, Nat.sub_zero]
  cases l[k]? <;> rfl

theorem putObs_look (all : List Nat) : ∀ (js : List Nat) (os : List Ob) (l : List (Nat × Option Ob)), distinct js = true → js.length = os.length → ∀ j,
    (∀ p : Nat, js[p]? = some j → look (putObs all js os l) j = (os[p]?).map fun o => some (renOb all o)) ∧ (j ∉ js → look (putObs all js os l) j = look l j)
  | [], [], l, _, _, j => by simp [putObs]
  | [], _ :: _, l, _, h, j => by simp at h
  | _ :: _, [], l, _, h, j => by simp at h
  | i :: js, o :: os, l, hd, hl, j => by
    simp only [distinct, Bool.and_eq_true, Bool.not_eq_true'] at hd
    have hi : i ∉ js := fun hm => by have := (inL_iff i js).2 hm; rw [hd.1] at this; cases this
    obtain ⟨h1, h2⟩ := putObs_look all js os ((i, some (renOb all o)) :: l) hd.2 (by simpa using hl) j
    simp only [putObs]
    refine ⟨fun p hp => ?_, fun hj => ?_⟩
    · cases p with
      | zero =>
        simp at hp; subst hp
        rw [h2 hi, look_cons, if_pos rfl]
        rfl
      | succ p => simp at hp ⊢; rw [h1 p hp]
    · simp only [List.mem_cons, not_or] at hj
      rw [h2 hj.2, look_cons, if_neg (fun e => hj.1 e.symm)]

theorem argMs0_get (st : St) (js : List Nat) : ∀ (ss cs : List SV), argMs0 st js ss cs → ss.length = cs.length ∧ ∀ (k : Nat) (s c : SV), ss[k]? = some s → cs[k]? = some c → argM0 st js s c
  | [], [], _ => by simp
  | [], _ :: _, h => by simp [argMs0] at h
  | _ :: _, [], h => by simp [argMs0] at h
  | [x], [y], h => by
    refine ⟨rfl, fun k a b ha hb => ?_⟩
    cases k with
    | zero => simp at ha hb; subst ha; subst hb; exact h
    | succ k => simp at ha
  | [x], y :: z :: ys, h => by simp [argMs0] at h
  | x :: z :: xs, [y], h => by simp [argMs0] at h
  | x :: x2 :: xs, y :: y2 :: ys, h => by
    simp only [argMs0] at h
    obtain ⟨h1, h2⟩ := argMs0_get st js (x2 :: xs) (y2 :: ys) h.2
    refine ⟨by simpa using h1, fun k a b ha hb => ?_⟩
    cases k with
    | zero => simp at ha hb; subst ha; subst hb; exact h.1
    | succ k => simp only [List.getElem?_cons_succ] at ha hb; exact h2 k a b ha hb
theorem argMs_get (st : St) (js : List Nat) : ∀ (ss cs : List SV), argMs st js ss cs → ss.length = cs.length ∧ ∀ (k : Nat) (s c : SV), ss[k]? = some s → cs[k]? = some c → argM st js s c
  | [], [], _ => by simp
  | [], _ :: _, h => by simp [argMs] at h
  | _ :: _, [], h => by simp [argMs] at h
  | [x], [y], h => by
    refine ⟨rfl, fun k a b ha hb => ?_⟩
    cases k with
    | zero => simp at ha hb; subst ha; subst hb; exact h
    | succ k => simp at ha
  | [x], y :: z :: ys, h => by simp [argMs] at h
  | x :: z :: xs, [y], h => by simp [argMs] at h
  | x :: x2 :: xs, y :: y2 :: ys, h => by
    simp only [argMs] at h
    obtain ⟨h1, h2⟩ := argMs_get st js (x2 :: xs) (y2 :: ys) h.2
    refine ⟨by simpa using h1, fun k a b ha hb => ?_⟩
    cases k with
    | zero => simp at ha hb; subst ha; subst hb; exact h.1
    | succ k => simp only [List.getElem?_cons_succ] at ha hb; exact h2 k a b ha hb
theorem obsM_get (st : St) (all : List Nat) : ∀ (js : List Nat) (os : List Ob), obsM st all js os → js.length = os.length ∧ ∀ (k j : Nat) (o : Ob), js[k]? = some j → os[k]? = some o → obM st all j o
  | [], [], _ => by simp
  | [], _ :: _, h => by simp [obsM] at h
  | _ :: _, [], h => by simp [obsM] at h
  | [x], [y], h => by
    refine ⟨rfl, fun k a b ha hb => ?_⟩
    cases k with
    | zero => simp at ha hb; subst ha; subst hb; exact h
    | succ k => simp at ha
  | [x], y :: z :: ys, h => by simp [obsM] at h
  | x :: z :: xs, [y], h => by simp [obsM] at h
  | x :: x2 :: xs, y :: y2 :: ys, h => by
    simp only [obsM] at h
    obtain ⟨h1, h2⟩ := obsM_get st all (x2 :: xs) (y2 :: ys) h.2
    refine ⟨by simpa using h1, fun k a b ha hb => ?_⟩
    cases k with
    | zero => simp at ha hb; subst ha; subst hb; exact h.1
    | succ k => simp only [List.getElem?_cons_succ] at ha hb; exact h2 k a b ha hb

/-- the callee's view -/
noncomputable def calleeEnv (E : Env) (st : St) (w : World) (js : List Nat) (lend : Bool) (os : List Ob) (ro : Nat) : Env :=
  { hd := fun k => (js[k]?).bind E.hd
    mem := fun b => match E.mem b with
      | some cs => some cs
      | none => open Classical in if lend = true ∧ ∃ j o, j ∉ js ∧ st.obj j = some o ∧ E.blk j = some b then (match w.heap[b]? with | some (.cells cs _ _) => some cs | _ => none) else none
    base := w.heap.size, ws := w, I := borOf (fun k => (js[k]?).bind E.hd) os ro, k := none }

theorem calleeEnv_mem {E : Env} {st : St} {w : World} {js : List Nat} {lend : Bool} {os : List Ob} {ro b : Nat} {cs : Array Value} (h : E.mem b = some cs) : (calleeEnv E st w js lend os ro).mem b = some cs := by simp [calleeEnv, h]
theorem calleeEnv_nolend {E : Env} {st : St} {w : World} {js : List Nat} {os : List Ob} {ro b : Nat} {cs : Array Value} (h : (calleeEnv E st w js false os ro).mem b = some cs) : E.mem b = some cs := by
  simp only [calleeEnv] at h
  cases hm : E.mem b with
  | some c => rw [hm] at h; exact h
  | none => rw [hm] at h; simp at h

theorem argM0_rep {C : Ctx} {E : Env} {st : St} {w : World} (h : HRep C E st w) {js : List Nat} {lend : Bool} {os : List Ob} {ro : Nat} {s c : SV} (hm : argM0 st js s c) (hlend : (∃ i b d, s = .row i ∧ c = .p b d) → lend = true) {v : Value} (hv : SRep E v s) :
    SRep (calleeEnv E st w js lend os ro) v c := by
  unfold argM0 at hm
  split at hm
  · split at hm
    · obtain ⟨h1, rfl⟩ := hm
      rw [nth_eq] at h1
      obtain ⟨b, hb, rfl⟩ := own_inv hv
      exact .own _ _ b (by simp [calleeEnv, h1, hb])
    · exact hm.elim
  · split at hm
    · rw [nth_eq] at hm
      cases hv with | row _ _ hh hs => exact .row _ _ (by simp [calleeEnv, hm, hh]) hs
    · exact hm.elim
  · split at hm
    · cases hv with
      | p _ _ _ hp => exact .p _ _ _ (ple_rep hm (hp.mono fun b cs hb => calleeEnv_mem (E.m_false _ _ _ hb)))
    · rename_i i
      split at hm
      · rename_i T sz n f hin hob
        refine .p _ _ _ (ple_rep hm ?_)
        have hl := hlend ⟨_, _, _, rfl, rfl⟩
        obtain ⟨v0, xs, u, hh, hw, hmax, hlen, hc, he⟩ := row_inv (h.ob _ _ hob)
        cases hv with
        | row _ _ hh2 hsl =>
          rw [hh] at hh2; cases hh2
          rcases hw.2 with ⟨rfl, rfl⟩ | ⟨g, cap, cur, rfl, _, hg, hnc, hcm, hcs, htake⟩
          · exact .nil _
          · have hnin : i ∉ js := fun hi => by have := (inL_iff i js).2 hi; rw [hin] at this; cases this
            have hblk : E.blk i = some g := by simp [Env.blk, hh, blockOf]
            have hnone := (h.own i _ g hob hblk).1
            refine .seq g 0 n cap sz f cur u ?_ hnc hmax hlen (fun j k s hj hs => ?_) (fun j k s hj hs => (he j k s hj hs).mono fun b cs hb => calleeEnv_mem hb)
            · show (calleeEnv E st w js lend os ro).mem g = some cur
              simp only [calleeEnv, hnone]
              rw [if_pos ⟨hl, i, _, hnin, hob, hblk⟩, hg]
            · obtain ⟨c1, c2⟩ := hc j k s hj hs
              refine ⟨?_, c2⟩
              rw [Nat.zero_add, ← Array.getElem?_toList]
              rw [← htake, List.getElem?_take] at c1
              split at c1
              · exact c1
              · cases c1
      · exact hm.elim
    · exact hm.elim
  · exact .any _
  · exact hm.elim

theorem lends0_row : ∀ (l m : List SV) (k i : Nat) (b : Bool) (d : PV), l[k]? = some (.row i) → m[k]? = some (.p b d) → lends0 l m = true
  | [], _, k, i, b, d, h, _ => by simp at h
  | s :: l, [], k, i, b, d, _, h => by simp at h
  | s :: l, c :: m, 0, i, b, d, h, h' => by
    simp at h h'; subst h; subst h'; rfl
  | s :: l, c :: m, k + 1, i, b, d, h, h' => by
    simp at h h'
    have := lends0_row l m k i b d h h'
    cases s <;> cases c <;> simp [lends0, this]
theorem lends_row : ∀ (l m : List SV) (k : Nat), (∀ (i : Nat) (b : Bool) (d : PV), l[k]? = some (.row i) → m[k]? = some (.p b d) → lends l m = true) ∧
    (∀ f l' f' m', l[k]? = some (.fn f l') → m[k]? = some (.fn f' m') → lends0 l' m' = true → lends l m = true)
  | [], _, k => by simp
  | s :: l, [], k => by simp
  | s :: l, c :: m, 0 => by
    refine ⟨fun i b d h h' => ?_, fun f l' f' m' h h' hl => ?_⟩
    · simp at h h'; subst h; subst h'; rfl
    · simp at h h'; subst h; subst h'; simp [lends, hl]
  | s :: l, c :: m, k + 1 => by
    obtain ⟨h1, h2⟩ := lends_row l m k
    have up : lends l m = true → lends (s :: l) (c :: m) = true := by
      intro h
      cases s <;> cases c <;> simp [lends, h]
    exact ⟨fun i b d h h' => up (h1 i b d (by simpa using h) (by simpa using h')), fun f l' f' m' h h' hl => up (h2 f l' f' m' (by simpa using h) (by simpa using h') hl)⟩
theorem obsLend_get (st : St) : ∀ (js : List Nat) (os : List Ob) (k j : Nat) (o : Ob), js[k]? = some j → os[k]? = some o → obLends st j o = true → obsLend st js os = true
  | [], _, k, j, o, h, _, _ => by simp at h
  | _ :: _, [], k, j, o, _, h, _ => by simp at h
  | i :: js, p :: os, 0, j, o, h, h', hl => by simp at h h'; subst h; subst h'; simp [obsLend, hl]
  | i :: js, p :: os, k + 1, j, o, h, h', hl => by
    have := obsLend_get st js os k j o (by simpa using h) (by simpa using h') hl
    simp [obsLend, this]

theorem argM_rep {C : Ctx} {E : Env} {st : St} {w : World} (h : HRep C E st w) {js : List Nat} {lend : Bool} {os : List Ob} {ro : Nat} {s c : SV} (hm : argM st js s c) (hlend : (∃ i b d, s = .row i ∧ c = .p b d) → lend = true)
    (hlend2 : ∀ f l f' m, s = .fn f l → c = .fn f' m → lends0 l m = true → lend = true) {v : Value} (hv : SRep E v s) : SRep (calleeEnv E st w js lend os ro) v c := by
  unfold argM at hm
  split at hm
  · split at hm
    · rename_i f m _ f' l
      obtain ⟨rfl, hm⟩ := hm
      obtain ⟨h1, h2⟩ := argMs0_get st js l m hm
      cases hv with
      | fn _ vs _ hl he =>
        refine .fn _ vs _ (by omega) fun k u c hu hc => ?_
        have hk : k < l.length := by rw [← hl]; exact (Array.getElem?_eq_some_iff.1 hu).1
        have hs : l[k]? = some l[k] := List.getElem?_eq_getElem hk
        exact argM0_rep h (h2 k _ c hs hc) (fun ⟨i, b, d, e1, e2⟩ => hlend2 _ _ _ _ rfl rfl (lends0_row l m k i b d (by rw [hs, e1]) (by rw [hc, e2]))) (he k u _ hu hs)
    · exact hm.elim
  · exact argM0_rep h hm hlend hv

theorem post_get (S : Spec) (a : S.A) (k : Nat) : (S.post a)[k]? = if k < min S.ro (S.objs a).length then (S.objs a)[k]? else (S.objs' a)[k - min S.ro (S.objs a).length]? := by
  unfold Spec.post
  by_cases hk : k < min S.ro (S.objs a).length
  · rw [if_pos hk, List.getElem?_append_left (by simpa using hk), List.getElem?_take, if_pos (by omega)]
  · rw [if_neg hk, List.getElem?_append_right (by simp only [List.length_take]; omega), List.length_take]

theorem callee_heap {C : Ctx} {E : Env} {st : St} {w : World} (h : HRep C E st w) {js : List Nat} (hd : distinct js = true) {lend : Bool} {os : List Ob} {ro : Nat} (hm : obsM st js js os)
    (hlend : obsLend st js os = true → lend = true) : HRep (ctxOf w (calleeEnv E st w js lend os ro) os ro) (calleeEnv E st w js lend os ro) (stOf os) w := by
  obtain ⟨hlen, hget⟩ := obsM_get st js js os hm
  have hblk : ∀ (k j : Nat), js[k]? = some j → (calleeEnv E st w js lend os ro).blk k = E.blk j := fun k j hj => by simp [Env.blk, calleeEnv, hj]
  have hobj : ∀ (k j : Nat) (o : Ob), js[k]? = some j → os[k]? = some o → ∃ o', st.obj j = some o' := by
    intro k j o hj ho
    have := hget k j o hj ho
    unfold obM at this
    cases hst : st.obj j with
    | some o' => exact ⟨o', rfl⟩
    | none => rw [hst] at this; split at this <;> exact this.elim
  have hjs : ∀ (k : Nat) (o : Ob), os[k]? = some o → ∃ j, js[k]? = some j := fun k o ho => ⟨_, List.getElem?_eq_getElem (by rw [hlen]; exact (List.getElem?_eq_some_iff.1 ho).1)⟩
  have hisz : ∀ b, (calleeEnv E st w js lend os ro).I b → b < w.heap.size := by
    rintro b ⟨k, o, _, ho, hb⟩
    obtain ⟨j, hj⟩ := hjs k o ho
    obtain ⟨p, hp⟩ := hobj k j o hj ho
    exact (h.ob j p hp).blk_lt (by have := hblk k j hj; unfold Env.blk at this ⊢; rw [← this]; exact hb)
  refine ⟨fun k o ho => ?_, fun k k' o o' b ho ho' hb hb' => ?_, fun k o b ho hb => ?_, fun b cs hb => ?_, fun _ _ h => h, fun _ _ h => .inl h, fun k hk => ?_, rfl, ⟨rfl, rfl, rfl, Nat.le_refl _, Nat.le_refl _, ⟨rfl, rfl, rfl⟩, hisz, fun _ _ _ => rfl, rfl, rfl, rfl⟩, fun _ _ => rfl, Nat.le_refl _, Nat.le_refl _, rfl⟩
  · rw [stOf_obj] at ho
    obtain ⟨j, hj⟩ := hjs k o ho
    have hM := hget k j o hj ho
    unfold obM at hM
    split at hM
    · rename_i T cs
      split at hM
      · rename_i T' cs' hob
        obtain ⟨rfl, hM⟩ := hM
        obtain ⟨g1, g2⟩ := argMs_get st js cs' cs hM
        obtain ⟨b, vs, hh, hw, hA⟩ := (h.ob j _ hob).cells_inv
        refine .cells b _ vs cs (by simp [calleeEnv, hj, hh]) hw (by rw [hA.size]; exact g1) hA.one fun q u c hu hc => ?_
        have hq : q < cs'.length := by rw [← hA.size]; exact (Array.getElem?_eq_some_iff.1 hu).1
        have hs : cs'[q]? = some cs'[q] := List.getElem?_eq_getElem hq
        have hle : lends cs' cs = true → lend = true := fun hl => hlend (obsLend_get st js os k j _ hj ho (by simp only [obLends, hob]; exact hl))
        exact argM_rep h (g2 q _ c hs hc) (fun ⟨i, b, d, e1, e2⟩ => hle ((lends_row cs' cs q).1 i b d (by rw [hs, e1]) (by rw [hc, e2]))) (fun f l f' m e1 e2 hl => hle ((lends_row cs' cs q).2 f l f' m (by rw [hs, e1]) (by rw [hc, e2]) hl)) (hA.rep q u _ hu hs)
      · exact hM.elim
    · rename_i T sz n f
      split at hM
      · rename_i T' sz' n' f' hob
        obtain ⟨rfl, rfl, rfl, hM⟩ := hM
        obtain ⟨v0, xs, u, hh, hw, hmax, hl, hc, he⟩ := row_inv (h.ob _ _ hob)
        exact .row _ _ _ f v0 xs u (by simp [calleeEnv, hj, hh]) hw hmax (fun q hq => by rw [← hM q hq]; exact hl q hq) (fun q r s hq hs => hc q r s hq (by rw [hM q hq]; exact hs)) (fun q r s hq hs => (he q r s hq (by rw [hM q hq]; exact hs)).mono fun b cs hb => calleeEnv_mem hb)
      · exact hM.elim
  · rw [stOf_obj] at ho ho'
    obtain ⟨j, hj⟩ := hjs k o ho
    obtain ⟨j', hj'⟩ := hjs k' o' ho'
    obtain ⟨p, hp⟩ := hobj k j o hj ho
    obtain ⟨p', hp'⟩ := hobj k' j' o' hj' ho'
    rw [hblk k j hj] at hb
    rw [hblk k' j' hj'] at hb'
    have := h.sep j j' p p' b hp hp' hb hb'
    subst this
    exact distinct_inj js hd k k' j hj hj'
  · rw [stOf_obj] at ho
    obtain ⟨j, hj⟩ := hjs k o ho
    obtain ⟨p, hp⟩ := hobj k j o hj ho
    have hb2 := hb
    rw [hblk k j hj] at hb2
    refine ⟨?_, ?_, ?_⟩
    · have h1 := (h.own j p b hp hb2).1
      simp only [calleeEnv, h1]
      rw [if_neg]
      rintro ⟨_, j', p', hnin, hp', hb3⟩
      have := h.sep j j' p p' b hp hp' hb2 hb3
      subst this
      exact hnin (List.mem_of_getElem? hj)
    · by_cases hr : ro ≤ k
      · exact .inr ⟨(List.getElem?_eq_some_iff.1 ho).1, .inl ⟨k, o, hr, ho, hb⟩⟩
      · exact .inr ⟨(List.getElem?_eq_some_iff.1 ho).1, .inr (by show k < ro; omega)⟩
    · by_cases hr : ro ≤ k
      · exact .inl (.inr ⟨k, o, hr, ho, hb⟩)
      · exact .inr ⟨(List.getElem?_eq_some_iff.1 ho).1, by show k < ro; omega⟩
  · simp only [calleeEnv] at hb
    cases hm : E.mem b with
    | some c => rw [hm] at hb; cases hb; exact h.mem b _ hm
    | none =>
      rw [hm] at hb
      simp only at hb
      split at hb
      · split at hb
        · rename_i c T fr hw
          cases hb; exact ⟨T, fr, hw⟩
        · cases hb
      · cases hb
  · simp only [calleeEnv]
    rw [List.getElem?_eq_none (by rw [hlen]; exact hk)]; rfl

/-- the caller's view behind the call -/
def afterEnv (E E' : Env) (w : World) : Env :=
  { hd := E.hd
    mem := fun b => match E.mem b with
      | some cs => some cs
      | none => if w.heap.size ≤ b then E'.mem b else none
    base := E.base, ws := E.ws, I := E.I, k := E.k }

theorem distinct_drop : ∀ (js : List Nat), distinct js = true → ∀ r, distinct (js.drop r) = true
  | [], _, r => by simp [distinct]
  | i :: js, hd, 0 => hd
  | i :: js, hd, r + 1 => by
    simp only [distinct, Bool.and_eq_true] at hd
    simpa using distinct_drop js hd.2 r

theorem renSs_get (js : List Nat) : ∀ (cs : List SV) (k : Nat), (renSs js cs)[k]? = (cs[k]?).map (renS0 js)
  | [], k => by simp [renSs]
  | c :: cs, 0 => by simp [renSs]
  | c :: cs, k + 1 => by simp [renSs, renSs_get js cs k]
theorem renSs_length (js : List Nat) : ∀ (cs : List SV), (renSs js cs).length = cs.length
  | [] => rfl
  | c :: cs => by simp [renSs, renSs_length js cs]

theorem ren_rep {E E' : Env} {w : World} {js : List Nat} (hb : E.base ≤ w.heap.size) (hb' : E'.base = w.heap.size) (hhd : ∀ k, k < js.length → E'.hd k = (js[k]?).bind E.hd)
    (hmem : ∀ b cs, E'.mem b = some cs → (afterEnv E E' w).mem b = some cs) {v : Value} {s : SV} (h : SRep E' v s) : SRep (afterEnv E E' w) v (renS0 js s) := by
  cases h with
  | p fr v d hp =>
    refine .p fr v d (hp.mono fun b cs hm => ?_)
    cases fr with
    | false => exact hmem b cs hm
    | true =>
      simp only [Env.m] at hm ⊢
      split at hm
      · rename_i hle
        rw [if_pos (by show E.base ≤ b; omega)]
        exact hmem b cs hm
      · cases hm
  | el i sz j off b n cap hh => exact .any _
  | sub i sz lo n b n' cap c a hh hle hc ha => exact .any _
  | full a n f h => exact .any _
  | own i off b hh =>
    simp only [renS0, nth_eq]
    cases hj : js[i]? with
    | none => exact .any _
    | some j =>
      have hi : i < js.length := (List.getElem?_eq_some_iff.1 hj).1
      rw [hhd i hi, hj] at hh
      exact .own j off b hh
  | row i v hh hs =>
    simp only [renS0, nth_eq]
    cases hj : js[i]? with
    | none => exact .any _
    | some j =>
      have hi : i < js.length := (List.getElem?_eq_some_iff.1 hj).1
      rw [hhd i hi, hj] at hh
      exact .row j _ hh hs
  | agg => exact .any _
  | tup => exact .any _
  | fn => exact .any _
  | any => exact .any _

theorem after_heap {C : Ctx} {E : Env} {st : St} {w w' : World} (h : HRep C E st w) {js : List Nat} (hd : distinct js = true) {lend : Bool} {S : Spec} {a : S.A} (hm : obsM st js js (S.objs a))
    (hge : allGe C.ro (dropN S.ro js) = true) (hl' : (S.objs' a).length = (dropN S.ro js).length) (hlend : lend = true → S.fresh = true ∧ dropN S.ro js = [])
    {E' : Env} (h' : HRep (ctxOf w (calleeEnv E st w js lend (S.objs a) S.ro) (S.objs a) S.ro) E' (stOf (S.post a)) w') :
    HRep C (afterEnv E E' w) { st with ob := putObs js (dropN S.ro js) (S.objs' a) st.ob } w' ∧ E.Le (afterEnv E E' w) ∧
      ∀ v d, PRep (E'.m S.fresh) v d → PRep ((afterEnv E E' w).m S.fresh) v d := by
  obtain ⟨hlen, hget⟩ := obsM_get st js js _ hm
  rw [dropN_eq] at *
  have hobj : ∀ (k j : Nat) (o : Ob), js[k]? = some j → (S.objs a)[k]? = some o → ∃ o', st.obj j = some o' := by
    intro k j o hj ho
    have := hget k j o hj ho
    unfold obM at this
    cases hst : st.obj j with
    | some o' => exact ⟨o', rfl⟩
    | none => rw [hst] at this; split at this <;> exact this.elim
  have hob : ∀ (k j : Nat), js[k]? = some j → ∃ o o', (S.objs a)[k]? = some o ∧ st.obj j = some o' := by
    intro k j hj
    have hk : k < (S.objs a).length := by rw [← hlen]; exact (List.getElem?_eq_some_iff.1 hj).1
    obtain ⟨o', ho'⟩ := hobj k j _ hj (List.getElem?_eq_getElem hk)
    exact ⟨_, o', List.getElem?_eq_getElem hk, ho'⟩
  have hle : E.Le (afterEnv E E' w) := ⟨fun _ _ h => h, fun b cs hb => by simp [afterEnv, hb], rfl⟩
  obtain ⟨hk', hI', hws'⟩ : E'.k = none ∧ E'.I = borOf (calleeEnv E st w js lend (S.objs a) S.ro).hd (S.objs a) S.ro ∧ E'.ws = w := h'.fr.sync
  have hsize : w.heap.size ≤ w'.heap.size := by have := h'.fr.wsz; rw [hws'] at this; exact this
  have hb0 : E.base ≤ w.heap.size := by rw [h.base]; exact Nat.le_trans h.fr.bsz h.fr.wsz
  -- which old blocks may have turned
  have keep : ∀ b, b < w.heap.size → w'.heap[b]? = w.heap[b]? ∨ ∃ (p j : Nat) (o : Ob), (js.drop S.ro)[p]? = some j ∧ st.obj j = some o ∧ E.blk j = some b := by
    intro b hb
    by_cases hbor : (ctxOf w (calleeEnv E st w js lend (S.objs a) S.ro) (S.objs a) S.ro).bor b
    · obtain ⟨k, o, hk, ho, hbk⟩ := hbor
      have hkl : k < js.length := by rw [hlen]; exact (List.getElem?_eq_some_iff.1 ho).1
      have hj : js[k]? = some js[k] := List.getElem?_eq_getElem hkl
      obtain ⟨o1, o2, _, ho2⟩ := hob k _ hj
      refine .inr ⟨k - S.ro, js[k], o2, by rw [List.getElem?_drop, show S.ro + (k - S.ro) = k by omega]; exact hj, ho2, ?_⟩
      have : (calleeEnv E st w js lend (S.objs a) S.ro).blk k = E.blk js[k] := by simp [Env.blk, calleeEnv, hj]
      rw [← this]; exact hbk
    · have := h'.fr.block b (by rw [hws']; exact hb) (by rw [hI']; exact hbor)
      rw [hws'] at this
      exact .inl this
  have memeq : ∀ b cs, E.mem b = some cs → w'.heap[b]? = w.heap[b]? := by
    intro b cs hb
    rcases keep b (h.mem_lt hb) with h1 | ⟨p, j, o, _, h2, h3⟩
    · exact h1
    · rw [(h.own j o b h2 h3).1] at hb; cases hb
  -- the callee's memory, where nothing was lent
  have hmem : lend = false → ∀ b cs, E'.mem b = some cs → (afterEnv E E' w).mem b = some cs := by
    intro hl b cs hb
    subst hl
    simp only [afterEnv]
    rcases h'.memnew b cs hb with h1 | h1
    · have := calleeEnv_nolend (os := S.objs a) (ro := S.ro) h1; rw [this]
    · cases hm : E.mem b with
      | some c => have := h.mem_lt hm; have h2 : w.heap.size ≤ b := h1.1; omega
      | none => simp only; rw [if_pos (show w.heap.size ≤ b from h1.1)]; exact hb
  have hnew : ∀ b cs, E'.m true b = some cs → (afterEnv E E' w).m true b = some cs := by
    intro b cs hb
    have hbase : E'.base = w.heap.size := h'.base
    simp only [Env.m] at hb ⊢
    split at hb
    · rename_i hle
      rw [if_pos (by show E.base ≤ b; omega)]
      simp only [afterEnv]
      cases hm : E.mem b with
      | some c => have := h.mem_lt hm; omega
      | none => simp only; rw [if_pos (by omega)]; exact hb
    · cases hb
  have look' : ∀ j, ((∀ p : Nat, (js.drop S.ro)[p]? = some j → (St.obj { st with ob := putObs js (js.drop S.ro) (S.objs' a) st.ob } j) = ((S.objs' a)[p]?).map (renOb js)) ∧ (j ∉ js.drop S.ro → St.obj { st with ob := putObs js (js.drop S.ro) (S.objs' a) st.ob } j = st.obj j)) := by
    intro j
    have hdd : distinct (js.drop S.ro) = true := distinct_drop js hd _
    obtain ⟨h1, h2⟩ := putObs_look js (js.drop S.ro) (S.objs' a) st.ob hdd hl'.symm j
    refine ⟨fun p hp => ?_, fun hj => ?_⟩
    · unfold St.obj; simp only; rw [h1 p hp]
      cases (S.objs' a)[p]? <;> rfl
    · unfold St.obj; simp only; rw [h2 hj]
  -- what an object is now
  have cases' : ∀ j o, St.obj { st with ob := putObs js (js.drop S.ro) (S.objs' a) st.ob } j = some o →
      (st.obj j = some o ∧ j ∉ js.drop S.ro) ∨ ∃ (p : Nat) (o0 o1 : Ob), (js.drop S.ro)[p]? = some j ∧ (S.objs' a)[p]? = some o0 ∧ o = renOb js o0 ∧ st.obj j = some o1 := by
    intro j o ho
    by_cases hj : j ∈ js.drop S.ro
    · obtain ⟨p, hp⟩ := List.getElem?_of_mem hj
      rw [(look' j).1 p hp] at ho
      cases h0 : (S.objs' a)[p]? with
      | none => simp [h0] at ho
      | some o0 =>
        simp [h0] at ho
        have hp2 := hp
        rw [List.getElem?_drop] at hp2
        obtain ⟨_, o2, _, ho2⟩ := hob _ _ hp2
        exact .inr ⟨p, o0, o2, hp, h0, ho.symm, ho2⟩
    · exact .inl ⟨by rw [← (look' j).2 hj]; exact ho, hj⟩
  have was : ∀ j o, St.obj { st with ob := putObs js (js.drop S.ro) (S.objs' a) st.ob } j = some o → ∃ o', st.obj j = some o' := by
    intro j o ho
    rcases cases' j o ho with ⟨h1, _⟩ | ⟨p, o0, o1, _, _, _, h1⟩
    · exact ⟨o, h1⟩
    · exact ⟨o1, h1⟩
  refine ⟨⟨fun j o ho => ?_, fun i j o o' b ho ho' hb hb' => ?_, fun j o b ho hb => ?_, fun b cs hb => ?_, fun b cs hb => hle.mem _ _ (h.mem0 b cs hb), fun b cs hb => ?_, h.new, h.base, ?_, h.hd0, h.mno, h.mkh, h.kk⟩, hle, fun v d hp => ?_⟩
  · rcases cases' j o ho with ⟨h1, h2⟩ | ⟨p, o0, o1, hp, h0, rfl, h1⟩
    · refine ((h.ob j o h1).mono hle).world fun b hb => ?_
      have hb' : E.blk j = some b := hb
      rcases keep b ((h.ob j o h1).blk_lt hb') with h3 | ⟨q, i, o2, hq, h4, h5⟩
      · exact h3
      · have := h.sep j i o o2 b h1 h4 hb' h5
        subst this
        exact absurd (List.mem_of_getElem? hq) h2
    · have hlf : lend = false := by
        cases hlb : lend with
        | false => rfl
        | true => have := (hlend hlb).2; rw [this] at hp; simp at hp
      have hp2 := hp
      rw [List.getElem?_drop] at hp2
      have hk : S.ro + p < (S.objs a).length := by rw [← hlen]; exact (List.getElem?_eq_some_iff.1 hp2).1
      have hpost : (S.post a)[S.ro + p]? = some o0 := by
        rw [post_get, if_neg (by omega), show S.ro + p - min S.ro (S.objs a).length = p by omega]; exact h0
      have hrep := h'.ob (S.ro + p) o0 (by rw [stOf_obj]; exact hpost)
      have hhd : ∀ k, k < js.length → E'.hd k = (js[k]?).bind E.hd := fun k hk => h'.hd0 k (by show k < (S.objs a).length; omega)
      have hhk : E'.hd (S.ro + p) = E.hd j := by rw [hhd _ (by omega), hp2]; rfl
      cases hrep with
      | cells b T vs cs hh hw hl h1' he =>
        exact .cells b T vs _ (hhk.symm.trans hh) hw (by rw [renSs_length]; exact hl) h1' fun k u s hu hs => by
          rw [renSs_get] at hs
          cases hc : cs[k]? with
          | none => simp [hc] at hs
          | some c => simp [hc] at hs; subst hs; exact ren_rep hb0 h'.base hhd (hmem hlf) (he k u c hu hc)
      | row T sz n f v xs u hh hw hmax hl hc he =>
        exact .row T sz n f v xs u (hhk.symm.trans hh) hw hmax hl hc fun j k s hj hs => (he j k s hj hs).mono (hmem hlf)
  · obtain ⟨o1, h1⟩ := was i o ho
    obtain ⟨o2, h2⟩ := was j o' ho'
    exact h.sep i j o1 o2 b h1 h2 hb hb'
  · obtain ⟨o1, h1⟩ := was j o ho
    obtain ⟨g1, g2⟩ := h.own j o1 b h1 hb
    refine ⟨?_, g2⟩
    simp only [afterEnv, g1]
    rw [if_neg]
    have := (h.ob j o1 h1).blk_lt hb
    omega
  · simp only [afterEnv] at hb
    cases hm : E.mem b with
    | some c =>
      rw [hm] at hb; cases hb
      obtain ⟨T, fr, hw⟩ := h.mem b _ hm
      exact ⟨T, fr, by rw [memeq b _ hm]; exact hw⟩
    | none =>
      rw [hm] at hb
      simp only at hb
      split at hb
      · exact h'.mem b cs hb
      · cases hb
  · simp only [afterEnv] at hb
    cases hm : E.mem b with
    | some c => rw [hm] at hb; cases hb; exact h.memnew b _ hm
    | none =>
      rw [hm] at hb
      simp only at hb
      split at hb
      · right; have := h.fr.bsz; have := h.fr.wsz; exact ⟨by omega, .inl (by show E.ws.heap.size ≤ b; omega)⟩
      · cases hb
  · refine ⟨h'.fr.os.trans h.fr.os, h'.fr.tape.trans h.fr.tape, h'.fr.output.trans h.fr.output, h.fr.bsz, Nat.le_trans h.fr.wsz hsize, h.fr.wos, h.fr.isz, fun k hk hbor => ?_, h.fr.sync⟩
    have hkw : k < w.heap.size := Nat.lt_of_lt_of_le hk h.fr.wsz
    rcases keep k hkw with h1 | ⟨p, j, o, hp, h2, h3⟩
    · rw [h1]; exact h.fr.block k hk hbor
    · have hj := allGe_get _ hge p j hp
      rcases (h.own j o k h2 h3).2.2 with (h4 | h4) | h4
      · have hk2 : k < E.ws.heap.size := hk; omega
      · exact absurd h4 hbor
      · omega
  · cases hf : S.fresh with
    | true => rw [hf] at hp; exact hp.mono hnew
    | false =>
      rw [hf] at hp
      have hlf : lend = false := by
        cases hlb : lend with
        | false => rfl
        | true => have := (hlend hlb).1; rw [hf] at this; cases this
      exact hp.mono (hmem hlf)

theorem samev_get {E E' : Env} : ∀ (cs cs' : List SV) (vs vs' : List Value), samev cs cs' → vs.length = cs.length → vs'.length = cs'.length →
    (∀ (k : Nat) (u : Value) (s : SV), vs[k]? = some u → cs[k]? = some s → SRep E u s) → (∀ (k : Nat) (u : Value) (s : SV), vs'[k]? = some u → cs'[k]? = some s → SRep E' u s) → vs = vs'
  | [], [], [], [], _, _, _, _, _ => rfl
  | .p f (.val a) :: l, .p g (.val b) :: l', v :: vs, v' :: vs', h, h1, h2, h3, h4 => by
    obtain ⟨rfl, h⟩ := h
    have e1 := h3 0 v _ rfl rfl
    have e2 := h4 0 v' _ rfl rfl
    have e : v = v' := by cases e1 with | p _ _ _ h => cases h; cases e2 with | p _ _ _ h => cases h; rfl
    rw [e, samev_get l l' vs vs' h (by simpa using h1) (by simpa using h2) (fun k u s a b => h3 (k + 1) u s (by simpa using a) (by simpa using b)) (fun k u s a b => h4 (k + 1) u s (by simpa using a) (by simpa using b))]
theorem sameOs_get {st : St} : ∀ (js : List Nat) (os : List Ob), sameOs st js os → ∀ (k j : Nat), js[k]? = some j → ∃ o, os[k]? = some o ∧ sameO st j o
  | [], _, _, k, j, hk => by simp at hk
  | i :: js, [], h, _, _, _ => by simp [sameOs] at h
  | i :: js, o :: os, h, k, j, hk => by
    cases k with
    | zero => simp at hk; subst hk; exact ⟨o, rfl, h.1⟩
    | succ k => exact sameOs_get js os h.2 k j (by simpa using hk)
theorem sameO_block {E E' : Env} {st : St} {w w' : World} {j : Nat} {o o' : Ob} (h : sameO st j o) (hh : ∀ b, E.hd j = b → E'.hd j = b) (h1 : ∀ o, st.obj j = some o → ORep E w j o)
    (h2 : ORep E' w' j o') (h3 : ∀ T cs cs', o = .cells T cs → samev cs cs' → ∃ ds, o' = .cells T ds ∧ samev ds cs') {b : Nat} (hb : E.blk j = some b) : w'.heap[b]? = w.heap[b]? := by
  unfold sameO at h
  split at h
  · rename_i T cs
    split at h
    · rename_i T' cs' hst
      obtain ⟨rfl, hs⟩ := h
      obtain ⟨ds, rfl, hds⟩ := h3 T cs cs' rfl hs
      have r1 := h1 _ hst
      cases r1 with
      | cells b1 _ vs1 _ hh1 hw1 hl1 _ he1 =>
        cases h2 with
        | cells b2 _ vs2 _ hh2 hw2 hl2 _ he2 =>
          have e := hh _ hh1
          rw [hh2] at e; cases e
          have e2 : b1 = b := by simpa [Env.blk, hh1, blockOf] using hb
          subst e2
          have := samev_get ds cs' vs2.toList vs1.toList hds (by simpa using hl2) (by simpa using hl1) (fun k u s a b => he2 k u s (by simpa using a) b) (fun k u s a b => he1 k u s (by simpa using a) b)
          rw [hw1, hw2, Array.toList_inj.1 this]
    · exact h.elim
  · exact h.elim
theorem samev_ren (js : List Nat) : ∀ (cs cs' : List SV), samev cs cs' → samev (renSs js cs) cs'
  | [], [], _ => trivial
  | .p _ (.val _) :: l, .p _ (.val _) :: l', h => ⟨h.1, samev_ren js l l' h.2⟩

theorem callFunc_run {P : Program} {f : Nat} {fn : Func} (hf : P.funcs[f]? = some fn) (hb : fn.body.isSome = true) (hn : (fn.name == "runtime.NumGoroutine") = false) (args : Array Value) (w : World) : (callFunc f args).run P w = .ok (.enter f args) w := by
  have hb' : ¬ fn.body = none := by intro h; simp [h] at hb
  have hn' : ¬ fn.name = "runtime.NumGoroutine" := by simpa using hn
  simp [callFunc, hf, hn', hb']

theorem callK_sound {C : Ctx} {E : Env} {st : St} {a : Act} {w : World} (h : Models C E st a w) {X : Cfg} (hnt : C.nt = X.nt) (hro : C.ro = X.ro) {d : Option Nat} (hd : okDst X.nt d = true)
    {f : Nat} {args : List SV} {vs : Array Value} (hsz : vs.size = args.length) (hvs : ∀ (k : Nat) (u : Value) (s : SV), vs[k]? = some u → args[k]? = some s → SRep E u s) {K : St → Prop} {gr : Bool} (hgl : ∀ p ∈ X.gl, C.mem0 p.1 = some p.2) (hk : callK X gr f args d st K) {next : Act → World → Prop}
    (hn : ∀ st' E' a' w', K st' → Models C E' st' a' w' → (gr = true → Grow w w') → next a' w') :
    (∃ fn, X.P.funcs[f]? = some fn ∧ fn.body.isSome = true ∧ (fn.name == "runtime.NumGoroutine") = false) ∧ Calls X.P f vs w fun e w' => ∃ v, e = .returned v ∧ next (a.put d v) w' := by
  obtain ⟨S, ⟨hfn, hS⟩, a0, js, ⟨hdist, hge, hjl, hl', hgr, hlend, hgls⟩, hargs, hobs, hpre, hk⟩ := hk
  refine ⟨hfn, ?_⟩
  obtain ⟨lend, hlb⟩ : ∃ b, b = (lends args (S.args a0)).or (obsLend st js (S.objs a0)) := ⟨_, rfl⟩
  rw [← hlb] at hlend
  obtain ⟨hal, hag⟩ := argMs_get st js _ _ hargs
  have hheap := callee_heap h.heap hdist (lend := lend) (ro := S.ro) hobs (fun h1 => by rw [hlb, h1]; simp)
  have hA : ArgsRep (calleeEnv E st w js lend (S.objs a0) S.ro) vs (S.args a0) := by
    refine ⟨by omega, fun k u c hu hc => ?_⟩
    have hka : k < args.length := by rw [← hsz]; exact (Array.getElem?_eq_some_iff.1 hu).1
    have hs : args[k]? = some args[k] := List.getElem?_eq_getElem hka
    obtain ⟨l1, l2⟩ := lends_row args (S.args a0) k
    exact argM_rep h.heap (hag k _ c hs hc) (fun ⟨i, b, dd, e1, e2⟩ => by rw [hlb, l1 i b dd (by rw [hs, e1]) (by rw [hc, e2])]; rfl)
      (fun f l f' m e1 e2 e3 => by rw [hlb, l2 f l f' m (by rw [hs, e1]) (by rw [hc, e2]) e3]; rfl) (hvs k u _ hu hs)
  refine (hS a0 hpre _ vs w (fun p hp => calleeEnv_mem (h.heap.mem0 _ _ (hgl p (hgls.elim (fun e => by rw [e] at hp; cases hp) (fun e => e ▸ hp))))) hheap hA).mono fun e w' ⟨v, E', he, hv, hh⟩ => ⟨v, he, ?_⟩
  obtain ⟨g1, g2, g3⟩ := after_heap h.heap hdist hobs (by rw [hro]; exact hge) hl' hlend hh
  obtain ⟨_, hI', hws'⟩ : E'.k = none ∧ E'.I = borOf (calleeEnv E st w js lend (S.objs a0) S.ro).hd (S.objs a0) S.ro ∧ E'.ws = w := hh.fr.sync
  have hblock : ∀ b, b < w.heap.size → ¬ borOf (calleeEnv E st w js lend (S.objs a0) S.ro).hd (S.objs a0) S.ro b → w'.heap[b]? = w.heap[b]? := fun b hb hn => by
    have := hh.fr.block b (by rw [hws']; exact hb) (by rw [hI']; exact hn)
    rw [hws'] at this; exact this
  have hwsz : w.heap.size ≤ w'.heap.size := by have := hh.fr.wsz; rw [hws'] at this; exact this
  have hnc : KeepNC w w' := by
    intro D o ho hc
    have hD := (Array.getElem?_eq_some_iff.1 ho).1
    have := hblock D hD (by
      rintro ⟨k, o1, hk1, hk2, hk3⟩
      have hr := hheap.ob k o1 (by rw [stOf_obj]; exact hk2)
      cases hr with
      | cells b T vs cs hh2 hw2 _ _ _ =>
        simp [Env.blk, hh2, blockOf] at hk3; subst hk3; rw [hw2] at ho; cases ho; cases hc
      | row T sz n f v xs u hh2 hw2 _ _ _ _ =>
        rcases hw2.2 with ⟨rfl, _⟩ | ⟨g, cap, cur, rfl, _, hg, _⟩
        · simp [Env.blk, hh2, blockOf] at hk3
        · simp [Env.blk, hh2, blockOf] at hk3; subst hk3; rw [hg] at ho; cases ho; cases hc)
    rw [this]; exact ho
  refine putK_soundw (h.heapTo (st' := { st with ob := putObs js (dropN S.ro js) (S.objs' a0) st.ob }) g2 rfl g1 ⟨rfl, rfl⟩ hnc) hnt hd hk (.p _ _ _ (g3 v _ hv)) fun st' E2 a' w2 hk' h' hw => hn st' E2 a' w2 hk' h' fun hg => ?_
  subst hw
  obtain ⟨hol, _⟩ := obsM_get st js js _ hobs
  rw [dropN_eq] at hgr
  refine ⟨hwsz, fun b hb => ?_⟩
  by_cases hbor : borOf (calleeEnv E st w js lend (S.objs a0) S.ro).hd (S.objs a0) S.ro b
  · obtain ⟨k, o, hk1, hk2, hk3⟩ := hbor
    have h1 : k < js.length := by rw [hol]; exact (List.getElem?_eq_some_iff.1 hk2).1
    rcases hgr hg with hemp | hsame
    · have h2 : (js.drop S.ro).length = 0 := by rw [hemp]; rfl
      rw [List.length_drop] at h2
      omega
    · have hjk : js[k]? = some js[k] := List.getElem?_eq_getElem h1
      have hjd : (js.drop S.ro)[k - S.ro]? = some js[k] := by rw [List.getElem?_drop, show S.ro + (k - S.ro) = k by omega]; exact hjk
      obtain ⟨o1, ho1, hso⟩ := sameOs_get _ _ hsame _ _ hjd
      have hbl : E.blk js[k] = some b := by
        have e : (calleeEnv E st w js lend (S.objs a0) S.ro).hd k = E.hd js[k] := by simp [calleeEnv, hjk]
        rw [e] at hk3; exact hk3
      have hob : St.obj { st with ob := putObs js (dropN S.ro js) (S.objs' a0) st.ob } js[k] = some (renOb js o1) := by
        rw [dropN_eq] at hl' ⊢
        obtain ⟨q, _⟩ := putObs_look js (js.drop S.ro) (S.objs' a0) st.ob (distinct_drop js hdist _) hl'.symm js[k]
        unfold St.obj; simp only; rw [q _ hjd, ho1]; rfl
      refine sameO_block (E := E) (E' := afterEnv E E' w) (o' := renOb js o1) hso (fun _ e => e) (fun o e => h.heap.ob _ o e) (g1.ob _ _ hob) (fun T cs cs' e hs => ?_) hbl
      subst e; exact ⟨_, rfl, samev_ren js _ _ hs⟩
  · exact hblock b hb hbor

end Go.Sx

namespace Go.Sx
open Go

def MemAt (W : World) (b : Nat) (cs : Array Value) : Prop := ∃ T fr, W.heap[b]? = some (.cells cs T fr)
def MemOk (μ : Nat → Option (Array Value)) (W : World) : Prop := ∀ b cs, μ b = some cs → MemAt W b cs

/-- what a call of yield keeps of the iterator's -/
structure KeepsI (I : Nat → Prop) (μ : Nat → Option (Array Value)) (W W' : World) : Prop where
  os : W'.os = W.os
  tape : W'.tape = W.tape
  output : W'.output = W.output
  size : W.heap.size ≤ W'.heap.size
  own : ∀ b, I b → W'.heap[b]? = W.heap[b]?
  mem : ∀ b cs, μ b = some cs → MemAt W b cs → MemAt W' b cs
theorem KeepsI.refl (I : Nat → Prop) (μ : Nat → Option (Array Value)) (W : World) : KeepsI I μ W W := ⟨rfl, rfl, rfl, Nat.le_refl _, fun _ _ => rfl, fun _ _ _ h => h⟩
theorem KeepsI.trans {I : Nat → Prop} {μ : Nat → Option (Array Value)} {A B C : World} (h : KeepsI I μ A B) (k : KeepsI I μ B C) : KeepsI I μ A C :=
  ⟨k.os.trans h.os, k.tape.trans h.tape, k.output.trans h.output, Nat.le_trans h.size k.size, fun b hb => (k.own b hb).trans (h.own b hb), fun b cs hm ha => k.mem b cs hm (h.mem b cs hm ha)⟩
theorem KeepsI.putObj {I : Nat → Prop} {μ : Nat → Option (Array Value)} {W : World} {l : Nat} {o : Obj} (o' : Obj) (hl : W.heap[l]? = some o) (ho : o.isCells = false) (hI : ¬ I l) : KeepsI I μ W (W.putObj l o') :=
  ⟨rfl, rfl, rfl, by simp, fun b hb => World.putObj_heap_other (fun e => hI (e ▸ hb)), fun b cs _ ⟨T, fr, ha⟩ => ⟨T, fr, by
    rw [World.putObj_heap_other (fun e => by subst e; rw [hl] at ha; cases ha; cases ho)]; exact ha⟩⟩

/-- what the iterator leaves alone: all below B, and the cells that are not its own -/
def Stab (B : Nat) (K : (Nat → Prop) → World → Prop) : Prop := ∀ (I I' : Nat → Prop) (W W' : World), K I W → (∀ b, I b → I' b) → (∀ b, I' b → I b ∨ W.heap.size ≤ b) → (∀ b, I' b → b < W'.heap.size) →
  W'.os = W.os → W'.tape = W.tape → W'.output = W.output → W.heap.size ≤ W'.heap.size → (∀ b o, W.heap[b]? = some o → ¬ I b → (b < B ∨ o.isCells = true) → W'.heap[b]? = some o) → K I' W'
theorem Stab.mono {B B' : Nat} {K : (Nat → Prop) → World → Prop} (h : Stab B K) (hB : B ≤ B') : Stab B' K :=
  fun I I' W W' k h1 h2 h2' h3 h4 h5 h6 h7 => h I I' W W' k h1 h2 h2' h3 h4 h5 h6 fun b o hb hI hc => h7 b o hb hI (hc.imp (fun x => by omega) id)
theorem Stab.put {B : Nat} {K : (Nat → Prop) → World → Prop} (h : Stab B K) {I : Nat → Prop} {W : World} (hK : K I W) (hI : ∀ b, I b → b < W.heap.size) {l : Nat} {o : Obj} (o' : Obj) (hB : B ≤ l) (hl : W.heap[l]? = some o) (ho : o.isCells = false) : K I (W.putObj l o') :=
  h I I W _ hK (fun _ h => h) (fun _ h => .inl h) (fun b hb => by simpa using hI b hb) rfl rfl rfl (by simp) fun b o2 hb _ hc => by
    rw [World.putObj_heap_other]
    · exact hb
    · rintro rfl
      rw [hl] at hb; cases hb
      rcases hc with hc | hc
      · omega
      · rw [ho] at hc; cases hc

/-- all that is the iterator's -/
def StabJ (J : Option Nat → (Nat → Prop) → World → Prop) : Prop := ∀ (k : Option Nat) (I I' : Nat → Prop) (W W' : World), J k I W → (∀ b, I b → I' b) → (∀ b, I' b → I b ∨ W.heap.size ≤ b) → (∀ b, I' b → b < W'.heap.size) →
  W'.os = W.os → W'.tape = W.tape → W'.output = W.output → W.heap.size ≤ W'.heap.size → (∀ b, b < W.heap.size → ¬ I b → W'.heap[b]? = W.heap[b]?) → J k I' W'

/-- **The iterator's contract**: it hands the elements of xs to yield, in order, until yield says no. -/
def SeqRuns (P : Program) (g : Nat) (lb : Array Value) (μ : Nat → Option (Array Value)) (xs : List (Array Value)) : Prop :=
  ∀ (l : Nat) (J : Option Nat → (Nat → Prop) → World → Prop) (W : World), StabJ J →
    (∀ (k : Nat) (x : Array Value) (I : Nat → Prop) (W1 : World), xs[k]? = some x → J (some k) I W1 → YieldAt Fence.wide 9 P l x W1 fun e W' =>
      KeepsI I μ W1 W' ∧ ((e = .returned (.bool true) ∧ J (some (k + 1)) I W') ∨ (e = .returned (.bool false) ∧ J none I W'))) →
    J (some 0) (fun _ => False) W → MemOk μ W →
    CallsIn Fence.wide 9 P g (#[.func (.yield l) #[] #[]] ++ lb) W fun e W' => (∃ v, e = .returned v) ∧ ∃ I k, J k I W' ∧ (k = some xs.length ∨ k = none)

def roundEnd (μ : Nat → Option (Array Value)) (K : Nat → (Nat → Prop) → World → Prop) (Kx : Code → (Nat → Prop) → World → Prop) (k : Nat) (I : Nat → Prop) (W : World) : Exit → Act → World → Prop
  | .normal, _, W' => KeepsOthers W W' ∧ KeepsI I μ W W' ∧ K (k + 1) I W'
  | .ret, _, W' => KeepsOthers W W' ∧ KeepsI I μ W W' ∧ Kx .ret I W'
  | .exit id, _, W' => KeepsOthers W W' ∧ KeepsI I μ W W' ∧ Kx (.exit id) I W'
  | _, _, _ => False

theorem callsIn_wide_n {n m : Nat} {P : Program} {f : FuncId} {args : Array Value} {w : World} {R : Ending → World → Prop}
    (h : CallsIn Fence.wide n P f args w R) : CallsIn Fence.wide m P f args w R := callsIn_wide.2 (callsIn_wide.1 h)

theorem wp_range {P : Program} {g : Operand} {ps : Array Tmp} {assign body : Code} {Q : Exit → Act → World → Prop} {a : Act} {w : World}
    {gf : Nat} {lb : Array Value} (hg : a.eval g = .func (.func gf) #[] lb) (eg : ∀ args w, (callFunc gf args).run P w = .ok (.enter gf args) w)
    {μ : Nat → Option (Array Value)} {xs : List (Array Value)} (hseq : SeqRuns P gf lb μ xs) (hμ : MemOk μ w) (hps : ∀ x ∈ xs, x.size = ps.size)
    (K : Nat → (Nat → Prop) → World → Prop) (Kx : Code → (Nat → Prop) → World → Prop) (hK : ∀ k, Stab w.heap.size (K k)) (hKx : ∀ c, Stab w.heap.size (Kx c)) (h0 : K 0 (fun _ => False) w)
    (Ax : Nat → Array Value → (Nat → Prop) → Act → World → Prop) (hAx : ∀ k x a', Stab w.heap.size (fun I W => Ax k x I a' W))
    (hassign : ∀ (l k : Nat) (x : Array Value) (I : Nat → Prop) (W : World), xs[k]? = some x → K k I W → (∀ b, I b → w.heap.size ≤ b ∧ b < W.heap.size) →
      assign.wpIn (Fence.wide.inRound l) 9 P (Exit.then (fun a' W' => KeepsOthers W W' ∧ KeepsI I μ W W' ∧ Ax k x I a' W') (fun _ _ _ => False))
        { tmps := (ps.zip x).foldl (fun t (p, v) => t.setIfInBounds p v) a.tmps, defers := [] } W)
    (hbody : ∀ (l k : Nat) (x : Array Value) (I : Nat → Prop) (a' : Act) (W : World), xs[k]? = some x → Ax k x I a' W → (∀ b, I b → w.heap.size ≤ b ∧ b < W.heap.size) → body.wpIn (Fence.wide.inRound l) 9 P (roundEnd μ K Kx k I W) a' W)
    (hdone : ∀ (D : Nat) (I : Nat → Prop) (W : World), w.heap.size ≤ D → K xs.length I W → W.heap[D]? = some (.deferred (some [])) → Q .normal { a with defers := { target := .collected D, args := #[] } :: a.defers } W)
    (hstop : ∀ (D : Nat) (c : Code) (I : Nat → Prop) (W : World), w.heap.size ≤ D → Kx c I W → W.heap[D]? = some (.deferred (some [])) → c.wpIn Fence.wide 9 P Q { a with defers := { target := .collected D, args := #[] } :: a.defers } W) :
    (Code.rangeFunc g ps assign body).wpIn Fence.wide 9 P Q a w := by
  refine wpIn_rangeFunc ?_
  intro fn _
  obtain ⟨rec, hrec⟩ : ∃ rec : LoopState → Option Code → Loop, rec = fun st pe => { state := st, pending := pe, fn, tmps := a.tmps, params := ps, assign, body, defers := w.heap.size } := ⟨_, rfl⟩
  obtain ⟨W1, hW1⟩ : ∃ W1, (w.alloc (.deferred (some []))).alloc (.loop (rec .ready none)) = W1 := ⟨_, rfl⟩
  have hL1 : W1.heap[w.heap.size + 1]? = some (.loop (rec .ready none)) := by
    rw [← hW1]; have := World.alloc_heap_new (w.alloc (.deferred (some []))) (.loop (rec .ready none)); rwa [World.size_alloc] at this
  have hK1 : W1.heap[w.heap.size]? = some (.deferred (some [])) := by
    rw [← hW1]; exact (RowKit.Below.heap_alloc _ _ _ (by simp)).trans (World.alloc_heap_new w _)
  have hold : ∀ b, b < w.heap.size → W1.heap[b]? = w.heap[b]? := fun b hb => by
    rw [← hW1]; exact (RowKit.Below.heap_alloc _ _ _ (by simp; omega)).trans (RowKit.Below.heap_alloc _ _ _ hb)
  have hs1 : W1.heap.size = w.heap.size + 2 := by rw [← hW1]; simp
  have hos : W1.os = w.os ∧ W1.tape = w.tape ∧ W1.output = w.output := by rw [← hW1]; exact ⟨rfl, rfl, rfl⟩
  have hI1 : K 0 (fun _ => False) W1 := hK 0 _ _ _ _ h0 (fun _ h => h) (fun _ h => .inl h) (fun _ h => h.elim) hos.1 hos.2.1 hos.2.2 (by omega) fun b o hb _ _ => by
    rw [hold b (Array.getElem?_eq_some_iff.1 hb).1]; exact hb
  have hμ1 : MemOk μ W1 := fun b cs hb => by
    obtain ⟨T, fr, h⟩ := hμ b cs hb
    exact ⟨T, fr, by rw [hold b (Array.getElem?_eq_some_iff.1 h).1]; exact h⟩
  refine ⟨w.heap.size + 1, [{ target := .collected w.heap.size, args := #[] }], W1, { target := .fn (.func gf) lb, args := #[.func (.yield (w.heap.size + 1)) #[] #[]] }, W1, gf,
    #[.func (.yield (w.heap.size + 1)) #[] #[]] ++ lb, W1, ?_, ?_, ?_, ?_, by simp [Fence.wide], ?_⟩
  · rw [← hW1, hrec]; exact run_enterLoop_outer _ _ _ _ _
  · simp only [resolve, hg]
    simp [go_sem]
  · intro f' _; trivial
  · simp [invoke, go_sem, eg]
  · -- the loop's own objects
    have keepO : ∀ {A B : World} {I : Nat → Prop} (b : Nat) (o : Obj), b < w.heap.size + 2 → (∀ b, I b → w.heap.size + 2 ≤ b ∧ b < A.heap.size) → (∀ b, b < A.heap.size → ¬ I b → B.heap[b]? = A.heap[b]?) → A.heap[b]? = some o → B.heap[b]? = some o :=
      fun b o hb hI hs h => by rw [hs b (Array.getElem?_eq_some_iff.1 h).1 (fun hi => by have := hI b hi; omega)]; exact h
    have grow : ∀ {A : World} {I I' : Nat → Prop}, A.heap.size ≥ w.heap.size + 2 → (∀ b, I b → w.heap.size + 2 ≤ b ∧ b < A.heap.size) → (∀ b, I' b → I b ∨ A.heap.size ≤ b) → ∀ b, I' b → w.heap.size + 2 ≤ b := fun hA hI hI' b hb => by
      rcases hI' b hb with h | h
      · exact (hI b h).1
      · omega
    refine (callsIn_wide_n (hseq (w.heap.size + 1)
      (fun k I W => (∀ b, I b → w.heap.size + 2 ≤ b ∧ b < W.heap.size) ∧ w.heap.size + 2 ≤ W.heap.size ∧ W.heap[w.heap.size]? = some (.deferred (some [])) ∧ match k with
        | some k => K k I W ∧ W.heap[w.heap.size + 1]? = some (.loop (rec .ready none))
        | none => ∃ c, Kx c I W ∧ W.heap[w.heap.size + 1]? = some (.loop (rec .done (some c))))
      W1
      (fun k I I' A B hj h1 h2 h2' h3 h4 h5 h6 h7 => by
        obtain ⟨j1, j2, j3, j4⟩ := hj
        refine ⟨fun b hb => ⟨grow j2 j1 h2 b hb, h2' b hb⟩, by omega, keepO _ _ (by omega) j1 h7 j3, ?_⟩
        cases k with
        | some k => exact ⟨hK k I I' A B j4.1 h1 h2 h2' h3 h4 h5 h6 (fun b o hb hI _ => by rw [h7 b (Array.getElem?_eq_some_iff.1 hb).1 hI]; exact hb), keepO _ _ (by omega) j1 h7 j4.2⟩
        | none =>
          obtain ⟨c, c1, c2⟩ := j4
          exact ⟨c, hKx c I I' A B c1 h1 h2 h2' h3 h4 h5 h6 (fun b o hb hI _ => by rw [h7 b (Array.getElem?_eq_some_iff.1 hb).1 hI]; exact hb), keepO _ _ (by omega) j1 h7 c2⟩)
      ?_ ⟨fun _ h => h.elim, by omega, hK1, hI1, hL1⟩ hμ1)).mono ?_
    · -- one round
      rintro k x I W hx ⟨hIb, hsz, hd, hi, hl⟩
      have hI0 : ∀ b, I b → w.heap.size ≤ b ∧ b < W.heap.size := fun b hb => by have := hIb b hb; omega
      have hnI : ¬ I (w.heap.size + 1) := fun h => by have := hIb _ h; omega
      have hy := run_yield (P := P) (args := x) hl (by rw [hrec]; exact hps x (List.mem_of_getElem? hx))
      rw [hrec] at hy
      refine ⟨fn, _, assign, body, hy, roundIn_of_wpIn trivial (wpIn_mono (hassign _ k x I W hx hi hI0) ?_)⟩
      rintro e a' Wa hp
      cases e with
      | normal =>
        obtain ⟨hka, hkpa, hax⟩ := hp
        have hla := hka.same _ _ hl rfl
        have hda := hka.same _ _ hd rfl
        have hlta : w.heap.size + 1 < Wa.heap.size := (Array.getElem?_eq_some_iff.1 hla).1
        refine ⟨_, run_beginRound hla (by rw [hrec]), ?_⟩
        have hl2 : (Wa.putObj (w.heap.size + 1) (.loop { rec .ready none with state := .busy })).heap[w.heap.size + 1]? = some (.loop { rec .ready none with state := .busy }) := World.putObj_heap_same hlta
        have hd2 : (Wa.putObj (w.heap.size + 1) (.loop { rec .ready none with state := .busy })).heap[w.heap.size]? = some (.deferred (some [])) := (World.putObj_heap_other (by omega)).trans hda
        have hkp2 : KeepsI I μ Wa (Wa.putObj (w.heap.size + 1) (.loop { rec .ready none with state := .busy })) := KeepsI.putObj _ hla rfl hnI
        have hIa : ∀ b, I b → b < Wa.heap.size := fun b hb => Nat.lt_of_lt_of_le (hI0 b hb).2 hka.size
        have hax2 := (hAx k x a').put hax hIa (.loop { rec .ready none with state := .busy }) (by omega) hla rfl
        refine wpIn_mono (hbody _ k x I a' _ hx hax2 fun b hb => ⟨(hI0 b hb).1, by simpa using hIa b hb⟩) ?_
        have fin : ∀ (jump : Option Code) (W3 : World), KeepsOthers (Wa.putObj (w.heap.size + 1) (.loop { rec .ready none with state := .busy })) W3 → KeepsI I μ (Wa.putObj (w.heap.size + 1) (.loop { rec .ready none with state := .busy })) W3 →
            (Instr.endRound (w.heap.size + 1) jump).run P W3 = .ok (.bool jump.isNone) (W3.putObj (w.heap.size + 1) (.loop (rec (if jump.isNone then .ready else .done) jump))) ∧
            W3.heap[w.heap.size + 1]? = some (.loop { rec .ready none with state := .busy }) ∧
            (W3.putObj (w.heap.size + 1) (.loop (rec (if jump.isNone then .ready else .done) jump))).heap[w.heap.size + 1]? = some (.loop (rec (if jump.isNone then .ready else .done) jump)) ∧
            (W3.putObj (w.heap.size + 1) (.loop (rec (if jump.isNone then .ready else .done) jump))).heap[w.heap.size]? = some (.deferred (some [])) ∧ w.heap.size + 2 ≤ W3.heap.size ∧
            KeepsI I μ W (W3.putObj (w.heap.size + 1) (.loop (rec (if jump.isNone then .ready else .done) jump))) := fun jump W3 hk3 hp3 => by
          have hl3 := hk3.same _ _ hl2 rfl
          have := run_endRound (P := P) jump hl3
          rw [hrec] at this
          refine ⟨by rw [hrec]; exact this, hl3, World.putObj_heap_same (Array.getElem?_eq_some_iff.1 hl3).1, (World.putObj_heap_other (by omega)).trans (hk3.same _ _ hd2 rfl), ?_, hkpa.trans ((hkp2.trans hp3).trans (KeepsI.putObj _ hl3 rfl hnI))⟩
          have := (Array.getElem?_eq_some_iff.1 hl3).1; omega
        have hI3 : ∀ {W3 : World}, KeepsOthers (Wa.putObj (w.heap.size + 1) (.loop { rec .ready none with state := .busy })) W3 → ∀ b, I b → b < W3.heap.size := fun hk3 b hb => Nat.lt_of_lt_of_le (by simpa using hIa b hb) hk3.size
        have hIn : ∀ {W3 : World} {o : Obj}, KeepsOthers (Wa.putObj (w.heap.size + 1) (.loop { rec .ready none with state := .busy })) W3 → ∀ b, I b → w.heap.size + 2 ≤ b ∧ b < (W3.putObj (w.heap.size + 1) o).heap.size := fun hk3 b hb => ⟨(hIb b hb).1, by simpa using hI3 hk3 b hb⟩
        rintro e a3 W3 hp
        cases e with
        | normal =>
          obtain ⟨hk3, hp3, hi3⟩ := hp
          obtain ⟨hr, hl3, hl4, hd4, hs4, hkk⟩ := fin none W3 hk3 hp3
          exact ⟨_, _, hr, hkk, .inl ⟨rfl, hIn hk3, by simpa using hs4, hd4, (hK _).put hi3 (hI3 hk3) _ (by omega) hl3 rfl, hl4⟩⟩
        | ret =>
          obtain ⟨hk3, hp3, hi3⟩ := hp
          obtain ⟨hr, hl3, hl4, hd4, hs4, hkk⟩ := fin (some .ret) W3 hk3 hp3
          exact ⟨_, _, hr, hkk, .inr ⟨rfl, hIn hk3, by simpa using hs4, hd4, .ret, (hKx _).put hi3 (hI3 hk3) _ (by omega) hl3 rfl, hl4⟩⟩
        | exit id =>
          obtain ⟨hk3, hp3, hi3⟩ := hp
          obtain ⟨hr, hl3, hl4, hd4, hs4, hkk⟩ := fin (some (.exit id)) W3 hk3 hp3
          exact ⟨_, _, hr, hkk, .inr ⟨rfl, hIn hk3, by simpa using hs4, hd4, .exit id, (hKx _).put hi3 (hI3 hk3) _ (by omega) hl3 rfl, hl4⟩⟩
        | _ => exact hp.elim
      | _ => exact hp.elim
    · -- behind the iterator
      rintro e W2 ⟨⟨v, rfl⟩, I, k, ⟨hIb, hsz, hd, hj⟩, hk⟩
      rcases hk with rfl | rfl
      · obtain ⟨hi, hl⟩ := hj
        exact ⟨none, _, by have := run_endLoop (P := P) hl (by rw [hrec]; simp); rw [hrec] at this; exact this, hdone _ _ _ (Nat.le_refl _) ((hK _).put hi (fun b hb => (hIb b hb).2) _ (by omega) hl rfl) ((World.putObj_heap_other (by omega)).trans hd)⟩
      · obtain ⟨c, hi, hl⟩ := hj
        exact ⟨some c, _, by have := run_endLoop (P := P) hl (by rw [hrec]; simp); rw [hrec] at this; exact this,
          hstop _ c _ _ (Nat.le_refl _) ((hKx c).put hi (fun b hb => (hIb b hb).2) _ (by omega) hl rfl) ((World.putObj_heap_other (by omega)).trans hd)⟩

end Go.Sx
