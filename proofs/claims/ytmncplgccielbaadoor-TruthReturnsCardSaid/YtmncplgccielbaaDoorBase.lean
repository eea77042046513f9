/- Small lemmas of our own: blocks of cells that a call owns, worlds that grow, endings. -/
import Derived.Test.YtmncplgccielbaaDoorRows
import Derived.Test.YtmncplgccielbaaDoorMath
import Derived.WalkKit
import Derived.WalkSpells
import Derived.WalkLawsBesides
import Derived.Deep.QuietTactic
import Derived.BigQuiet
import Derived.Lib.Hide
import Derived.RangeFuncNested
import Derived.RangeFuncBound
import Derived.RangeFuncCalls
import Derived.RangeFuncLeaves
import Derived.Shelf.Abstract
import Derived.Shelf.RegionOpen
import Derived.OwnWalkIn
import Derived.TacticsInMore
import Derived.LoopNIn
import Derived.LoopIn
import Derived.Deep.RegionHeld3
set_option maxHeartbeats 1000000
set_option maxRecDepth 4000
set_option linter.unusedSimpArgs false
set_option linter.unusedVariables false
set_option linter.unusedSectionVars false
namespace Go.Proofs.YtmncplgccielbaaDoor
open Go.RowKit Go.Shelf

theorem ret_u {k : IntKind} {a b : Int} (h : a = b) : Ending.returned (.int k a) = .returned (.int k b) := by rw [h]
theorem ret_b {a b : Bool} (h : a = b) : Ending.returned (.bool a) = .returned (.bool b) := by rw [h]
theorem ret_e {a b : Value} (h : a = b) : Ending.returned a = .returned b := by rw [h]

/-- all old cells and all old marks read as before -/
theorem bcell {W w1 : World} (hb : Below W.heap.size W w1) : (∀ b o, b < W.heap.size → w1.cell? ⟨b, o, none⟩ = W.cell? ⟨b, o, none⟩) ∧ (∀ b o, b < W.heap.size → w1.frozen? ⟨b, o, none⟩ = W.frozen? ⟨b, o, none⟩) :=
  ⟨fun b o h => hb.cell (p := ⟨b, o, none⟩) h, fun b o h => hb.frozen (p := ⟨b, o, none⟩) h⟩

theorem alloc_heap (w : World) (o : Obj) : (w.alloc o).heap = w.heap.push o := rfl
theorem sz_setCell (w : World) (a : Addr) (v : Value) : (w.setCell a v).heap.size = w.heap.size := by simp [World.setCell]
theorem sz_drew (w : World) : w.drew.heap.size = w.heap.size := rfl
theorem sz_drewN (w : World) (n : Nat) : (w.drewN n).heap.size = w.heap.size := rfl
theorem sz_putObj (w : World) (l : Nat) (o : Obj) : (w.putObj l o).heap.size = w.heap.size := World.putObj_size
theorem drew_heap (w : World) : w.drew.heap = w.heap := rfl
theorem drewN_heap (w : World) (n : Nat) : (w.drewN n).heap = w.heap := rfl
theorem range_get {m k x : Nat} (h : (List.range m)[k]? = some x) : x = k ∧ k < m := by
  rcases Nat.lt_or_ge k m with hk | hk
  · rw [List.getElem?_eq_getElem (by simpa using hk)] at h
    simp at h; exact ⟨h.symm, hk⟩
  · rw [List.getElem?_eq_none (by simpa using hk)] at h; cases h
theorem below_undrew {B : Nat} {w w' : World} (h : Below B w.drew w') : Below B w w' := ⟨h.os, h.tape, h.output, h.size, h.block⟩
/-- A contract, met in a later world. -/
theorem later {P : Program} {f : FuncId} {args : Array Value} {w W : World} {B : Nat} {R : Ending → Prop}
    (h : Calls P f args W fun e W' => R e ∧ Below W.heap.size W W') (hb : Below B w W) (hB : B ≤ w.heap.size) :
    Calls P f args W fun e W' => R e ∧ Below B w W' :=
  h.mono fun _ _ ⟨h1, h2⟩ => ⟨h1, hb.trans (h2.mono (Nat.le_trans hB hb.size))⟩
/-- Block b is a row of cells, not frozen. -/
def Blk (W : World) (b : Nat) (cs : Array Value) (T : TypeId) : Prop := W.heap[b]? = some (.cells cs T (0, 0))
theorem Blk.lt {W : World} {b : Nat} {cs : Array Value} {T : TypeId} (h : Blk W b cs T) : b < W.heap.size := (Array.getElem?_eq_some_iff.1 h).1
theorem Blk.cell {W : World} {b : Nat} {cs : Array Value} {T : TypeId} (h : Blk W b cs T) (i : Nat) : W.cell? ⟨b, i, none⟩ = cs[i]? := by
  simp [World.cell?, show W.heap[b]? = _ from h]
theorem Blk.frozen {W : World} {b : Nat} {cs : Array Value} {T : TypeId} (h : Blk W b cs T) (i : Nat) : W.frozen? ⟨b, i, none⟩ = false := by
  simp [World.frozen?, show W.heap[b]? = _ from h]
theorem Blk.new (W : World) (cs : Array Value) (T : TypeId) : Blk (W.alloc (.cells cs T)) W.heap.size cs T := World.alloc_heap_new W _
theorem Blk.alloc {W : World} {b : Nat} {cs : Array Value} {T : TypeId} (h : Blk W b cs T) (o : Obj) : Blk (W.alloc o) b cs T :=
  (Below.heap_alloc W o b h.lt).trans h
theorem Blk.new' {W : World} {b : Nat} {cs : Array Value} {T : TypeId} (h : W.heap.size = b) : Blk (W.alloc (.cells cs T)) b cs T := h ▸ Blk.new W cs T
theorem Blk.drew {W : World} {b : Nat} {cs : Array Value} {T : TypeId} (h : Blk W b cs T) : Blk W.drew b cs T := h
theorem Blk.drewN {W : World} {b : Nat} {cs : Array Value} {T : TypeId} (h : Blk W b cs T) (n : Nat) : Blk (W.drewN n) b cs T := h
theorem Blk.below {W W' : World} {B b : Nat} {cs : Array Value} {T : TypeId} (h : Blk W b cs T) (hb : Below B W W') (hB : b < B) : Blk W' b cs T :=
  (hb.block b hB).trans h
theorem Blk.ext {W W' : World} {b : Nat} {cs : Array Value} {T : TypeId} (h : Blk W b cs T) (hb : Below W.heap.size W W') : Blk W' b cs T :=
  h.below hb h.lt
theorem Blk.set {W : World} {b : Nat} {cs : Array Value} {T : TypeId} (h : Blk W b cs T) (i : Nat) (v : Value) : Blk (W.setCell ⟨b, i, none⟩ v) b (cs.setIfInBounds i v) T := by
  obtain ⟨hlt, hk⟩ := Array.getElem?_eq_some_iff.1 h
  show (W.heap.modify b _)[b]? = _
  rw [Array.getElem?_eq_getElem (by rw [Array.size_modify]; exact hlt), Array.getElem_modify_self, hk]
  rfl
theorem Blk.setOther {W : World} {b : Nat} {cs : Array Value} {T : TypeId} (h : Blk W b cs T) {a : Addr} (v : Value) (hne : b ≠ a.block) : Blk (W.setCell a v) b cs T :=
  (Below.heap_setCell W a v b hne).trans h
theorem Blk.kept {W W' : World} {b : Nat} {cs : Array Value} {T : TypeId} (h : Blk W b cs T) {row : Option Nat} (hg : W.grownBy W' row) (hr : ∀ r, row = some r → ∃ o : Obj, W.heap[r]? = some o ∧ o.isCells = false) : Blk W' b cs T :=
  (hg.block b h.lt (fun e => by obtain ⟨o, ho, hc⟩ := hr b e.symm; rw [show W.heap[b]? = _ from h] at ho; cases ho; cases hc)).trans h
theorem Blk.putObj {W : World} {b : Nat} {cs : Array Value} {T : TypeId} (h : Blk W b cs T) {l : Nat} {o : Obj} (o' : Obj) (hl : W.heap[l]? = some o) (ho : o.isCells = false) : Blk (W.putObj l o') b cs T :=
  h.kept (grownBy_putObj' W l o') (fun r e => by cases e; exact ⟨o, hl, ho⟩)

theorem keepsOthers_of_below {W W' : World} (h : Below W.heap.size W W') : KeepsOthers W W' :=
  ⟨h.size, fun k _ hk _ => (h.block k (Array.getElem?_eq_some_iff.1 hk).1).trans hk⟩

/-- A range over a function: the caller's side, over the wide fence; what the loop leaves below B stands. -/
theorem own_blk1 {β : Type} (B : Nat) (b1 : Nat) (c1 : β → Array Value) (T1 : TypeId) : OwnFrom B (fun (s : β) W => Blk W b1 (c1 s) T1) :=
  fun _ _ _ _ hs hg hr => hs.kept hg (fun r e => (hr r e).2)
theorem own_pure {β : Type} (B : Nat) (p : β → Prop) : OwnFrom B (fun (s : β) (_ : World) => p s) := fun _ _ _ _ hs _ _ => hs

end Go.Proofs.YtmncplgccielbaaDoor
