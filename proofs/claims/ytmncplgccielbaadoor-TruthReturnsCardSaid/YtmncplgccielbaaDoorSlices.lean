/- Slices: read as lists; one element appended to a slice of the call's own. -/
import Derived.Test.YtmncplgccielbaaDoorRange
set_option maxHeartbeats 1000000
set_option maxRecDepth 4000
set_option linter.unusedSimpArgs false
set_option linter.unusedVariables false
set_option linter.unusedSectionVars false
namespace Go.Proofs.YtmncplgccielbaaDoor
open Go.RowKit Go.Shelf

/-- What is to be known of a slice type and its element type. -/
structure ElemT (P : Program) (T e : TypeId) (z : Value) (size bytes : Nat) : Prop where
  under : P.underlying T = some (.slice e)
  info : (P.info? e).map (fun i => (i.zero, i.size, i.bytes)) = some (some z, size, bytes)
  cells : z.cells.size = size
  pos : 0 < size
  bpos : 0 < bytes

theorem world_grownBy_trans {A B C : World} {row : Option Nat} (h : A.grownBy B none) (k : B.grownBy C row) : A.grownBy C row :=
  ⟨k.os.trans h.os, k.tape.trans h.tape, k.output.trans h.output, Nat.le_trans h.size k.size, fun i hi hne => (k.block i (Nat.lt_of_lt_of_le hi h.size) hne).trans (h.block i hi (by simp))⟩

theorem one_cells {w0 : World} {news : List Value} {e : TypeId} : ∀ j u, news[j]? = some u → (w0.alloc (.cells news.toArray e)).cell? ((⟨w0.heap.size, 0, none⟩ : Addr).add j) = some u := by
  intro j u hu
  have hb : Blk (w0.alloc (.cells news.toArray e)) w0.heap.size news.toArray e := Blk.new _ _ _
  have := hb.cell j
  unfold Addr.add
  by_cases hj : j = 0
  · subst hj; simpa using this.trans (by simpa using hu)
  · simpa [hj] using this.trans (by simpa using hu)

variable {P : Program}

/-- 'append(out, x)' of one element to a slice of the call's own. -/
theorem app1 {ops : Array Oper} {rest : List Oper} {o : Oper} {a : Act} {Q : Exit → Act → World → Prop} {w0 : World} {T e : TypeId} {z : Value} {size bytes : Nat}
    (hE : ElemT P T e z size bytes) (hgd : o.guard = none) (s x : Operand) (hop : o.op = Op.call { callee := Callee.builtin Builtin.append, args := #[s, x], argTypes := #[T, T] })
    (base : Nat) {v : Value} {k : Nat} {xs : List Value} (hs : a.eval s = v) (hown : w0.ownsRow base e size v k xs) (news : List Value)
    (hx : a.eval x = .slice (some ⟨w0.heap.size, 0, none⟩) 1 1) (hn : news.length = size) (h1c : ∀ u ∈ news, u.oneCell' = true)
    (hk : (k + 1) * bytes ≤ 140737488355328) (hb : base ≤ w0.heap.size)
    (hK : ∀ v' w', w'.ownsRow base e size v' (k + 1) (xs ++ news) → w0.grownBy w' v.ownBlock → (∃ g c, v' = .slice (some ⟨g, 0, none⟩) (k + 1) c) → wpList P ops Q rest (a.put o.dst v') w') :
    wpList P ops Q (o :: rest) a (w0.alloc (.cells news.toArray e)) := by
  obtain ⟨i, hi, hz, hsz, hby⟩ := info_parts hE.info
  have hb1 := hE.bpos
  refine wpList_append_own (w0.alloc (.cells news.toArray e)) hgd s x T hop base e i z size bytes hE.under hi hz hsz hby hE.cells hE.pos v k xs hs (hown.alloc _) ⟨w0.heap.size, 0, none⟩ 1 1 news hx (by omega) one_cells h1c
    (by have : (k + 1) * 1 ≤ (k + 1) * bytes := Nat.mul_le_mul_left _ hb1
        unfold maxLen; omega) hk (by simp; omega) ?_
  intro v' w' h1 h2 h3
  exact hK v' w' h1 (world_grownBy_trans (World.grownBy_alloc _ _ none) h2) (ownsRow_succ h1)

/-- .. in a round. -/
theorem app1In {F : Fence} {n : Nat} {ops : Array Oper} {rest : List Oper} {o : Oper} {a : Act} {Q : Exit → Act → World → Prop} {w0 : World} {T e : TypeId} {z : Value} {size bytes : Nat}
    (hE : ElemT P T e z size bytes) (hgd : o.guard = none) (s x : Operand) (hop : o.op = Op.call { callee := Callee.builtin Builtin.append, args := #[s, x], argTypes := #[T, T] })
    (base : Nat) {v : Value} {k : Nat} {xs : List Value} (hs : a.eval s = v) (hown : w0.ownsRow base e size v k xs) (news : List Value)
    (hx : a.eval x = .slice (some ⟨w0.heap.size, 0, none⟩) 1 1) (hn : news.length = size) (h1c : ∀ u ∈ news, u.oneCell' = true)
    (hk : (k + 1) * bytes ≤ 140737488355328) (hb : base ≤ w0.heap.size)
    (hK : ∀ v' w', w'.ownsRow base e size v' (k + 1) (xs ++ news) → w0.grownBy w' v.ownBlock → (∃ g c, v' = .slice (some ⟨g, 0, none⟩) (k + 1) c) → wpListIn F n P ops Q rest (a.put o.dst v') w') :
    wpListIn F n P ops Q (o :: rest) a (w0.alloc (.cells news.toArray e)) := by
  obtain ⟨i, hi, hz, hsz, hby⟩ := info_parts hE.info
  have hb1 := hE.bpos
  refine wpListIn_append_own _ hgd s x T hop base e i z size bytes hE.under hi hz hsz hby hE.cells hE.pos v k xs hs (hown.alloc _) ⟨w0.heap.size, 0, none⟩ 1 1 news hx (by omega) one_cells h1c
    (by have : (k + 1) * 1 ≤ (k + 1) * bytes := Nat.mul_le_mul_left _ hb1
        unfold maxLen; omega) hk (by simp; omega) ?_
  intro v' w' h1 h2 h3
  exact hK v' w' h1 (world_grownBy_trans (World.grownBy_alloc _ _ none) h2) (ownsRow_succ h1)

section
variable {w w' : World} {base : Nat} {e : TypeId} {size : Nat} {v : Value} {k : Nat} {xs : List Value}
theorem own_block_ge (h : w.ownsRow base e size v k xs) {g : Nat} (hg : v.ownBlock = some g) : base ≤ g ∧ g < w.heap.size := h.lt g hg
/-- what an append leaves alone -/
theorem Blk.app {b : Nat} {cs : Array Value} {T : TypeId} (h : Blk w b cs T) (hg : w.grownBy w' v.ownBlock) (hown : w.ownsRow base e size v k xs) (hb : b < base) : Blk w' b cs T :=
  (hg.block b h.lt (fun e' => by have := (hown.lt b e'.symm).1; omega)).trans h
theorem Below.app {B : Nat} {x : World} (h : Below B x w) (hg : w.grownBy w' v.ownBlock) (hown : w.ownsRow base e size v k xs) (hB : B ≤ base) (hw : B ≤ w.heap.size) : Below B x w' :=
  h.grown hg hw (fun g e' => by have := (hown.lt g e').1; omega)
theorem row_isCells (hown : w.ownsRow base e size v k xs) : ∀ (j : Nat) (o : Obj), v.ownBlock = some j → w.heap[j]? = some o → o.isCells = true := by
  intro j o hj ho
  rcases hown.2 with ⟨rfl, _⟩ | ⟨g, cap, cur, rfl, _, hg, _⟩
  · simp [Value.ownBlock] at hj
  · obtain rfl : g = j := by simpa [Value.ownBlock] using hj
    rw [hg] at ho; cases ho; rfl
theorem keepsOthers_app (hg : w.grownBy w' v.ownBlock) (hown : w.ownsRow base e size v k xs) : KeepsOthers w w' :=
  KeepsOthers.of_grownBy hg (row_isCells hown)
theorem ownsRow_base {base' : Nat} (h : w.ownsRow base e size v k xs) (hb : base' ≤ base) : w.ownsRow base' e size v k xs :=
  ⟨h.1, h.2.imp id fun ⟨g, cap, cur, hv, hg, r⟩ => ⟨g, cap, cur, hv, Nat.le_trans hb hg, r⟩⟩
theorem ownsRow_below (h : w.ownsRow base e size v k xs) (hb : Below w.heap.size w w') : w'.ownsRow base e size v k xs :=
  ⟨h.1, h.2.imp id fun ⟨g, cap, cur, hv, hg, hk, r⟩ => ⟨g, cap, cur, hv, hg, (hb.block g (Array.getElem?_eq_some_iff.1 hk).1).trans hk, r⟩⟩
theorem ownsRow_keeps {B : Nat} (h : w.ownsRow base e size v k xs) (hk : Keeps B w w') : w'.ownsRow base e size v k xs :=
  ⟨h.1, h.2.imp id fun ⟨g, cap, cur, hv, hg, hb, r⟩ => ⟨g, cap, cur, hv, hg, hk.same g _ hb (.inr rfl), r⟩⟩
theorem ownsRow_setOther (h : w.ownsRow base e size v k xs) {a : Addr} (u : Value) (ha : a.block < base) : (w.setCell a u).ownsRow base e size v k xs :=
  ⟨h.1, h.2.imp id fun ⟨g, cap, cur, hv, hg, hb, r⟩ => ⟨g, cap, cur, hv, hg, (Below.heap_setCell w a u g (by omega)).trans hb, r⟩⟩
theorem ownsRow_drew (h : w.ownsRow base e size v k xs) : w.drew.ownsRow base e size v k xs := h
theorem ownsRow_drewN (n : Nat) (h : w.ownsRow base e size v k xs) : (w.drewN n).ownsRow base e size v k xs := h
end

/-- v is a slice of n elements of sz cells each; its cells, below block lim, hold xs. -/
def Sl (w : World) (lim : Nat) (v : Value) (sz n : Nat) (xs : List Value) : Prop :=
  xs.length = n * sz ∧ ∃ a cap, v = .slice a n cap ∧ n ≤ cap ∧ cap ≤ maxLen ∧
    (0 < n → ∃ b off, a = some ⟨b, off, none⟩ ∧ b < lim ∧ ∀ j, j < xs.length → w.cell? ⟨b, off + j, none⟩ = xs[j]?)

theorem Sl.nil (w : World) (lim sz : Nat) : Sl w lim (.slice none 0 0) sz 0 [] := ⟨by simp, none, 0, rfl, Nat.le_refl _, Nat.zero_le _, fun h => by omega⟩
theorem Sl.below {w w' : World} {B lim sz n : Nat} {v : Value} {xs : List Value} (h : Sl w lim v sz n xs) (hb : Below B w w') (hl : lim ≤ B) : Sl w' lim v sz n xs := by
  obtain ⟨hl', a, cap, hv, h1, h2, h3⟩ := h
  refine ⟨hl', a, cap, hv, h1, h2, fun h0 => ?_⟩
  obtain ⟨b, off, ha, hlt, hc⟩ := h3 h0
  exact ⟨b, off, ha, hlt, fun j hj => (hb.cell (p := ⟨b, off + j, none⟩) (by show b < B; omega)).trans (hc j hj)⟩
theorem Sl.mono {w : World} {lim lim' sz n : Nat} {v : Value} {xs : List Value} (h : Sl w lim v sz n xs) (hl : lim ≤ lim') : Sl w lim' v sz n xs := by
  obtain ⟨hl', a, cap, hv, h1, h2, h3⟩ := h
  exact ⟨hl', a, cap, hv, h1, h2, fun h0 => by obtain ⟨b, off, ha, hlt, hc⟩ := h3 h0; exact ⟨b, off, ha, by omega, hc⟩⟩
theorem Sl.ext {w w' : World} {sz n : Nat} {v : Value} {xs : List Value} (h : Sl w w.heap.size v sz n xs) (hb : Below w.heap.size w w') : Sl w' w'.heap.size v sz n xs :=
  (h.below hb (Nat.le_refl _)).mono hb.size
theorem Sl.of_owns {w : World} {base : Nat} {e : TypeId} {sz : Nat} {v : Value} {n : Nat} {xs : List Value} (h : w.ownsRow base e sz v n xs) : Sl w w.heap.size v sz n xs := by
  refine ⟨h.1, ?_⟩
  rcases h.2 with ⟨rfl, hn⟩ | ⟨g, cap, cur, rfl, hb, hg, hnc, hcm, hcs, htake⟩
  · subst hn; exact ⟨none, 0, rfl, Nat.le_refl _, Nat.zero_le _, fun h => by omega⟩
  · refine ⟨_, cap, rfl, hnc, hcm, fun _ => ⟨g, 0, rfl, (Array.getElem?_eq_some_iff.1 hg).1, fun j hj => ?_⟩⟩
    have hj' : j < n * sz := by rw [← h.1]; exact hj
    simp only [World.cell?, hg, Nat.zero_add]
    rw [← htake, List.getElem?_take_of_lt hj']
    simp
/-- the list as integers -/
abbrev ints (l : List Int) : List Value := l.map fun x => .int .i64 x
abbrev nats (l : List Nat) : List Value := l.map fun (x : Nat) => Value.int .i64 (x : Int)
theorem ints_get {l : List Int} {j : Nat} (h : j < l.length) : (ints l)[j]? = some (.int .i64 l[j]) := by simp [ints, h]
theorem nats_ints (l : List Nat) : nats l = ints (l.map fun (x : Nat) => (x : Int)) := by simp [nats, ints]

end Go.Proofs.YtmncplgccielbaaDoor
