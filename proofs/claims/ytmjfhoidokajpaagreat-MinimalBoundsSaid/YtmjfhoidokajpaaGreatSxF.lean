/- The symbolic executor: arguments as the rows hand them over. -/
import Derived.Test.YtmjfhoidokajpaaGreatSxE
import Derived.ProofKit
import Derived.OpenShut
import Derived.DataElems
import Derived.Sort.Grow
set_option maxHeartbeats 1000000
set_option maxRecDepth 4000
set_option linter.unusedSimpArgs false
set_option linter.unusedVariables false
set_option linter.unusedSectionVars false
namespace Go.Sx
open Go Go.RowKit

def memOf (w : World) (b : Nat) : Option (Array Value) := match w.heap[b]? with
  | some (.cells cs _ _) => some cs
  | _ => none
def E0 (w : World) : Env := { hd := fun _ => none, mem := memOf w, base := w.heap.size, ws := w, I := fun _ => False, k := none }
theorem memOf_some {w : World} {b : Nat} {cs : Array Value} (h : memOf w b = some cs) : ∃ T fr, w.heap[b]? = some (.cells cs T fr) := by
  unfold memOf at h
  split at h
  · rename_i cs' T fr hb
    cases h; exact ⟨T, fr, hb⟩
  · cases h
theorem memOf_of {w : World} {b : Nat} {cs : Array Value} {T : TypeId} {fr : Nat × Nat} (h : w.heap[b]? = some (.cells cs T fr)) : memOf w b = some cs := by
  unfold memOf; rw [h]
theorem borOf_nil (hd : Nat → Option Value) : borOf hd [] 0 = fun _ => False := by
  funext b
  apply propext
  constructor
  · rintro ⟨k, o, _, h, _⟩; simp at h
  · exact False.elim
theorem hrep0 (w : World) : HRep (ctxOf w (E0 w) [] 0) (E0 w) (stOf []) w := by
  have ho : ∀ i, (stOf []).obj i = none := fun _ => rfl
  refine ⟨fun i o h => ?_, fun i j o o' b h => ?_, fun i o b h => ?_, fun b cs h => memOf_some h, fun b cs h => h, fun b cs h => .inl h, fun i _ => rfl, rfl, ?_, fun k _ => rfl, Nat.le_refl _, Nat.le_refl _, rfl⟩
  · rw [ho] at h; cases h
  · rw [ho] at h; cases h
  · rw [ho] at h; cases h
  · exact ⟨rfl, rfl, rfl, Nat.le_refl _, Nat.le_refl _, ⟨rfl, rfl, rfl⟩, fun b hb => hb.elim, fun k _ _ => rfl, ⟨rfl, (borOf_nil _).symm, rfl⟩⟩

/-- a law's contract, as the rows want it -/
theorem law_calls_gl {gl : List (Nat × Array Value)} {l : List Nat} {P : Program} {f : Nat} {α : Type} {args : α → List SV} {pre : α → Prop}
    (h : FnOk P f { A := α, args := args, objs := fun _ => [], pre := pre, res := fun _ => .val (.bool true), objs' := fun _ => [], fresh := true, ro := 0, inl := l, gl := gl }) (a : α) (hp : pre a) (W : World) (hgl : ∀ p ∈ gl, memOf W p.1 = some p.2) (vs : Array Value)
    (hA : ArgsRep (E0 W) vs (args a)) : Calls P f vs W fun e W' => e = .returned (.bool true) ∧ Below W.heap.size W W' := by
  refine (h.2 a hp (E0 W) vs W hgl (hrep0 W) hA).mono ?_
  rintro e w' ⟨v, E', rfl, hv, hh⟩
  obtain ⟨_, hI, hws⟩ := hh.fr.sync
  rw [hv.val_inv]
  refine ⟨rfl, hh.fr.os, hh.fr.tape, hh.fr.output, ?_, fun k hk => ?_⟩
  · have := hh.fr.wsz; rw [hws] at this; exact this
  · have := hh.fr.block k (by rw [hws]; exact hk) (by rw [hI]; rintro ⟨j, o, _, h, _⟩; simp at h)
    rw [hws] at this; exact this
theorem law_calls {P : Program} {f : Nat} {α : Type} {args : α → List SV} {pre : α → Prop}
    (h : FnOk P f { A := α, args := args, objs := fun _ => [], pre := pre, res := fun _ => .val (.bool true), objs' := fun _ => [], fresh := true, ro := 0 }) (a : α) (hp : pre a) (W : World) (vs : Array Value)
    (hA : ArgsRep (E0 W) vs (args a)) : Calls P f vs W fun e W' => e = .returned (.bool true) ∧ Below W.heap.size W W' :=
  law_calls_gl (gl := []) (l := []) h a hp W (fun p hp => by cases hp) vs hA

/- reading -/
/-- cells and the data that they hold -/
def Rel (μ : Nat → Option (Array Value)) (cs : List Value) (l : List PV) : Prop :=
  l.length = cs.length ∧ ∀ (k : Nat) (u : Value) (s : PV), cs[k]? = some u → l[k]? = some s → u.oneCell' = true ∧ PRep μ u s
theorem Rel.nil (μ : Nat → Option (Array Value)) : Rel μ [] [] := ⟨rfl, fun k u s h => by simp at h⟩
theorem Rel.one {μ : Nat → Option (Array Value)} {u : Value} {s : PV} (h1 : u.oneCell' = true) (h2 : PRep μ u s) : Rel μ [u] [s] :=
  ⟨rfl, fun k v t hv ht => by
    cases k with
    | zero => simp at hv ht; subst hv; subst ht; exact ⟨h1, h2⟩
    | succ k => simp at hv⟩
theorem Rel.append {μ : Nat → Option (Array Value)} {a b : List Value} {l m : List PV} (h : Rel μ a l) (k : Rel μ b m) : Rel μ (a ++ b) (l ++ m) := by
  refine ⟨by simp [h.1, k.1], fun i u s hu hs => ?_⟩
  by_cases hi : i < a.length
  · rw [List.getElem?_append_left hi] at hu
    rw [List.getElem?_append_left (by rw [h.1]; exact hi)] at hs
    exact h.2 i u s hu hs
  · rw [List.getElem?_append_right (by omega)] at hu
    rw [List.getElem?_append_right (by rw [h.1]; omega), h.1] at hs
    exact k.2 _ u s hu hs
theorem Rel.flatten {μ : Nat → Option (Array Value)} : ∀ {a : List (List Value)} {l : List (List PV)}, a.length = l.length → (∀ (i : Nat) x y, a[i]? = some x → l[i]? = some y → Rel μ x y) → Rel μ a.flatten l.flatten
  | [], [], _, _ => Rel.nil μ
  | x :: a, y :: l, hl, h => by
    simp only [List.flatten_cons]
    exact (h 0 x y rfl rfl).append (Rel.flatten (by simpa using hl) fun i u v hu hv => h (i + 1) u v hu hv)

/-- what data of a type are like -/
def Shape (P : Program) : Nat → TypeId → List PV → Prop
  | 0, _, _ => False
  | n + 1, t, l => match P.underlying t with
    | some .bool => ∃ b, l = [.val (.bool b)]
    | some (.int k) => ∃ m, (Lit.int k m).wf = true ∧ l = [.val (.int k m)]
    | some .string => ∃ s : ByteArray, s.size ≤ maxLen ∧ l = [.val (.string s)]
    | some (.slice e) => ∃ (m : Nat) (f : Nat → List PV), m ≤ maxLen ∧ l = [.seq m f] ∧ ∀ j, j < m → Shape P n e (f j)
    | some (.struct fs) => ∃ ls : List (List PV), l = ls.flatten ∧ ls.length = fs.size ∧ ∀ (i : Nat) (f : Field) (x : List PV), fs[i]? = some f → ls[i]? = some x → Shape P n f.type x
    | some (.array m e) => ∃ ls : List (List PV), l = ls.flatten ∧ ls.length = m ∧ ∀ (i : Nat) (x : List PV), ls[i]? = some x → Shape P n e x
    | _ => False

/-- the fields lie one behind the other -/
def contig (P : Program) : List Field → Nat → Nat → Bool
  | [], at_, n => at_ == n
  | f :: fs, at_, n => (f.offset == at_) && contig P fs (at_ + P.cellsOf f.type) n
/-- types that are read so, and all that they are made of -/
def okType (P : Program) (S : List TypeId) (t : TypeId) : Bool :=
  match P.underlying t with
  | some .bool => true
  | some (.int _) => true
  | some .string => true
  | some (.slice e) => S.contains e && (P.cellsOf e != 0)
  | some (.struct fs) => (fs.toList.all fun f => S.contains f.type) && contig P fs.toList 0 (P.cellsOf t)
  | some (.array m e) => S.contains e && (P.cellsOf t == m * P.cellsOf e)
  | _ => false
def Closed (P : Program) (S : List TypeId) : Prop := ∀ t ∈ S, okType P S t = true

theorem contig_parts {P : Program} {cs : List Value} : ∀ (fs : List Field) (at_ n : Nat), contig P fs at_ n = true → cs.length = n → (fs.map fun f => (cs.drop f.offset).take (P.cellsOf f.type)).flatten = cs.drop at_
  | [], at_, n, h, hn => by
    simp only [contig, beq_iff_eq] at h
    subst h; subst hn; simp
  | f :: fs, at_, n, h, hn => by
    simp only [contig, Bool.and_eq_true, beq_iff_eq] at h
    simp only [List.map_cons, List.flatten_cons]
    rw [contig_parts fs _ n h.2 hn, h.1, ← List.drop_drop, List.take_append_drop]
theorem array_parts {cs : List Value} (sz : Nat) : ∀ (m : Nat), m * sz ≤ cs.length → ((List.range m).map fun i => (cs.drop (i * sz)).take sz).flatten = cs.take (m * sz)
  | 0, _ => by simp
  | m + 1, h => by
    rw [List.range_succ, List.map_append, List.flatten_append, array_parts sz m (by rw [Nat.succ_mul] at h; omega)]
    simp only [List.map_cons, List.map_nil, List.flatten_cons, List.flatten_nil, List.append_nil]
    rw [Nat.succ_mul, List.take_add]

section
variable {H : Type} {enc : TypeId × Value → H} {P : Program} {w w' : World} {S : List TypeId}

theorem cells?_at {base : Nat} {a : Addr} {n : Nat} {cs : List Value} (h : w.cells? base a n = some cs) : cs.length = n ∧ ∀ (k : Nat) u, cs[k]? = some u → w.cell? (a.add k) = some u := by
  unfold World.cells? at h
  split at h
  · have h1 := mapM_some_length h
    refine ⟨by simpa using h1, fun k u hu => ?_⟩
    have hk : k < n := by
      have := (List.getElem?_eq_some_iff.1 hu).1
      rw [h1] at this; simpa using this
    have := mapM_some_get h k k (by simp [hk])
    rw [this, hu]
  · cases h

theorem rep_mem {b o len cap sz : Nat} {f : Nat → List PV} {cells : Array Value} {T : TypeId} {fr : Nat × Nat} (hb : w.heap[b]? = some (.cells cells T fr)) (hlc : len ≤ cap) (hm : len ≤ maxLen)
    (hl : ∀ j, j < len → (f j).length = sz) (hc : ∀ j k s, j < len → (f j)[k]? = some s → ∃ u, cells[o + (j * sz + k)]? = some u ∧ u.oneCell' = true ∧ PRep (memOf w) u s) :
    PRep (memOf w) (.slice (some ⟨b, o, none⟩) len cap) (.seq len f) := by
  refine .seq b o len cap sz f cells (fun j k => cells.getD (o + (j * sz + k)) undef) (memOf_of hb) hlc hm hl (fun j k s hj hs => ?_) (fun j k s hj hs => ?_)
  · obtain ⟨u, h1, h2, _⟩ := hc j k s hj hs
    rw [Array.getD_eq_getD_getElem?, h1]; exact ⟨rfl, h2⟩
  · obtain ⟨u, h1, _, h3⟩ := hc j k s hj hs
    rw [Array.getD_eq_getD_getElem?, h1]; exact h3

/-- **What a row hands over stands for data of its type.** -/
theorem trod_rep (hS : Closed P S) {base : Nat} {sp : Nat → Bool} {held : Bool} : ∀ (n : Nat) (t : TypeId) (cs : List Value) (x : DataW H × List MemPlace), t ∈ S →
    DataW.trod enc P w base sp held n t cs = some x → ∃ l, Shape P n t l ∧ Rel (memOf w) cs l
  | 0, _, _, _, _, h => by simp [DataW.trod] at h
  | n + 1, t, cs, x, ht, h => by
    have hok := hS t ht
    have ih := trod_rep hS (base := base) (sp := sp) (held := held) n
    unfold okType at hok
    cases hu : P.underlying t with
    | none => rw [hu] at hok; cases hok
    | some d =>
      rw [hu] at hok
      have hsh : ∀ l, Shape P (n + 1) t l = (match some d with
        | some .bool => ∃ b, l = [.val (.bool b)]
        | some (.int k) => ∃ m, (Lit.int k m).wf = true ∧ l = [.val (.int k m)]
        | some .string => ∃ s : ByteArray, s.size ≤ maxLen ∧ l = [.val (.string s)]
        | some (.slice e) => ∃ (m : Nat) (f : Nat → List PV), m ≤ maxLen ∧ l = [.seq m f] ∧ ∀ j, j < m → Shape P n e (f j)
        | some (.struct fs) => ∃ ls : List (List PV), l = ls.flatten ∧ ls.length = fs.size ∧ ∀ (i : Nat) (f : Field) (x : List PV), fs[i]? = some f → ls[i]? = some x → Shape P n f.type x
        | some (.array m e) => ∃ ls : List (List PV), l = ls.flatten ∧ ls.length = m ∧ ∀ (i : Nat) (x : List PV), ls[i]? = some x → Shape P n e x
        | _ => False) := fun l => by rw [← hu]; rfl
      cases d <;> simp only at hok <;> try (cases hok; done)
      case bool =>
        obtain ⟨b, rfl, rfl⟩ := DataW.trod_bool hu h
        exact ⟨[.val (.bool b)], by rw [hsh]; exact ⟨b, rfl⟩, Rel.one rfl (.val _)⟩
      case int k =>
        obtain ⟨m, rfl, rfl, hw⟩ := DataW.trod_int hu h
        exact ⟨[.val (.int k m)], by rw [hsh]; exact ⟨m, hw, rfl⟩, Rel.one rfl (.val _)⟩
      case string =>
        obtain ⟨s, rfl, rfl, hs⟩ := DataW.trod_string hu h
        exact ⟨[.val (.string s)], by rw [hsh]; exact ⟨s, hs, rfl⟩, Rel.one rfl (.val _)⟩
      case slice e =>
        simp only [Bool.and_eq_true, List.contains_eq_mem, decide_eq_true_eq, bne_iff_ne] at hok
        rcases DataW.trod_slice hu h with ⟨rfl, rfl⟩ | ⟨a, len, cap, elems, rest, n', hn', rfl, rfl, hb, hlc, hcm, hel, hget, _⟩
        · exact ⟨[.seq 0 fun _ => []], by rw [hsh]; exact ⟨0, _, Nat.zero_le _, rfl, fun j hj => absurd hj (Nat.not_lt_zero _)⟩, Rel.one rfl (.nil _)⟩
        · obtain rfl : n = n' := by omega
          have each : ∀ i, ∃ l, i < len → (Shape P n e l ∧ ∃ q, w.cells? base (a.add (i * P.cellsOf e)) (P.cellsOf e) = some q ∧ Rel (memOf w) q l) := fun i => by
            by_cases hi : i < len
            · have hg := hget i hi
              rw [List.getElem?_eq_getElem (by omega)] at hg
              cases hc : w.cells? base (a.add (i * P.cellsOf e)) (P.cellsOf e) with
              | none => rw [hc] at hg; cases hg
              | some q =>
                rw [hc] at hg
                obtain ⟨l, h1, h2⟩ := ih e q _ hok.1 hg
                exact ⟨l, fun _ => ⟨h1, q, rfl, h2⟩⟩
            · exact ⟨[], fun h => absurd h hi⟩
          obtain ⟨f, hf⟩ := Classical.axiomOfChoice each
          refine ⟨[.seq len f], by rw [hsh]; exact ⟨len, f, Nat.le_trans hlc hcm, rfl, fun j hj => (hf j hj).1⟩, Rel.one rfl ?_⟩
          rcases Nat.eq_zero_or_pos len with h0 | hpos
          · subst h0; exact .emp a cap f
          · have hc0 : ∀ j k s, j < len → (f j)[k]? = some s → ∃ u, w.cell? (a.add (j * P.cellsOf e + k)) = some u ∧ u.oneCell' = true ∧ PRep (memOf w) u s := by
              intro j k s hj hs
              obtain ⟨_, q, hq, hr⟩ := hf j hj
              obtain ⟨hql, hqc⟩ := cells?_at hq
              have hk : k < q.length := by rw [← hr.1]; exact (List.getElem?_eq_some_iff.1 hs).1
              have hqk : q[k]? = some q[k] := List.getElem?_eq_getElem hk
              obtain ⟨g1, g2⟩ := hr.2 k _ s hqk hs
              have := hqc k _ hqk
              rw [Addr.add_add] at this
              exact ⟨_, this, g1, g2⟩
            have hlen : ∀ j, j < len → (f j).length = P.cellsOf e := fun j hj => by
              obtain ⟨_, q, hq, hr⟩ := hf j hj
              rw [hr.1]; exact (cells?_at hq).1
            obtain ⟨b, o, spot⟩ := a
            have h00 := hlen 0 hpos
            obtain ⟨u, hu0, _⟩ := hc0 0 0 ((f 0)[0]'(by omega)) hpos (List.getElem?_eq_getElem _)
            have hz : ((⟨b, o, spot⟩ : Addr).add (0 * P.cellsOf e + 0)) = ⟨b, o, spot⟩ := by simp [Addr.add]
            rw [hz] at hu0
            unfold World.cell? at hu0
            cases hh : w.heap[b]? with
            | none => simp [hh] at hu0
            | some ob =>
              cases ob <;> try (simp [hh] at hu0; done)
              rename_i cells T fr
              cases spot with
              | some q => simp [hh] at hu0
              | none =>
                refine rep_mem hh hlc (Nat.le_trans hlc hcm) hlen fun j k s hj hs => ?_
                obtain ⟨u, g1, g2, g3⟩ := hc0 j k s hj hs
                rw [Addr.add_lit] at g1
                refine ⟨u, ?_, g2, g3⟩
                simpa [World.cell?, hh] using g1
      case struct fs =>
        simp only [Bool.and_eq_true] at hok
        obtain ⟨xs, n', hn', rfl, hl, hxl, hget⟩ := DataW.trod_struct hu h
        obtain rfl : n = n' := by omega
        have each : ∀ i : Nat, ∃ l, ∀ f : Field, fs[i]? = some f → Shape P n f.type l ∧ Rel (memOf w) ((cs.drop f.offset).take (P.cellsOf f.type)) l := fun i => by
          cases hfi : fs[i]? with
          | none => exact ⟨[], fun f h => by cases h⟩
          | some f =>
            have hi : i < fs.size := (Array.getElem?_eq_some_iff.1 hfi).1
            have hg := hget i f hfi
            rw [List.getElem?_eq_getElem (by omega)] at hg
            have hS' : f.type ∈ S := by
              have := List.all_eq_true.1 hok.1 f (Array.mem_toList_iff.2 (Array.mem_of_getElem? hfi))
              simpa using this
            obtain ⟨l, h1, h2⟩ := ih f.type _ _ hS' hg
            exact ⟨l, fun g hg' => by cases hg'; exact ⟨h1, h2⟩⟩
        obtain ⟨g, hg⟩ := Classical.axiomOfChoice each
        refine ⟨((List.range fs.size).map g).flatten, ?_, ?_⟩
        · rw [hsh]
          refine ⟨_, rfl, by simp, fun i f x hf hx => ?_⟩
          have hi : i < fs.size := (Array.getElem?_eq_some_iff.1 hf).1
          simp [hi] at hx
          subst hx
          exact (hg i f hf).1
        · have e := contig_parts (cs := cs) fs.toList 0 _ hok.2 hl
          rw [List.drop_zero] at e
          rw [← e]
          refine Rel.flatten (by simp) fun i x y hx hy => ?_
          simp only [List.getElem?_map, Array.getElem?_toList, Option.map_eq_some_iff] at hx hy
          obtain ⟨f, hf, rfl⟩ := hx
          obtain ⟨j, hj, rfl⟩ := hy
          have hi : i < fs.size := (Array.getElem?_eq_some_iff.1 hf).1
          simp [hi] at hj
          subst hj
          exact (hg i f hf).2
      case array m e =>
        simp only [Bool.and_eq_true, List.contains_eq_mem, decide_eq_true_eq, beq_iff_eq] at hok
        obtain ⟨xs, n', hn', rfl, hl, hxl, hget⟩ := DataW.trod_array hu h
        obtain rfl : n = n' := by omega
        have each : ∀ i, ∃ l, i < m → Shape P n e l ∧ Rel (memOf w) ((cs.drop (i * P.cellsOf e)).take (P.cellsOf e)) l := fun i => by
          by_cases hi : i < m
          · have hg := hget i hi
            rw [List.getElem?_eq_getElem (by omega)] at hg
            obtain ⟨l, h1, h2⟩ := ih e _ _ hok.1 hg
            exact ⟨l, fun _ => ⟨h1, h2⟩⟩
          · exact ⟨[], fun h => absurd h hi⟩
        obtain ⟨g, hg⟩ := Classical.axiomOfChoice each
        refine ⟨((List.range m).map g).flatten, ?_, ?_⟩
        · rw [hsh]
          refine ⟨_, rfl, by simp, fun i x hx => ?_⟩
          have hi : i < m := by
            have := (List.getElem?_eq_some_iff.1 hx).1
            simpa using this
          simp [hi] at hx
          subst hx
          exact (hg i hi).1
        · have e1 := array_parts (cs := cs) (P.cellsOf e) m (by rw [hl, hok.2]; exact Nat.le_refl _)
          rw [← hok.2, ← hl, List.take_length] at e1
          rw [← e1]
          refine Rel.flatten (by simp) fun i x y hx hy => ?_
          have hi : i < m := by
            have := (List.getElem?_eq_some_iff.1 hx).1
            simpa using this
          simp [hi] at hx hy
          subst hx; subst hy
          exact (hg i hi).2

theorem mapM_same {α β : Type} {f g : α → Option β} : ∀ {l : List α} {xs : List β}, (∀ a ∈ l, ∀ x, f a = some x → x ∈ xs → g a = some x) → l.mapM f = some xs → l.mapM g = some xs
  | [], xs, _, h => h
  | a :: l, xs, h, hf => by
    rw [List.mapM_cons] at hf
    cases ha : f a with
    | none => rw [ha] at hf; cases hf
    | some x =>
      cases hl : l.mapM f with
      | none => rw [ha, hl] at hf; cases hf
      | some xs' =>
        rw [ha, hl] at hf
        have e : x :: xs' = xs := Option.some.inj hf
        subst e
        rw [List.mapM_cons, h a (by simp) x ha (by simp), mapM_same (fun b hb y hy hm => h b (by simp [hb]) y hy (by simp [hm])) hl]; rfl
theorem mapM_mk {α β : Type} {f : α → Option β} : ∀ {l : List α} {xs : List β}, xs.length = l.length → (∀ (i : Nat) a, l[i]? = some a → f a = xs[i]?) → l.mapM f = some xs
  | [], xs, hl, _ => by
    have : xs = [] := List.length_eq_zero_iff.1 hl
    subst this; rfl
  | a :: l, [], hl, _ => by simp at hl
  | a :: l, x :: xs, hl, h => by
    rw [List.mapM_cons, h 0 a rfl, mapM_mk (f := f) (l := l) (xs := xs) (by simpa using hl) (fun i b hb => h (i + 1) b hb)]; rfl

theorem cells?_keep (hh : ∀ b, b < w.heap.size → w'.heap[b]? = w.heap[b]?) {base : Nat} {a : Addr} {n : Nat} {cs : List Value} (hn : n ≠ 0) (h : w.cells? base a n = some cs) : w'.cells? base a n = some cs := by
  have hlt := World.cells?_block h (Nat.pos_of_ne_zero hn)
  unfold World.cells? at h ⊢
  split at h
  · rename_i hb
    rw [if_pos hb]
    refine mapM_same (fun i _ u hu _ => ?_) h
    have hblk : (a.add i).block = a.block := ChangeShapes.block_add a i
    unfold World.cell? at hu ⊢
    rw [hblk] at hu ⊢
    rw [hh _ hlt]; exact hu
  · cases h

theorem trod_keep (hS : Closed P S) (hh : ∀ b, b < w.heap.size → w'.heap[b]? = w.heap[b]?) {base : Nat} {sp : Nat → Bool} {held : Bool} : ∀ (n : Nat) (t : TypeId) (cs : List Value) (x : DataW H × List MemPlace), t ∈ S →
    DataW.trod enc P w base (fun _ => true) held n t cs = some x → (∀ p ∈ x.2, sp p.block = true) → DataW.trod enc P w' base sp held n t cs = some x
  | 0, _, _, _, _, h, _ => by simp [DataW.trod] at h
  | n + 1, t, cs, x, ht, h, hp => by
    have hok := hS t ht
    have ih := trod_keep hS hh (base := base) (sp := sp) (held := held) n
    unfold okType at hok
    cases hu : P.underlying t with
    | none => rw [hu] at hok; cases hok
    | some d =>
      rw [hu] at hok
      cases d <;> simp only at hok <;> try (cases hok; done)
      case bool =>
        obtain ⟨b, rfl, rfl⟩ := DataW.trod_bool hu h
        unfold DataW.trod; rw [hu]
      case int k =>
        obtain ⟨m, rfl, rfl, hw⟩ := DataW.trod_int hu h
        unfold DataW.trod; rw [hu]; simp [hw]
      case string =>
        obtain ⟨s, rfl, rfl, hs⟩ := DataW.trod_string hu h
        unfold DataW.trod; rw [hu]; simp [hs]
      case slice e =>
        simp only [Bool.and_eq_true, List.contains_eq_mem, decide_eq_true_eq, bne_iff_ne] at hok
        rcases DataW.trod_slice hu h with ⟨rfl, rfl⟩ | ⟨a, len, cap, elems, rest, n', hn', rfl, rfl, hb, hlc, hcm, hel, hget, hrest, _⟩
        · unfold DataW.trod; rw [hu]; rfl
        · obtain rfl : n = n' := by omega
          obtain ⟨hrl, hrget⟩ := hrest rfl
          have step : ∀ (i : Nat) (y : DataW H × List MemPlace), y ∈ elems ++ rest → (w.cells? base (a.add (i * P.cellsOf e)) (P.cellsOf e)).bind (DataW.trod enc P w base (fun _ => true) held n e) = some y →
              (w'.cells? base (a.add (i * P.cellsOf e)) (P.cellsOf e)).bind (DataW.trod enc P w' base sp held n e) = some y := by
            intro i y hy hb
            cases hc : w.cells? base (a.add (i * P.cellsOf e)) (P.cellsOf e) with
            | none => rw [hc] at hb; cases hb
            | some q =>
              rw [hc] at hb
              rw [cells?_keep hh hok.2 hc]
              exact ih e q y hok.1 hb fun p hpy => hp p (List.mem_append.2 (.inr (List.mem_flatMap.2 ⟨y, hy, hpy⟩)))
          have he : (List.range len).mapM (fun i => (w'.cells? base (a.add (i * P.cellsOf e)) (P.cellsOf e)).bind (DataW.trod enc P w' base sp held n e)) = some elems := by
            refine mapM_mk (by simp [hel]) fun i j hj => ?_
            have hi : i < len := by
              have := (List.getElem?_eq_some_iff.1 hj).1
              simpa using this
            simp [hi] at hj
            subst hj
            have hg := hget i hi
            have hs : elems[i]? = some (elems[i]'(by omega)) := List.getElem?_eq_getElem _
            rw [hs] at hg ⊢
            exact step i _ (List.mem_append.2 (.inl (List.getElem_mem _))) hg
          have hr : (if sp a.block = true then (List.range (cap - len)).mapM (fun j => (w'.cells? base (a.add ((len + j) * P.cellsOf e)) (P.cellsOf e)).bind (DataW.trod enc P w' base sp held n e)) else some []) = some rest := by
            by_cases hsp : sp a.block = true
            · rw [if_pos hsp]
              refine mapM_mk (by simp [hrl]) fun i j hj => ?_
              have hi : i < cap - len := by
                have := (List.getElem?_eq_some_iff.1 hj).1
                simpa using this
              simp [hi] at hj
              subst hj
              have hg := hrget i hi
              have hs : rest[i]? = some (rest[i]'(by omega)) := List.getElem?_eq_getElem _
              rw [hs] at hg ⊢
              exact step (len + i) _ (List.mem_append.2 (.inr (List.getElem_mem _))) hg
            · rw [if_neg hsp]
              have h0 : rest.length = 0 := by
                rcases Nat.eq_zero_or_pos rest.length with h0 | h0
                · exact h0
                · exfalso
                  refine hsp (hp (.cell a.block (a.off + 0)) (List.mem_append.2 (.inl ?_)))
                  unfold MemPlace.row
                  refine List.mem_map.2 ⟨0, List.mem_range.2 (Nat.mul_pos (by omega) (Nat.pos_of_ne_zero hok.2)), rfl⟩
              rw [List.length_eq_zero_iff.1 h0]
          unfold DataW.trod
          rw [hu]
          simp only [hb, hlc, hcm, and_self, if_true, he, hr, Option.bind_some, Option.map_some]
      case struct fs =>
        simp only [Bool.and_eq_true] at hok
        obtain ⟨xs, n', hn', rfl, hl, hxl, hget⟩ := DataW.trod_struct hu h
        obtain rfl : n = n' := by omega
        refine ChangeShapes.trod_struct_mk hu hl (mapM_mk (by simp [hxl]) fun i f hf => ?_)
        have hf : fs[i]? = some f := by simpa using hf
        have hi : i < fs.size := (Array.getElem?_eq_some_iff.1 hf).1
        have hg := hget i f hf
        have hs : xs[i]? = some (xs[i]'(by omega)) := List.getElem?_eq_getElem _
        rw [hs] at hg ⊢
        have hS' : f.type ∈ S := by
          have := List.all_eq_true.1 hok.1 f (Array.mem_toList_iff.2 (Array.mem_of_getElem? hf))
          simpa using this
        exact ih f.type _ _ hS' hg fun p hpy => hp p (List.mem_flatMap.2 ⟨_, List.getElem_mem _, hpy⟩)
      case array m e =>
        simp only [Bool.and_eq_true, List.contains_eq_mem, decide_eq_true_eq, beq_iff_eq] at hok
        obtain ⟨xs, n', hn', rfl, hl, hxl, hget⟩ := DataW.trod_array hu h
        obtain rfl : n = n' := by omega
        have hm : (List.range m).mapM (fun i => DataW.trod enc P w' base sp held n e ((cs.drop (i * P.cellsOf e)).take (P.cellsOf e))) = some xs := by
          refine mapM_mk (by simp [hxl]) fun i j hj => ?_
          have hi : i < m := by
            have := (List.getElem?_eq_some_iff.1 hj).1
            simpa using this
          simp [hi] at hj
          subst hj
          have hg := hget i hi
          have hs : xs[i]? = some (xs[i]'(by omega)) := List.getElem?_eq_getElem _
          rw [hs] at hg ⊢
          exact ih e _ _ hok.1 hg fun p hpy => hp p (List.mem_flatMap.2 ⟨_, List.getElem_mem _, hpy⟩)
        unfold DataW.trod
        rw [hu]
        simp only [hl, if_true, hm, Option.map_some]

theorem trodAll_keep (hS : Closed P S) (hh : ∀ b, b < w.heap.size → w'.heap[b]? = w.heap[b]?) {base : Nat} {sp : Nat → Bool} {held : Bool} : ∀ {ts : List TypeId} {vs : List Value} {ds : List (DataW H)} {ps : List MemPlace}, (∀ t ∈ ts, t ∈ S) →
    DataW.TrodAll enc P w base (fun _ => true) held ts vs ds ps → (∀ p ∈ ps, sp p.block = true) → DataW.TrodAll enc P w' base sp held ts vs ds ps
  | [], [], [], ps, _, h, _ => h
  | t :: ts, v :: vs, d :: ds, ps, hts, ⟨p, q, ⟨fuel, h1⟩, h2, he⟩, hp => by
    subst he
    exact ⟨p, q, ⟨fuel, trod_keep hS hh fuel t _ _ (hts t (by simp)) h1 fun x hx => hp x (List.mem_append.2 (.inl hx))⟩, trodAll_keep hS hh (fun t ht => hts t (by simp [ht])) h2 fun x hx => hp x (List.mem_append.2 (.inr hx)), rfl⟩
  | [], [], _ :: _, _, _, h, _ => h.elim
  | [], _ :: _, _, _, _, h, _ => h.elim
  | _ :: _, [], _, _, _, h, _ => h.elim
  | _ :: _, _ :: _, [], _, _, h, _ => h.elim

/-- the arguments, as data -/
theorem trodAll_rep (hS : Closed P S) {base : Nat} {sp : Nat → Bool} {held : Bool} : ∀ {ts : List TypeId} {vs : List Value} {ds : List (DataW H)} {ps : List MemPlace}, (∀ t ∈ ts, t ∈ S) →
    DataW.TrodAll enc P w base sp held ts vs ds ps → vs.length = ts.length ∧ ds.length = ts.length ∧ ∀ (i : Nat) t v, ts[i]? = some t → vs[i]? = some v → ∃ n l, Shape P n t l ∧ Rel (memOf w) v.cells.toList l
  | [], [], [], ps, _, h => ⟨rfl, rfl, fun i t v h => by simp at h⟩
  | t :: ts, v :: vs, d :: ds, ps, hts, ⟨p, q, ⟨fuel, h1⟩, h2, he⟩ => by
    obtain ⟨g1, g2, g3⟩ := trodAll_rep hS (fun t ht => hts t (by simp [ht])) h2
    refine ⟨by simp [g1], by simp [g2], fun i t' v' ht hv => ?_⟩
    cases i with
    | zero =>
      simp at ht hv
      subst ht; subst hv
      obtain ⟨l, h3, h4⟩ := trod_rep hS fuel t _ _ (hts t (by simp)) h1
      exact ⟨fuel, l, h3, h4⟩
    | succ i => simp at ht hv; exact g3 i t' v' ht hv
  | [], [], _ :: _, _, _, h => h.elim
  | [], _ :: _, _, _, _, h => h.elim
  | _ :: _, [], _, _, _, h => h.elim
  | _ :: _, _ :: _, [], _, _, h => h.elim

theorem sr_agg {v : Value} {cs : Array Value} {l : List PV} (hv : v = .agg cs) (h : Rel (memOf w) v.cells.toList l) : SRep (E0 w) v (.p false (.agg l)) := by
  subst hv
  have h' : Rel (memOf w) cs.toList l := h
  refine .p false _ _ (.agg cs l (by rw [h'.1]; simp) (fun k u hu => ?_) (fun k u s hu hs => (h'.2 k u s (by simpa using hu) hs).2))
  have hk : k < cs.size := (Array.getElem?_eq_some_iff.1 hu).1
  have hl : k < l.length := by rw [h'.1]; simpa using hk
  exact (h'.2 k u _ (by simpa using hu) (List.getElem?_eq_getElem hl)).1
theorem sr_one {v : Value} {s : PV} (hna : ∀ cs, v ≠ .agg cs) (h : Rel (memOf w) v.cells.toList [s]) : SRep (E0 w) v (.p false s) := by
  have e : v.cells = #[v] := by
    cases v <;> first | rfl | exact absurd rfl (hna _)
  rw [e] at h
  exact .p false _ _ (h.2 0 v s rfl rfl).2
theorem ok_struct {t : TypeId} {fs : Array Field} {r : Reach} {b : Nat} {v : Value} (hu : P.underlying t = some (.struct fs)) (h : Value.okWide P w r b t v) : ∃ cs, v = .agg cs := by
  unfold Value.okWide at h
  rw [hu] at h
  obtain ⟨cs, h1, _⟩ := h
  exact ⟨cs, h1⟩
theorem ok_array {t : TypeId} {m e : Nat} {r : Reach} {b : Nat} {v : Value} (hu : P.underlying t = some (.array m e)) (h : Value.okWide P w r b t v) : ∃ cs, v = .agg cs := by
  unfold Value.okWide at h
  rw [hu] at h
  obtain ⟨cs, h1, _⟩ := h
  exact ⟨cs, h1⟩
theorem ok_int {t : TypeId} {k : IntKind} {r : Reach} {b : Nat} {v : Value} (hu : P.underlying t = some (.int k)) (h : Value.okWide P w r b t v) : ∀ cs, v ≠ .agg cs := by
  rintro cs rfl
  simp [Value.okWide, Cell.okWide, Cell.ok, hu] at h
theorem ok_bool {t : TypeId} {r : Reach} {b : Nat} {v : Value} (hu : P.underlying t = some .bool) (h : Value.okWide P w r b t v) : ∀ cs, v ≠ .agg cs := by
  rintro cs rfl
  simp [Value.okWide, Cell.okWide, Cell.ok, hu] at h
theorem ok_string {t : TypeId} {r : Reach} {b : Nat} {v : Value} (hu : P.underlying t = some .string) (h : Value.okWide P w r b t v) : ∀ cs, v ≠ .agg cs := by
  rintro cs rfl
  simp [Value.okWide, Cell.okWide, Cell.ok, hu] at h
theorem ok_slice {t e : TypeId} {r : Reach} {b : Nat} {v : Value} (hu : P.underlying t = some (.slice e)) (h : Value.okWide P w r b t v) : ∀ cs, v ≠ .agg cs := by
  rintro cs rfl
  simp [Value.okWide, Cell.okWide, Cell.ok, hu] at h

/- shapes -/
theorem shape_int {t : TypeId} {k : IntKind} {n : Nat} {l : List PV} (hu : P.underlying t = some (.int k)) (h : Shape P n t l) : ∃ m, (Lit.int k m).wf = true ∧ l = [.val (.int k m)] := by
  cases n with
  | zero => exact h.elim
  | succ n => unfold Shape at h; rw [hu] at h; exact h
theorem shape_bool {t : TypeId} {n : Nat} {l : List PV} (hu : P.underlying t = some .bool) (h : Shape P n t l) : ∃ b, l = [.val (.bool b)] := by
  cases n with
  | zero => exact h.elim
  | succ n => unfold Shape at h; rw [hu] at h; exact h
theorem shape_string {t : TypeId} {n : Nat} {l : List PV} (hu : P.underlying t = some .string) (h : Shape P n t l) : ∃ s : ByteArray, s.size ≤ maxLen ∧ l = [.val (.string s)] := by
  cases n with
  | zero => exact h.elim
  | succ n => unfold Shape at h; rw [hu] at h; exact h
theorem shape_slice {t e : TypeId} {n : Nat} {l : List PV} (hu : P.underlying t = some (.slice e)) (h : Shape P n t l) : ∃ (m : Nat) (f : Nat → List PV) (n' : Nat), m ≤ maxLen ∧ l = [.seq m f] ∧ ∀ j, j < m → Shape P n' e (f j) := by
  cases n with
  | zero => exact h.elim
  | succ n => unfold Shape at h; rw [hu] at h; obtain ⟨m, f, h1, h2, h3⟩ := h; exact ⟨m, f, n, h1, h2, h3⟩
def ShapeL (P : Program) (n : Nat) : List TypeId → List (List PV) → Prop
  | [], [] => True
  | t :: ts, l :: ls => Shape P n t l ∧ ShapeL P n ts ls
  | _, _ => False
theorem shapeL_of {n : Nat} : ∀ (ts : List TypeId) (ls : List (List PV)), ls.length = ts.length → (∀ (i : Nat) t x, ts[i]? = some t → ls[i]? = some x → Shape P n t x) → ShapeL P n ts ls
  | [], [], _, _ => trivial
  | t :: ts, l :: ls, hl, h => ⟨h 0 t l rfl rfl, shapeL_of ts ls (by simpa using hl) fun i t x ht hx => h (i + 1) t x ht hx⟩
  | [], _ :: _, hl, _ => by simp at hl
  | _ :: _, [], hl, _ => by simp at hl
theorem shape_struct {t : TypeId} {fs : Array Field} {n : Nat} {l : List PV} {ts : List TypeId} (hu : P.underlying t = some (.struct fs)) (hts : fs.toList.map (·.type) = ts) (h : Shape P n t l) :
    ∃ (ls : List (List PV)) (n' : Nat), l = ls.flatten ∧ ShapeL P n' ts ls := by
  cases n with
  | zero => exact h.elim
  | succ n =>
    unfold Shape at h; rw [hu] at h
    obtain ⟨ls, rfl, h1, h2⟩ := h
    refine ⟨ls, n, rfl, shapeL_of ts ls (by rw [h1, ← hts]; simp) fun i t x ht hx => ?_⟩
    subst hts
    simp only [List.getElem?_map, Array.getElem?_toList, Option.map_eq_some_iff] at ht
    obtain ⟨f, hf, rfl⟩ := ht
    exact h2 i f x hf hx
theorem shape_array {t e : TypeId} {m n : Nat} {l : List PV} (hu : P.underlying t = some (.array m e)) (h : Shape P n t l) :
    ∃ (ls : List (List PV)) (n' : Nat), l = ls.flatten ∧ ls.length = m ∧ ∀ (i : Nat) x, ls[i]? = some x → Shape P n' e x := by
  cases n with
  | zero => exact h.elim
  | succ n =>
    unfold Shape at h; rw [hu] at h
    obtain ⟨ls, h0, h1, h2⟩ := h
    exact ⟨ls, n, h0, h1, h2⟩
theorem wf_U {m : Int} (h : (Lit.int .u64 m).wf = true) : ∃ x : U, m = (x.toNat : Int) := by
  simp [Lit.wf, IntKind.min, IntKind.max, IntKind.signed, IntKind.bits] at h
  refine ⟨BitVec.ofInt 64 m, ?_⟩
  rw [BitVec.toNat_ofInt]; omega

def AR (E : Env) : List Value → List SV → Prop
  | [], [] => True
  | v :: vs, s :: ss => SRep E v s ∧ AR E vs ss
  | _, _ => False
theorem AR.get {E : Env} : ∀ (vs : List Value) (ss : List SV), AR E vs ss → vs.length = ss.length ∧ ∀ (k : Nat) u s, vs[k]? = some u → ss[k]? = some s → SRep E u s
  | [], [], _ => ⟨rfl, fun k u s h => by simp at h⟩
  | v :: vs, s :: ss, h => by
    obtain ⟨h1, h2⟩ := AR.get vs ss h.2
    refine ⟨by simp [h1], fun k u t hu ht => ?_⟩
    cases k with
    | zero => simp at hu ht; subst hu; subst ht; exact h.1
    | succ k => simp at hu ht; exact h2 k u t hu ht
  | [], _ :: _, h => h.elim
  | _ :: _, [], h => h.elim
theorem argsRep_of {E : Env} {vs : List Value} {ss : List SV} (h : AR E vs ss) : ArgsRep E vs.toArray ss := by
  obtain ⟨h1, h2⟩ := AR.get vs ss h
  exact ⟨by simpa using h1, fun k u s hu hs => h2 k u s (by simpa using hu) hs⟩
end

end Go.Sx

namespace Go.Sx
open Go

/-- the verification condition of a function's code, run in place -/
def inlVC (X : Cfg) (fn : Func) (args : List SV) (st : St) (K : SV → St → Prop) : Prop :=
  forceCs args fun args => args.length.ble fn.ntmps = true ∧
    match fn.body with
    | some c => forceSt ⟨enumS 0 args, st.ob, st.no, st.k⟩ fun st0 => vc c ⟨X.P, X.Tb, fn.ntmps, X.ro, X.m, true, none, X.inl, X.gl⟩ st0 fun e st' =>
        match e with
        | .normal | .ret => match resSV ⟨X.P, X.Tb, fn.ntmps, X.ro, X.m, true, none, X.inl, X.gl⟩ st' fn.results.toList with
          | some s => K s st'
          | none => False
        | _ => False
    | none => False

theorem fnInl {X : Cfg} {f : Nat} {fn : Func} {args : List SV} {st : St} {K : SV → St → Prop} (hm : X.P.follows .mixedOrders = true) (hTb : X.Tb.Ok X.P) (hf : X.P.funcs[f]? = some fn) (hnm : (fn.name == "runtime.NumGoroutine") = false) (hb : fn.body.isSome = true)
    (h : inlVC X fn args st K) : FnInl X f args st K := by
  refine ⟨⟨fn, hf, hb, hnm⟩, fun C E vs w hCm hCro hrm hlent hgl hh hA => ?_⟩
  unfold inlVC at h
  rw [forceCs_eq] at h
  obtain ⟨h1, hvc⟩ := h
  cases hbody : fn.body with
  | none => rw [hbody] at hb; cases hb
  | some c =>
    simp only [hbody, forceSt_eq] at hvc
    have hlen : args.length ≤ fn.ntmps := Nat.le_of_ble_eq_true h1
    obtain ⟨hsz, hrep⟩ := hA
    obtain ⟨C', hC'⟩ : ∃ C' : Ctx, C' = { C with nt := fn.ntmps, kh := st.no, hd0 := E.hd, mem0 := E.mem, wk := w, nm := true, J := fun k I ws => k = E.k ∧ I = E.I ∧ ws = E.ws } := ⟨_, rfl⟩
    have hmno := hh.mno
    have hmkh := hh.mkh
    refine callsIn_wide.1 (callsIn_of_wp_marks (F := Fence.wide) (n := 9) hf hbody trivial ?_ rfl)
    refine vc_ok c C' ⟨X.P, X.Tb, fn.ntmps, X.ro, X.m, true, none, X.inl, X.gl⟩ _ hm hTb (by rw [hC']) (by rw [hC']; exact hCro) ⟨by rw [hC']; exact hCm, fun l xs hy => (by cases hy), fun hx => (by cases hx), fun i b hi hb => ?_, by rw [hC']; exact hrm, fun p hp => by rw [hC']; exact hh.mem0 _ _ (hgl p hp)⟩ (by rw [hC']; exact hrm) (.inl rfl) _ _ E _ w hvc ⟨?_, fun t => ?_, ?_, (fun D o hD _ => by rw [hC'] at hD; exact hD), [], fun _ => rfl, rfl, List.nodup_nil, by simp⟩ _ ?_
    · rw [hC'] at hi hb ⊢
      have hi : i < C.m := hi
      have hb : (E.hd i).bind blockOf = some b := hb
      rw [hh.hd0 i (by omega)] at hb
      exact hlent i b hi hb
    · rw [hC']; simp; omega
    · have hget : St.get ⟨enumS 0 args, st.ob, st.no, st.k⟩ t = match args[t]? with | some s => s | none => .any := by
        unfold St.get
        simp only [enumS_look, Nat.zero_le, if_true, Nat.sub_zero]
        cases args[t]? <;> rfl
      rw [hget]
      cases hs : args[t]? with
      | none => exact .any _
      | some s =>
        have ht : t < vs.size := by rw [hsz]; exact (List.getElem?_eq_some_iff.1 hs).1
        have hu : vs[t]? = some vs[t] := Array.getElem?_eq_getElem ht
        have : (vs ++ Array.replicate (fn.ntmps - vs.size) undef).getD t undef = vs[t] := by
          rw [Array.getD_eq_getD_getElem?, Array.getElem?_append_left ht, hu]; rfl
        rw [this]
        exact hrep t _ s hu hs
    · rw [hC']
      exact ⟨fun i o ho => hh.ob i o ho, fun i j o o' b ho ho' => hh.sep i j o o' b ho ho', fun i o b ho hb => hh.own i o b ho hb, hh.mem, fun _ _ h => h, fun _ _ h => .inl h, fun i hi => hh.new i hi, hh.base, ⟨hh.fr.os, hh.fr.tape, hh.fr.output, hh.fr.bsz, hh.fr.wsz, hh.fr.wos, hh.fr.isz, hh.fr.block, rfl, rfl, rfl⟩, fun _ _ => rfl, Nat.le_refl _, by show C.m ≤ st.no; omega, hh.kk⟩
    · intro e st' E' a' w' hq hM
      have main : (match resSV ⟨X.P, X.Tb, fn.ntmps, X.ro, X.m, true, none, X.inl, X.gl⟩ st' fn.results.toList with
          | some s => K s st'
          | none => False) →
          LeavesInM Fence.wide 9 X.P fn a'.tmps (fun e w' => ∃ v E' s st', e = .returned v ∧ SRep E' v s ∧ (E.Le E' ∧ E'.ws = E.ws ∧ E'.I = E.I) ∧ HRep C E' st' w' ∧ KeepNC w w' ∧ K s st') a'.defers .returning w' := by
        intro hres
        split at hres
        · rename_i s hs
          obtain ⟨v, hv, hrun⟩ := results_run (X := ⟨X.P, X.Tb, fn.ntmps, X.ro, X.m, true, none, X.inl, X.gl⟩) hM hTb hs
          obtain ⟨hknc, l, hl0, hl1, hl2, hl3⟩ := hM.marks
          have hnil : l = [] := hl0 (by rw [hC'])
          rw [hl1]
          refine leaves_marks l w' hl2 (fun D hD => (hl3 D hD).2) fun w1 g1 g2 g3 g4 g5 => ?_
          have hnot : ∀ (b : Nat) (cs : Array Value) (T : TypeId) (fr : Nat × Nat), w'.heap[b]? = some (Obj.cells cs T fr) → b ∉ l := fun b cs T fr hb hm => by rw [(hl3 b hm).2] at hb; cases hb
          obtain ⟨hEk, hEI, hEw⟩ : E'.k = E.k ∧ E'.I = E.I ∧ E'.ws = E.ws := by have := hM.heap.fr.sync; rw [hC'] at this; exact this
          have hhd : ∀ k, k < st.no → E'.hd k = E.hd k := fun k hk => by have := hM.heap.hd0 k (by rw [hC']; exact hk); rw [hC'] at this; exact this
          have hmem : ∀ b cs, E.mem b = some cs → E'.mem b = some cs := fun b cs hb => hM.heap.mem0 b cs (by rw [hC']; exact hb)
          have hbase : E'.base = E.base := by rw [hM.heap.base, hC', hh.base]
          have hlow : ∀ D ∈ l, w.heap.size ≤ D := fun D hD => by rw [hnil] at hD; cases hD
          refine ⟨v, hrun w1 (fun b cs T hb => g5 b (hnot b _ _ _ hb)), v, E', s, st', rfl, hv, ⟨⟨fun i v hi => ?_, hmem, hbase⟩, hEw, hEI⟩, ?_, fun D o hD ho => ?_, hres⟩
          · rw [hhd i (Classical.byContradiction fun hge => by rw [hh.new i (by omega)] at hi; cases hi)]; exact hi
          · have hH := hM.heap
            rw [hC'] at hH
            refine ⟨fun i o ho => (hH.ob i o ho).world fun b hb => ?_, hH.sep, fun i o b ho hb => hH.own i o b ho hb, fun b cs hb => ?_, fun b cs hb => hmem b cs (hh.mem0 b cs hb), fun b cs hb => ?_, hH.new, hH.base, ⟨g1.trans hH.fr.os, g2.trans hH.fr.tape, g3.trans hH.fr.output, hH.fr.bsz, by rw [g4]; exact hH.fr.wsz, hH.fr.wos, hH.fr.isz, fun k hk hI => ?_, ?_⟩, fun k hk => ?_, by have : st.no ≤ st'.no := hH.mno; omega, hmkh, hH.kk⟩
            · obtain ⟨ob, hob, hc⟩ := (hH.ob i o ho).cellsAt hb
              exact g5 b fun hm => by rw [(hl3 b hm).2] at hob; cases hob; cases hc
            · obtain ⟨T, fr, hw⟩ := hH.mem b cs hb
              exact ⟨T, fr, by rw [g5 b (hnot _ _ _ _ hw)]; exact hw⟩
            · rcases hH.memnew b cs hb with h2 | h2
              · rcases hh.memnew b cs h2 with h3 | h3
                · exact .inl h3
                · exact .inr ⟨h3.1, by have := h3.2; unfold Env.mine at *; rw [hEw, hEI]; exact this⟩
              · exact .inr h2
            · rw [g5 k fun hm => by
                have := hlow k hm
                have h5 := hh.fr.wsz
                rw [hEw] at hk; omega]
              exact hH.fr.block k hk hI
            · rw [hEk, hEI, hEw]; exact hh.fr.sync
            · rw [hhd k (by omega)]; exact hh.hd0 k hk
          · have hD' := hknc D o (by rw [hC']; exact hD) ho
            rw [g5 D fun hm => by have := hlow D hm; have := (Array.getElem?_eq_some_iff.1 hD).1; omega]
            exact hD'
        · exact hres.elim
      cases e with
      | normal => exact main hq
      | ret => exact main hq
      | _ => exact hq.elim

/-- a contract that is shown with functions run in place -/
theorem fnOk_inl {P : Program} {f : Nat} {S : Spec} (l : List Nat) (h : FnOk P f { S with inl := l }) : FnOk P f S := h

end Go.Sx

namespace Go.Sx
open Go Go.RowKit Go.Sort

theorem putCells_at {α : Type} [Inhabited α] (enc : α → Value) (d : Array α) (c : Array Value) (k : Nat) : (putCells enc 0 d c)[k]? = if k < c.size then (if k < d.size then some (enc d[k]!) else c[k]?) else none := by
  unfold putCells
  rw [Array.getElem?_mapIdx]
  by_cases hk : k < c.size
  · rw [if_pos hk, Array.getElem?_eq_getElem hk, Option.map_some]
    by_cases hd : k < d.size
    · rw [if_pos hd, if_pos ⟨Nat.zero_le _, by omega⟩, Nat.sub_zero]
    · rw [if_neg hd, if_neg (by omega)]
  · rw [if_neg hk, Array.getElem?_eq_none (by omega)]; rfl
theorem putCells_size {α : Type} [Inhabited α] (enc : α → Value) (d : Array α) (c : Array Value) : (putCells enc 0 d c).size = c.size := by simp [putCells]
theorem bang_getD {α : Type} [Inhabited α] (l : List α) (k : Nat) : l.toArray[k]! = l.getD k default := by
  simp [List.getD_eq_getElem?_getD]

theorem fnOk_sortrow {P : Program} {f : Nat} {fn : Func} (hf : P.funcs[f]? = some fn) (hb : fn.body.isSome = true) (hnm : (fn.name == "runtime.NumGoroutine") = false) {α : Type} [Inhabited α] {enc : α → Value} (h1 : ∀ a, (enc a).oneCell' = true) (h2 : ∀ a, toPV (enc a) = .val (enc a)) {T : TypeId} {srt : List α → List α} (hlen : ∀ l, (srt l).length = l.length)
    (hnone : ∀ (p : Option Addr) (cap : Nat) (w : World), Calls P f #[.slice p 0 cap] w fun e w' => e = .returned (.tuple #[]) ∧ w' = w)
    (hsort : ∀ (blk off cap : Nat) (zs : List α) (w : World), Holds enc w blk off zs.toArray → blk < w.heap.size → zs.length < 4611686018427387904 → Calls P f #[.slice (some ⟨blk, off, none⟩) zs.length cap] w fun e w' => e = .returned (.tuple #[]) ∧ ∃ n os, w' = grow (putRow enc (Sort.ahead w n) blk off (srt zs).toArray) os) :
    FnOk P f { A := List α, args := fun _ => [.row 0], objs := fun l => [.row T 1 l.length (fun k => [.val (enc (l.getD k default))])], pre := fun l => l.length ≤ 1000000000, res := fun _ => .tup [],
               objs' := fun l => [.row T 1 (srt l).length (fun k => [.val (enc ((srt l).getD k default))])], fresh := true, ro := 0 } := by
  refine ⟨⟨fn, hf, hb, hnm⟩, fun (l : List α) hpre E vs w _ hh hA => ?_⟩
  have hob : (stOf [Ob.row T 1 l.length (fun k => [.val (enc (l.getD k default))])]).obj 0 = some (.row T 1 l.length (fun k => [.val (enc (l.getD k default))])) := rfl
  obtain ⟨hs1, hs2⟩ := hA
  obtain ⟨v, rfl⟩ : ∃ v, vs = #[v] := by
    have h1 : vs.size = 1 := hs1
    exact ⟨vs[0]'(by omega), by apply Array.ext <;> simp [h1]; intro i hi; obtain rfl : i = 0 := by omega
                                rfl⟩
  have hv := hs2 0 v (.row 0) rfl rfl
  have hR := hh.ob 0 _ hob
  have hrep := hR
  cases hv with
  | row _ _ hd0 hsl =>
  cases hR with
  | row _ _ _ _ v' xs u hhd hw hmax hl hc he =>
  rw [hd0] at hhd
  obtain rfl := Option.some.inj hhd
  rcases hw.2 with ⟨rfl, hn0⟩ | ⟨g, cap, cur, rfl, _⟩
  · have hn : l = [] := List.eq_nil_of_length_eq_zero hn0
    subst hn
    have hsn : srt [] = [] := List.eq_nil_of_length_eq_zero (hlen [])
    refine (hnone none 0 w).mono ?_
    rintro e w' ⟨rfl, rfl⟩
    refine ⟨.tuple #[], E, rfl, .tup _ _ rfl (fun k u s hu => by simp at hu), ?_⟩
    show HRep _ E (stOf [Ob.row T 1 (srt []).length (fun k => [.val (enc ((srt []).getD k default))])]) w'
    rw [hsn]; exact hh
  · obtain ⟨_, cur, u', hA⟩ := hrep.row_at hd0
    have hcell : ∀ j, j < l.length → cur[j]? = some (enc (l.getD j default)) := fun j hj => by
      have c1 := hA.hc j 0 (.val (enc (l.getD j default))) hj rfl
      have c2 := hA.he j 0 (.val (enc (l.getD j default))) hj rfl
      rw [Nat.mul_one, Nat.add_zero, c2.val_inv] at c1
      exact c1.1
    have hH : Holds enc w g 0 l.toArray := fun j hj => by
      have hj : j < l.length := by simpa using hj
      refine ⟨?_, ?_⟩
      · simp only [World.cell?, hA.heap, Nat.zero_add, bang_getD]
        exact hcell j hj
      · simp [World.frozen?, hA.heap]
    have hg : g < w.heap.size := (Array.getElem?_eq_some_iff.1 hA.heap).1
    have hbig : l.length < 4611686018427387904 := by have h : l.length ≤ 1000000000 := hpre; omega
    refine (hsort g 0 cap l w hH hg hbig).mono ?_
    rintro e w' ⟨rfl, n, os, rfl⟩
    have hw1 : (putRow enc (Sort.ahead w n) g 0 (srt l).toArray).heap[g]? = some (.cells (putCells enc 0 (srt l).toArray cur) T (0, 0)) := by
      show (w.heap.modify g (onCells _))[g]? = _
      rw [Array.getElem?_modify, if_pos rfl, hA.heap]; rfl
    have hw2 : ∀ k, k ≠ g → (putRow enc (Sort.ahead w n) g 0 (srt l).toArray).heap[k]? = w.heap[k]? := fun k hk => by
      show (w.heap.modify g (onCells _))[k]? = _
      rw [Array.getElem?_modify, if_neg fun e => hk e.symm]
    have hat : ∀ j, j < l.length → (putCells enc 0 (srt l).toArray cur)[j]? = some (enc ((srt l).getD j default)) := fun j hj => by
      have hcs := hA.size
      have hnc := hA.hn
      rw [putCells_at, if_pos (by omega), if_pos (by simp [hlen]; exact hj), bang_getD]
    have hh2 : HRep (ctxOf w E [Ob.row T 1 l.length (fun k => [.val (enc (l.getD k default))])] 0) E ((stOf [Ob.row T 1 l.length (fun k => [.val (enc (l.getD k default))])]).setOb 0 (some (.row T 1 (srt l).length (fun k => [.val (enc ((srt l).getD k default))])))) (putRow enc (Sort.ahead w n) g 0 (srt l).toArray) := by
      refine hh.write (i := 0) (b := g) hob (by simp [Env.blk, hd0, blockOf]) (Nat.le_refl _)
        (.row T 1 _ _ _ ((putCells enc 0 (srt l).toArray cur).toList.take (l.length * 1)) (fun j _ => enc ((srt l).getD j default)) hd0 ?_ (by rw [hlen]; exact hA.hmax) (fun j _ => rfl) ?_ ?_) rfl rfl rfl (by simp) hw2
      · rw [hlen]
        refine ⟨?_, .inr ⟨g, cap, _, rfl, Nat.zero_le _, hw1, hA.hn, hA.hcap, by rw [putCells_size]; exact hA.size, rfl⟩⟩
        have h3 : (putCells enc 0 (srt l).toArray cur).toList.length = cap * 1 := by rw [Array.length_toList, putCells_size]; exact hA.size
        rw [List.length_take, h3]
        have := hA.hn; omega
      · intro j k s hj hs
        rw [hlen] at hj
        have hk : k = 0 := by
          have := (List.getElem?_eq_some_iff.1 hs).1
          simpa using this
        subst hk
        rw [List.getElem?_take, if_pos (by omega), Array.getElem?_toList, Nat.mul_one, Nat.add_zero]
        exact ⟨hat j hj, h1 _⟩
      · intro j k s hj hs
        have hk : k = 0 := by
          have := (List.getElem?_eq_some_iff.1 hs).1
          simpa using this
        subst hk
        simp only [List.getElem?_cons_zero, Option.some.injEq] at hs
        subst hs
        exact .val _
    have hh3 := hh2.below (w' := grow (putRow enc (Sort.ahead w n) g 0 (srt l).toArray) os) ⟨rfl, rfl, rfl, by simp, fun k hk => by
      show (_ ++ os)[k]? = _
      rw [Array.getElem?_append_left hk]⟩
    refine ⟨.tuple #[], E, rfl, .tup _ _ rfl (fun k u s hu => by simp at hu), ?_⟩
    have key : ∀ (st : St), (∀ i o, st.obj i = some o → ((stOf [Ob.row T 1 l.length (fun k => [.val (enc (l.getD k default))])]).setOb 0 (some (.row T 1 (srt l).length (fun k => [.val (enc ((srt l).getD k default))])))).obj i = some o) → st.no = 1 → st.k = none → HRep (ctxOf w E [Ob.row T 1 l.length (fun k => [.val (enc (l.getD k default))])] 0) E st (grow (putRow enc (Sort.ahead w n) g 0 (srt l).toArray) os) := fun st ho hno hk => by
      have hkk := hh3.kk
      exact ⟨fun i o h => hh3.ob i o (ho i o h), fun i j o o' b h1 h2 => hh3.sep i j o o' b (ho i o h1) (ho j o' h2), fun i o b h => hh3.own i o b (ho i o h), hh3.mem, hh3.mem0, hh3.memnew, fun i hi => hh3.new i (by rw [hno] at hi; exact hi), hh3.base, hh3.fr, hh3.hd0, by rw [hno]; exact hh3.mno, hh3.mkh, by rw [hk]; exact hkk⟩
    refine key _ (fun i o ho => ?_) rfl rfl
    have e1 : St.obj ⟨[], [(0, some (Ob.row T 1 (srt l).length (fun k => [.val (enc ((srt l).getD k default))])))], 1, none⟩ i = some o := ho
    rw [obj_cons (no := 1) (c := none)] at e1
    have e2 := obj_cons (stOf [Ob.row T 1 l.length (fun k => [.val (enc (l.getD k default))])]).fr (stOf [Ob.row T 1 l.length (fun k => [.val (enc (l.getD k default))])]).ob 1 1 (c := none) (c' := none) 0 (some (.row T 1 (srt l).length (fun k => [.val (enc ((srt l).getD k default))]))) i
    refine Eq.trans e2 ?_
    by_cases hi : 0 = i
    · rw [if_pos hi] at e1 ⊢; exact e1
    · rw [if_neg hi] at e1
      simp [St.obj, look] at e1

/-- the same contract, its arguments got out of other ones -/
theorem fnOk_via {P : Program} {f : Nat} {S : Spec} (h : FnOk P f S) {β : Type} (g : β → S.A) {args : β → List SV} {objs objs' : β → List Ob} {res : β → PV} {pre : β → Prop}
    (ha : ∀ b, pre b → S.args (g b) = args b) (ho : ∀ b, pre b → S.objs (g b) = objs b) (ho' : ∀ b, pre b → S.objs' (g b) = objs' b) (hr : ∀ b, pre b → S.res (g b) = res b) (hp : ∀ b, pre b → S.pre (g b)) :
    FnOk P f { A := β, args := args, objs := objs, pre := pre, res := res, objs' := objs', fresh := S.fresh, ro := S.ro, inl := S.inl, gl := S.gl } := by
  refine ⟨h.1, fun b hpre E vs w hg hh hA => ?_⟩
  have h2 := h.2 (g b) (hp b hpre) E vs w hg
  unfold Spec.post at h2 ⊢
  rw [ha b hpre, ho b hpre, ho' b hpre, hr b hpre] at h2
  exact h2 hh hA
end Go.Sx

namespace Go.Sx
open Go Go.RowKit

structure RowSpec where
  A : Type
  args : A → List SV
  pre : A → Prop
  T : TypeId
  vals : A → List Value
def valCell (l : List Value) (k : Nat) : List PV := [.val (l.getD k undef)]

def RowRet (P : Program) (f : Nat) (S : RowSpec) : Prop :=
  (∃ fn, P.funcs[f]? = some fn ∧ fn.body.isSome = true ∧ (fn.name == "runtime.NumGoroutine") = false) ∧
  ∀ (a : S.A), S.pre a → ∀ (E : Env) (vs : Array Value) (w : World), HRep (ctxOf w E [] 0) E (stOf []) w → ArgsRep E vs (S.args a) →
    Calls P f vs w fun e w' => ∃ v, e = .returned v ∧ isSl v = true ∧ Below w.heap.size w w' ∧ w'.ownsRow w.heap.size S.T 1 v (S.vals a).length (S.vals a) ∧ (S.vals a).length ≤ maxLen

def rowVC (P : Program) (Tb : Tab) (fn : Func) (S : RowSpec) (a : S.A) : Prop :=
  (S.args a).length.ble fn.ntmps = true ∧
    match fn.body with
    | some c => vc c ⟨P, Tb, fn.ntmps, 0, 0, false, none, [], []⟩ (entrySt (S.args a) []) fun e st' =>
        match e with
        | .normal | .ret => match resSV ⟨P, Tb, fn.ntmps, 0, 0, false, none, [], []⟩ st' fn.results.toList with
          | some (.row i) => match st'.obj i with
            | some (.row T sz n f) => T = S.T ∧ sz = 1 ∧ n = (S.vals a).length ∧ ∀ k, k < n → f k = valCell (S.vals a) k
            | _ => False
          | _ => False
        | _ => False
    | none => False

theorem rowRet {P : Program} {Tb : Tab} {f : Nat} {fn : Func} {S : RowSpec} (hm : P.follows .mixedOrders = true) (hTb : Tb.Ok P) (hf : P.funcs[f]? = some fn) (hnm : (fn.name == "runtime.NumGoroutine") = false) (hb : fn.body.isSome = true)
    (h : ∀ a, S.pre a → rowVC P Tb fn S a) : RowRet P f S := by
  refine ⟨⟨fn, hf, hb, hnm⟩, fun a0 hpre E vs w hh hA => ?_⟩
  obtain ⟨h1, hvc⟩ := h a0 hpre
  cases hbody : fn.body with
  | none => rw [hbody] at hb; cases hb
  | some c =>
    simp only [hbody] at hvc
    have hlen : (S.args a0).length ≤ fn.ntmps := Nat.le_of_ble_eq_true h1
    obtain ⟨hsz, hrep⟩ := hA
    refine callsIn_wide.1 (callsIn_of_wp_marks (F := Fence.wide) (n := 9) hf hbody trivial ?_ rfl)
    refine vc_ok c { ctxOf w E [] 0 with nt := fn.ntmps } ⟨P, Tb, fn.ntmps, 0, 0, false, none, [], []⟩ _ hm hTb rfl rfl ⟨rfl, fun l xs hy => (by cases hy), fun _ => ⟨rfl, rfl⟩, fun i b hi hb => absurd hi (Nat.not_lt_zero _), Nat.le_refl _, fun p hp => (by cases hp)⟩ (Nat.le_refl _) (.inl rfl) _ _ E _ w hvc ⟨?_, fun t => ?_, ?_, (fun D o hD _ => by simp [ctxOf] at hD), [], fun _ => rfl, rfl, List.nodup_nil, by simp⟩ _ ?_
    · simp; omega
    · have hget : (entrySt (S.args a0) []).get t = match (S.args a0)[t]? with | some s => s | none => .any := by
        unfold entrySt St.get
        simp only [enumS_look, Nat.zero_le, if_true, Nat.sub_zero]
        cases (S.args a0)[t]? <;> rfl
      rw [hget]
      cases hs : (S.args a0)[t]? with
      | none => exact .any _
      | some s =>
        have ht : t < vs.size := by rw [hsz]; exact (List.getElem?_eq_some_iff.1 hs).1
        have hu : vs[t]? = some vs[t] := Array.getElem?_eq_getElem ht
        have : (vs ++ Array.replicate (fn.ntmps - vs.size) undef).getD t undef = vs[t] := by
          rw [Array.getD_eq_getD_getElem?, Array.getElem?_append_left ht, hu]; rfl
        rw [this]
        exact hrep t _ s hu hs
    · exact ⟨fun i o ho => hh.ob i o ho, fun i j o o' b ho ho' => hh.sep i j o o' b ho ho', fun i o b ho hb => hh.own i o b ho hb, hh.mem, hh.mem0, hh.memnew, fun i hi => hh.new i hi, hh.base, ⟨hh.fr.os, hh.fr.tape, hh.fr.output, hh.fr.bsz, hh.fr.wsz, hh.fr.wos, hh.fr.isz, hh.fr.block, hh.fr.sync⟩, hh.hd0, hh.mno, hh.mkh, hh.kk⟩
    · intro e st' E' a' w' hq hM
      have main : (match resSV ⟨P, Tb, fn.ntmps, 0, 0, false, none, [], []⟩ st' fn.results.toList with
          | some (.row i) => match st'.obj i with
            | some (.row T sz n f) => T = S.T ∧ sz = 1 ∧ n = (S.vals a0).length ∧ ∀ k, k < n → f k = valCell (S.vals a0) k
            | _ => False
          | _ => False) →
          LeavesInM Fence.wide 9 P fn a'.tmps (fun e w' => ∃ v, e = .returned v ∧ isSl v = true ∧ Below w.heap.size w w' ∧ w'.ownsRow w.heap.size S.T 1 v (S.vals a0).length (S.vals a0) ∧ (S.vals a0).length ≤ maxLen) a'.defers .returning w' := by
        intro hres
        split at hres
        · rename_i i hs
          split at hres
          · rename_i T sz n fr hob
            obtain ⟨rfl, rfl, rfl, hfr⟩ := hres
            obtain ⟨v, hv, hrun⟩ := results_run hM hTb hs
            obtain ⟨_, l, _, hl1, hl2, hl3⟩ := hM.marks
            rw [hl1]
            refine leaves_marks l w' hl2 (fun D hD => (hl3 D hD).2) fun w1 g1 g2 g3 g4 g5 => ?_
            have hnot : ∀ (b : Nat) (cs : Array Value) (T : TypeId) (fr : Nat × Nat), w'.heap[b]? = some (Obj.cells cs T fr) → b ∉ l := fun b cs T fr hb hm => by rw [(hl3 b hm).2] at hb; cases hb
            obtain ⟨hEk, hEI, hEw⟩ : E'.k = none ∧ E'.I = borOf E.hd [] 0 ∧ E'.ws = w := hM.heap.fr.sync
            have hnI : ∀ b, ¬ E'.I b := fun b hb => by
              rw [hEI] at hb
              obtain ⟨k, o, _, h2, _⟩ := hb
              simp at h2
            cases hv with
            | row _ _ hd hsl =>
            have hO := hM.heap.ob i _ hob
            cases hO with
            | row _ _ _ _ v' xs u hhd hw hmax hl hc he =>
            rw [hd] at hhd
            obtain rfl := Option.some.inj hhd
            have hxl : xs.length = (S.vals a0).length := by have := hw.1; omega
            have hxs : xs = S.vals a0 := by
              apply List.ext_getElem hxl
              intro j hj1 hj2
              have hk := hfr j hj2
              have hk0 : (fr j)[0]? = some (.val ((S.vals a0).getD j undef)) := by rw [hk]; rfl
              have c1 := (hc j 0 _ hj2 hk0).1
              have c2 := (he j 0 _ hj2 hk0).val_inv
              rw [Nat.mul_one, Nat.add_zero, c2, List.getElem?_eq_getElem hj1] at c1
              rw [Option.some.inj c1, List.getD_eq_getElem?_getD, List.getElem?_eq_getElem hj2]; rfl
            subst hxs
            refine ⟨v, hrun w1 (fun b cs T hb => g5 b (hnot b _ _ _ hb)), v, rfl, hsl, ⟨g1.trans hM.heap.fr.os, g2.trans hM.heap.fr.tape, g3.trans hM.heap.fr.output, ?_, fun k hk => ?_⟩, ⟨hw.1, ?_⟩, hmax⟩
            · have := hM.heap.fr.wsz
              rw [hEw] at this; rw [g4]; exact this
            · rw [g5 k fun hm => by have := (hl3 k hm).1.1; have this : w.heap.size ≤ k := this; omega]
              have := hM.heap.fr.block k (by rw [hEw]; exact hk) (hnI k)
              rw [hEw] at this; exact this
            · rcases hw.2 with h2 | ⟨g, cap, cur, rfl, _, hg, rest⟩
              · exact .inl h2
              · refine .inr ⟨g, cap, cur, rfl, ?_, ?_, rest⟩
                · have hbk : E'.blk i = some g := by simp [Env.blk, hd, blockOf]
                  rcases (hM.heap.own i _ g hob hbk).2.1 with h3 | h3
                  · exact h3
                  · exact absurd h3.1 (Nat.not_lt_zero _)
                · rw [g5 g (hnot g _ _ _ hg)]; exact hg
          · exact hres.elim
        · exact hres.elim
      cases e with
      | normal => exact main hq
      | ret => exact main hq
      | _ => exact hq.elim

/-- such a function, run in place -/
theorem rowInl {X : Cfg} {f : Nat} {args : List SV} {st : St} {K : SV → St → Prop} {S : RowSpec} (h : RowRet X.P f S) (a : S.A) (hp : S.pre a) (h1 : ∀ v ∈ S.vals a, v.oneCell' = true) (hargs : argMs st [] args (S.args a)) (hl : lends args (S.args a) = false)
    (hK : K (.row st.no) ⟨st.fr, (st.no, some (.row S.T 1 (S.vals a).length (valCell (S.vals a)))) :: st.ob, st.no + 1, st.k⟩) : FnInl X f args st K := by
  refine ⟨h.1, fun C E vs w hCm hCro hrm hlent hgl hh hA => ?_⟩
  have hheap := callee_heap hh (js := []) rfl (lend := false) (os := []) (ro := 0) trivial (fun h => by cases h)
  obtain ⟨hal, hag⟩ := argMs_get st [] _ _ hargs
  obtain ⟨hsz, hvs⟩ := hA
  have hA2 : ArgsRep (calleeEnv E st w [] false [] 0) vs (S.args a) := by
    refine ⟨by omega, fun k u c hu hc => ?_⟩
    have hka : k < args.length := by rw [← hsz]; exact (Array.getElem?_eq_some_iff.1 hu).1
    have hs : args[k]? = some args[k] := List.getElem?_eq_getElem hka
    obtain ⟨l1, l2⟩ := lends_row args (S.args a) k
    exact argM_rep hh (hag k _ c hs hc) (fun ⟨i, b, dd, e1, e2⟩ => by have := l1 i b dd (by rw [hs, e1]) (by rw [hc, e2]); rw [hl] at this; cases this)
      (fun f l f' m e1 e2 e3 => by have := l2 f l f' m (by rw [hs, e1]) (by rw [hc, e2]) e3; rw [hl] at this; cases this) (hvs k u _ hu hs)
  refine (h.2 a hp _ vs w hheap hA2).mono ?_
  rintro e w' ⟨v, rfl, hsl, hb, hw, hmax⟩
  have hw0 : w'.ownsRow 0 S.T 1 v (S.vals a).length (S.vals a) := by
    refine ⟨hw.1, ?_⟩
    rcases hw.2 with h2 | ⟨g, cap, cur, h2, _, rest⟩
    · exact .inl h2
    · exact .inr ⟨g, cap, cur, h2, Nat.zero_le _, rest⟩
  refine ⟨v, E.add st.no v, .row st.no, _, rfl, .row _ _ (Env.add_hd _ _ _) hsl, ⟨Env.add_le (hh.new st.no (Nat.le_refl _)), rfl, rfl⟩, ?_, fun D o hD _ => (hb.block D (Array.getElem?_eq_some_iff.1 hD).1).trans hD, hK⟩
  refine hh.step (i := st.no) (o := .row S.T 1 (S.vals a).length (valCell (S.vals a))) (Nat.le_refl _) (Nat.lt_succ_self _) rfl ?_ (fun k o' hk ho => ?_) ?_ hb.os hb.tape hb.output hb.size (fun k hk => .inl (hb.block k hk)) (fun b hbv => .inl ?_)
  · have := obj_cons st.fr st.ob st.no (st.no + 1) (c := st.k) (c' := st.k) st.no (some (.row S.T 1 (S.vals a).length (valCell (S.vals a)))) st.no
    rw [if_pos rfl] at this; exact this
  · have := obj_cons st.fr st.ob st.no (st.no + 1) (c := st.k) (c' := st.k) st.no (some (.row S.T 1 (S.vals a).length (valCell (S.vals a)))) k
    rw [if_neg (fun e => hk e.symm)] at this
    rw [← ho]; exact this.symm
  · refine .row S.T 1 _ _ v (S.vals a) (fun j _ => (S.vals a).getD j undef) (Env.add_hd _ _ _) hw0 hmax (fun j _ => rfl) (fun j k s hj hs => ?_) (fun j k s hj hs => ?_)
    · have hk : k = 0 := by
        have := (List.getElem?_eq_some_iff.1 hs).1
        simpa [valCell] using this
      subst hk
      have e : (S.vals a).getD j undef = (S.vals a)[j] := by rw [List.getD_eq_getElem?_getD, List.getElem?_eq_getElem hj]; rfl
      rw [Nat.mul_one, Nat.add_zero, List.getElem?_eq_getElem hj, e]
      exact ⟨rfl, h1 _ (List.getElem_mem hj)⟩
    · have hk : k = 0 := by
        have := (List.getElem?_eq_some_iff.1 hs).1
        simpa [valCell] using this
      subst hk
      simp only [valCell, List.getElem?_cons_zero, Option.some.injEq] at hs
      subst hs
      exact .val _
  · rcases hw.2 with ⟨rfl, _⟩ | ⟨g, cap, cur, rfl, hg, _⟩
    · cases hbv
    · simp [blockOf] at hbv; omega
end Go.Sx
