/- A symbolic executor for the model: values, states, what they stand for. -/
import Derived.WalkKit
import Derived.CallsIn
import Derived.TacticsIn
import Derived.OrdersIn
import Derived.Laws.AppendOwn
import Derived.Laws.Tables
import Derived.Below
import Derived.RangeFuncLeaves
import Derived.RangeFuncOwn
import Derived.Laws.Strings
import Derived.OwnWalkIn
import Derived.RangeFuncCalls
import Derived.ChangeKeysEq
import Derived.Laws.IdiomStrings
set_option maxHeartbeats 1000000
set_option maxRecDepth 4000
set_option linter.unusedSimpArgs false
set_option linter.unusedVariables false
set_option linter.unusedSectionVars false
namespace Go.Sx
open Go

/-- data that no call of ours writes -/
inductive PV : Type
  | val (v : Value)
  | seq (n : Nat) (f : Nat → List PV)
  | pt (l : List PV) (off : Nat)
  | agg (l : List PV)
  | tup (l : List PV)
  | fn (f : Nat) (capt : List PV)

/-- what a slot holds -/
inductive SV : Type
  | p (fresh : Bool) (d : PV)
  | own (i off : Nat)
  | el (i sz j off : Nat)
  | row (i : Nat)
  | sub (i sz lo n : Nat)
  | agg (l : List SV)
  | tup (l : List SV)
  | fn (f : Nat) (capt : List SV)
  | full (n : Nat) (f : Nat → List PV)
  | any

/-- an object of the call's own -/
inductive Ob : Type
  | cells (T : TypeId) (cs : List SV)
  | row (T : TypeId) (sz n : Nat) (f : Nat → List PV)

structure Env where
  hd : Nat → Option Value
  mem : Nat → Option (Array Value)
  base : Nat
  ws : World
  I : Nat → Prop
  k : Option Nat

/-- blocks of the running call's own, or lent to it -/
def Env.mine (E : Env) (b : Nat) : Prop := E.ws.heap.size ≤ b ∨ E.I b

def Env.m (E : Env) : Bool → Nat → Option (Array Value)
  | true, b => if E.base ≤ b then E.mem b else none
  | false, b => E.mem b

inductive PRep (μ : Nat → Option (Array Value)) : Value → PV → Prop
  | val (v : Value) : PRep μ v (.val v)
  | nil (f) : PRep μ (.slice none 0 0) (.seq 0 f)
  | emp (a cap f) : PRep μ (.slice (some a) 0 cap) (.seq 0 f)
  | seq (b o n cap sz : Nat) (f : Nat → List PV) (cs : Array Value) (u : Nat → Nat → Value) (hm : μ b = some cs) (hcap : n ≤ cap) (hmax : n ≤ maxLen)
      (hl : ∀ j, j < n → (f j).length = sz)
      (hc : ∀ j k s, j < n → (f j)[k]? = some s → cs[o + (j * sz + k)]? = some (u j k) ∧ (u j k).oneCell' = true)
      (he : ∀ j k s, j < n → (f j)[k]? = some s → PRep μ (u j k) s) : PRep μ (.slice (some ⟨b, o, none⟩) n cap) (.seq n f)
  | pt (b o off : Nat) (l : List PV) (cs : Array Value) (u : Nat → Value) (hm : μ b = some cs)
      (hc : ∀ k s, l[k]? = some s → cs[o + k]? = some (u k) ∧ (u k).oneCell' = true)
      (he : ∀ k s, l[k]? = some s → PRep μ (u k) s) : PRep μ (.pointer (some ⟨b, o + off, none⟩)) (.pt l off)
  | agg (vs : Array Value) (l : List PV) (hl : vs.size = l.length) (h1 : ∀ (k : Nat) (u : Value), vs[k]? = some u → u.oneCell' = true)
      (he : ∀ (k : Nat) (u : Value) (s : PV), vs[k]? = some u → l[k]? = some s → PRep μ u s) : PRep μ (.agg vs) (.agg l)
  | tup (vs : Array Value) (l : List PV) (hl : vs.size = l.length)
      (he : ∀ (k : Nat) (u : Value) (s : PV), vs[k]? = some u → l[k]? = some s → PRep μ u s) : PRep μ (.tuple vs) (.tup l)
  | fn (f : Nat) (vs : Array Value) (l : List PV) (hl : vs.size = l.length)
      (he : ∀ (k : Nat) (u : Value) (s : PV), vs[k]? = some u → l[k]? = some s → PRep μ u s) : PRep μ (.func (.func f) #[] vs) (.fn f l)

def isSl : Value → Bool
  | .slice _ _ _ => true
  | _ => false

inductive SRep (E : Env) : Value → SV → Prop
  | p (fr : Bool) (v : Value) (d : PV) (h : PRep (E.m fr) v d) : SRep E v (.p fr d)
  | own (i off b : Nat) (h : E.hd i = some (.pointer (some ⟨b, 0, none⟩))) : SRep E (.pointer (some ⟨b, off, none⟩)) (.own i off)
  | el (i sz j off b n cap : Nat) (h : E.hd i = some (.slice (some ⟨b, 0, none⟩) n cap)) : SRep E (.pointer (some ⟨b, j * sz + off, none⟩)) (.el i sz j off)
  | row (i : Nat) (v : Value) (h : E.hd i = some v) (hs : isSl v = true) : SRep E v (.row i)
  | sub (i sz lo n b n' cap c : Nat) (a : Addr) (h : E.hd i = some (.slice (some ⟨b, 0, none⟩) n' cap)) (hle : lo + n ≤ n') (hc : n ≤ c) (hr : n' ≤ lo + c) (ha : 0 < c → a = ⟨b, lo * sz, none⟩) : SRep E (.slice (some a) n c) (.sub i sz lo n)
  | agg (vs : Array Value) (l : List SV) (hl : vs.size = l.length) (h1 : ∀ (k : Nat) (u : Value), vs[k]? = some u → u.oneCell' = true)
      (he : ∀ (k : Nat) (u : Value) (s : SV), vs[k]? = some u → l[k]? = some s → SRep E u s) : SRep E (.agg vs) (.agg l)
  | tup (vs : Array Value) (l : List SV) (hl : vs.size = l.length)
      (he : ∀ (k : Nat) (u : Value) (s : SV), vs[k]? = some u → l[k]? = some s → SRep E u s) : SRep E (.tuple vs) (.tup l)
  | fn (f : Nat) (vs : Array Value) (l : List SV) (hl : vs.size = l.length)
      (he : ∀ (k : Nat) (u : Value) (s : SV), vs[k]? = some u → l[k]? = some s → SRep E u s) : SRep E (.func (.func f) #[] vs) (.fn f l)
  | full (a : Option Addr) (n : Nat) (f : Nat → List PV) (h : PRep (E.m false) (.slice a n n) (.seq n f)) : SRep E (.slice a n n) (.full n f)
  | any (v : Value) : SRep E v .any

theorem PRep.mono {μ μ' : Nat → Option (Array Value)} (hμ : ∀ b cs, μ b = some cs → μ' b = some cs) {v : Value} {d : PV} (h : PRep μ v d) : PRep μ' v d := by
  induction h with
  | val v => exact .val v
  | nil f => exact .nil f
  | emp a c f => exact .emp a c f
  | seq b o n cap sz f cs u hm hcap hmax hl hc _ ih => exact .seq b o n cap sz f cs u (hμ _ _ hm) hcap hmax hl hc ih
  | pt b o off l cs u hm hc _ ih => exact .pt b o off l cs u (hμ _ _ hm) hc ih
  | agg vs l hl h1 _ ih => exact .agg vs l hl h1 ih
  | tup vs l hl _ ih => exact .tup vs l hl ih
  | fn f vs l hl _ ih => exact .fn f vs l hl ih

structure Env.Le (E E' : Env) : Prop where
  hd : ∀ i v, E.hd i = some v → E'.hd i = some v
  mem : ∀ b cs, E.mem b = some cs → E'.mem b = some cs
  base : E'.base = E.base

theorem Env.Le.refl (E : Env) : E.Le E := ⟨fun _ _ h => h, fun _ _ h => h, rfl⟩
theorem Env.Le.trans {A B C : Env} (h : A.Le B) (k : B.Le C) : A.Le C := ⟨fun i v x => k.hd _ _ (h.hd _ _ x), fun b c x => k.mem _ _ (h.mem _ _ x), k.base.trans h.base⟩
theorem Env.Le.m {E E' : Env} (h : E.Le E') (fr : Bool) : ∀ b cs, E.m fr b = some cs → E'.m fr b = some cs := by
  intro b cs hb
  cases fr with
  | false => exact h.mem _ _ hb
  | true =>
    simp only [Env.m] at hb ⊢
    rw [h.base]
    split at hb
    · rename_i hx; rw [if_pos hx]; exact h.mem _ _ hb
    · cases hb
theorem Env.m_weak (E : Env) : ∀ b cs, E.m true b = some cs → E.m false b = some cs := by
  intro b cs hb
  simp only [Env.m] at hb ⊢
  split at hb
  · exact hb
  · cases hb
theorem Env.m_false (E : Env) (fr : Bool) : ∀ b cs, E.m fr b = some cs → E.m false b = some cs := by
  cases fr
  · exact fun _ _ h => h
  · exact E.m_weak

theorem SRep.mono {E E' : Env} (hE : E.Le E') {v : Value} {s : SV} (h : SRep E v s) : SRep E' v s := by
  induction h with
  | p fr v d h => exact .p fr v d (h.mono (hE.m fr))
  | own i off b h => exact .own i off b (hE.hd _ _ h)
  | el i sz j off b n cap h => exact .el i sz j off b n cap (hE.hd _ _ h)
  | row i v h hs => exact .row i v (hE.hd _ _ h) hs
  | sub i sz lo n b n' cap c a h hle hc hr ha => exact .sub i sz lo n b n' cap c a (hE.hd _ _ h) hle hc hr ha
  | agg vs l hl h1 _ ih => exact .agg vs l hl h1 ih
  | tup vs l hl _ ih => exact .tup vs l hl ih
  | fn f vs l hl _ ih => exact .fn f vs l hl ih
  | full a n f h => exact .full a n f (h.mono (hE.m false))
  | any v => exact .any v

def blockOf : Value → Option Nat
  | .pointer (some a) => some a.block
  | .slice (some a) _ _ => some a.block
  | _ => none

def Env.blk (E : Env) (i : Nat) : Option Nat := (E.hd i).bind blockOf

inductive ORep (E : Env) (w : World) (i : Nat) : Ob → Prop
  | cells (b : Nat) (T : TypeId) (vs : Array Value) (cs : List SV) (hh : E.hd i = some (.pointer (some ⟨b, 0, none⟩)))
      (hw : w.heap[b]? = some (.cells vs T (0, 0))) (hl : vs.size = cs.length) (h1 : ∀ (k : Nat) (u : Value), vs[k]? = some u → u.oneCell' = true)
      (he : ∀ (k : Nat) (u : Value) (s : SV), vs[k]? = some u → cs[k]? = some s → SRep E u s) : ORep E w i (.cells T cs)
  | row (T : TypeId) (sz n : Nat) (f : Nat → List PV) (v : Value) (xs : List Value) (u : Nat → Nat → Value) (hh : E.hd i = some v) (hw : w.ownsRow 0 T sz v n xs) (hmax : n ≤ maxLen)
      (hl : ∀ j, j < n → (f j).length = sz)
      (hc : ∀ j k s, j < n → (f j)[k]? = some s → xs[j * sz + k]? = some (u j k) ∧ (u j k).oneCell' = true)
      (he : ∀ j k s, j < n → (f j)[k]? = some s → PRep E.mem (u j k) s) : ORep E w i (.row T sz n f)

theorem ORep.mono {E E' : Env} (hE : E.Le E') {w : World} {i : Nat} {o : Ob} (h : ORep E w i o) : ORep E' w i o := by
  cases h with
  | cells b T vs cs hh hw hl h1 he => exact .cells b T vs cs (hE.hd _ _ hh) hw hl h1 fun k u s a b => (he k u s a b).mono hE
  | row T sz n f v xs u hh hw hmax hl hc he => exact .row T sz n f v xs u (hE.hd _ _ hh) hw hmax hl hc fun j k s a b => (he j k s a b).mono hE.mem

/-- the object's block is untouched -/
theorem ORep.world {E : Env} {w w' : World} {i : Nat} {o : Ob} (h : ORep E w i o) (hw : ∀ b, E.blk i = some b → w'.heap[b]? = w.heap[b]?) : ORep E w' i o := by
  cases h with
  | cells b T vs cs hh hh2 hl h1 he => exact .cells b T vs cs hh ((hw b (by simp [Env.blk, hh, blockOf])).trans hh2) hl h1 he
  | row T sz n f v xs u hh hw2 hmax hl hc he =>
    refine .row T sz n f v xs u hh ⟨hw2.1, ?_⟩ hmax hl hc he
    rcases hw2.2 with h | ⟨g, cap, cur, hv, hb, hg, rest⟩
    · exact .inl h
    · exact .inr ⟨g, cap, cur, hv, hb, (hw g (by simp [Env.blk, hh, hv, blockOf])).trans hg, rest⟩

/-- the state: slots and objects, the newest first -/
structure St where
  fr : List (Nat × SV)
  ob : List (Nat × Option Ob)
  no : Nat
  k : Option Nat

def look {α : Type} : List (Nat × α) → Nat → Option α
  | [], _ => none
  | (k, v) :: l, t => cond (k.beq t) (some v) (look l t)

def St.get (st : St) (t : Nat) : SV := match look st.fr t with | some s => s | none => .any
def St.obj (st : St) (i : Nat) : Option Ob := match look st.ob i with | some o => o | none => none

theorem look_cons {α : Type} (l : List (Nat × α)) (k : Nat) (v : α) (t : Nat) : look ((k, v) :: l) t = if k = t then some v else look l t := by
  by_cases h : k = t
  · subst h; simp [look]
  · have : k.beq t = false := by cases hb : k.beq t with | false => rfl | true => exact absurd (Nat.eq_of_beq_eq_true hb) h
    simp [look, this, h]

structure Ctx where
  w0 : World
  bor : Nat → Prop
  mem0 : Nat → Option (Array Value)
  base : Nat
  nt : Nat
  hd0 : Nat → Option Value
  m : Nat
  ro : Nat
  kh : Nat
  wk : World
  nm : Bool
  J : Option Nat → (Nat → Prop) → World → Prop

structure Fr (C : Ctx) (E : Env) (w : World) : Prop where
  os : w.os = C.w0.os
  tape : w.tape = C.w0.tape
  output : w.output = C.w0.output
  bsz : C.base ≤ E.ws.heap.size
  wsz : E.ws.heap.size ≤ w.heap.size
  wos : E.ws.os = C.w0.os ∧ E.ws.tape = C.w0.tape ∧ E.ws.output = C.w0.output
  isz : ∀ b, E.I b → b < E.ws.heap.size
  block : ∀ k, k < E.ws.heap.size → ¬ E.I k → w.heap[k]? = E.ws.heap[k]?
  sync : C.J E.k E.I E.ws

/-- the objects and the memory, as the state says -/
structure HRep (C : Ctx) (E : Env) (st : St) (w : World) : Prop where
  ob : ∀ i o, st.obj i = some o → ORep E w i o
  sep : ∀ i j o o' b, st.obj i = some o → st.obj j = some o' → E.blk i = some b → E.blk j = some b → i = j
  own : ∀ i o b, st.obj i = some o → E.blk i = some b → E.mem b = none ∧ (C.base ≤ b ∨ (i < C.m ∧ (C.bor b ∨ i < C.ro))) ∧ (E.mine b ∨ (i < C.m ∧ i < C.ro))
  mem : ∀ b cs, E.mem b = some cs → ∃ T fr, w.heap[b]? = some (.cells cs T fr)
  mem0 : ∀ b cs, C.mem0 b = some cs → E.mem b = some cs
  memnew : ∀ b cs, E.mem b = some cs → C.mem0 b = some cs ∨ (C.base ≤ b ∧ E.mine b)
  new : ∀ i, st.no ≤ i → E.hd i = none
  base : E.base = C.base
  fr : Fr C E w
  hd0 : ∀ k, k < C.kh → E.hd k = C.hd0 k
  mno : C.kh ≤ st.no
  mkh : C.m ≤ C.kh
  kk : E.k = st.k

/-- what is no row of cells stays -/
def KeepNC (w w' : World) : Prop := ∀ (D : Nat) (o : Obj), w.heap[D]? = some o → o.isCells = false → w'.heap[D]? = some o
theorem KeepNC.refl (w : World) : KeepNC w w := fun _ _ h _ => h
/-- the marks of loops over functions that have ended -/
def Marks (C : Ctx) (E : Env) (a : Act) (w : World) : Prop :=
  KeepNC C.wk w ∧ ∃ l : List Nat, (C.nm = true → l = []) ∧ a.defers = l.map (fun D => { target := .collected D, args := #[] }) ∧ l.Nodup ∧ ∀ D, D ∈ l → (C.base ≤ D ∧ E.mine D) ∧ w.heap[D]? = some (.deferred (some []))
theorem Marks.keep {C : Ctx} {E E' : Env} {a : Act} {w w' : World} (h : Marks C E a w) (hs : E'.ws = E.ws ∧ E'.I = E.I) (hk : KeepNC w w') : Marks C E' a w' := by
  obtain ⟨h0, l, hl, h1, h2, h3⟩ := h
  exact ⟨fun D o hD ho => hk D o (h0 D o hD ho) ho, l, hl, h1, h2, fun D hD => ⟨⟨(h3 D hD).1.1, by have := (h3 D hD).1.2; unfold Env.mine at *; rw [hs.1, hs.2]; exact this⟩, hk D _ (h3 D hD).2 rfl⟩⟩

structure Models (C : Ctx) (E : Env) (st : St) (a : Act) (w : World) : Prop where
  size : a.tmps.size = C.nt
  slot : ∀ t, SRep E (a.tmps.getD t undef) (st.get t)
  heap : HRep C E st w
  marks : Marks C E a w

def St.put (st : St) (t : Nat) (s : SV) : St := { st with fr := (t, s) :: st.fr }

theorem get_put (st : St) (t t' : Nat) (s : SV) : (st.put t s).get t' = if t = t' then s else st.get t' := by
  unfold St.put St.get
  simp only [look_cons]
  by_cases h : t = t' <;> simp [h]

theorem Models.put {C : Ctx} {E : Env} {st : St} {a : Act} {w : World} (h : Models C E st a w) {t : Nat} {s : SV} {v : Value} (ht : t < C.nt) (hs : SRep E v s) :
    Models C E (st.put t s) (a.put (some t) v) w := by
  refine ⟨by simp [Act.put, h.size], fun t' => ?_, ⟨h.heap.ob, h.heap.sep, h.heap.own, h.heap.mem, h.heap.mem0, h.heap.memnew, h.heap.new, h.heap.base, h.heap.fr, h.heap.hd0, h.heap.mno, h.heap.mkh, h.heap.kk⟩, h.marks⟩
  rw [get_put]
  simp only [Act.put, Array.getD_eq_getD_getElem?, Array.getElem?_setIfInBounds]
  by_cases e : t = t'
  · subst e; rw [if_pos rfl, if_pos rfl, if_pos (by rw [h.size]; exact ht)]; exact hs
  · rw [if_neg e, if_neg e]
    have := h.slot t'
    rwa [Array.getD_eq_getD_getElem?] at this

/-- the slot of an operation without one -/
def St.puto (st : St) : Option Nat → SV → St
  | some t, s => st.put t s
  | none, _ => st
def okDst (C : Nat) : Option Nat → Bool
  | some t => Nat.blt t C
  | none => true
theorem Models.puto {C : Ctx} {E : Env} {st : St} {a : Act} {w : World} (h : Models C E st a w) {t : Option Nat} {s : SV} {v : Value} (ht : okDst C.nt t = true) (hs : SRep E v s) :
    Models C E (st.puto t s) (a.put t v) w := by
  cases t with
  | none => exact h
  | some t => exact h.put (by simpa [okDst, Nat.blt_eq] using ht) hs

end Go.Sx

namespace Go.Sx
open Go

/-- what the executor knows of a type -/
inductive TD : Type
  | int (k : IntKind)
  | bool
  | string
  | slice (e : Nat)
  | array (n e : Nat)
  | struct (fs : List (Nat × Nat))
  | other

structure TI where
  desc : TD
  size : Nat
  bytes : Nat
  zero : List Value

abbrev Tab := List (Nat × TI)

/-- a type's fields: places and types -/
def fieldPlaces (fs : Array Field) : List (Nat × Nat) := fs.toList.map fun f => (f.offset, f.type)

def TD.Ok (P : Program) (t : Nat) : TD → Prop
  | .int k => P.underlying t = some (.int k)
  | .bool => P.underlying t = some .bool
  | .string => P.underlying t = some .string
  | .slice e => P.underlying t = some (.slice e)
  | .array n e => P.underlying t = some (.array n e)
  | .struct l => ∃ fs, P.underlying t = some (.struct fs) ∧ fieldPlaces fs = l ∧ P.stoodInHeld t = false ∧ (fs.all fun f => f.name != "_") = true ∧ P.eqGuardType P.depth t = false ∧ (fs.all fun f => (P.info? f.type).isSome) = true
  | .other => ∃ d, P.underlying t = some d ∧ (∀ fs, d ≠ .struct fs) ∧ (∀ n e, d ≠ .array n e)

structure TI.Ok (P : Program) (t : Nat) (i : TI) : Prop where
  desc : i.desc.Ok P t
  info : ∃ I : TypeInfo, P.info? t = some I ∧ I.size = i.size ∧ I.bytes = i.bytes ∧ ∃ z, I.zero = some z ∧ z.cells.toList = i.zero ∧ (∀ (k : Nat) (u : Value), z.cells[k]? = some u → u.oneCell' = true) ∧ z.cells.size = i.size

def TD.isAgg : TD → Bool
  | .struct _ => true
  | .array _ _ => true
  | _ => false

def Tab.Ok (P : Program) (Tb : Tab) : Prop := ∀ t i, look Tb t = some i → i.Ok P t

/- operations on numbers, strings and truth values -/
inductive BR : Type
  | ok (v : Value)
  | need (p : Prop) (v : Value)
  | no

def intBin (op : BinOp) (k : IntKind) (a b : Int) : BR :=
  match op with
  | .add => .ok (.int k (k.wrap (a + b)))
  | .sub => .ok (.int k (k.wrap (a - b)))
  | .mul => .ok (.int k (k.wrap (a * b)))
  | .quo => .need (b ≠ 0) (.int k (k.wrap (a.tdiv b)))
  | .rem => .need (b ≠ 0) (.int k (a.tmod b))
  | .and => .ok (.int k (bits .and k a b))
  | .or => .ok (.int k (bits .or k a b))
  | .xor => .ok (.int k (bits .xor k a b))
  | .andNot => .ok (.int k (bits .andNot k a b))
  | .eql => .ok (.bool (a == b))
  | .neq => .ok (.bool (a != b))
  | .lss => .ok (.bool (decide (a < b)))
  | .leq => .ok (.bool (decide (a ≤ b)))
  | .gtr => .ok (.bool (decide (b < a)))
  | .geq => .ok (.bool (decide (b ≤ a)))
  | .shl => .need (0 ≤ b) (.int k (k.wrap (a * 2 ^ (min b.toNat k.bits))))
  | .shr => .need (0 ≤ b) (.int k (a.fdiv (2 ^ (min b.toNat k.bits))))

def strBin (op : BinOp) (x y : ByteArray) : BR :=
  match op with
  | .add => .need (((x.size + y.size : Nat) : Int) ≤ 9223372036854775807) (.string (x ++ y))
  | .eql => .ok (.bool (x.data.toList == y.data.toList))
  | .neq => .ok (.bool (!(x.data.toList == y.data.toList)))
  | .lss => .ok (.bool (Op.bytesLess x.data.toList y.data.toList))
  | .leq => .ok (.bool (Op.bytesLess x.data.toList y.data.toList || x.data.toList == y.data.toList))
  | .gtr => .ok (.bool (!(Op.bytesLess x.data.toList y.data.toList || x.data.toList == y.data.toList)))
  | .geq => .ok (.bool (!Op.bytesLess x.data.toList y.data.toList))
  | _ => .no

def boolBin (op : BinOp) (x y : Bool) : BR :=
  match op with
  | .eql => .ok (.bool (x == y))
  | .neq => .ok (.bool (!(x == y)))
  | _ => .no

/-- are two kinds alike -/
def sameKind : IntKind → IntKind → Bool
  | .i8, .i8 | .i16, .i16 | .i32, .i32 | .i64, .i64 | .u8, .u8 | .u16, .u16 | .u32, .u32 | .u64, .u64 => true
  | _, _ => false

/-- flat equality of cells, by their types -/
def eqCells (Tb : Tab) : List (Nat × Nat) → Nat → List PV → List PV → Option Bool
  | [], _, [], [] => some true
  | (off, t) :: fs, n, .val x :: xs, .val y :: ys =>
    cond (off.beq n) (match look Tb t, x, y with
      | some ⟨.int _, _, _, _⟩, .int k a, .int k' b => cond (sameKind k k') ((eqCells Tb fs (n + 1) xs ys).map fun r => (a == b) && r) none
      | some ⟨.bool, _, _, _⟩, .bool a, .bool b => (eqCells Tb fs (n + 1) xs ys).map fun r => (a == b) && r
      | some ⟨.string, _, _, _⟩, .string a, .string b => (eqCells Tb fs (n + 1) xs ys).map fun r => (a.data.toList == b.data.toList) && r
      | _, _, _ => none) none
  | _, _, _, _ => none

/-- equality of arrays of numbers -/
def eqInts : Nat → List PV → List PV → Option Bool
  | 0, [], [] => some true
  | n + 1, .val (.int k a) :: xs, .val (.int k' b) :: ys => cond (sameKind k k') ((eqInts n xs ys).map fun r => (a == b) && r) none
  | _, _, _ => none

def binop (Tb : Tab) (op : BinOp) (t : Nat) (x y : SV) : BR :=
  match x, y with
  | .p _ (.val (.int k a)), .p _ (.val (.int k' b)) =>
    match op with
    | .shl => intBin op k a b
    | .shr => intBin op k a b
    | _ => cond (sameKind k k') (intBin op k a b) .no
  | .p _ (.val (.string a)), .p _ (.val (.string b)) => strBin op a b
  | .p _ (.val (.bool a)), .p _ (.val (.bool b)) =>
    match look Tb t with
    | some ⟨.bool, _, _, _⟩ => boolBin op a b
    | _ => .no
  | .p _ (.agg xs), .p _ (.agg ys) =>
    match look Tb t with
    | some ⟨.struct fs, _, _, _⟩ =>
      match op with
      | .eql => match eqCells Tb fs 0 xs ys with | some r => .ok (.bool r) | none => .no
      | .neq => match eqCells Tb fs 0 xs ys with | some r => .ok (.bool (!r)) | none => .no
      | _ => .no
    | some ⟨.array n e, _, _, _⟩ => match look Tb e with
      | some ⟨.int _, 1, _, _⟩ => match op with
        | .eql => match eqInts n xs ys with | some r => .ok (.bool r) | none => .no
        | .neq => match eqInts n xs ys with | some r => .ok (.bool (!r)) | none => .no
        | _ => .no
      | _ => .no
    | _ => .no
  | _, _ => .no

def unop (op : UnOp) (x : SV) : BR :=
  match op, x with
  | .neg, .p _ (.val (.int k n)) => .ok (.int k (k.wrap (0 - n)))
  | .not, .p _ (.val (.bool b)) => .ok (.bool (!b))
  | .xor, .p _ (.val (.int k n)) => .ok (.int k (bits .xor k (cond k.signed (-1) k.max) n))
  | _, _ => .no

/- cells and aggregates -/
def allP : List SV → Option (Bool × List PV)
  | [] => some (true, [])
  | .p b d :: l => match allP l with
    | some (c, ds) => some (b && c, d :: ds)
    | none => none
  | _ => none

def normAgg (l : List SV) : SV :=
  match allP l with
  | some (b, ds) => .p b (.agg ds)
  | none => .agg l

def mapP (b : Bool) : List PV → List SV
  | [] => []
  | d :: l => .p b d :: mapP b l

def cellsOf : SV → Option (List SV)
  | .p b (.agg l) => some (mapP b l)
  | .p _ (.tup _) => none
  | .p b (.val v) => match v with
    | .agg _ => none
    | .tuple _ => none
    | v => some [.p b (.val v)]
  | .p b d => some [.p b d]
  | .agg l => some l
  | .tup _ => none
  | .any => none
  | .sub _ _ _ _ => none
  | .full _ _ => none
  | s => some [s]

def takeN {α : Type} : Nat → List α → Option (List α)
  | 0, _ => some []
  | _ + 1, [] => none
  | n + 1, x :: l => match takeN n l with
    | some r => some (x :: r)
    | none => none

def dropN {α : Type} : Nat → List α → List α
  | 0, l => l
  | _ + 1, [] => []
  | n + 1, _ :: l => dropN n l

def nth {α : Type} : List α → Nat → Option α
  | [], _ => none
  | x :: _, 0 => some x
  | _ :: l, n + 1 => nth l n

/-- cells put in at a place -/
def splice : List SV → Nat → List SV → Option (List SV)
  | cs, 0, [] => some cs
  | _ :: cs, 0, x :: new => match splice cs 0 new with
    | some r => some (x :: r)
    | none => none
  | c :: cs, n + 1, new => match splice cs n new with
    | some r => some (c :: r)
    | none => none
  | _, _, _ => none

/-- a variable read out of cells -/
def readCells (agg : Bool) (size off : Nat) (cs : List SV) : Option SV :=
  match agg with
  | true => match takeN size (dropN off cs) with
    | some l => some (normAgg l)
    | none => none
  | false => nth cs off

def ofConst : Value → SV
  | .agg cs => match cs.toList.all (·.oneCell') with
    | true => .p true (.agg (cs.toList.map .val))
    | false => .any
  | .func (.func f) ⟨[]⟩ ⟨[]⟩ => .fn f []
  | v => .p true (.val v)

def St.ev (st : St) : Operand → SV
  | .tmp t => st.get t
  | .const v => ofConst v
  | .global _ => .any
  | .func f => .fn f []

def St.alloc (st : St) (o : Ob) : St := { st with ob := (st.no, some o) :: st.ob, no := st.no + 1 }
def St.setOb (st : St) (i : Nat) (o : Option Ob) : St := { st with ob := (i, o) :: st.ob }

/- calls: what is handed over -/
def pubV (st : St) : Nat → SV → Option PV
  | 0, _ => none
  | _ + 1, .p _ d => some d
  | _ + 1, .row i => match st.obj i with
    | some (.row _ _ n f) => some (.seq n f)
    | _ => none
  | _ + 1, _ => none

def ple0 : PV → PV → Prop
  | .val (.slice none 0 0), .seq n _ => n = 0
  | .val (.int k a), .val (.int k' b) => match sameKind k k' with | true => a = b | false => False
  | .val (.bool a), .val (.bool b) => a = b
  | .val (.string a), .val (.string b) => a = b
  | .val a, .val b => a = b
  | .seq n f, .seq n' f' => n = n' ∧ ∀ k, k < n → f k = f' k
  | .pt l o, .pt l' o' => l = l' ∧ o = o'
  | .fn f l, .fn f' l' => f = f' ∧ l = l'
  | _, _ => False

def ples0 : List PV → List PV → Prop
  | [], [] => True
  | [x], [y] => ple0 x y
  | x :: xs, y :: ys => ple0 x y ∧ ples0 xs ys
  | _, _ => False

def ple1 : PV → PV → Prop
  | .agg xs, .agg ys => ples0 xs ys
  | x, y => ple0 x y

def ples1 : List PV → List PV → Prop
  | [], [] => True
  | [x], [y] => ple1 x y
  | x :: xs, y :: ys => ple1 x y ∧ ples1 xs ys
  | _, _ => False

def ple : PV → PV → Prop
  | .tup xs, .tup ys => ples1 xs ys
  | x, y => ple1 x y

structure Spec where
  A : Type
  args : A → List SV
  objs : A → List Ob
  pre : A → Prop
  res : A → PV
  objs' : A → List Ob
  fresh : Bool
  ro : Nat
  inl : List Nat := []
  gl : List (Nat × Array Value) := []

structure Cfg where
  P : Program
  Tb : Tab
  nt : Nat
  ro : Nat
  m : Nat
  rnd : Bool
  yl : Option (Nat × List (List Value))
  inl : List Nat
  gl : List (Nat × Array Value)

/- values brought into the open -/
def forceV (v : Value) (K : Value → Prop) : Prop :=
  match v with
  | .int k n => K (.int k n)
  | .bool b => K (.bool b)
  | .string s => K (.string s)
  | .slice a l c => K (.slice a l c)
  | .pointer a => K (.pointer a)
  | v => K v
theorem forceV_eq (v : Value) (K : Value → Prop) : forceV v K = K v := by cases v <;> rfl
def forceP (d : PV) (K : PV → Prop) : Prop :=
  match d with
  | .val v => forceV v fun v => K (.val v)
  | .seq n f => K (.seq n f)
  | .pt l o => K (.pt l o)
  | .agg l => K (.agg l)
  | .tup l => K (.tup l)
  | .fn f l => K (.fn f l)
theorem forceP_eq (d : PV) (K : PV → Prop) : forceP d K = K d := by
  cases d with
  | val v => exact forceV_eq v fun v => K (.val v)
  | _ => rfl
def forceB (b : Bool) (K : Bool → Prop) : Prop := match b with | true => K true | false => K false
theorem forceB_eq (b : Bool) (K : Bool → Prop) : forceB b K = K b := by cases b <;> rfl
def forceS (s : SV) (K : SV → Prop) : Prop :=
  match s with
  | .p b d => forceB b fun b => forceP d fun d => K (.p b d)
  | .own i o => K (.own i o)
  | .el i sz j o => K (.el i sz j o)
  | .row i => K (.row i)
  | .sub i sz lo n => K (.sub i sz lo n)
  | .agg l => K (.agg l)
  | .tup l => K (.tup l)
  | .fn f l => K (.fn f l)
  | .full n f => K (.full n f)
  | .any => K .any
theorem forceS_eq (s : SV) (K : SV → Prop) : forceS s K = K s := by
  cases s <;> first | rfl | (simp only [forceS, forceB_eq, forceP_eq])

def putK (st : St) (d : Option Nat) (s : SV) (K : St → Prop) : Prop :=
  forceS s fun s => match d, st with
    | some t, ⟨fr, ob, no, k⟩ => K ⟨(t, s) :: fr, ob, no, k⟩
    | none, ⟨fr, ob, no, k⟩ => K ⟨fr, ob, no, k⟩
theorem putK_eq (st : St) (d : Option Nat) (s : SV) (K : St → Prop) : putK st d s K = K (st.puto d s) := by
  unfold putK; rw [forceS_eq]; cases d <;> rfl

def putR (st : St) (d : Option Nat) (r : BR) (K : St → Prop) : Prop :=
  match r with
  | .ok v => putK st d (.p true (.val v)) K
  | .need p v => p ∧ putK st d (.p true (.val v)) K
  | .no => False

def bcase : Bool → Prop → Prop → Prop
  | true, a, _ => a
  | false, _, b => b
theorem bcase_intro {t : Bool} {A B : Prop} (h : t = true → A) (h' : t = false → B) : bcase t A B := by
  cases t
  · exact h' rfl
  · exact h rfl
theorem bcase_elim {t : Bool} {A B : Prop} (h : bcase t A B) : (t = true ∧ A) ∨ (t = false ∧ B) := by
  cases t
  · exact .inr ⟨rfl, h⟩
  · exact .inl ⟨rfl, h⟩

def objK (st : St) (o : Ob) (K : St → Nat → Prop) : Prop :=
  match st with
  | ⟨fr, ob, no, k⟩ => K ⟨fr, (no, some o) :: ob, no + 1, k⟩ no
theorem objK_eq (st : St) (o : Ob) (K : St → Nat → Prop) : objK st o K = K (st.alloc o) st.no := rfl

def zeros (l : List Value) : List SV := match l with
  | [] => []
  | v :: l => .p true (.val v) :: zeros l

/-- parts put into a struct's or an array's cells -/
def fillS (place : Nat → Option (Nat × Nat)) (st : St) : List SV → List (Nat × Operand) → Option (List SV)
  | cs, [] => some cs
  | cs, (i, x) :: rest =>
    match place i, cellsOf (st.ev x) with
    | some (off, size), some new =>
      match new.length.beq size with
      | true => match splice cs off new with
        | some r => fillS place st r rest
        | none => none
      | false => none
    | _, _ => none

def structPlace (Tb : Tab) (fs : List (Nat × Nat)) (i : Nat) : Option (Nat × Nat) :=
  match nth fs i with
  | some (off, t) => match look Tb t with
    | some ⟨_, size, _, _⟩ => some (off, size)
    | none => none
  | none => none

def repZ : Nat → List SV → List SV
  | 0, _ => []
  | n + 1, z => z ++ repZ n z

def elemsAt (sz : Nat) (l : List PV) (j : Nat) : List PV := match takeN sz (dropN (j * sz) l) with
  | some r => r
  | none => []

def mulN (a b : Nat) : Nat := a * b

end Go.Sx

namespace Go.Sx
open Go

/- what a function's contract says -/
def enumOb : Nat → List Ob → List (Nat × Option Ob)
  | _, [] => []
  | i, o :: l => (i, some o) :: enumOb (i + 1) l
def stOf (l : List Ob) : St := { fr := [], ob := enumOb 0 l, no := l.length, k := none }

/-- the blocks that are lent -/
def borOf (hd : Nat → Option Value) (l : List Ob) (ro : Nat) (b : Nat) : Prop := ∃ (k : Nat) (o : Ob), ro ≤ k ∧ l[k]? = some o ∧ (hd k).bind blockOf = some b
def ctxOf (w : World) (E : Env) (l : List Ob) (ro : Nat) : Ctx :=
  { w0 := w, bor := borOf E.hd l ro, mem0 := E.mem, base := w.heap.size, nt := 0, hd0 := E.hd, m := l.length, ro := ro, kh := l.length, wk := { w with heap := #[] }, nm := false, J := fun k I ws => k = none ∧ I = borOf E.hd l ro ∧ ws = w }

def ArgsRep (E : Env) (vs : Array Value) (l : List SV) : Prop :=
  vs.size = l.length ∧ ∀ (k : Nat) (u : Value) (s : SV), vs[k]? = some u → l[k]? = some s → SRep E u s

def Spec.post (S : Spec) (a : S.A) : List Ob := (S.objs a).take S.ro ++ S.objs' a

def FnOk (P : Program) (f : Nat) (S : Spec) : Prop :=
  (∃ fn, P.funcs[f]? = some fn ∧ fn.body.isSome = true ∧ (fn.name == "runtime.NumGoroutine") = false) ∧
  ∀ (a : S.A), S.pre a → ∀ (E : Env) (vs : Array Value) (w : World), (∀ p ∈ S.gl, E.mem p.1 = some p.2) →
    HRep (ctxOf w E (S.objs a) S.ro) E (stOf (S.objs a)) w → ArgsRep E vs (S.args a) →
    Calls P f vs w fun e w' => ∃ v E', e = .returned v ∧ PRep (E'.m S.fresh) v (S.res a) ∧ HRep (ctxOf w E (S.objs a) S.ro) E' (stOf (S.post a)) w'

/-- the code of a function, run in place: what comes back and the objects then -/
def FnInl (X : Cfg) (f : Nat) (args : List SV) (st : St) (K : SV → St → Prop) : Prop :=
  (∃ fn, X.P.funcs[f]? = some fn ∧ fn.body.isSome = true ∧ (fn.name == "runtime.NumGoroutine") = false) ∧
  ∀ (C : Ctx) (E : Env) (vs : Array Value) (w : World), C.m = X.m → C.ro = X.ro → C.ro ≤ C.m → (∀ i b, i < C.m → (C.hd0 i).bind blockOf = some b → b < C.base) → (∀ p ∈ X.gl, C.mem0 p.1 = some p.2) → HRep C E st w → ArgsRep E vs args →
    Calls X.P f vs w fun e w' => ∃ v E' s st', e = .returned v ∧ SRep E' v s ∧ (E.Le E' ∧ E'.ws = E.ws ∧ E'.I = E.I) ∧ HRep C E' st' w' ∧ KeepNC w w' ∧ K s st'
/-- back in the caller -/
def backK (fr : List (Nat × SV)) (dst : Option Nat) (K : St → Prop) (s : SV) (st : St) : Prop :=
  match st with
  | ⟨_, ob, no, k⟩ => putK ⟨fr, ob, no, k⟩ dst s K

/- what is handed over -/
def inL (i : Nat) : List Nat → Bool
  | [] => false
  | j :: l => (i.beq j).or (inL i l)

/-- a value of ours, s, where the callee's contract says c; js: our numbers of the objects that are lent -/
def argM0 (st : St) (js : List Nat) (s c : SV) : Prop :=
  match c with
  | .own k off' => match s with
    | .own i off => nth js k = some i ∧ off = off'
    | _ => False
  | .row k => match s with
    | .row i => nth js k = some i
    | _ => False
  | .p false d => match s with
    | .p _ d' => ple d' d
    | .row i => match inL i js, st.obj i with
      | false, some (.row _ _ n f) => ple (.seq n f) d
      | _, _ => False
    | _ => False
  | .any => True
  | _ => False
def argMs0 (st : St) (js : List Nat) : List SV → List SV → Prop
  | [], [] => True
  | [s], [c] => argM0 st js s c
  | s :: ss, c :: cs => argM0 st js s c ∧ argMs0 st js ss cs
  | _, _ => False
def argM (st : St) (js : List Nat) (s c : SV) : Prop :=
  match c with
  | .fn f l => match s with
    | .fn f' l' => f' = f ∧ argMs0 st js l' l
    | _ => False
  | c => argM0 st js s c
def argMs (st : St) (js : List Nat) : List SV → List SV → Prop
  | [], [] => True
  | [s], [c] => argM st js s c
  | s :: ss, c :: cs => argM st js s c ∧ argMs st js ss cs
  | _, _ => False

/-- is a row of the call's own handed over for reading -/
def lends0 : List SV → List SV → Bool
  | .row _ :: l, .p _ _ :: m => true
  | _ :: l, _ :: m => lends0 l m
  | _, _ => false
def lends : List SV → List SV → Bool
  | .row _ :: _, .p _ _ :: _ => true
  | .fn _ l' :: l, .fn _ m' :: m => (lends0 l' m').or (lends l m)
  | _ :: l, _ :: m => lends l m
  | _, _ => false

def obM (st : St) (js : List Nat) (j : Nat) (o : Ob) : Prop :=
  match o with
  | .cells T cs => match st.obj j with
    | some (.cells T' cs') => T' = T ∧ argMs st js cs' cs
    | _ => False
  | .row T sz n f => match st.obj j with
    | some (.row T' sz' n' f') => T' = T ∧ sz' = sz ∧ n' = n ∧ ∀ k, k < n → f' k = f k
    | _ => False
def obsM (st : St) (all : List Nat) : List Nat → List Ob → Prop
  | [], [] => True
  | [j], [o] => obM st all j o
  | j :: js, o :: os => obM st all j o ∧ obsM st all js os
  | _, _ => False
def obLends (st : St) (j : Nat) (o : Ob) : Bool :=
  match o with
  | .cells _ cs => match st.obj j with
    | some (.cells _ cs') => lends cs' cs
    | _ => false
  | _ => false
def obsLend (st : St) : List Nat → List Ob → Bool
  | j :: js, o :: os => (obLends st j o).or (obsLend st js os)
  | _, _ => false

def renS0 (js : List Nat) : SV → SV
  | .own k off => match nth js k with | some i => .own i off | none => .any
  | .row k => match nth js k with | some i => .row i | none => .any
  | .p b d => .p b d
  | _ => .any
def renSs (js : List Nat) : List SV → List SV
  | [] => []
  | s :: l => renS0 js s :: renSs js l
def renOb (js : List Nat) : Ob → Ob
  | .cells T cs => .cells T (renSs js cs)
  | .row T sz n f => .row T sz n f

def putObs (all : List Nat) : List Nat → List Ob → List (Nat × Option Ob) → List (Nat × Option Ob)
  | j :: js, o :: os, l => putObs all js os ((j, some (renOb all o)) :: l)
  | _, _, l => l
def distinct : List Nat → Bool
  | [] => true
  | j :: l => (!(inL j l)).and (distinct l)
def allGe (ro : Nat) : List Nat → Bool
  | [] => true
  | j :: l => (ro.ble j).and (allGe ro l)

/- the objects lent for writing hold what they held -/
def samev : List SV → List SV → Prop
  | .p _ (.val v) :: l, .p _ (.val u) :: l' => v = u ∧ samev l l'
  | [], [] => True
  | _, _ => False
def sameO (st : St) (j : Nat) (o : Ob) : Prop :=
  match o with
  | .cells T cs => match st.obj j with
    | some (.cells T' cs') => T = T' ∧ samev cs cs'
    | _ => False
  | _ => False
def sameOs (st : St) : List Nat → List Ob → Prop
  | [], _ => True
  | j :: js, o :: os => sameO st j o ∧ sameOs st js os
  | _, _ => False

def evs (st : St) : List Operand → List SV
  | [] => []
  | x :: l => st.ev x :: evs st l

def callK (X : Cfg) (gr : Bool) (f : Nat) (args : List SV) (dst : Option Nat) (st : St) (K : St → Prop) : Prop :=
  ∃ S : Spec, FnOk X.P f S ∧ ∃ (a : S.A) (js : List Nat), (distinct js = true ∧ allGe X.ro (dropN S.ro js) = true ∧ js.length = (S.objs a).length ∧ (S.objs' a).length = (dropN S.ro js).length ∧ (gr = true → dropN S.ro js = [] ∨ sameOs st (dropN S.ro js) (S.objs' a)) ∧
      ((lends args (S.args a)).or (obsLend st js (S.objs a)) = true → S.fresh = true ∧ dropN S.ro js = []) ∧ (S.gl = [] ∨ S.gl = X.gl)) ∧
    argMs st js args (S.args a) ∧ obsM st js js (S.objs a) ∧ S.pre a ∧
    match st with
    | ⟨fr, ob, no, k⟩ => putK ⟨fr, putObs js (dropN S.ro js) (S.objs' a) ob, no, k⟩ dst (.p S.fresh (S.res a)) K

/- the operations -/
def stepRead (X : Cfg) (o : Oper) (st : St) (K : St → Prop) : Prop :=
  match o.op with
  | .load T x => match look X.Tb T with
    | some ⟨d, size, _, _⟩ => match st.ev x with
      | .own i off => match st.obj i with
        | some (.cells _ cs) => match readCells d.isAgg size off cs with
          | some s => putK st o.dst s K
          | none => False
        | _ => False
      | .el i sz j off => match st.obj i with
        | some (.row _ sz' n f) => match sz.beq sz' with
          | true => j < n ∧ match readCells d.isAgg size off (mapP false (f j)) with
            | some s => putK st o.dst s K
            | none => False
          | false => False
        | _ => False
      | .p b (.pt l off) => match readCells d.isAgg size off (mapP b l) with
          | some s => putK st o.dst s K
          | none => False
      | _ => False
    | none => False
  | .fieldAddr T x f => match look X.Tb T with
    | some ⟨.struct fs, _, _, _⟩ => match structPlace X.Tb fs f with
      | some (off, _ + 1) => match st.ev x with
        | .own i o' => putK st o.dst (.own i (o' + off)) K
        | .el i sz j o' => putK st o.dst (.el i sz j (o' + off)) K
        | .p b (.pt l o') => putK st o.dst (.p b (.pt l (o' + off))) K
        | _ => False
      | _ => False
    | _ => False
  | .indexAddr T x i => match look X.Tb T with
    | some ⟨.slice e, _, _, _⟩ => match look X.Tb e with
      | some ⟨_, sz + 1, _, _⟩ => match st.ev x, st.ev i with
        | .p b (.seq n f), .p _ (.val (.int _ j)) => (0 ≤ j ∧ j < (n : Int)) ∧ (f j.toNat).length = sz + 1 ∧ putK st o.dst (.p b (.pt (f j.toNat) 0)) K
        | .row r, .p _ (.val (.int _ j)) => match st.obj r with
          | some (.row _ sz' n _) => match sz'.beq (sz + 1) with
            | true => (0 ≤ j ∧ j < (n : Int)) ∧ putK st o.dst (.el r (sz + 1) j.toNat 0) K
            | false => False
          | _ => False
        | _, _ => False
      | _ => False
    | some ⟨.array n e, _, _, _⟩ => match look X.Tb e with
      | some ⟨_, sz, _, _⟩ => match st.ev x, st.ev i with
        | .own q off, .p _ (.val (.int _ j)) => (0 ≤ j ∧ j < (n : Int)) ∧ putK st o.dst (.own q (off + j.toNat * sz)) K
        | _, _ => False
      | _ => False
    | _ => False
  | _ => False

/-- cells of one element put in place -/
def putEl (f : Nat → List PV) (j off : Nat) (ds : List PV) (k : Nat) : List PV := if k = j then (f j).take off ++ ds ++ (f j).drop (off + ds.length) else f k
def vals (l : List Value) : List PV := match l with
  | [] => []
  | v :: l => .val v :: vals l

def stepMem (X : Cfg) (o : Oper) (st : St) (K : St → Prop) : Prop :=
  match o.op with
  | .alloc T => match look X.Tb T with
    | some ⟨_, _, _, z⟩ => objK st (.cells T (zeros z)) fun st i => putK st o.dst (.own i 0) K
    | none => False
  | .box T x => match cellsOf (st.ev x) with
    | some cs => objK st (.cells T cs) fun st i => putK st o.dst (.own i 0) K
    | none => False
  | .store T x y => match look X.Tb T with
    | some ⟨_, size, _, _⟩ => match st.ev x, cellsOf (st.ev y) with
      | .own i off, some new => match new.length.beq size with
        | true => match st.obj i with
          | some (.cells T' cs) => match X.ro.ble i, splice cs off new with
            | true, some r => putK (st.setOb i (some (.cells T' r))) o.dst .any K
            | _, _ => False
          | _ => False
        | false => False
      | .el i sz j off, some new => match new.length.beq size, allP new with
        | true, some (_, ds) => match st.obj i with
          | some (.row T' sz' n f) => match X.ro.ble i, sz.beq sz' with
            | true, true => (j < n ∧ off + ds.length ≤ sz) ∧ putK (st.setOb i (some (.row T' sz n (putEl f j off ds)))) o.dst .any K
            | _, _ => False
          | _ => False
        | _, _ => False
      | _, _ => False
    | none => False
  | .makeSlice T l c => match look X.Tb T with
    | some ⟨.slice e, _, _, _⟩ => match look X.Tb e with
      | some ⟨_, sz + 1, by_, z⟩ => match st.ev l, st.ev c with
        | .p _ (.val (.int _ n)), .p _ (.val (.int _ m)) => (0 ≤ n ∧ n ≤ m ∧ m ≤ 281474976710655 ∧ by_ * m.toNat ≤ 281474976710656) ∧ objK st (.row e (sz + 1) n.toNat fun _ => vals z) fun st i => putK st o.dst (.row i) K
        | _, _ => False
      | _ => False
    | _ => False
  | .buildSlice T len parts => match look X.Tb T with
    | some ⟨.slice e, _, _, _⟩ => match look X.Tb e with
      | some ⟨_, sz + 1, _, z⟩ =>
        match fillS (fun i => match i.blt len with | true => some (i * (sz + 1), sz + 1) | false => none) st (repZ len (zeros z)) parts.toList with
        | some cs => match allP cs with
          | some (_, ds) => match (len * (sz + 1)).blt 1000 with
            | true => objK st (.row e (sz + 1) len (elemsAt (sz + 1) ds)) fun st i => putK st o.dst (.row i) K
            | false => False
          | none => False
        | none => False
      | _ => False
    | _ => False
  | _ => False

/-- some elements set to zero -/
def clrF (f : Nat → List PV) (lo n : Nat) (z : List PV) (k : Nat) : List PV := if lo ≤ k ∧ k < lo + n then z else f k
/-- a slice's append: n cells and m more -/
def joinF (n : Nat) (f g : Nat → List PV) (k : Nat) : List PV := if k < n then f k else g (k - n)

/-- the cells that are appended: how many, which, and whose row they are -/
def srcOf (st : St) (e sz : Nat) : SV → Option (Nat × (Nat → List PV) × Option Nat)
  | .row j => match st.obj j with
    | some (.row e' sz' m g) => match (e'.beq e).and (sz'.beq sz) with
      | true => some (m, g, some j)
      | false => none
    | _ => none
  | .p _ (.seq m g) => some (m, g, none)
  | _ => none

def otherThan (i : Nat) : Option Nat → Bool
  | some j => !(i.beq j)
  | none => true

/-- cells moved within a row -/
def ovl (n lo m : Nat) (f : Nat → List PV) (k : Nat) : List PV := if n ≤ k ∧ k < n + m then f (lo + (k - n)) else f k
def appendIn (X : Cfg) (e sz : Nat) (s x : SV) (dst : Option Nat) (st : St) (K : St → Prop) : Prop :=
  match s, x with
  | .sub i sz' 0 n, .sub j sz'' lo m => match ((i.beq j).and (X.ro.ble i)).and ((sz'.beq sz).and (sz''.beq sz)), st.obj i with
    | true, some (.row e' sz3 N f) => match (e'.beq e).and (sz3.beq sz) with
      | true => (n + m ≤ N ∧ lo + m ≤ N ∧ 0 < N) ∧ putK (st.setOb i (some (.row e sz N (ovl n lo m f)))) dst (.sub i sz 0 (n + m)) K
      | false => False
    | _, _ => False
  | _, _ => False
def appendK (X : Cfg) (t : Nat) (s x : SV) (dst : Option Nat) (st : St) (K : St → Prop) : Prop :=
  match look X.Tb t with
  | some ⟨.slice e, _, _, _⟩ => match look X.Tb e with
    | some ⟨_, sz + 1, by_, _⟩ => match srcOf st e (sz + 1) x with
      | some (m, g, j) => match s with
        | .row i => match (otherThan i j).and (X.m.ble i), st.obj i with
          | true, some (.row e' sz' n f) => match (e'.beq e).and (sz'.beq (sz + 1)) with
            | true => (n + m ≤ maxLen ∧ (n + m) * by_ ≤ 140737488355328) ∧ (∀ k, k < m → (g k).length = sz + 1) ∧
                objK (st.setOb i none) (.row e (sz + 1) (n + m) (joinF n f g)) fun st i => putK st dst (.row i) K
            | false => False
          | _, _ => False
        | .p _ (.val (.slice none 0 0)) => (m ≤ maxLen ∧ m * by_ ≤ 140737488355328) ∧ (∀ k, k < m → (g k).length = sz + 1) ∧
            objK st (.row e (sz + 1) m g) fun st i => putK st dst (.row i) K
        | .full n f => (0 < m ∧ n + m ≤ maxLen ∧ (n + m) * by_ ≤ 140737488355328) ∧ (∀ k, k < n → (f k).length = sz + 1) ∧ (∀ k, k < m → (g k).length = sz + 1) ∧
            putK st dst (.p false (.seq (n + m) (joinF n f g))) K
        | _ => False
      | none => appendIn X e (sz + 1) s x dst st K
    | _ => False
  | _ => False

def stepLen (X : Cfg) (c : Call) (o : Oper) (st : St) (K : St → Prop) : Prop :=
  match c with
  | ⟨.builtin .len, ⟨[x]⟩, ⟨[t]⟩⟩ => match look X.Tb t with
    | some ⟨.string, _, _, _⟩ => match st.ev x with
      | .p _ (.val (.string s)) => putK st o.dst (.p true (.val (.int .i64 s.size))) K
      | _ => False
    | some ⟨.slice _, _, _, _⟩ => match st.ev x with
      | .p _ (.seq n _) => putK st o.dst (.p true (.val (.int .i64 n))) K
      | .p _ (.val (.slice none 0 0)) => putK st o.dst (.p true (.val (.int .i64 0))) K
      | .row i => match st.obj i with
        | some (.row _ _ n _) => putK st o.dst (.p true (.val (.int .i64 n))) K
        | _ => False
      | .sub _ _ _ n => putK st o.dst (.p true (.val (.int .i64 n))) K
      | _ => False
    | _ => False
  | _ => False

/-- a value, as data -/
def toPV : Value → PV
  | .int k n => .val (.int k n)
  | .bool b => .val (.bool b)
  | .string s => .val (.string s)
  | .agg cs => .agg (cs.toList.map .val)
  | v => .val v
def vOk : Value → Bool
  | .agg cs => cs.toList.all (·.oneCell')
  | .tuple _ => false
  | _ => true
def yieldArgs : List SV → List Value → Prop
  | [], [] => True
  | [.p _ d], [v] => ple d (toPV v)
  | .p _ d :: l, v :: vs => ple d (toPV v) ∧ yieldArgs l vs
  | _, _ => False

def yieldK (X : Cfg) (l : Nat) (args : List SV) (dst : Option Nat) (st : St) (K : St → Prop) : Prop :=
  match X.yl, st with
  | some (l', xs), ⟨fr, ob, no, some k⟩ => l = l' ∧ ∃ vs, xs[k]? = some vs ∧ yieldArgs args vs ∧
      putK ⟨fr, ob, no, some (k + 1)⟩ dst (.p true (.val (.bool true))) K ∧ putK ⟨fr, ob, no, none⟩ dst (.p true (.val (.bool false))) K
  | _, _ => False

/-- is what is put there given away: nobody writes it any more (slots are marked in the list of functions in place) -/
def frz (X : Cfg) (d : Option Nat) : Bool :=
  match d with
  | some t => inL (t + 1000000) X.inl
  | none => false
def frzV (X : Cfg) (s : SV) (d : Option Nat) (st : St) (K : St → Prop) : Prop :=
  match s with
  | .row i => match X.m.ble i, st.obj i with
    | true, some (.row _ _ n f) => putK (st.setOb i none) d (.p false (.seq n f)) K
    | _, _ => False
  | .sub i sz lo n => match X.m.ble i, st.obj i with
    | true, some (.row _ sz' _ f) => match sz.beq sz' with
      | true => putK (st.setOb i none) d (.p false (.seq n (fun k => f (lo + k)))) K
      | false => False
    | _, _ => False
  | s => putK st d s K
/-- back in the caller, with what comes back given away where the slot is marked -/
def backF (X : Cfg) (fr : List (Nat × SV)) (dst : Option Nat) (K : St → Prop) (s : SV) (st : St) : Prop :=
  match st with
  | ⟨_, ob, no, k⟩ => match frz X dst with
    | true => frzV X s dst ⟨fr, ob, no, k⟩ K
    | false => putK ⟨fr, ob, no, k⟩ dst s K

def stepCall (X : Cfg) (gr : Bool) (c : Call) (o : Oper) (st : St) (K : St → Prop) : Prop :=
  match c with
  | ⟨.value f, args, _⟩ => match st.ev f with
    | .fn k capt => match inL k X.inl, gr with
      | false, _ => callK X gr k (evs st args.toList ++ capt) o.dst st K
      | true, false => FnInl X k (evs st args.toList ++ capt) st (backF X st.fr o.dst K)
      | true, true => False
    | .p b (.fn k capt) => callK X gr k (evs st args.toList ++ mapP b capt) o.dst st K
    | .p _ (.val (.func (.yield l) ⟨[]⟩ ⟨[]⟩)) => match gr with
      | false => yieldK X l (evs st args.toList) o.dst st K
      | true => False
    | _ => False
  | ⟨.builtin .append, ⟨[s, x]⟩, ⟨[t, t']⟩⟩ => match t.beq t' with
    | true => appendK X t (st.ev s) (st.ev x) o.dst st K
    | false => False
  | ⟨.builtin .min, ⟨[x, y]⟩, _⟩ => match st.ev x, st.ev y with
    | .p _ (.val (.int k a)), .p _ (.val (.int _ b)) => putK st o.dst (.p true (.val (.int k (if b < a then b else a)))) K
    | _, _ => False
  | ⟨.builtin .max, ⟨[x, y]⟩, _⟩ => match st.ev x, st.ev y with
    | .p _ (.val (.int k a)), .p _ (.val (.int _ b)) => putK st o.dst (.p true (.val (.int k (if b > a then b else a)))) K
    | _, _ => False
  | ⟨.builtin .clear, ⟨[x]⟩, ⟨[t]⟩⟩ => match look X.Tb t with
    | some ⟨.slice e, _, _, _⟩ => match look X.Tb e with
      | some ⟨_, sz + 1, _, z⟩ => match st.ev x with
        | .sub i sz' lo n => match (sz'.beq (sz + 1)).and (X.ro.ble i), st.obj i with
          | true, some (.row T' sz'' m f) => match sz''.beq (sz + 1) with
            | true => putK (st.setOb i (some (.row T' (sz + 1) m (clrF f lo n (vals z))))) o.dst .any K
            | false => False
          | _, _ => False
        | _ => False
      | _ => False
    | _ => False
  | _ => False

/-- a slice expression's bounds -/
def boundK (st : St) (x : Option Operand) (d : Int) (K : Int → Prop) : Prop :=
  match x with
  | none => K d
  | some x => match st.ev x with
    | .p _ (.val (.int _ j)) => K j
    | _ => False

/-- a slice held against nil: its length -/
def nilCmp (Tb : Tab) (t : Nat) (x y : SV) : Option Nat :=
  match x, y with
  | .p _ (.seq n _), .p _ (.val (.slice none 0 0)) => match look Tb t with
    | some ⟨.slice _, _, _, _⟩ => some n
    | _ => none
  | _, _ => none
/-- a string's byte, as a cell -/
def bCell (s : ByteArray) (j : Nat) : List PV := [.val (.int .u8 (s.data.getD j 0).toNat)]
def stepPure (X : Cfg) (o : Oper) (st : St) (K : St → Prop) : Prop :=
  match o.op with
  | .move x => putK st o.dst (st.ev x) K
  | .assign x => putK st o.dst (st.ev x) K
  | .pick c a b => match st.ev c with
    | .p _ (.val (.bool t)) => bcase t (putK st o.dst (st.ev a) K) (putK st o.dst (st.ev b) K)
    | _ => False
  | .binOp op t x y _ => match nilCmp X.Tb t (st.ev x) (st.ev y) with
    | some n => match op with
      | .eql => ∀ b : Bool, (b = true → n = 0) → putK st o.dst (.p true (.val (.bool b))) K
      | .neq => ∀ b : Bool, (b = true → n = 0) → putK st o.dst (.p true (.val (.bool (!b)))) K
      | _ => False
    | none => putR st o.dst (binop X.Tb op t (st.ev x) (st.ev y)) K
  | .unOp op _ x => putR st o.dst (unop op (st.ev x)) K
  | .convert s t x => match look X.Tb s, look X.Tb t with
    | some _, some ⟨.int k, _, _, _⟩ => match st.ev x with
      | .p _ (.val (.int _ n)) => putK st o.dst (.p true (.val (.int k (k.wrap n)))) K
      | _ => False
    | some ⟨.slice e, _, _, _⟩, some ⟨.string, _, _, _⟩ => match look X.Tb e with
      | some ⟨.int .u8, _, _, _⟩ => match st.ev x with
        | .p _ (.seq n f) => ∃ s : ByteArray, (s.size = n ∧ ∀ j, j < n → f j = bCell s j) ∧ putK st o.dst (.p true (.val (.string s))) K
        | .row i => match st.obj i with
          | some (.row _ 1 n f) => ∃ s : ByteArray, (s.size = n ∧ ∀ j, j < n → f j = bCell s j) ∧ putK st o.dst (.p true (.val (.string s))) K
          | _ => False
        | _ => False
      | _ => False
    | some _, some ⟨.string, _, _, _⟩ => match st.ev x with
      | .p b (.val (.string n)) => putK st o.dst (.p b (.val (.string n))) K
      | _ => False
    | _, _ => False
  | .makeFunc (.func f) ⟨[]⟩ capt => putK st o.dst (.fn f (evs st capt.toList)) K
  | .build T parts => match look X.Tb T with
    | some ⟨.struct fs, _, _, z⟩ => match fillS (structPlace X.Tb fs) st (zeros z) parts.toList with
      | some cs => putK st o.dst (normAgg cs) K
      | none => False
    | some ⟨.array n e, _, _, z⟩ => match look X.Tb e with
      | some ⟨_, sz, _, _⟩ => match fillS (fun i => some (i * sz, sz)) st (zeros z) parts.toList with
        | some cs => putK st o.dst (normAgg cs) K
        | none => False
      | none => False
    | _ => False
  | .field T x f => match look X.Tb T with
    | some ⟨.struct fs, _, _, _⟩ => match nth fs f with
      | some (off, t) => match look X.Tb t with
        | some ⟨d, size, _, _⟩ => match st.ev x with
          | .p b (.agg l) => match readCells d.isAgg size off (mapP b l) with
            | some s => putK st o.dst s K
            | none => False
          | .agg l => match readCells d.isAgg size off l with
            | some s => putK st o.dst s K
            | none => False
          | _ => False
        | none => False
      | none => False
    | _ => False
  | .extract x i => match st.ev x with
    | .p b (.tup l) => match nth l i with
      | some d => putK st o.dst (.p b d) K
      | none => False
    | .tup l => match nth l i with
      | some s => putK st o.dst s K
      | none => False
    | _ => False
  | .index T x i => match look X.Tb T with
    | some ⟨.string, _, _, _⟩ => match st.ev x, st.ev i with
      | .p _ (.val (.string s)), .p _ (.val (.int _ j)) => ∃ c : UInt8, (0 ≤ j ∧ s[j.toNat]? = some c) ∧ putK st o.dst (.p true (.val (.int .u8 c.toNat))) K
      | _, _ => False
    | some ⟨.array n e, _, _, _⟩ => match look X.Tb e with
      | some ⟨d, sz, _, _⟩ => match st.ev i with
        | .p _ (.val (.int _ j)) => match st.ev x with
          | .p b (.agg l) => (0 ≤ j ∧ j < (n : Int)) ∧ match readCells d.isAgg sz (j.toNat * sz) (mapP b l) with
            | some s => putK st o.dst s K
            | none => False
          | .agg l => (0 ≤ j ∧ j < (n : Int)) ∧ match readCells d.isAgg sz (j.toNat * sz) l with
            | some s => putK st o.dst s K
            | none => False
          | _ => False
        | _ => False
      | none => False
    | _ => False
  | .slice T x lo hi none => match look X.Tb T with
    | some ⟨.string, _, _, _⟩ => match st.ev x with
      | .p _ (.val (.string s)) => boundK st lo 0 fun l => boundK st hi s.size fun h => (0 ≤ l ∧ l ≤ h ∧ h ≤ (s.size : Int)) ∧ putK st o.dst (.p true (.val (.string (s.extract l.toNat h.toNat)))) K
      | _ => False
    | some ⟨.slice e, _, _, _⟩ => match look X.Tb e with
      | some ⟨_, sz + 1, _, _⟩ => match st.ev x with
        | .p b (.seq n f) => boundK st lo 0 fun l => boundK st hi n fun h => (0 ≤ l ∧ l ≤ h ∧ h ≤ (n : Int)) ∧ (∀ k, k < n → (f k).length = sz + 1) ∧ putK st o.dst (.p b (.seq (h.toNat - l.toNat) (fun k => f (l.toNat + k)))) K
        | .row r => match st.obj r with
          | some (.row _ sz' m _) => match sz'.beq (sz + 1) with
            | true => boundK st lo 0 fun l => boundK st hi m fun h => (0 ≤ l ∧ l ≤ h ∧ h ≤ (m : Int) ∧ 0 < m) ∧ putK st o.dst (.sub r (sz + 1) l.toNat (h.toNat - l.toNat)) K
            | false => False
          | _ => False
        | .sub r sz' p n => match sz'.beq (sz + 1), st.obj r with
          | true, some (.row _ _ m _) => boundK st lo 0 fun l => boundK st hi n fun h => (0 ≤ l ∧ l ≤ h ∧ p + h ≤ (m : Int)) ∧ putK st o.dst (.sub r (sz + 1) (p + l.toNat) (h.toNat - l.toNat)) K
          | _, _ => False
        | _ => False
      | _ => False
    | _ => False
  | .nilCheck x => match st.ev x with
    | .p b (.pt l off) => putK st o.dst (.p b (.pt l off)) K
    | .own i off => putK st o.dst (.own i off) K
    | _ => False
  | .slice T x lo (some hi) (some mx) => match look X.Tb T with
    | some ⟨.slice e, _, _, _⟩ => match look X.Tb e with
      | some ⟨_, sz + 1, _, _⟩ => match st.ev x with
        | .p _ (.seq n f) => boundK st lo 0 fun l => boundK st (some hi) n fun h => boundK st (some mx) n fun m => (0 ≤ l ∧ l ≤ h ∧ h = m ∧ h ≤ (n : Int)) ∧ (∀ k, k < n → (f k).length = sz + 1) ∧ putK st o.dst (.full (h.toNat - l.toNat) (fun k => f (l.toNat + k))) K
        | .row r => match st.obj r with
          | some (.row _ _ n _) => boundK st lo 0 fun l => boundK st (some hi) n fun h => boundK st (some mx) n fun m => (0 ≤ l ∧ l ≤ h ∧ h ≤ m ∧ m ≤ (n : Int)) ∧ putK st o.dst .any K
          | _ => False
        | _ => False
      | _ => False
    | _ => False
  | _ => False

/-- an operation that leaves the world alone -/
def isFloat : Op → Bool
  | .call c => match c.callee with
    | .builtin .len => true
    | _ => false
  | .alloc _ => false
  | .box _ _ => false
  | .store _ _ _ => false
  | .buildSlice _ _ _ => false
  | .makeSlice _ _ _ => false
  | _ => true
/-- an operation that leaves the old blocks alone -/
def isGrow : Op → Bool
  | .store _ _ _ => false
  | .call c => match c.callee with
    | .builtin .append => false
    | .builtin .clear => false
    | _ => true
  | _ => true

def frzK (X : Cfg) (x : Operand) (d : Option Nat) (st : St) (K : St → Prop) : Prop := frzV X (st.ev x) d st K
def stepF (X : Cfg) (o : Oper) (st : St) (K : St → Prop) : Prop :=
  match o.op with
  | .call c => stepLen X c o st K
  | .load _ _ => stepRead X o st K
  | .fieldAddr _ _ _ => stepRead X o st K
  | .indexAddr _ _ _ => stepRead X o st K
  | .assign x => match frz X o.dst with
    | true => frzK X x o.dst st K
    | false => stepPure X o st K
  | _ => stepPure X o st K
def stepA (X : Cfg) (gr : Bool) (o : Oper) (st : St) (K : St → Prop) : Prop :=
  match o.op with
  | .call c => stepCall X gr c o st K
  | _ => stepMem X o st K

def isBytes (Tb : Tab) (s t : Nat) : Bool :=
  match look Tb s, look Tb t with
  | some ⟨.string, _, _, _⟩, some ⟨.slice _, _, _, _⟩ => true
  | _, _ => false
/-- the bytes of a string, in memory of their own -/
def stepBytes (X : Cfg) (o : Oper) (st : St) (K : St → Prop) : Prop :=
  match o.op with
  | .convert s t x => match look X.Tb s, look X.Tb t with
    | some ⟨.string, _, _, _⟩, some ⟨.slice e, _, _, _⟩ => match look X.Tb e with
      | some ⟨.int .u8, _, _, _⟩ => match st.ev x with
        | .p _ (.val (.string v)) => v.size ≤ maxLen ∧ putK st o.dst (.p true (.seq v.size (bCell v))) K
        | _ => False
      | _ => False
    | _, _ => False
  | _ => False

def step (X : Cfg) (gr : Bool) (o : Oper) (st : St) (K : St → Prop) : Prop :=
  match okDst X.nt o.dst, isFloat o.op with
  | true, true => match gr, o.op with
    | false, .convert s t _ => match isBytes X.Tb s t with
      | true => stepBytes X o st K
      | false => stepF X o st K
    | _, _ => stepF X o st K
  | true, false => stepA X gr o st K
  | false, _ => False

def selB (want lit : Bool) (A B : Prop) : Prop :=
  match want, lit with
  | true, true => A
  | false, false => A
  | _, _ => B

/-- what a slot holds whose operation is left out -/
def skipped : SV := .p true (.val (.tuple ⟨[]⟩))
/-- one operation of a region, its guard seen to -/
def stepG (X : Cfg) (gr : Bool) (all : List Oper) (o : Oper) (st : St) (K : St → Prop) : Prop :=
  match o.guard with
  | none => step X gr o st K
  | some (j, want) => match nth all j with
    | some oj => match oj.dst with
      | some d => match st.get d, okDst X.nt o.dst with
        | .p _ (.val (.bool t)), true => bcase t
          (putK st (some d) (.p true (.val (.bool true))) fun st => selB want true (step X gr o st K) (putK st o.dst skipped K))
          (putK st (some d) (.p true (.val (.bool false))) fun st => selB want false (step X gr o st K) (putK st o.dst skipped K))
        | .p _ (.val (.tuple ⟨[]⟩)), true => putK st o.dst skipped K
        | _, _ => False
      | none => False
    | none => False

def vcOps (X : Cfg) (all : List Oper) : List Oper → St → (St → Prop) → Prop
  | [], st, K => K st
  | o :: rest, st, K => stepG X false all o st fun st' => vcOps X all rest st' K

/-- an order, or several where an operation may come before another one or behind it -/
inductive OT : Type
  | done
  | one (i : Nat) (t : OT)
  | alt (i : Nat) (t u : OT)
  | stop
  | wr (i : Nat) (t : OT)
def OT.seq : List Nat → OT
  | [] => .done
  | i :: l => .one i (OT.seq l)
/-- the same, in given orders -/
def vcTree (X : Cfg) (all : List Oper) : OT → St → (St → Prop) → Prop
  | .done, st, K => K st
  | .one i t, st, K => match nth all i with
    | some o => stepG X true all o st fun st' => vcTree X all t st' K
    | none => False
  | .alt i t u, st, K => (match nth all i with
    | some o => stepG X true all o st fun st' => vcTree X all t st' K
    | none => False) ∧ vcTree X all u st K
  | .stop, _, _ => True
  | .wr i t, st, K => match nth all i with
    | some o => stepG X false all o st fun st' => vcTree X all t st' K
    | none => False

/- loops -/
inductive LV : Type
  | s (s : SV)
  | rw (T : TypeId) (sz n : Nat) (f : Nat → List PV)

end Go.Sx

namespace Go.Sx
open Go

/-- a fence that keeps nothing out -/
def Wide (F : Fence) : Prop := F = Fence.wide ∨ ∃ l, F = Fence.wide.inRound l
theorem Wide.fn {F : Fence} (h : Wide F) (f : FuncId) : F.fn f := by
  rcases h with rfl | ⟨l, rfl⟩ <;> trivial
theorem Wide.depth {F : Fence} (h : Wide F) : F.depth = none := by
  rcases h with rfl | ⟨l, rfl⟩ <;> rfl
theorem Wide.calls {F : Fence} (h : Wide F) {n : Nat} {P : Program} {f : FuncId} {args : Array Value} {w : World} {R : Ending → World → Prop} (hc : Calls P f args w R) : CallsIn F n P f args w R := by
  rcases h with rfl | ⟨l, rfl⟩
  · exact callsIn_wide.2 hc
  · exact CallsIn.inRound l (callsIn_wide.2 hc)

theorem wpIn_val {F : Fence} (hF : Wide F) {P : Program} {o : Oper} {a : Act} {w w' : World} {next : Act → World → Prop} {Q : Exit → Act → World → Prop} {v : Value}
    (hd : ∀ c, o.op ≠ .defer c) (hrun : (execOp a.eval o).run P w = .ok (.value v) w') (hn : next (a.put o.dst v) w') : o.wpIn F 9 P a w next Q :=
  ⟨fun f _ => hF.fn f, by rw [Oper.semAt_plain F _ _ hd, hrun]; exact hn⟩
theorem wpIn_unit {F : Fence} (hF : Wide F) {P : Program} {o : Oper} {a : Act} {w w' : World} {next : Act → World → Prop} {Q : Exit → Act → World → Prop}
    (hd : ∀ c, o.op ≠ .defer c) (hrun : (execOp a.eval o).run P w = .ok .skip w') (hn : next (a.put o.dst undef) w') : o.wpIn F 9 P a w next Q :=
  ⟨fun f _ => hF.fn f, by rw [Oper.semAt_plain F _ _ hd, hrun]; exact hn⟩

/-- the old blocks are as they were -/
def Grow (w w' : World) : Prop := w.heap.size ≤ w'.heap.size ∧ ∀ b, b < w.heap.size → w'.heap[b]? = w.heap[b]?
theorem Grow.refl (w : World) : Grow w w := ⟨Nat.le_refl _, fun _ _ => rfl⟩
theorem Grow.trans {a b c : World} (h : Grow a b) (k : Grow b c) : Grow a c := ⟨Nat.le_trans h.1 k.1, fun x hx => (k.2 x (Nat.lt_of_lt_of_le hx h.1)).trans (h.2 x hx)⟩
theorem Grow.cell {w w' : World} (h : Grow w w') {b : Nat} (hb : b < w.heap.size) (k : Nat) : w'.cell? ⟨b, k, none⟩ = w.cell? ⟨b, k, none⟩ := by
  simp [World.cell?, h.2 b hb]

/-- it yields in all worlds of a kind -/
def FloatTo (R : World → Prop) (P : Program) (o : Oper) (a : Act) (w : World) (next : Act → World → Prop) : Prop :=
  ∃ v, (∀ w1, R w1 → (execOp a.eval o).run P w1 = .ok (.value v) w1) ∧ next (a.put o.dst v) w

theorem FloatTo.mk' {R : World → Prop} {P : Program} {o : Oper} {a : Act} {w : World} {next : Act → World → Prop} {v : Value} (h : ∀ w1, R w1 → (execOp a.eval o).run P w1 = .ok (.value v) w1) (hn : next (a.put o.dst v) w) : FloatTo R P o a w next := ⟨v, h, hn⟩

/-- operations that look into memory -/
def readsHeap : Op → Bool
  | .load _ _ => true
  | .convert _ _ _ => true
  | _ => false

/- inversions -/
theorem PRep.val_inv {μ : Nat → Option (Array Value)} {v u : Value} (h : PRep μ v (.val u)) : v = u := by cases h; rfl
theorem SRep.val_inv {E : Env} {b : Bool} {v u : Value} (h : SRep E v (.p b (.val u))) : v = u := by cases h with | p _ _ _ h => exact h.val_inv
theorem SRep.val {E : Env} (b : Bool) (v : Value) : SRep E v (.p b (.val v)) := .p b v _ (.val v)

theorem ofConst_rep (E : Env) (v : Value) : SRep E v (ofConst v) := by
  unfold ofConst
  split
  · rename_i cs
    split
    · rename_i h
      refine .p _ _ _ (.agg _ _ (by simp) (fun k u hu => ?_) (fun k u s hu hs => ?_))
      · have := List.all_eq_true.1 h u (by rw [Array.mem_toList_iff]; exact Array.mem_of_getElem? hu)
        exact this
      · simp only [List.getElem?_map, Array.getElem?_toList, hu, Option.map_some, Option.some.injEq] at hs
        subst hs; exact .val u
    · exact .any _
  · exact .fn _ _ _ (by simp) (by intro k u s hu hs; simp at hs)
  · exact .val true v

theorem ev_rep {C : Ctx} {E : Env} {st : St} {a : Act} {w : World} (h : Models C E st a w) (x : Operand) : SRep E (a.eval x) (st.ev x) := by
  cases x with
  | tmp t => exact h.slot t
  | const v => exact ofConst_rep E v
  | global g => exact .any _
  | func f => exact .fn f #[] [] (by simp) (by intro k u s hu hs; simp at hs)

theorem putK_sound {C : Ctx} {E : Env} {st : St} {a : Act} {w : World} (h : Models C E st a w) {X : Cfg} (hnt : C.nt = X.nt) {d : Option Nat} (hd : okDst X.nt d = true) {s : SV} {v : Value} {K : St → Prop}
    (hk : putK st d s K) (hs : SRep E v s) {next : Act → World → Prop} (hn : ∀ st' E' a' w', K st' → Models C E' st' a' w' → next a' w') : next (a.put d v) w := by
  rw [putK_eq] at hk
  exact hn _ E _ _ hk (h.puto (by rw [hnt]; exact hd) hs)

/- types -/
theorem run_isAgg {P : Program} {t : Nat} {i : TI} (h : i.Ok P t) (w : World) : (isAgg t).run P w = .ok i.desc.isAgg w := by
  have hd := h.desc
  unfold isAgg
  obtain ⟨desc, size, by_, z⟩ := i
  cases desc with
  | struct l => obtain ⟨fs, hu, _⟩ := hd; simp [run_underlying hu, TD.isAgg]
  | other =>
    obtain ⟨d, hu, h1, h2⟩ := hd
    simp only [Sem.run_bind, run_underlying hu, Result.andThen_ok, TD.isAgg]
    cases d <;> first | rfl | (exact absurd rfl (h1 _)) | (exact absurd rfl (h2 _ _))
  | _ => simp only [TD.Ok] at hd; simp [run_underlying hd, TD.isAgg]

theorem run_size {P : Program} {t : Nat} {i : TI} (h : i.Ok P t) (w : World) : (sizeOf t).run P w = .ok i.size w := by
  obtain ⟨I, hI, hs, _⟩ := h.info
  simp [sizeOf, typeInfo, hI, hs]

/- numbers -/
theorem sameKind_eq {k k' : IntKind} (h : sameKind k k' = true) : k = k' := by cases k <;> cases k' <;> first | rfl | (simp [sameKind] at h)

def BR.holds (r : BR) (x : Sem Value) (P : Program) (w : World) : Prop :=
  match r with
  | .ok v => x.run P w = .ok v w
  | .need p v => p → x.run P w = .ok v w
  | .no => True

theorem intBin_run (op : BinOp) (k : IntKind) (a b : Int) (t : Nat) (P : Program) (w : World) : (intBin op k a b).holds (binOp op t (.int k a) (.int k b)) P w := by
  cases op <;> simp only [intBin, BR.holds, binOp, Op.shift, Op.intArith, Op.intDiv, Op.intBits, Op.intCmp, ne_eq, not_true_eq_false, if_false]
  all_goals first
    | rfl
    | (intro h; rw [if_neg h]; rfl)
    | (intro h; rw [if_neg (by omega)]; rfl)

theorem shiftBin_run (op : BinOp) (hop : op = .shl ∨ op = .shr) (k k' : IntKind) (a b : Int) (t : Nat) (P : Program) (w : World) : (intBin op k a b).holds (binOp op t (.int k a) (.int k' b)) P w := by
  rcases hop with rfl | rfl <;> simp only [intBin, BR.holds, binOp, Op.shift] <;> (intro h; rw [if_neg (by omega)]; rfl)

theorem strBin_run (op : BinOp) (x y : ByteArray) (t : Nat) (P : Program) (w : World) : (strBin op x y).holds (binOp op t (.string x) (.string y)) P w := by
  cases op <;> simp only [strBin, BR.holds, binOp, Op.stringOp, ← ByteArray.toList_eq]
  all_goals first
    | rfl
    | (intro h; rw [if_neg (by simp [IntKind.max, IntKind.signed, IntKind.bits]; omega)]; rfl)

theorem eqGuard_pure {P : Program} {w : World} (op : BinOp) (t : Nat) (x y : Operand) (a b : Value) (h : (∀ u v, ¬ (a = .agg u ∧ b = .agg v)) ∧ ¬ (a = .nilIface ∧ b = .nilIface)) : (eqGuard op t x y a b).run P w = .ok () w := by
  cases op <;> try rfl
  all_goals
    cases a <;> cases b <;> first | rfl | (exact absurd ⟨rfl, rfl⟩ h.2) | (exact absurd ⟨rfl, rfl⟩ (h.1 _ _))

theorem run_part_flat {P : Program} {t : Nat} {i : TI} (h : i.Ok P t) (ha : i.desc.isAgg = false) (cs : Array Value) (off : Nat) (v : Value) (hv : cs[off]? = some v) (w : World) : (part t cs off).run P w = .ok v w := by
  unfold part
  simp [run_isAgg h, ha, hv]

theorem eqCells_run {P : Program} {Tb : Tab} (hTb : Tb.Ok P) (d : Nat) (vs ws : Array Value) (w : World) : ∀ (Fs : List Field) (n : Nat) (xs ys : List PV) (r : Bool),
    eqCells Tb (Fs.map fun f => (f.offset, f.type)) n xs ys = some r → (∀ f ∈ Fs, f.name ≠ "_") →
    (∀ (k : Nat) (x : Value), xs[k]? = some (.val x) → vs[n + k]? = some x) → (∀ (k : Nat) (x : Value), ys[k]? = some (.val x) → ws[n + k]? = some x) →
    (Op.eqFields (d + 1) vs ws Fs).run P w = .ok r w
  | [], n, xs, ys, r, h, _, _, _ => by
    cases xs <;> cases ys <;> simp [eqCells] at h
    subst h; simp [Op.eqFields]
  | f :: Fs, n, xs, ys, r, h, hn, h1, h2 => by
    cases xs with
    | nil => simp [eqCells] at h
    | cons x xs =>
      cases ys with
      | nil => cases x <;> simp [eqCells] at h
      | cons y ys =>
        cases x <;> try (simp [eqCells] at h; done)
        cases y <;> try (simp [eqCells] at h; done)
        rename_i x y
        simp only [List.map_cons, eqCells] at h
        cases hof : f.offset.beq n with
        | false => simp [hof] at h
        | true =>
          have hoff := Nat.eq_of_beq_eq_true hof
          simp only [hof, cond_true] at h
          have hx : vs[f.offset]? = some x := by rw [hoff]; exact h1 0 x rfl
          have hy : ws[f.offset]? = some y := by rw [hoff]; exact h2 0 y rfl
          have hnm : f.name ≠ "_" := hn f (by simp)
          have again : ∀ r', eqCells Tb (Fs.map fun f => (f.offset, f.type)) (n + 1) xs ys = some r' → (Op.eqFields (d + 1) vs ws Fs).run P w = .ok r' w := fun r' hr' =>
            eqCells_run hTb d vs ws w Fs (n + 1) xs ys r' hr' (fun g hg => hn g (by simp [hg]))
              (fun k z hz => by have := h1 (k + 1) z (by simpa using hz); rwa [show n + 1 + k = n + (k + 1) by omega])
              (fun k z hz => by have := h2 (k + 1) z (by simpa using hz); rwa [show n + 1 + k = n + (k + 1) by omega])
          have fin : ∀ (i : TI) (e : Bool), look Tb f.type = some i → i.desc.isAgg = false → (Op.equalIn (d + 1) f.type x y).run P w = .ok e w →
              (eqCells Tb (Fs.map fun f => (f.offset, f.type)) (n + 1) xs ys).map (fun r => e && r) = some r → (Op.eqFields (d + 1) vs ws (f :: Fs)).run P w = .ok r w := by
            intro i e hi ha he hr
            have hok := hTb _ _ hi
            cases hr' : eqCells Tb (Fs.map fun f => (f.offset, f.type)) (n + 1) xs ys with
            | none => simp [hr'] at hr
            | some r' =>
              simp only [hr', Option.map_some, Option.some.injEq] at hr
              subst hr
              simp only [Op.eqFields, ne_eq, hnm, not_false_eq_true, if_true, Sem.run_bind, run_part_flat hok ha _ _ _ hx, run_part_flat hok ha _ _ _ hy, Result.andThen_ok, he]
              cases e
              · simp
              · simp [again r' hr']
          split at h
          · rename_i k _ _ _ k1 a k2 b hi
            cases hk : sameKind k1 k2 with
            | false => simp [hk] at h
            | true =>
              obtain rfl := sameKind_eq hk
              simp only [hk, cond_true] at h
              have hd := (hTb _ _ hi).desc
              exact fin _ _ hi rfl (run_equalIn_int w d f.type k1 k a b hd) h
          · rename_i _ _ _ a b hi
            exact fin _ _ hi rfl (run_equalIn_bool' w d f.type a b (hTb _ _ hi).desc) h
          · rename_i _ _ _ a b hi
            exact fin _ _ hi rfl (run_equalIn_string w d f.type a b (hTb _ _ hi).desc) (by rw [ByteArray.toList_eq, ByteArray.toList_eq]; exact h)
          · cases h

theorem eqInts_run {P : Program} {e : Nat} {i : TI} (h : i.Ok P e) (ha : i.desc.isAgg = false) {k0 : IntKind} (hu : P.underlying e = some (.int k0)) (d : Nat) (vs ws : Array Value) (w : World) : ∀ (m j : Nat) (xs ys : List PV) (r : Bool), eqInts m xs ys = some r →
    (∀ (k : Nat) (x : Value), xs[k]? = some (.val x) → vs[j + k]? = some x) → (∀ (k : Nat) (x : Value), ys[k]? = some (.val x) → ws[j + k]? = some x) →
    (Op.eqItems (d + 1) e 1 vs ws (List.range' j m)).run P w = .ok r w
  | 0, j, xs, ys, r, hr, _, _ => by
    cases xs <;> cases ys <;> simp [eqInts] at hr
    subst hr; simp [Op.eqItems]
  | m + 1, j, xs, ys, r, hr, h1, h2 => by
    unfold eqInts at hr
    split at hr
    · cases ‹m + 1 = 0›
    · rename_i m' k a xs k' b ys hm
      obtain rfl : m = m' := by omega
      cases hk : sameKind k k' with
      | false => simp [hk] at hr
      | true =>
        obtain rfl := sameKind_eq hk
        simp only [hk, cond_true] at hr
        cases hr' : eqInts m xs ys with
        | none => simp [hr'] at hr
        | some r' =>
          simp only [hr', Option.map_some, Option.some.injEq] at hr
          subst hr
          have ih := eqInts_run h ha hu d vs ws w m (j + 1) xs ys r' hr'
            (fun q z hz => by have := h1 (q + 1) z (by simpa using hz); rwa [show j + 1 + q = j + (q + 1) by omega])
            (fun q z hz => by have := h2 (q + 1) z (by simpa using hz); rwa [show j + 1 + q = j + (q + 1) by omega])
          have p1 := run_part_flat h ha vs (j * 1) _ (by rw [Nat.mul_one]; exact h1 0 _ rfl) w
          have p2 := run_part_flat h ha ws (j * 1) _ (by rw [Nat.mul_one]; exact h2 0 _ rfl) w
          simp only [List.range'_succ, Op.eqItems, Sem.run_bind, p1, p2, Result.andThen_ok, run_equalIn_int w d e k k0 a b hu]
          cases hab : (a == b)
          · simp
          · simpa using ih
    · cases hr

theorem guard_array {P : Program} {t e n : Nat} {k : IntKind} (hu : P.underlying t = some (.array n e)) (he : P.underlying e = some (.int k)) : P.eqGuardType P.depth t = false := by
  show P.eqGuardType (2 * (P.types.size + Made.depth) + 1 + 1) t = false
  simp [Program.eqGuardType, hu, he]

end Go.Sx

namespace Go.Sx
open Go

theorem eqFields_fs {P : Program} {t : Nat} {fs : Array Field} (h : P.underlying t = some (.struct fs)) : P.fieldsOf t = fs := by simp [Program.fieldsOf, h]

theorem PRep.agg_inv {μ : Nat → Option (Array Value)} {v : Value} {l : List PV} (h : PRep μ v (.agg l)) :
    ∃ vs : Array Value, v = .agg vs ∧ vs.size = l.length ∧ (∀ (k : Nat) (u : Value), vs[k]? = some u → u.oneCell' = true) ∧ ∀ (k : Nat) (u : Value) (s : PV), vs[k]? = some u → l[k]? = some s → PRep μ u s := by
  cases h with | agg vs _ hl h1 he => exact ⟨vs, rfl, hl, h1, he⟩

theorem agg_vals {μ : Nat → Option (Array Value)} {vs : Array Value} {l : List PV} (hl : vs.size = l.length) (he : ∀ (k : Nat) (u : Value) (s : PV), vs[k]? = some u → l[k]? = some s → PRep μ u s) :
    ∀ (k : Nat) (x : Value), l[k]? = some (.val x) → vs[0 + k]? = some x := by
  intro k x hx
  have hk : k < vs.size := by rw [hl]; exact (List.getElem?_eq_some_iff.1 hx).1
  have := he k vs[k] _ (by simp [hk]) hx
  rw [Nat.zero_add, Array.getElem?_eq_getElem hk, this.val_inv]

theorem binop_run {P : Program} {Tb : Tab} (hTb : Tb.Ok P) {E : Env} (op : BinOp) (t : Nat) (ox oy : Operand) {vx vy : Value} {sx sy : SV} (hx : SRep E vx sx) (hy : SRep E vy sy) (w : World) :
    (binop Tb op t sx sy).holds (do eqGuard op t ox oy vx vy; binOp op t vx vy) P w := by
  have plain : ∀ (r : BR), ((∀ u v, ¬ (vx = .agg u ∧ vy = .agg v)) ∧ ¬ (vx = .nilIface ∧ vy = .nilIface)) → r.holds (binOp op t vx vy) P w → r.holds (do eqGuard op t ox oy vx vy; binOp op t vx vy) P w := by
    intro r hg hr
    have hgd := eqGuard_pure (P := P) (w := w) op t ox oy vx vy hg
    cases r <;> simp only [BR.holds, Sem.run_bind, hgd, Result.andThen_ok] at hr ⊢ <;> exact hr
  unfold binop
  split
  · obtain rfl := hx.val_inv
    obtain rfl := hy.val_inv
    split
    · exact plain _ (by simp) (shiftBin_run _ (.inl rfl) _ _ _ _ _ _ _)
    · exact plain _ (by simp) (shiftBin_run _ (.inr rfl) _ _ _ _ _ _ _)
    · rename_i _ k1 _ _ k2 _ _ _ _
      cases hk : sameKind k1 k2 with
      | false => trivial
      | true =>
        obtain rfl := sameKind_eq hk
        exact plain _ (by simp) (intBin_run _ _ _ _ _ _ _)
  · obtain rfl := hx.val_inv
    obtain rfl := hy.val_inv
    exact plain _ (by simp) (strBin_run _ _ _ _ _ _)
  · obtain rfl := hx.val_inv
    obtain rfl := hy.val_inv
    split
    · rename_i hi
      have hd : P.underlying t = some .bool := (hTb _ _ hi).desc
      refine plain _ (by simp) ?_
      have he := fun a b => run_equal_bool (P := P) w t a b hd
      cases op <;> simp only [boolBin, BR.holds, binOp, Sem.run_bind, he, Result.andThen_ok] <;> rfl
    · trivial
  · rename_i xs _ ys
    split
    · rename_i fs _ _ _ hi
      have hd := (hTb _ _ hi).desc
      obtain ⟨Fs, hu, hf, hp, hn, hg, _⟩ := hd
      obtain ⟨vs, rfl, hvl, _, hve⟩ := (show PRep _ _ _ by cases hx with | p _ _ _ h => exact h : PRep _ vx (.agg xs)).agg_inv
      obtain ⟨ws, rfl, hwl, _, hwe⟩ := (show PRep _ _ _ by cases hy with | p _ _ _ h => exact h : PRep _ vy (.agg ys)).agg_inv
      have hgd : ∀ op, (eqGuard op t ox oy (.agg vs) (.agg ws)).run P w = .ok () w := by
        intro op
        cases op <;> first | rfl | (simp [eqGuard, hg])
      have hnm : ∀ f ∈ Fs.toList, f.name ≠ "_" := by
        intro f hf'
        have := (Array.all_eq_true_iff_forall_mem.1 hn) f (by simpa using hf')
        simpa using this
      have heq : ∀ r, eqCells Tb fs 0 xs ys = some r → (Op.equal t (.agg vs) (.agg ws)).run P w = .ok r w := by
        intro r hr
        have := eqCells_run hTb 9998 vs ws w Fs.toList 0 xs ys r (by rw [← hf] at hr; exact hr) hnm (agg_vals hvl hve) (agg_vals hwl hwe)
        unfold Op.equal
        rw [show Op.maxDepth = 9999 + 1 from rfl, run_equalIn_struct w 9999 t vs ws (by rw [eqFields_fs hu]; exact hu) hp, eqFields_fs hu]
        exact this
      split
      · split
        · rename_i r hr
          simp [BR.holds, hgd, binOp, heq r hr]
        · trivial
      · split
        · rename_i r hr
          simp [BR.holds, hgd, binOp, heq r hr]
        · trivial
      · trivial
    · rename_i n e _ _ _ hi
      have hu : P.underlying t = some (.array n e) := (hTb _ _ hi).desc
      split
      · rename_i k0 _ _ hie
        have hue : P.underlying e = some (.int k0) := (hTb _ _ hie).desc
        obtain ⟨I, hI, hIs, _⟩ := (hTb _ _ hie).info
        have hc : P.cellsOf e = 1 := by simp [Program.cellsOf, hI]; exact hIs
        obtain ⟨vs, rfl, hvl, _, hve⟩ := (show PRep _ _ _ by cases hx with | p _ _ _ h => exact h : PRep _ vx (.agg xs)).agg_inv
        obtain ⟨ws, rfl, hwl, _, hwe⟩ := (show PRep _ _ _ by cases hy with | p _ _ _ h => exact h : PRep _ vy (.agg ys)).agg_inv
        have hg := guard_array hu hue
        have hgd : ∀ op, (eqGuard op t ox oy (.agg vs) (.agg ws)).run P w = .ok () w := by
          intro op
          cases op <;> first | rfl | (simp [eqGuard, hg])
        have heq : ∀ r, eqInts n xs ys = some r → (Op.equal t (.agg vs) (.agg ws)).run P w = .ok r w := by
          intro r hr
          have := eqInts_run (hTb _ _ hie) rfl hue 9998 vs ws w n 0 xs ys r hr (agg_vals hvl hve) (agg_vals hwl hwe)
          unfold Op.equal
          rw [show Op.maxDepth = 9999 + 1 from rfl, run_equalIn_array w 9999 vs ws hu hI, hc, List.range_eq_range']
          exact this
        split
        · split
          · rename_i r hr
            simp [BR.holds, hgd, binOp, heq r hr]
          · trivial
        · split
          · rename_i r hr
            simp [BR.holds, hgd, binOp, heq r hr]
          · trivial
        · trivial
      · trivial
    · trivial
  · trivial

theorem unop_run {P : Program} {E : Env} (op : UnOp) {vx : Value} {sx : SV} (hx : SRep E vx sx) (w : World) : (unop op sx).holds (Op.unary op vx) P w := by
  unfold unop
  split
  · obtain rfl := hx.val_inv; rfl
  · obtain rfl := hx.val_inv; rfl
  · obtain rfl := hx.val_inv
    rename_i k n
    simp only [BR.holds, Op.unary]
    cases hs : k.signed <;> rfl
  · trivial

theorem putR_sound {C : Ctx} {E : Env} {st : St} {a : Act} {w : World} (h : Models C E st a w) {X : Cfg} (hnt : C.nt = X.nt) {d : Option Nat} (hd : okDst X.nt d = true) {r : BR} {K : St → Prop}
    (hk : putR st d r K) {x : Sem Value} {P : Program} (hr : ∀ w1, r.holds x P w1) {next : Act → World → Prop} (hn : ∀ st' E' a' w', K st' → Models C E' st' a' w' → next a' w') :
    ∃ v, (∀ w1, x.run P w1 = .ok v w1) ∧ next (a.put d v) w := by
  cases r with
  | ok v => exact ⟨v, hr, putK_sound h hnt hd hk (.val _ _) hn⟩
  | need p v => exact ⟨v, fun w1 => hr w1 hk.1, putK_sound h hnt hd hk.2 (.val _ _) hn⟩
  | no => exact hk.elim

/- cells -/
theorem allP_rep {E : Env} : ∀ (l : List SV) (b : Bool) (ds : List PV), allP l = some (b, ds) → l.length = ds.length ∧ ∀ (k : Nat) (u : Value) (s : SV) (d : PV), l[k]? = some s → ds[k]? = some d → SRep E u s → PRep (E.m b) u d
  | [], b, ds, h => by simp [allP] at h; obtain ⟨rfl, rfl⟩ := h; simp
  | s :: l, b, ds, h => by
    cases s <;> simp only [allP] at h <;> try (cases h; done)
    rename_i b' d
    cases hr : allP l with
    | none => simp [hr] at h
    | some r =>
      obtain ⟨c, ds'⟩ := r
      simp only [hr, Option.some.injEq, Prod.mk.injEq] at h
      obtain ⟨rfl, rfl⟩ := h
      obtain ⟨h1, h2⟩ := allP_rep l c ds' hr
      refine ⟨by simp [h1], fun k u s d' hs hd hrep => ?_⟩
      have weak : ∀ (x y : Bool), ∀ B cs, E.m x B = some cs → ((x = true ∧ y = true) ∨ (x && y) = false) → E.m (x && y) B = some cs := by
        intro x y B cs hB hxy
        rcases hxy with ⟨rfl, rfl⟩ | hxy
        · exact hB
        · rw [hxy]; exact E.m_false x _ _ hB
      cases k with
      | zero =>
        simp only [List.getElem?_cons_zero, Option.some.injEq] at hs hd
        subst hs; subst hd
        cases hrep with
        | p _ _ _ hp =>
          refine hp.mono fun B cs hB => weak b' c B cs hB ?_
          cases b' <;> cases c <;> simp
      | succ k =>
        simp only [List.getElem?_cons_succ] at hs hd
        refine (h2 k u s d' hs hd hrep).mono fun B cs hB => ?_
        have := weak c b' B cs hB (by cases b' <;> cases c <;> simp)
        rwa [Bool.and_comm]

theorem normAgg_rep {E : Env} {vs : Array Value} {l : List SV} (hl : vs.size = l.length) (h1 : ∀ (k : Nat) (u : Value), vs[k]? = some u → u.oneCell' = true)
    (he : ∀ (k : Nat) (u : Value) (s : SV), vs[k]? = some u → l[k]? = some s → SRep E u s) : SRep E (.agg vs) (normAgg l) := by
  unfold normAgg
  split
  · rename_i b ds h
    obtain ⟨h2, h3⟩ := allP_rep (E := E) l b ds h
    refine .p _ _ _ (.agg vs ds (by omega) h1 fun k u d hu hd => ?_)
    have hk : k < l.length := by have := (Array.getElem?_eq_some_iff.1 hu).1; omega
    exact h3 k u l[k] d (by simp [hk]) hd (he k u l[k] hu (by simp [hk]))
  · exact .agg vs l hl h1 he

theorem mapP_get (b : Bool) : ∀ (l : List PV) (k : Nat), (mapP b l)[k]? = (l[k]?).map (SV.p b)
  | [], k => by simp [mapP]
  | d :: l, 0 => by simp [mapP]
  | d :: l, k + 1 => by simp [mapP, mapP_get b l k]
theorem mapP_length (b : Bool) : ∀ (l : List PV), (mapP b l).length = l.length
  | [] => rfl
  | d :: l => by simp [mapP, mapP_length b l]

theorem nth_eq {α : Type} : ∀ (l : List α) (n : Nat), nth l n = l[n]?
  | [], n => by simp [nth]
  | x :: l, 0 => rfl
  | x :: l, n + 1 => by simp [nth, nth_eq l n]
theorem dropN_eq {α : Type} : ∀ (n : Nat) (l : List α), dropN n l = l.drop n
  | 0, l => rfl
  | n + 1, [] => rfl
  | n + 1, x :: l => by simp [dropN, dropN_eq n l]
theorem takeN_eq {α : Type} : ∀ (n : Nat) (l r : List α), takeN n l = some r → r = l.take n ∧ n ≤ l.length
  | 0, l, r, h => by simp [takeN] at h; subst h; simp
  | n + 1, [], r, h => by simp [takeN] at h
  | n + 1, x :: l, r, h => by
    simp only [takeN] at h
    cases hr : takeN n l with
    | none => simp [hr] at h
    | some r' =>
      simp only [hr, Option.some.injEq] at h
      subst h
      obtain ⟨rfl, h2⟩ := takeN_eq n l r' hr
      exact ⟨rfl, by simp; omega⟩

/-- what a value's cells are -/
theorem cellsOf_rep {E : Env} {v : Value} {s : SV} (h : SRep E v s) {cs : List SV} (hc : cellsOf s = some cs) :
    v.cells.size = cs.length ∧ (∀ (k : Nat) (u : Value), v.cells[k]? = some u → u.oneCell' = true) ∧ ∀ (k : Nat) (u : Value) (s : SV), v.cells[k]? = some u → cs[k]? = some s → SRep E u s := by
  have single : ∀ (v : Value) (s : SV), (∀ l, v ≠ .agg l) → (∀ l, v ≠ .tuple l) → SRep E v s → cs = [s] → v.cells.size = cs.length ∧ (∀ (k : Nat) (u : Value), v.cells[k]? = some u → u.oneCell' = true) ∧ ∀ (k : Nat) (u : Value) (s : SV), v.cells[k]? = some u → cs[k]? = some s → SRep E u s := by
    intro v s ha ht hs hcs
    subst hcs
    have hv : v.cells = #[v] := by cases v <;> first | rfl | (exact absurd rfl (ha _))
    rw [hv]
    refine ⟨rfl, fun k u hu => ?_, fun k u s' hu hs' => ?_⟩
    · cases k with
      | zero => simp at hu; subst hu; cases v <;> first | rfl | (exact absurd rfl (ha _)) | (exact absurd rfl (ht _))
      | succ k => simp at hu
    · cases k with
      | zero => simp at hu hs'; subst hu; subst hs'; exact hs
      | succ k => simp at hu
  cases s with
  | p b d =>
    cases d with
    | agg l =>
      simp only [cellsOf, Option.some.injEq] at hc
      subst hc
      cases h with | p _ _ _ h =>
      obtain ⟨vs, rfl, hl, h1, he⟩ := h.agg_inv
      refine ⟨by simp [Value.cells, hl, mapP_length], h1, fun k u s hu hs => ?_⟩
      rw [mapP_get] at hs
      cases hd : l[k]? with
      | none => simp [hd] at hs
      | some d => simp [hd] at hs; subst hs; exact .p _ _ _ (he k u d hu hd)
    | tup l => simp [cellsOf] at hc
    | val x =>
      obtain rfl := h.val_inv
      cases v <;> simp only [cellsOf, Option.some.injEq] at hc <;> try (cases hc; done)
      all_goals exact single _ _ (by simp) (by simp) h hc.symm
    | seq n f =>
      simp only [cellsOf, Option.some.injEq] at hc
      refine single v _ ?_ ?_ h hc.symm <;> (intro l e; subst e; cases h with | p _ _ _ h => cases h)
    | pt l o =>
      simp only [cellsOf, Option.some.injEq] at hc
      refine single v _ ?_ ?_ h hc.symm <;> (intro l e; subst e; cases h with | p _ _ _ h => cases h)
    | fn f l =>
      simp only [cellsOf, Option.some.injEq] at hc
      refine single v _ ?_ ?_ h hc.symm <;> (intro l e; subst e; cases h with | p _ _ _ h => cases h)
  | agg l =>
    simp only [cellsOf, Option.some.injEq] at hc
    subst hc
    cases h with | agg vs _ hl h1 he => exact ⟨hl, h1, he⟩
  | tup l => simp [cellsOf] at hc
  | any => simp [cellsOf] at hc
  | own i o =>
    simp only [cellsOf, Option.some.injEq] at hc
    refine single v _ ?_ ?_ h hc.symm <;> (intro l e; subst e; cases h)
  | el i sz j o =>
    simp only [cellsOf, Option.some.injEq] at hc
    refine single v _ ?_ ?_ h hc.symm <;> (intro l e; subst e; cases h)
  | sub i sz lo n => simp [cellsOf] at hc
  | full n f => simp [cellsOf] at hc
  | row i =>
    simp only [cellsOf, Option.some.injEq] at hc
    refine single v _ ?_ ?_ h hc.symm <;> (intro l e; subst e; cases h with | row _ _ _ hs => simp [isSl] at hs)
  | fn f l =>
    simp only [cellsOf, Option.some.injEq] at hc
    refine single v _ ?_ ?_ h hc.symm <;> (intro l e; subst e; cases h)

end Go.Sx

namespace Go.Sx
open Go

/-- u k holds what cs says, one cell each -/
def CellsAt (E : Env) (U : Nat → Option Value) (cs : List SV) : Prop :=
  ∀ (k : Nat) (s : SV), cs[k]? = some s → ∃ u, U k = some u ∧ u.oneCell' = true ∧ SRep E u s

theorem cellsAt_of {E : Env} {vs : Array Value} {cs : List SV} (hl : vs.size = cs.length) (h1 : ∀ (k : Nat) (u : Value), vs[k]? = some u → u.oneCell' = true)
    (he : ∀ (k : Nat) (u : Value) (s : SV), vs[k]? = some u → cs[k]? = some s → SRep E u s) : CellsAt E (vs[·]?) cs := by
  intro k s hs
  have hk : k < vs.size := by rw [hl]; exact (List.getElem?_eq_some_iff.1 hs).1
  exact ⟨vs[k], by simp [hk], h1 k _ (by simp [hk]), he k _ s (by simp [hk]) hs⟩

theorem readAgg {E : Env} {U : Nat → Option Value} {cs : List SV} (h : CellsAt E U cs) {size off : Nat} {s : SV} (hr : readCells true size off cs = some s) :
    (off + size ≤ cs.length ∨ size = 0) ∧ ∀ vs : Array Value, vs.size = size → (∀ k, k < size → vs[k]? = U (off + k)) → SRep E (.agg vs) s := by
  simp only [readCells] at hr
  cases ht : takeN size (dropN off cs) with
  | none => simp [ht] at hr
  | some l =>
    simp only [ht, Option.some.injEq] at hr
    subst hr
    obtain ⟨rfl, hle⟩ := takeN_eq _ _ _ ht
    rw [dropN_eq] at *
    have hlen : off + size ≤ cs.length ∨ size = 0 := by simp at hle; omega
    have hll : ((cs.drop off).take size).length = size := by simp at hle ⊢; omega
    have hget : ∀ k, k < size → ((cs.drop off).take size)[k]? = cs[off + k]? := by
      intro k hk; rw [List.getElem?_take, if_pos hk, List.getElem?_drop]
    have main : ∀ vs : Array Value, vs.size = size → (∀ k, k < size → vs[k]? = U (off + k)) → SRep E (.agg vs) (normAgg ((cs.drop off).take size)) := by
      intro vs hvs hv
      have get : ∀ k u, vs[k]? = some u → k < size ∧ ∃ s, cs[off + k]? = some s ∧ U (off + k) = some u := by
        intro k u hu
        have hk : k < size := by rw [← hvs]; exact (Array.getElem?_eq_some_iff.1 hu).1
        have h3 : k < ((cs.drop off).take size).length := by omega
        refine ⟨hk, _, (hget k hk).symm.trans (List.getElem?_eq_getElem h3), ?_⟩
        rw [← hv k hk]; exact hu
      refine normAgg_rep (by rw [hvs, hll]) (fun k u hu => ?_) (fun k u s hu hs => ?_)
      · obtain ⟨hk, s, hs, hU⟩ := get k u hu
        obtain ⟨u', hu', h1, _⟩ := h _ _ hs
        rw [hU] at hu'; cases hu'; exact h1
      · obtain ⟨hk, s', hs', hU⟩ := get k u hu
        rw [hget k hk, hs'] at hs; cases hs
        obtain ⟨u', hu', _, h2⟩ := h _ _ hs'
        rw [hU] at hu'; cases hu'; exact h2
    exact ⟨hlen, main⟩

theorem splice_spec : ∀ (cs : List SV) (off : Nat) (new r : List SV), splice cs off new = some r →
    r.length = cs.length ∧ off + new.length ≤ cs.length ∧ ∀ k, r[k]? = if off ≤ k ∧ k < off + new.length then new[k - off]? else cs[k]?
  | cs, 0, [], r, h => by
    cases cs <;> simp [splice] at h <;> subst h <;> simp
    all_goals (intro k hk; omega)
  | [], 0, x :: new, r, h => by simp [splice] at h
  | [], n + 1, new, r, h => by simp [splice] at h
  | c :: cs, 0, x :: new, r, h => by
    simp only [splice] at h
    cases hr : splice cs 0 new with
    | none => simp [hr] at h
    | some r' =>
      simp only [hr, Option.some.injEq] at h
      subst h
      obtain ⟨h1, h2, h3⟩ := splice_spec cs 0 new r' hr
      refine ⟨by simp [h1], by simp at h2 ⊢; omega, fun k => ?_⟩
      cases k with
      | zero => simp
      | succ k =>
        have := h3 k
        simp at this ⊢
        exact this
  | c :: cs, n + 1, new, r, h => by
    simp only [splice] at h
    cases hr : splice cs n new with
    | none => simp [hr] at h
    | some r' =>
      simp only [hr, Option.some.injEq] at h
      subst h
      obtain ⟨h1, h2, h3⟩ := splice_spec cs n new r' hr
      refine ⟨by simp [h1], by simp; omega, fun k => ?_⟩
      cases k with
      | zero => rw [if_neg (by omega)]; simp
      | succ k =>
        have := h3 k
        simp only [List.getElem?_cons_succ, this]
        by_cases hc : n ≤ k ∧ k < n + new.length
        · rw [if_pos hc, if_pos (by omega), show k + 1 - (n + 1) = k - n by omega]
        · rw [if_neg hc, if_neg (by omega)]

structure ARep (E : Env) (vs : Array Value) (cs : List SV) : Prop where
  size : vs.size = cs.length
  one : ∀ (k : Nat) (u : Value), vs[k]? = some u → u.oneCell' = true
  rep : ∀ (k : Nat) (u : Value) (s : SV), vs[k]? = some u → cs[k]? = some s → SRep E u s

theorem ARep.at {E : Env} {vs : Array Value} {cs : List SV} (h : ARep E vs cs) : CellsAt E (vs[·]?) cs := cellsAt_of h.size h.one h.rep

/-- from cell to cell -/
theorem ARep.of {E : Env} {vs : Array Value} {cs : List SV} (hs : vs.size = cs.length) (h : ∀ k, k < vs.size → ∃ u s, vs[k]? = some u ∧ cs[k]? = some s ∧ u.oneCell' = true ∧ SRep E u s) : ARep E vs cs := by
  refine ⟨hs, fun k u hu => ?_, fun k u s hu hs' => ?_⟩
  · obtain ⟨u', s', h1, h2, h3, h4⟩ := h k (Array.getElem?_eq_some_iff.1 hu).1
    rw [hu] at h1; cases h1; exact h3
  · obtain ⟨u', s', h1, h2, h3, h4⟩ := h k (Array.getElem?_eq_some_iff.1 hu).1
    rw [hu] at h1; cases h1; rw [hs'] at h2; cases h2; exact h4

theorem foldSet (off : Nat) : ∀ (l : List Value) (i : Nat) (cells : Array Value),
    ((l.zipIdx i).foldl (fun (cs : Array Value) (p : Value × Nat) => cs.setIfInBounds (off + p.2) p.1) cells).size = cells.size ∧
    ∀ k, k < cells.size → ((l.zipIdx i).foldl (fun (cs : Array Value) (p : Value × Nat) => cs.setIfInBounds (off + p.2) p.1) cells)[k]? = if off + i ≤ k ∧ k < off + i + l.length then l[k - (off + i)]? else cells[k]?
  | [], i, cells => by
    refine ⟨by simp, fun k hk => ?_⟩
    rw [if_neg (by simp only [List.length_nil]; omega)]; simp
  | v :: l, i, cells => by
    obtain ⟨h1, h2⟩ := foldSet off l (i + 1) (cells.setIfInBounds (off + i) v)
    simp only [List.zipIdx_cons, List.foldl_cons]
    refine ⟨by rw [h1]; simp, fun k hk => ?_⟩
    rw [h2 k (by simpa using hk)]
    simp only [List.length_cons]
    by_cases hc : off + (i + 1) ≤ k ∧ k < off + (i + 1) + l.length
    · rw [if_pos hc, if_pos (by omega), show k - (off + i) = (k - (off + (i + 1))) + 1 by omega, List.getElem?_cons_succ]
    · rw [if_neg hc, Array.getElem?_setIfInBounds]
      by_cases hk2 : off + i = k
      · subst hk2; rw [if_pos rfl, if_pos hk, if_pos (by omega)]; simp
      · rw [if_neg hk2, if_neg (by omega)]

theorem fill_rep {C : Ctx} {E : Env} {st : St} {a : Act} {w : World} (h : Models C E st a w) (place place' : Nat → Option (Nat × Nat)) (hpl : ∀ i p, place i = some p → place' i = some p) : ∀ (parts : List (Nat × Operand)) (vs : Array Value) (cs cs' : List SV),
    ARep E vs cs → fillS place st cs parts = some cs' → ∃ vs', Instr.fill place' vs (parts.map fun p => (p.1, a.eval p.2)) = some vs' ∧ ARep E vs' cs'
  | [], vs, cs, cs', hA, hf => by simp [fillS] at hf; subst hf; exact ⟨vs, rfl, hA⟩
  | (i, x) :: rest, vs, cs, cs', hA, hf => by
    simp only [fillS] at hf
    split at hf
    · rename_i off size new hp hc
      cases hb : new.length.beq size with
      | false => simp [hb] at hf
      | true =>
        have hnew := Nat.eq_of_beq_eq_true hb
        simp only [hb] at hf
        cases hs : splice cs off new with
        | none => simp [hs] at hf
        | some r =>
          simp only [hs] at hf
          obtain ⟨g1, g2, g3⟩ := cellsOf_rep (ev_rep h x) hc
          obtain ⟨r1, r2, r3⟩ := splice_spec cs off new r hs
          have hfold := foldSet off (a.eval x).cells.toList 0 vs
          simp only [Nat.add_zero] at hfold
          obtain ⟨f1, f2⟩ := hfold
          have hA' : ARep E (((a.eval x).cells.toList.zipIdx 0).foldl (fun (cs : Array Value) (p : Value × Nat) => cs.setIfInBounds (off + p.2) p.1) vs) r := by
            refine ARep.of (by rw [f1, hA.size, r1]) fun k hk => ?_
            rw [f1] at hk
            rw [f2 k hk, r3 k]
            have hlen : (a.eval x).cells.toList.length = new.length := by simpa using g1
            rw [hlen]
            by_cases hin : off ≤ k ∧ k < off + new.length
            · rw [if_pos hin, if_pos hin]
              have h1 : k - off < new.length := by omega
              have h2 : k - off < (a.eval x).cells.size := by omega
              have e1 : (a.eval x).cells[k - off]? = some (a.eval x).cells[k - off] := Array.getElem?_eq_getElem h2
              have e2 : new[k - off]? = some new[k - off] := List.getElem?_eq_getElem h1
              exact ⟨_, _, by rw [Array.getElem?_toList]; exact e1, e2, g2 _ _ e1, g3 _ _ _ e1 e2⟩
            · rw [if_neg hin, if_neg hin]
              have h1 : k < cs.length := by rw [← hA.size]; exact hk
              have e1 : vs[k]? = some vs[k] := Array.getElem?_eq_getElem hk
              have e2 : cs[k]? = some cs[k] := List.getElem?_eq_getElem h1
              exact ⟨_, _, e1, e2, hA.one _ _ e1, hA.rep _ _ _ e1 e2⟩
          obtain ⟨vs', e1, e2⟩ := fill_rep h place place' hpl rest _ r cs' hA' hf
          refine ⟨vs', ?_, e2⟩
          simp only [List.map_cons, Instr.fill, hpl _ _ hp]
          have hcond : ¬ ((a.eval x).cells.size ≠ size ∨ off + (a.eval x).cells.size > vs.size) := by
            have := hA.size
            omega
          rw [if_neg (by simpa [Bool.or_eq_true, decide_eq_true_eq] using hcond)]
          rw [← e1]
          congr 1
          rw [← Array.foldl_toList, Array.toList_zipIdx]
    · cases hf

theorem zeros_get : ∀ (l : List Value) (k : Nat), (zeros l)[k]? = (l[k]?).map fun v => SV.p true (.val v)
  | [], k => by simp [zeros]
  | v :: l, 0 => by simp [zeros]
  | v :: l, k + 1 => by simp [zeros, zeros_get l k]
theorem zeros_length : ∀ (l : List Value), (zeros l).length = l.length
  | [] => rfl
  | v :: l => by simp [zeros, zeros_length l]

theorem TI.Ok.zero_rep {P : Program} {t : Nat} {i : TI} (h : i.Ok P t) (E : Env) : ∃ I z, P.info? t = some I ∧ I.zero = some z ∧ I.size = i.size ∧ z.cells.size = i.size ∧ ARep E z.cells (zeros i.zero) := by
  obtain ⟨I, hI, hs, _, z, hz, hzl, h1, hsz⟩ := h.info
  refine ⟨I, z, hI, hz, hs, hsz, by rw [zeros_length, ← hzl]; simp, h1, fun k u s hu hs => ?_⟩
  rw [zeros_get, ← hzl] at hs
  simp only [Array.getElem?_toList, hu, Option.map_some, Option.some.injEq] at hs
  subst hs; exact .val _ _

theorem structPlace_run {P : Program} {Tb : Tab} (hTb : Tb.Ok P) {fs : Array Field} {i : Nat} {p : Nat × Nat} (h : structPlace Tb (fieldPlaces fs) i = some p) : ∃ f, fs[i]? = some f ∧ p.1 = f.offset ∧ (P.info? f.type).map (·.size) = some p.2 := by
  unfold structPlace at h
  rw [nth_eq] at h
  simp only [fieldPlaces, List.getElem?_map, Array.getElem?_toList] at h
  cases hf : fs[i]? with
  | none => simp [hf] at h
  | some f =>
    simp only [hf, Option.map_some] at h
    split at h
    · rename_i size _ _ hl
      cases h
      obtain ⟨I, hI, hs, _⟩ := (hTb _ _ hl).info
      exact ⟨f, rfl, rfl, by simp [hI, hs]⟩
    · cases h

theorem places_all {P : Program} : ∀ (fs : List Field), (fs.all fun f => (P.info? f.type).isSome) = true →
    ∃ places, fs.mapM (fun f => (P.info? f.type).map fun i => (f.offset, i.size)) = some places ∧ ∀ (i : Nat) f, fs[i]? = some f → (places[i]?) = (P.info? f.type).map fun i => (f.offset, i.size)
  | [], _ => ⟨[], rfl, by simp⟩
  | f :: fs, h => by
    simp only [List.all_cons, Bool.and_eq_true] at h
    obtain ⟨ps, h1, h2⟩ := places_all fs h.2
    obtain ⟨I, hI⟩ := Option.isSome_iff_exists.1 h.1
    refine ⟨(f.offset, I.size) :: ps, by simp [hI, h1], fun i g hg => ?_⟩
    cases i with
    | zero => simp at hg; subst hg; simp [hI]
    | succ i => simp at hg ⊢; exact h2 i g hg

/-- a row of the call's own that is not nil -/
structure RowAt (E : Env) (w : World) (T : TypeId) (sz n : Nat) (f : Nat → List PV) (b cap : Nat) (cur : Array Value) (u : Nat → Nat → Value) : Prop where
  heap : w.heap[b]? = some (.cells cur T (0, 0))
  hn : n ≤ cap
  hcap : cap ≤ maxLen
  hmax : n ≤ maxLen
  size : cur.size = cap * sz
  hl : ∀ j, j < n → (f j).length = sz
  hc : ∀ j k s, j < n → (f j)[k]? = some s → cur[j * sz + k]? = some (u j k) ∧ (u j k).oneCell' = true
  he : ∀ j k s, j < n → (f j)[k]? = some s → PRep E.mem (u j k) s

theorem ORep.row_at {E : Env} {w : World} {i : Nat} {T : TypeId} {sz n : Nat} {f : Nat → List PV} (h : ORep E w i (.row T sz n f)) {b n' cap : Nat} (hb : E.hd i = some (.slice (some ⟨b, 0, none⟩) n' cap)) :
    n' = n ∧ ∃ cur u, RowAt E w T sz n f b cap cur u := by
  cases h with
  | row _ _ _ _ v xs u hh hw hmax hl hc he =>
    rw [hb] at hh
    have hv := Option.some.inj hh
    rcases hw.2 with ⟨h1, _⟩ | ⟨g, cap', cur, h1, h2, h3, h4, h5, h6, h7⟩
    · rw [h1] at hv; cases hv
    · rw [h1] at hv
      simp only [Value.slice.injEq, Option.some.injEq, Addr.mk.injEq] at hv
      obtain ⟨⟨rfl, _⟩, rfl, rfl⟩ := hv
      refine ⟨rfl, cur, u, h3, h4, h5, hmax, h6, hl, fun j k s hj hs => ?_, he⟩
      obtain ⟨g1, g2⟩ := hc j k s hj hs
      refine ⟨?_, g2⟩
      rw [← h7, List.getElem?_take] at g1
      split at g1
      · rw [← Array.getElem?_toList]; exact g1
      · cases g1
theorem ORep.row_some {E : Env} {w : World} {i : Nat} {T : TypeId} {sz n : Nat} {f : Nat → List PV} (h : ORep E w i (.row T sz n f)) (hn : 0 < n) : ∃ b cap, E.hd i = some (.slice (some ⟨b, 0, none⟩) n cap) := by
  cases h with
  | row _ _ _ _ v xs u hh hw hmax hl hc he =>
    rcases hw.2 with ⟨_, h1⟩ | ⟨g, cap', cur, h1, _⟩
    · omega
    · exact ⟨g, cap', by rw [hh, h1]⟩

end Go.Sx

namespace Go.Sx
open Go

theorem evs_rep {C : Ctx} {E : Env} {st : St} {a : Act} {w : World} (h : Models C E st a w) : ∀ (l : List Operand), (evs st l).length = l.length ∧
    ∀ (k : Nat) (u : Value) (s : SV), (l.map a.eval)[k]? = some u → (evs st l)[k]? = some s → SRep E u s
  | [] => by simp [evs]
  | x :: l => by
    obtain ⟨h1, h2⟩ := evs_rep h l
    refine ⟨by simp [evs, h1], fun k u s hu hs => ?_⟩
    cases k with
    | zero => simp [evs] at hu hs; subst hu; subst hs; exact ev_rep h x
    | succ k => simp [evs] at hu hs; exact h2 k u s (by simpa using hu) hs

theorem extract_get (cs : Array Value) (off size k : Nat) (hk : k < size) : (cs.extract off (off + size))[k]? = cs[off + k]? := by
  rw [Array.getElem?_extract]
  by_cases h : k < min (off + size) cs.size - off
  · rw [if_pos h]
  · rw [if_neg h, Array.getElem?_eq_none (by omega)]

theorem part_rep {P : Program} {t : Nat} {i : TI} (hi : i.Ok P t) {E : Env} {vs : Array Value} {l : List SV} (hA : ARep E vs l) {off : Nat} {s : SV} (hr : readCells i.desc.isAgg i.size off l = some s) :
    ∃ v, (∀ w, (part t vs off).run P w = .ok v w) ∧ SRep E v s := by
  cases hag : i.desc.isAgg with
  | true =>
    rw [hag] at hr
    obtain ⟨h1, h2⟩ := readAgg hA.at hr
    refine ⟨_, fun w => by unfold part; simp [run_isAgg hi, hag, run_size hi], h2 _ ?_ fun k hk => extract_get vs off i.size k hk⟩
    have := hA.size
    simp only [Array.size_extract]
    omega
  | false =>
    rw [hag] at hr
    simp only [readCells, nth_eq] at hr
    obtain ⟨u, hu, _, hs⟩ := hA.at _ _ hr
    exact ⟨u, fun w => run_part_flat hi hag vs off u hu w, hs⟩

theorem agg_arep {E : Env} {v : Value} {b : Bool} {l : List PV} (h : SRep E v (.p b (.agg l))) : ∃ vs, v = .agg vs ∧ ARep E vs (mapP b l) := by
  cases h with | p _ _ _ h =>
  obtain ⟨vs, rfl, hl, h1, he⟩ := h.agg_inv
  refine ⟨vs, rfl, by rw [mapP_length]; exact hl, h1, fun k u s hu hs => ?_⟩
  rw [mapP_get] at hs
  cases hd : l[k]? with
  | none => simp [hd] at hs
  | some d => simp [hd] at hs; subst hs; exact .p _ _ _ (he k u d hu hd)

theorem boundK_inv {C : Ctx} {E : Env} {st : St} {a : Act} {w : World} (h : Models C E st a w) {x : Option Operand} {d : Int} {K : Int → Prop} (hk : boundK st x d K) : ∃ j, K j ∧ ((x.map a.eval = none ∧ j = d) ∨ ∃ k, x.map a.eval = some (.int k j)) := by
  cases x with
  | none => exact ⟨d, hk, .inl ⟨rfl, rfl⟩⟩
  | some x =>
    simp only [boundK] at hk
    split at hk
    · rename_i b k j hx
      have hv := ev_rep h x
      rw [hx] at hv
      exact ⟨j, hk, .inr ⟨k, by rw [Option.map_some, hv.val_inv]⟩⟩
    · exact hk.elim

theorem bounds_run {P : Program} {w : World} (b : Bool) (len cap : Nat) {lo hi : Option Value} {l h : Int} (hl : (lo = none ∧ l = 0) ∨ ∃ k, lo = some (.int k l)) (hh : (hi = none ∧ h = len) ∨ ∃ k, hi = some (.int k h)) (h0 : 0 ≤ l) (h1 : l ≤ h) (h2 : h ≤ len) (hc : len ≤ cap) :
    (Instr.sliceBounds b len cap lo hi none).run P w = .ok (l.toNat, h.toNat, cap) w := by
  have hcap : h ≤ (cap : Int) := by omega
  rcases hl with ⟨rfl, rfl⟩ | ⟨k, rfl⟩ <;> rcases hh with ⟨rfl, rfl⟩ | ⟨k', rfl⟩
  · simp [Instr.sliceBounds]
  · simp [Instr.sliceBounds, Instr.sliceBound, asIntOf, h1, hcap]
  · have : l ≤ (len : Int) := h1
    simp [Instr.sliceBounds, Instr.sliceBound, asIntOf, h0, this]
  · have h3 : 0 ≤ h := by omega
    have h4 : l ≤ ((h.toNat : Nat) : Int) := by omega
    simp [Instr.sliceBounds, Instr.sliceBound, asIntOf, h0, h3, hcap, h4, Int.max_eq_left h3, h1]

theorem bounds_run4 {P : Program} {w : World} (len cap : Nat) {lo hi : Option Value} {l h : Int} (hl : (lo = none ∧ l = 0) ∨ ∃ k, lo = some (.int k l)) (hh : (hi = none ∧ h = len) ∨ ∃ k, hi = some (.int k h)) (h0 : 0 ≤ l) (h1 : l ≤ h) (h2 : h ≤ cap) (hc : len ≤ cap) :
    (Instr.sliceBounds true len cap lo hi none).run P w = .ok (l.toNat, h.toNat, cap) w := by
  rcases hl with ⟨rfl, rfl⟩ | ⟨k, rfl⟩ <;> rcases hh with ⟨rfl, rfl⟩ | ⟨k', rfl⟩
  · simp [Instr.sliceBounds]
  · simp [Instr.sliceBounds, Instr.sliceBound, asIntOf, h1, h2]
  · have : l ≤ (len : Int) := h1
    simp [Instr.sliceBounds, Instr.sliceBound, asIntOf, h0, this]
  · have h3 : 0 ≤ h := by omega
    have h4 : l ≤ ((h.toNat : Nat) : Int) := by omega
    simp [Instr.sliceBounds, Instr.sliceBound, asIntOf, h0, h3, h2, h4, Int.max_eq_left h3, h1]

theorem bounds_run5 {P : Program} {w : World} (len cap : Nat) {lo : Option Value} {hi mx : Value} {l h m : Int} {k1 k2 : IntKind} (hl : (lo = none ∧ l = 0) ∨ ∃ k, lo = some (.int k l)) (hh : hi = .int k1 h) (hm : mx = .int k2 m) (h0 : 0 ≤ l) (h1 : l ≤ h) (h2 : h ≤ m) (h3 : m ≤ cap) :
    (Instr.sliceBounds true len cap lo (some hi) (some mx)).run P w = .ok (l.toNat, h.toNat, m.toNat) w := by
  subst hh hm
  have h4 : 0 ≤ h := by omega
  have h5 : 0 ≤ m := by omega
  have h6 : h ≤ ((m.toNat : Nat) : Int) := by omega
  have h7 : l ≤ ((h.toNat : Nat) : Int) := by omega
  rcases hl with ⟨rfl, rfl⟩ | ⟨k, rfl⟩
  · simp [Instr.sliceBounds, Instr.sliceBound, asIntOf, h2, h3, h4, h5, Int.max_eq_left h4, Int.max_eq_left h5]
  · simp [Instr.sliceBounds, Instr.sliceBound, asIntOf, h0, h1, h2, h3, h4, h5, Int.max_eq_left h4, Int.max_eq_left h5]

theorem bounds_run3 {P : Program} {w : World} (len cap : Nat) {lo : Option Value} {hi mx : Value} {l h m : Int} {k1 k2 : IntKind} (hl : (lo = none ∧ l = 0) ∨ ∃ k, lo = some (.int k l)) (hh : hi = .int k1 h) (hm : mx = .int k2 m) (h0 : 0 ≤ l) (h1 : l ≤ h) (h2 : h = m) (h3 : h ≤ len) (hc : len ≤ cap) :
    (Instr.sliceBounds true len cap lo (some hi) (some mx)).run P w = .ok (l.toNat, h.toNat, m.toNat) w := by
  subst hh hm h2
  have hcap : h ≤ (cap : Int) := by omega
  have h4 : 0 ≤ h := by omega
  have h5 : h ≤ ((h.toNat : Nat) : Int) := by omega
  have h6 : l ≤ ((h.toNat : Nat) : Int) := by omega
  rcases hl with ⟨rfl, rfl⟩ | ⟨k, rfl⟩
  · simp [Instr.sliceBounds, Instr.sliceBound, asIntOf, h4, hcap, Int.max_eq_left h4]
  · simp [Instr.sliceBounds, Instr.sliceBound, asIntOf, h0, h1, h4, hcap, Int.max_eq_left h4]

theorem run_equalIn_nil {P : Program} (w : World) (d : Nat) {t e : TypeId} (hu : P.underlying t = some (.slice e)) : (Op.equalIn (d + 1) t (.slice none 0 0) (.slice none 0 0)).run P w = .ok true w := by
  simp [Op.equalIn, run_underlying hu]
theorem run_equalIn_some {P : Program} (w : World) (d : Nat) {t e : TypeId} (hu : P.underlying t = some (.slice e)) (a : Addr) (n c : Nat) : (Op.equalIn (d + 1) t (.slice (some a) n c) (.slice none 0 0)).run P w = .ok false w := by
  simp [Op.equalIn, run_underlying hu]
theorem stepPure_sound {C : Ctx} {E : Env} {st : St} {a : Act} {w : World} {R : World → Prop} (h : Models C E st a w) {X : Cfg} (hTb : X.Tb.Ok X.P) (hnt : C.nt = X.nt) {o : Oper} (hR : ∀ w1, R w1 → readsHeap o.op = true → Grow w w1) (hd : okDst X.nt o.dst = true)
    {K : St → Prop} (hk : stepPure X o st K) {next : Act → World → Prop}
    (hn : ∀ st' E' a' w', K st' → Models C E' st' a' w' → next a' w') : FloatTo R X.P o a w next := by
  unfold stepPure at hk
  split at hk
  · rename_i x ho
    exact FloatTo.mk' (v := a.eval x) (fun w1 hg => by simp [execOp, ho]) (putK_sound h hnt hd hk (ev_rep h x) hn)
  · rename_i x ho
    exact FloatTo.mk' (v := a.eval x) (fun w1 hg => by simp [execOp, ho]) (putK_sound h hnt hd hk (ev_rep h x) hn)
  · rename_i c x y ho
    split at hk
    · rename_i b t hc
      have hcv := ev_rep h c
      rw [hc] at hcv
      have hce := hcv.val_inv
      rcases bcase_elim hk with ⟨rfl, hk⟩ | ⟨rfl, hk⟩
      · exact FloatTo.mk' (v := a.eval x) (fun w1 hg => by simp [execOp, ho, hce, asBool]) (putK_sound h hnt hd hk (ev_rep h x) hn)
      · exact FloatTo.mk' (v := a.eval y) (fun w1 hg => by simp [execOp, ho, hce, asBool]) (putK_sound h hnt hd hk (ev_rep h y) hn)
    · exact hk.elim
  · rename_i op t x y _ ho
    split at hk
    · rename_i n hnil
      unfold nilCmp at hnil
      split at hnil
      · rename_i b0 m f b1 hx hy
        split at hnil
        · rename_i e _ _ _ hi
          obtain rfl : m = n := by simpa using hnil
          have hu : X.P.underlying t = some (.slice e) := (hTb _ _ hi).desc
          have hxv := ev_rep h x
          have hyv := ev_rep h y
          rw [hx] at hxv
          rw [hy] at hyv
          have hye := hyv.val_inv
          obtain ⟨b, hb, hsl, heq⟩ : ∃ b : Bool, (b = true → m = 0) ∧ (∃ ad n c, a.eval x = .slice ad n c) ∧ ∀ w1, (Op.equal t (a.eval x) (.slice none 0 0)).run X.P w1 = .ok b w1 := by
            generalize a.eval x = v at hxv
            cases hxv with
            | p _ _ _ hp =>
              cases hp with
              | nil => exact ⟨true, fun _ => rfl, ⟨_, _, _, rfl⟩, fun w1 => by unfold Op.equal; rw [show Op.maxDepth = 9999 + 1 from rfl]; exact run_equalIn_nil w1 9999 hu⟩
              | emp => exact ⟨false, fun h => (by cases h), ⟨_, _, _, rfl⟩, fun w1 => by unfold Op.equal; rw [show Op.maxDepth = 9999 + 1 from rfl]; exact run_equalIn_some w1 9999 hu _ _ _⟩
              | seq => exact ⟨false, fun h => (by cases h), ⟨_, _, _, rfl⟩, fun w1 => by unfold Op.equal; rw [show Op.maxDepth = 9999 + 1 from rfl]; exact run_equalIn_some w1 9999 hu _ _ _⟩
          obtain ⟨ad, n', c', hsl⟩ := hsl
          rw [hsl] at heq
          split at hk
          · exact FloatTo.mk' (v := .bool b) (fun w1 hg => by simp [execOp, ho, hye, hsl, eqGuard, binOp, heq]) (putK_sound h hnt hd (hk b hb) (.val _ _) hn)
          · exact FloatTo.mk' (v := .bool (!b)) (fun w1 hg => by simp [execOp, ho, hye, hsl, eqGuard, binOp, heq]) (putK_sound h hnt hd (hk b hb) (.val _ _) hn)
          · exact hk.elim
        · cases hnil
      · cases hnil
    obtain ⟨v, hv, hnx⟩ := putR_sound h hnt hd hk (fun w1 => binop_run hTb op t x y (ev_rep h x) (ev_rep h y) w1) hn
    exact FloatTo.mk' (v := v) (fun w1 hg => by simp only [execOp, ho]; simp only [Sem.run_bind, hv, Result.andThen_ok, Sem.run_pure]) hnx
  · rename_i op _ x ho
    obtain ⟨v, hv, hnx⟩ := putR_sound h hnt hd hk (fun w1 => unop_run (P := X.P) op (ev_rep h x) w1) hn
    exact FloatTo.mk' (v := v) (fun w1 hg => by simp only [execOp, ho]; simp only [Sem.run_bind, hv, Result.andThen_ok, Sem.run_pure]) hnx
  · rename_i s t x ho
    split at hk
    · rename_i i1 k _ _ _ hi1 hi2
      split at hk
      · rename_i _ k' n hx
        have hxv := ev_rep h x
        rw [hx] at hxv
        have hxe := hxv.val_inv
        have hd2 : X.P.underlying t = some (.int k) := (hTb _ _ hi2).desc
        obtain ⟨d, hds⟩ : ∃ d, X.P.underlying s = some d := by
          obtain ⟨I, hI, _⟩ := (hTb _ _ hi1).info
          have := (hTb _ _ hi1).desc
          obtain ⟨desc, _, _, _⟩ := i1
          cases desc <;> first | exact ⟨_, this⟩ | (obtain ⟨d, hd, _⟩ := this; exact ⟨d, hd⟩) | (obtain ⟨fs, hd, _⟩ := this; exact ⟨_, hd⟩)
        exact FloatTo.mk' (v := .int k (k.wrap n)) (fun w1 hg => by simp [execOp, ho, convert, run_underlying hds, run_underlying hd2, hxe, Conv.intToInt]) (putK_sound h hnt hd hk (.val _ _) hn)
      · exact hk.elim
    · -- bytes to a string
      rename_i e _ _ _ _ _ _ hi1 hi2
      split at hk
      · rename_i _ _ _ hie
        have hs : X.P.underlying s = some (.slice e) := (hTb _ _ hi1).desc
        have hd2 : X.P.underlying t = some .string := (hTb _ _ hi2).desc
        have he8 : X.P.underlying e = some (.int .u8) := (hTb _ _ hie).desc
        have done : ∀ (b : Nat) (q cap : Nat) (bs : ByteArray), a.eval x = .slice (some ⟨b, q, none⟩) bs.size cap → b < w.heap.size → (∀ j, j < bs.size → w.cell? ⟨b, q + j, none⟩ = some (.int .u8 (bs.data.getD j 0).toNat)) →
            putK st o.dst (.p true (.val (.string bs))) K → FloatTo R X.P o a w next := by
          intro b q cap bs hv hlt hcell hk
          refine FloatTo.mk' (v := .string bs) (fun w1 hg => ?_) (putK_sound h hnt hd hk (.val _ _) hn)
          have hr := run_convert_bytes_back (P := X.P) w1 s t e ⟨b, q, none⟩ cap bs.data.toList hs he8 hd2 (fun j hj => by
            have hj' : j < bs.size := by simpa using hj
            rw [Addr.add_lit, (hR w1 hg (by simp [readsHeap, ho])).cell hlt, hcell j hj']
            have : bs.data.getD j 0 = bs.data.toList[j] := by simp [Array.getD]; exact dif_pos hj'
            rw [this])
          have e1 : bs.data.toList.length = bs.size := by simp
          rw [e1] at hr
          have e2 : (⟨bs.data.toList.toArray⟩ : ByteArray) = bs := by simp
          rw [e2] at hr
          simp [execOp, ho, hv, hr]
        have none0 : ∀ (v : Value) (bs : ByteArray), bs.size = 0 → a.eval x = v → (v = .slice none 0 0 ∨ ∃ ad cap, v = .slice (some ad) 0 cap) → putK st o.dst (.p true (.val (.string bs))) K → FloatTo R X.P o a w next := by
          intro v bs hb hv hor hk
          have hbe : bs = ByteArray.empty := by
            apply ByteArray.ext
            exact Array.eq_empty_of_size_eq_zero hb
          subst hbe
          refine FloatTo.mk' (v := .string ByteArray.empty) (fun w1 hg => ?_) (putK_sound h hnt hd hk (.val _ _) hn)
          rcases hor with rfl | ⟨ad, cap, rfl⟩
          · simp [execOp, ho, hv, run_convert_bytes_string w1 s t e none 0 0 hs he8 hd2, Conv.bytesToString]
          · have hr := run_convert_bytes_back (P := X.P) w1 s t e ad cap [] hs he8 hd2 (fun j hj => absurd hj (Nat.not_lt_zero _))
            simp only [List.length_nil] at hr
            simp [execOp, ho, hv, hr]; rfl
        split at hk
        · rename_i bb n f hx
          obtain ⟨bs, ⟨hbs, hf⟩, hk⟩ := hk
          subst hbs
          have hxv := ev_rep h x
          rw [hx] at hxv
          generalize hvx : a.eval x = v at hxv
          cases hxv with
          | p _ _ _ hp =>
            generalize hm0 : bs.size = m at hp hf
            cases hp with
            | nil => exact none0 _ bs hm0 hvx (.inl rfl) hk
            | emp ad cap => exact none0 _ bs hm0 hvx (.inr ⟨ad, cap, rfl⟩) hk
            | seq b' q _ cap sz' _ cs u hm hcap hmax hl hc he =>
              subst hm0
              obtain ⟨T', fr, hw⟩ := h.heap.mem _ _ (E.m_false _ _ _ hm)
              refine done b' q cap bs hvx (Array.getElem?_eq_some_iff.1 hw).1 (fun j hj => ?_) hk
              have hfj := hf j hj
              have hs0 : (f j)[0]? = some (.val (.int .u8 (bs.data.getD j 0).toNat)) := by rw [hfj]; rfl
              have hsz : sz' = 1 := by rw [← hl j hj, hfj]; rfl
              obtain ⟨c1, _⟩ := hc j 0 _ hj hs0
              have c2 := (he j 0 _ hj hs0).val_inv
              rw [hsz, c2] at c1
              simp only [World.cell?, hw]
              simpa using c1
        · rename_i i hx
          split at hk
          · rename_i T' n f hob
            obtain ⟨bs, ⟨hbs, hf⟩, hk⟩ := hk
            subst hbs
            have hxv := ev_rep h x
            rw [hx] at hxv
            generalize hvx : a.eval x = v at hxv
            cases hxv with
            | row _ _ hh _ =>
              by_cases h0 : bs.size = 0
              · refine none0 _ bs h0 hvx ?_ hk
                have := h.heap.ob i _ hob
                cases this with
                | row _ _ _ _ v' xs u hh' hw' _ _ _ _ =>
                  rw [hh] at hh'; cases hh'
                  rcases hw'.2 with ⟨h1, _⟩ | ⟨g, cap', cur, h1, _⟩
                  · exact .inl h1
                  · exact .inr ⟨_, cap', by rw [h1, h0]⟩
              · obtain ⟨b, cap, hb⟩ := (h.heap.ob i _ hob).row_some (by omega)
                obtain ⟨_, cur, u, hR⟩ := (h.heap.ob i _ hob).row_at hb
                rw [hb] at hh; cases hh
                refine done b 0 cap bs hvx (Array.getElem?_eq_some_iff.1 hR.heap).1 (fun j hj => ?_) hk
                have hs0 : (f j)[0]? = some (.val (.int .u8 (bs.data.getD j 0).toNat)) := by rw [hf j hj]; rfl
                obtain ⟨c1, _⟩ := hR.hc j 0 _ hj hs0
                have c2 := (hR.he j 0 _ hj hs0).val_inv
                rw [c2] at c1
                simp only [World.cell?, hR.heap]
                simpa using c1
          · exact hk.elim
        · exact hk.elim
      · exact hk.elim
    · rename_i i1 _ _ _ _ hi1 hi2
      split at hk
      · rename_i b n hx
        have hxv := ev_rep h x
        rw [hx] at hxv
        have hxe := hxv.val_inv
        have hd2 : X.P.underlying t = some .string := (hTb _ _ hi2).desc
        obtain ⟨d, hds⟩ : ∃ d, X.P.underlying s = some d := by
          have := (hTb _ _ hi1).desc
          obtain ⟨desc, _, _, _⟩ := i1
          cases desc <;> first | exact ⟨_, this⟩ | (obtain ⟨d, hd, _⟩ := this; exact ⟨d, hd⟩) | (obtain ⟨fs, hd, _⟩ := this; exact ⟨_, hd⟩)
        refine FloatTo.mk' (v := .string n) ?_ (putK_sound h hnt hd hk (.val _ _) hn)
        intro w1 hg
        simp only [execOp, ho, convert, run_underlying hds, run_underlying hd2, hxe, Sem.run_bind, Result.andThen_ok]
        cases d <;> rfl
      · exact hk.elim
    · exact hk.elim
  · rename_i f capt ho
    obtain ⟨h1, h2⟩ := evs_rep h capt.toList
    refine FloatTo.mk' (v := .func (.func f) #[] (capt.map a.eval)) (fun w1 hg => by simp [execOp, ho, Instr.makeFunc]) (putK_sound h hnt hd hk (.fn f _ _ (by simp [h1]) fun k u s hu hs => h2 k u s ?_ hs) hn)
    simpa using hu
  · rename_i T parts ho
    split at hk
    · rename_i fs _ _ z hi
      split at hk
      · rename_i cs hf
        have hok := hTb _ _ hi
        obtain ⟨I, zv, hI, hz, hs, hzs, hZ⟩ := hok.zero_rep E
        obtain ⟨Fs, hu, hfs, _, _, _, hall⟩ := hok.desc
        subst hfs
        obtain ⟨places, hp1, hp2⟩ := places_all Fs.toList (by simpa using hall)
        obtain ⟨vs', hfill, hA⟩ := fill_rep h _ (places.toArray[·]?) (fun i p hp => by
          obtain ⟨f, hf1, hf2, hf3⟩ := structPlace_run hTb hp
          have := hp2 i f (by simpa using hf1)
          cases hI' : X.P.info? f.type with
          | none => simp [hI'] at hf3
          | some I' => simp [hI'] at hf3 this ⊢; rw [this, ← hf2, hf3]) parts.toList _ _ _ hZ hf
        have hb : X.P.built T (parts.map fun p => (p.1, a.eval p.2)).toList = some vs' := by
          simp only [Program.built, hI, hu, hz, hp1]
          simpa using hfill
        exact FloatTo.mk' (v := .agg vs') (fun w1 hg => by simp only [execOp, ho]; simp only [Sem.run_bind, run_build w1 T _ vs' hb, Result.andThen_ok, Sem.run_pure]) (putK_sound h hnt hd hk (normAgg_rep hA.size hA.one hA.rep) hn)
      · exact hk.elim
    · rename_i n e _ _ z hi
      split at hk
      · rename_i _ sz _ _ hie
        split at hk
        · rename_i cs hf
          have hok := hTb _ _ hi
          obtain ⟨I, zv, hI, hz, hs, hzs, hZ⟩ := hok.zero_rep E
          have hu : X.P.underlying T = some (.array n e) := hok.desc
          obtain ⟨Ie, hIe, hse, _⟩ := (hTb _ _ hie).info
          obtain ⟨vs', hfill, hA⟩ := fill_rep h _ _ (fun i p hp => hp) parts.toList _ _ _ hZ hf
          have hb : X.P.built T (parts.map fun p => (p.1, a.eval p.2)).toList = some vs' := by
            simp only [Program.built, hI, hu, hz, hIe]
            simp only at hse
            rw [hse]
            simpa using hfill
          exact FloatTo.mk' (v := .agg vs') (fun w1 hg => by simp only [execOp, ho]; simp only [Sem.run_bind, run_build w1 T _ vs' hb, Result.andThen_ok, Sem.run_pure]) (putK_sound h hnt hd hk (normAgg_rep hA.size hA.one hA.rep) hn)
        · exact hk.elim
      · exact hk.elim
    · exact hk.elim
  · rename_i T x f ho
    split at hk
    · rename_i fs _ _ _ hi
      split at hk
      · rename_i off t hfs
        split at hk
        · rename_i d size _ _ ht
          obtain ⟨Fs, hu, hfp, _⟩ := (hTb _ _ hi).desc
          subst hfp
          rw [nth_eq] at hfs
          simp only [fieldPlaces, List.getElem?_map, Array.getElem?_toList] at hfs
          cases hff : Fs[f]? with
          | none => simp [hff] at hfs
          | some fd =>
            simp only [hff, Option.map_some, Option.some.injEq, Prod.mk.injEq] at hfs
            obtain ⟨rfl, rfl⟩ := hfs
            have fin : ∀ (vs : Array Value) (l : List SV) (s : SV), a.eval x = .agg vs → ARep E vs l → readCells d.isAgg size fd.offset l = some s → putK st o.dst s K → FloatTo R X.P o a w next := by
              intro vs l s hx hA hr hk
              obtain ⟨v, hv, hs⟩ := part_rep (hTb _ _ ht) hA hr
              exact FloatTo.mk' (v := v) (fun w1 hg => by simp [execOp, ho, Instr.field, run_underlying hu, hff, hx, asAgg, hv]) (putK_sound h hnt hd hk hs hn)
            split at hk
            · rename_i b l hx
              split at hk
              · rename_i s hr
                have hxv := ev_rep h x
                rw [hx] at hxv
                obtain ⟨vs, hxe, hA⟩ := agg_arep hxv
                exact fin vs _ s hxe hA hr hk
              · exact hk.elim
            · rename_i l hx
              split at hk
              · rename_i s hr
                have hxv := ev_rep h x
                rw [hx] at hxv
                generalize hvx : a.eval x = v at hxv
                cases hxv with
                | agg vs _ hl h1 he => exact fin vs _ s hvx ⟨hl, h1, he⟩ hr hk
              · exact hk.elim
            · exact hk.elim
        · exact hk.elim
      · exact hk.elim
    · exact hk.elim
  · rename_i x i ho
    split at hk
    · rename_i b l hx
      split at hk
      · rename_i dd hg
        have hxv := ev_rep h x
        rw [hx] at hxv
        rw [nth_eq] at hg
        generalize hvx : a.eval x = v at hxv
        cases hxv with
        | p _ _ _ hp =>
          cases hp with
          | tup vs _ hl he =>
            have hi : i < vs.size := by rw [hl]; exact (List.getElem?_eq_some_iff.1 hg).1
            have hvi : vs[i]? = some vs[i] := Array.getElem?_eq_getElem hi
            exact FloatTo.mk' (v := vs[i]) (fun w1 hg => by simp [execOp, ho, Instr.extract, hvx, hvi]) (putK_sound h hnt hd hk (.p _ _ _ (he i _ _ hvi hg)) hn)
      · exact hk.elim
    · rename_i l hx
      split at hk
      · rename_i dd hg
        have hxv := ev_rep h x
        rw [hx] at hxv
        rw [nth_eq] at hg
        generalize hvx : a.eval x = v at hxv
        cases hxv with
        | tup vs _ hl he =>
          have hi : i < vs.size := by rw [hl]; exact (List.getElem?_eq_some_iff.1 hg).1
          have hvi : vs[i]? = some vs[i] := Array.getElem?_eq_getElem hi
          exact FloatTo.mk' (v := vs[i]) (fun w1 hg => by simp [execOp, ho, Instr.extract, hvx, hvi]) (putK_sound h hnt hd hk (he i _ _ hvi hg) hn)
      · exact hk.elim
    · exact hk.elim
  · rename_i T x i ho
    split at hk
    · rename_i _ _ _ hi
      split at hk
      · rename_i _ s _ k j hx hj
        obtain ⟨c, ⟨h0, hc⟩, hk⟩ := hk
        have hxv := ev_rep h x
        rw [hx] at hxv
        have hxe := hxv.val_inv
        have hjv := ev_rep h i
        rw [hj] at hjv
        have hje := hjv.val_inv
        have hu : X.P.underlying T = some .string := (hTb _ _ hi).desc
        exact FloatTo.mk' (v := .int .u8 c.toNat) (fun w1 hg => by simp [execOp, ho, Instr.index, run_underlying hu, hxe, hje, asIntOf, h0, hc]) (putK_sound h hnt hd hk (.val _ _) hn)
      · exact hk.elim
    · rename_i n e _ _ _ hi
      split at hk
      · rename_i d sz _ _ ht
        split at hk
        · rename_i _ k j hj
          have hjv := ev_rep h i
          rw [hj] at hjv
          have hje := hjv.val_inv
          have hu : X.P.underlying T = some (.array n e) := (hTb _ _ hi).desc
          have fin : ∀ (vs : Array Value) (l : List SV) (s : SV), a.eval x = .agg vs → ARep E vs l → (0 ≤ j ∧ j < (n : Int)) → readCells d.isAgg sz (j.toNat * sz) l = some s → putK st o.dst s K → FloatTo R X.P o a w next := by
            intro vs l s hx hA hjn hr hk
            obtain ⟨v, hv, hs⟩ := part_rep (hTb _ _ ht) hA hr
            exact FloatTo.mk' (v := v) (fun w1 hg => by simp [execOp, ho, Instr.index, run_underlying hu, hje, asIntOf, hjn, hx, run_size (hTb _ _ ht), hv]) (putK_sound h hnt hd hk hs hn)
          split at hk
          · rename_i b l hx
            obtain ⟨hjn, hk⟩ := hk
            split at hk
            · rename_i s hr
              have hxv := ev_rep h x
              rw [hx] at hxv
              obtain ⟨vs, hxe, hA⟩ := agg_arep hxv
              exact fin vs _ s hxe hA hjn hr hk
            · exact hk.elim
          · rename_i l hx
            obtain ⟨hjn, hk⟩ := hk
            split at hk
            · rename_i s hr
              have hxv := ev_rep h x
              rw [hx] at hxv
              generalize hvx : a.eval x = v at hxv
              cases hxv with
              | agg vs _ hl h1 he => exact fin vs _ s hvx ⟨hl, h1, he⟩ hjn hr hk
            · exact hk.elim
          · exact hk.elim
        · exact hk.elim
      · exact hk.elim
    · exact hk.elim
  · rename_i T x lo hi ho
    split at hk
    · rename_i _ _ _ hi'
      have hu : X.P.underlying T = some .string := (hTb _ _ hi').desc
      split at hk
      · rename_i _ s hx
        have hxv := ev_rep h x
        rw [hx] at hxv
        have hxe := hxv.val_inv
        obtain ⟨l, hk, hl⟩ := boundK_inv h hk
        obtain ⟨hh, hk, hhi⟩ := boundK_inv h hk
        obtain ⟨⟨h0, h1, h2⟩, hk⟩ := hk
        exact FloatTo.mk' (v := .string (s.extract l.toNat hh.toNat)) (fun w1 hg => by
          have := bounds_run (P := X.P) (w := w1) false s.size s.size hl hhi h0 h1 h2 (Nat.le_refl _)
          simp [execOp, ho, Instr.sliceAt, Instr.slice, run_underlying hu, hxe, this]) (putK_sound h hnt hd hk (.val _ _) hn)
      · exact hk.elim
    · rename_i e _ _ _ hi'
      have hu : X.P.underlying T = some (.slice e) := (hTb _ _ hi').desc
      split at hk
      · rename_i _ sz _ _ hie
        split at hk
        · rename_i b n f hx
          have hxv := ev_rep h x
          rw [hx] at hxv
          obtain ⟨l, hk1, hl⟩ := boundK_inv h hk
          obtain ⟨hh, hk2, hhi⟩ := boundK_inv h hk1
          obtain ⟨⟨h0, h1, h2⟩, hlen, hk3⟩ := hk2
          generalize hvx : a.eval x = v at hxv
          have hrun : ∀ (ad : Option Addr) (cap : Nat) (w1 : World), v = .slice ad n cap → n ≤ cap → (execOp a.eval o).run X.P w1 = .ok (.value (.slice (if cap = l.toNat then ad else ad.map (·.add (l.toNat * (sz + 1)))) (hh.toNat - l.toNat) (cap - l.toNat))) w1 := by
            intro ad cap w1 hv hcap
            have := bounds_run (P := X.P) (w := w1) true n cap hl hhi h0 h1 h2 hcap
            simp [execOp, ho, Instr.sliceAt, Instr.slice, run_underlying hu, hvx, hv, this, run_size (hTb _ _ hie)]
          cases hxv with
          | p _ _ _ hp =>
            cases hp with
            | nil =>
              have e1 : l.toNat = 0 := by omega
              have e2 : hh.toNat = 0 := by omega
              exact FloatTo.mk' (fun w1 hg => hrun none 0 w1 rfl (Nat.le_refl _)) (putK_sound h hnt hd hk3 (by simp only [e1, e2]; exact .p _ _ _ (.nil _)) hn)
            | emp ad cap =>
              have e1 : l.toNat = 0 := by omega
              have e2 : hh.toNat = 0 := by omega
              refine FloatTo.mk' (fun w1 hg => hrun (some ad) cap w1 rfl (Nat.zero_le _)) (putK_sound h hnt hd hk3 ?_ hn)
              simp only [e1, e2, Nat.sub_zero, Nat.sub_self]
              split
              · exact .p _ _ _ (.emp _ _ _)
              · exact .p _ _ _ (.emp _ _ _)
            | seq b' q _ cap sz' _ cs u hm hcap hmax hl' hc he =>
              refine FloatTo.mk' (fun w1 hg => hrun (some ⟨b', q, none⟩) cap w1 rfl hcap) (putK_sound h hnt hd hk3 ?_ hn)
              by_cases hn0 : hh.toNat - l.toNat = 0
              · rw [hn0]
                split
                · exact .p _ _ _ (.emp _ _ _)
                · exact .p _ _ _ (.emp _ _ _)
              · have hsz' : sz' = sz + 1 := by rw [← hl' 0 (by omega), hlen 0 (by omega)]
                rw [if_neg (by omega)]
                simp only [Option.map_some, Addr.add_lit]
                refine .p _ _ _ (.seq b' (q + l.toNat * (sz + 1)) _ _ (sz + 1) _ cs (fun j k => u (l.toNat + j) k) hm (by omega) (by omega) (fun j hj => hlen _ (by omega)) (fun j k s hj hs => ?_) (fun j k s hj hs => he _ _ _ (by omega) hs))
                have := hc (l.toNat + j) k s (by omega) hs
                rw [hsz', Nat.add_mul] at this
                rwa [show q + l.toNat * (sz + 1) + (j * (sz + 1) + k) = q + (l.toNat * (sz + 1) + j * (sz + 1) + k) by omega]
        · rename_i r hx
          split at hk
          · rename_i T' sz' m f hob
            cases hbq : sz'.beq (sz + 1) with
            | false => simp [hbq] at hk
            | true =>
              simp only [hbq] at hk
              have hxv := ev_rep h x
              rw [hx] at hxv
              obtain ⟨l, hk1, hl⟩ := boundK_inv h hk
              obtain ⟨hh, hk2, hhi⟩ := boundK_inv h hk1
              obtain ⟨⟨h0, h1, h2, hm0⟩, hk3⟩ := hk2
              obtain ⟨bl, cap, hhd⟩ := (h.heap.ob r _ hob).row_some hm0
              obtain ⟨_, cur, u, hR⟩ := (h.heap.ob r _ hob).row_at hhd
              generalize hvx : a.eval x = v at hxv
              cases hxv with
              | row _ _ hh2 hsl =>
                rw [hhd] at hh2
                have hv := (Option.some.inj hh2).symm
                have hcap := hR.hn
                refine FloatTo.mk' (v := .slice (if cap = l.toNat then some ⟨bl, 0, none⟩ else (some (⟨bl, 0, none⟩ : Addr)).map (·.add (l.toNat * (sz + 1)))) (hh.toNat - l.toNat) (cap - l.toNat)) (fun w1 hg => ?_) (putK_sound h hnt hd hk3 ?_ hn)
                · have := bounds_run (P := X.P) (w := w1) true m cap hl hhi h0 h1 h2 hcap
                  simp [execOp, ho, Instr.sliceAt, Instr.slice, run_underlying hu, hvx, hv, this, run_size (hTb _ _ hie)]
                · by_cases hc : cap = l.toNat
                  · rw [if_pos hc]
                    exact .sub _ _ _ _ bl m cap _ _ hhd (by omega) (by omega) (by omega) (fun h9 => by omega)
                  · rw [if_neg hc]
                    simp only [Option.map_some, Addr.add_lit, Nat.zero_add]
                    exact .sub _ _ _ _ bl m cap _ _ hhd (by omega) (by omega) (by omega) (fun _ => rfl)
          · exact hk.elim
        · rename_i r sz' p n hx
          split at hk
          · rename_i T' sz2 m f hbq hob
            obtain rfl := Nat.eq_of_beq_eq_true hbq
            have hxv := ev_rep h x
            rw [hx] at hxv
            obtain ⟨l, hk1, hl⟩ := boundK_inv h hk
            obtain ⟨hh, hk2, hhi⟩ := boundK_inv h hk1
            obtain ⟨⟨h0, h1, h2⟩, hk3⟩ := hk2
            generalize hvx : a.eval x = v at hxv
            cases hxv with
            | sub _ _ _ _ bl n' cap c ad hhd hle hc hr ha =>
              obtain ⟨rfl, cur, u, hR⟩ := (h.heap.ob r _ hob).row_at hhd
              refine FloatTo.mk' (v := .slice (if c = l.toNat then some ad else (some ad).map (·.add (l.toNat * (sz + 1)))) (hh.toNat - l.toNat) (c - l.toNat)) (fun w1 hg => ?_) (putK_sound h hnt hd hk3 ?_ hn)
              · have := bounds_run4 (P := X.P) (w := w1) n c hl hhi h0 h1 (by omega) hc
                simp [execOp, ho, Instr.sliceAt, Instr.slice, run_underlying hu, hvx, this, run_size (hTb _ _ hie)]
              · by_cases hcl : c = l.toNat
                · rw [if_pos hcl]
                  exact .sub _ _ _ _ bl n' cap _ _ hhd (by omega) (by omega) (by omega) (fun h9 => by omega)
                · rw [if_neg hcl]
                  obtain rfl := ha (by omega)
                  simp only [Option.map_some, Addr.add_lit]
                  refine .sub _ _ _ _ bl n' cap _ _ hhd (by omega) (by omega) (by omega) (fun _ => ?_)
                  rw [← Nat.add_mul]
          · exact hk.elim
        · exact hk.elim
      · exact hk.elim
    · exact hk.elim
  · rename_i x ho
    split at hk
    · rename_i b l off hx
      have hxv := ev_rep h x
      rw [hx] at hxv
      generalize hvx : a.eval x = v at hxv
      cases hxv with
      | p _ _ _ hp =>
        cases hp with
        | pt b' o' _ _ cs u hm hc he =>
          exact FloatTo.mk' (fun w1 hg => by simp [execOp, ho, hvx]) (putK_sound h hnt hd hk (.p _ _ _ (.pt b' o' off l cs u hm hc he)) hn)
    · rename_i i off hx
      have hxv := ev_rep h x
      rw [hx] at hxv
      generalize hvx : a.eval x = v at hxv
      cases hxv with
      | own _ _ b hh => exact FloatTo.mk' (fun w1 hg => by simp [execOp, ho, hvx]) (putK_sound h hnt hd hk (.own _ _ b hh) hn)
    · exact hk.elim
  · rename_i T x lo hi mx ho
    split at hk
    · rename_i e _ _ _ hi'
      have hu : X.P.underlying T = some (.slice e) := (hTb _ _ hi').desc
      split at hk
      · rename_i _ sz _ _ hie
        split at hk
        · rename_i b n f hx
          have hxv := ev_rep h x
          rw [hx] at hxv
          obtain ⟨l, hk1, hl⟩ := boundK_inv h hk
          obtain ⟨hh, hk2, hhi⟩ := boundK_inv h hk1
          obtain ⟨mm, hk3, hmi⟩ := boundK_inv h hk2
          obtain ⟨⟨h0, h1, h2, h3⟩, hlen, hk4⟩ := hk3
          obtain ⟨k1, hhi⟩ : ∃ k, a.eval hi = .int k hh := by
            rcases hhi with ⟨e, _⟩ | ⟨k, e⟩
            · cases e
            · exact ⟨k, Option.some.inj e⟩
          obtain ⟨k2, hmi⟩ : ∃ k, a.eval mx = .int k mm := by
            rcases hmi with ⟨e, _⟩ | ⟨k, e⟩
            · cases e
            · exact ⟨k, Option.some.inj e⟩
          subst h2
          generalize hvx : a.eval x = v at hxv
          have hrun : ∀ (ad : Option Addr) (cap : Nat) (w1 : World), v = .slice ad n cap → n ≤ cap → (execOp a.eval o).run X.P w1 = .ok (.value (.slice (if hh.toNat = l.toNat then ad else ad.map (·.add (l.toNat * (sz + 1)))) (hh.toNat - l.toNat) (hh.toNat - l.toNat))) w1 := by
            intro ad cap w1 hv hcap
            have := bounds_run3 (P := X.P) (w := w1) n cap hl hhi hmi h0 h1 rfl h3 hcap
            simp [execOp, ho, Instr.sliceAt, Instr.slice, run_underlying hu, hvx, hv, this, run_size (hTb _ _ hie)]
          cases hxv with
          | p _ _ _ hp =>
            cases hp with
            | nil =>
              have e1 : l.toNat = 0 := by omega
              have e2 : hh.toNat = 0 := by omega
              exact FloatTo.mk' (fun w1 hg => hrun none 0 w1 rfl (Nat.le_refl _)) (putK_sound h hnt hd hk4 (by simp only [e1, e2]; exact .full _ _ _ (.nil _)) hn)
            | emp ad cap =>
              have e1 : l.toNat = 0 := by omega
              have e2 : hh.toNat = 0 := by omega
              refine FloatTo.mk' (fun w1 hg => hrun (some ad) cap w1 rfl (Nat.zero_le _)) (putK_sound h hnt hd hk4 ?_ hn)
              simp only [e1, e2, Nat.sub_self, if_true]
              exact .full _ _ _ (.emp _ _ _)
            | seq b' q _ cap sz' _ cs u hm hcap hmax hl' hc he =>
              refine FloatTo.mk' (fun w1 hg => hrun (some ⟨b', q, none⟩) cap w1 rfl hcap) (putK_sound h hnt hd hk4 ?_ hn)
              by_cases hn0 : hh.toNat - l.toNat = 0
              · rw [hn0]
                split
                · exact .full _ _ _ (.emp _ _ _)
                · exact .full _ _ _ (.emp _ _ _)
              · have hsz' : sz' = sz + 1 := by rw [← hl' 0 (by omega), hlen 0 (by omega)]
                rw [if_neg (by omega)]
                simp only [Option.map_some, Addr.add_lit]
                refine .full _ _ _ (.seq b' (q + l.toNat * (sz + 1)) _ _ (sz + 1) _ cs (fun j k => u (l.toNat + j) k) (E.m_false _ _ _ hm) (Nat.le_refl _) (by omega) (fun j hj => hlen _ (by omega)) (fun j k s hj hs => ?_) (fun j k s hj hs => (he _ _ _ (by omega) hs).mono (E.m_false _)))
                have := hc (l.toNat + j) k s (by omega) hs
                rw [hsz', Nat.add_mul] at this
                rwa [show q + l.toNat * (sz + 1) + (j * (sz + 1) + k) = q + (l.toNat * (sz + 1) + j * (sz + 1) + k) by omega]
        · rename_i r hx
          split at hk
          · rename_i T' sz' n f hob
            have hxv := ev_rep h x
            rw [hx] at hxv
            obtain ⟨l, hk1, hl⟩ := boundK_inv h hk
            obtain ⟨hh, hk2, hhi⟩ := boundK_inv h hk1
            obtain ⟨mm, hk3, hmi⟩ := boundK_inv h hk2
            obtain ⟨⟨h0, h1, h2, h3⟩, hk4⟩ := hk3
            obtain ⟨k1, hhi⟩ : ∃ k, a.eval hi = .int k hh := by
              rcases hhi with ⟨e, _⟩ | ⟨k, e⟩
              · cases e
              · exact ⟨k, Option.some.inj e⟩
            obtain ⟨k2, hmi⟩ : ∃ k, a.eval mx = .int k mm := by
              rcases hmi with ⟨e, _⟩ | ⟨k, e⟩
              · cases e
              · exact ⟨k, Option.some.inj e⟩
            generalize hvx : a.eval x = v at hxv
            have hO := h.heap.ob _ _ hob
            cases hO with
            | row _ _ _ _ v0 xs u hhd hw hmax _ _ _ =>
            cases hxv with
            | row _ _ hh2 hsl =>
              rw [hhd] at hh2
              obtain rfl := Option.some.inj hh2
              obtain ⟨ad, cap, hv, hcap⟩ : ∃ ad cap, v0 = .slice ad n cap ∧ n ≤ cap := by
                rcases hw.2 with ⟨rfl, rfl⟩ | ⟨g, cap, cur, rfl, _, _, hc, _⟩
                · exact ⟨none, 0, rfl, Nat.le_refl _⟩
                · exact ⟨_, cap, rfl, hc⟩
              refine FloatTo.mk' (v := .slice (if mm.toNat = l.toNat then ad else ad.map (·.add (l.toNat * (sz + 1)))) (hh.toNat - l.toNat) (mm.toNat - l.toNat)) (fun w1 hg => ?_) (putK_sound h hnt hd hk4 (.any _) hn)
              have := bounds_run5 (P := X.P) (w := w1) n cap hl hhi hmi h0 h1 h2 (by omega)
              simp [execOp, ho, Instr.sliceAt, Instr.slice, run_underlying hu, hvx, hv, this, run_size (hTb _ _ hie)]
          · exact hk.elim
        · exact hk.elim
      · exact hk.elim
    · exact hk.elim
  · exact hk.elim

end Go.Sx
