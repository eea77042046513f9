/- The symbolic executor stands for the model: functions. -/
import Derived.Test.YtmjfhoidokajpaaGreatSxD
import Derived.Laws.BitsAllLaws
import Derived.Laws.Bits64
import Derived.Laws.Strings
set_option maxHeartbeats 1000000
set_option maxRecDepth 4000
set_option linter.unusedSimpArgs false
set_option linter.unusedVariables false
set_option linter.unusedSectionVars false
namespace Go.Sx
open Go

/- results, as data; the proposition: it lies in memory that the call has made -/
def allSome : List (Option (Prop × PV)) → Option (Prop × List PV)
  | [] => some (True, [])
  | [some (p, d)] => some (p, [d])
  | some (p, d) :: l => match allSome l with
    | some (q, ds) => some (p ∧ q, d :: ds)
    | none => none
  | none :: _ => none

def allVal : List PV → Bool
  | [] => true
  | .val _ :: l => allVal l
  | _ => false

def freshP : Bool → Prop
  | true => True
  | false => False

/-- numbers, strings and truth values lie in no memory -/
def freshD (b : Bool) : PV → Prop
  | .val _ => True
  | .agg l => match allVal l with
    | true => True
    | false => freshP b
  | _ => freshP b

def pubR (st : St) (m : Nat) : Nat → SV → Option (Prop × PV)
  | _, .p b d => some (freshD b d, d)
  | _, .row i => match st.obj i with
    | some (.row _ _ n f) => match m.ble i with
      | true => some (∀ k, k < n → allVal (f k) = true, .seq n f)
      | false => none
    | _ => none
  | _, .sub i sz lo n => match st.obj i with
    | some (.row _ sz' _ f) => match (m.ble i).and (sz.beq sz') with
      | true => some (∀ k, k < n → allVal (f (lo + k)) = true, .seq n (fun k => f (lo + k)))
      | false => none
    | _ => none
  | n + 1, .own i off => match m.ble i, st.obj i with
    | true, some (.cells _ cs) => match allSome (cs.map (pubR st m n)) with
      | some (p, ds) => some (p, .pt ds off)
      | none => none
    | _, _ => none
  | n + 1, .agg l => match allSome (l.map (pubR st m n)) with
    | some (p, ds) => some (p, .agg ds)
    | none => none
  | n + 1, .tup l => match allSome (l.map (pubR st m n)) with
    | some (p, ds) => some (p, .tup ds)
    | none => none
  | n + 1, .fn f l => match allSome (l.map (pubR st m n)) with
    | some (p, ds) => some (p, .fn f ds)
    | none => none
  | _, _ => none

def res1 (X : Cfg) (st : St) : ResultVar → Option SV
  | .tmp t => some (st.get t)
  | .cell a T => match look X.Tb T, st.get a with
    | some ⟨d, size, _, _⟩, .own i off => match st.obj i with
      | some (.cells _ cs) => readCells d.isAgg size off cs
      | _ => none
    | _, _ => none
def resL (X : Cfg) (st : St) : List ResultVar → Option (List SV)
  | [] => some []
  | r :: l => match res1 X st r, resL X st l with
    | some s, some ss => some (s :: ss)
    | _, _ => none
def resSV (X : Cfg) (st : St) (rs : List ResultVar) : Option SV :=
  match resL X st rs with
  | some [s] => some s
  | some l => some (.tup l)
  | none => none

def cellEnd (st : St) (m : Nat) (s c : SV) : Prop :=
  match c with
  | .any => True
  | .p b d => match pubR st m 3 s with
    | some (p, d') => (b = true → p) ∧ ple d' d
    | none => False
  | .own i off => match s with
    | .own i' off' => i' = i ∧ off' = off ∧ i.blt m = true
    | _ => False
  | .row i => match s with
    | .row i' => i' = i ∧ i.blt m = true
    | _ => False
  | _ => False
def cellsEnd (st : St) (m : Nat) : List SV → List SV → Prop
  | [], [] => True
  | [s], [c] => cellEnd st m s c
  | s :: ss, c :: cs => cellEnd st m s c ∧ cellsEnd st m ss cs
  | _, _ => False
def obEnd (st : St) (m : Nat) (i : Nat) : Ob → Prop
  | .cells T cs => match st.obj i with
    | some (.cells T' cs') => T' = T ∧ cellsEnd st m cs' cs
    | _ => False
  | .row T sz n f => match st.obj i with
    | some (.row T' sz' n' f') => T' = T ∧ sz' = sz ∧ n' = n ∧ ∀ k, k < n → f' k = f k
    | _ => False
def obsEnd (st : St) (m : Nat) : Nat → List Ob → Prop
  | _, [] => True
  | i, [o] => obEnd st m i o
  | i, o :: os => obEnd st m i o ∧ obsEnd st m (i + 1) os

def finalP (X : Cfg) (rs : List ResultVar) (fresh : Bool) (res : PV) (obs : List Ob) : Exit → St → Prop := fun e st =>
  match e with
  | .normal | .ret => (match resSV X st rs with
    | some s => match pubR st X.m 4 s with
      | some (p, d) => (fresh = true → p) ∧ ple d res
      | none => False
    | none => False) ∧ obsEnd st X.m X.ro obs
  | _ => False

def enumS : Nat → List SV → List (Nat × SV)
  | _, [] => []
  | i, s :: l => (i, s) :: enumS (i + 1) l
def entrySt (args : List SV) (obs : List Ob) : St := { fr := enumS 0 args, ob := enumOb 0 obs, no := obs.length, k := none }

/-- the verification condition of a function -/
def fnVC (P : Program) (Tb : Tab) (fn : Func) (S : Spec) (a : S.A) : Prop :=
  ((S.args a).length.ble fn.ntmps = true ∧ S.ro.ble (S.objs a).length = true ∧ (S.objs' a).length + S.ro = (S.objs a).length) ∧
    match fn.body with
    | some c => vc c ⟨P, Tb, fn.ntmps, S.ro, (S.objs a).length, false, none, S.inl, S.gl⟩ (entrySt (S.args a) (S.objs a)) (finalP ⟨P, Tb, fn.ntmps, S.ro, (S.objs a).length, false, none, S.inl, S.gl⟩ fn.results.toList S.fresh (S.res a) (S.objs' a))
    | none => False

/- at the end: what the call has made is memory -/
noncomputable def endEnv (E : Env) (st : St) (w : World) (m : Nat) : Env :=
  { hd := fun k => if k < m then E.hd k else none
    mem := fun b => match E.mem b with
      | some cs => some cs
      | none => open Classical in if ∃ j o, m ≤ j ∧ st.obj j = some o ∧ E.blk j = some b then (match w.heap[b]? with | some (.cells cs _ _) => some cs | _ => none) else none
    base := E.base, ws := E.ws, I := E.I, k := E.k }

theorem endEnv_mem {E : Env} {st : St} {w : World} {m b : Nat} {cs : Array Value} (h : E.mem b = some cs) : (endEnv E st w m).mem b = some cs := by simp [endEnv, h]

theorem allSome_get : ∀ (l : List (Option (Prop × PV))) (p : Prop) (ds : List PV), allSome l = some (p, ds) → l.length = ds.length ∧ ∀ (k : Nat) d, ds[k]? = some d → ∃ q, l[k]? = some (some (q, d)) ∧ (p → q)
  | [], p, ds, h => by simp [allSome] at h; obtain ⟨_, rfl⟩ := h; simp
  | none :: l, p, ds, h => by simp [allSome] at h
  | [some (p0, d0)], p, ds, h => by
    simp only [allSome, Option.some.injEq, Prod.mk.injEq] at h; obtain ⟨rfl, rfl⟩ := h
    refine ⟨rfl, fun k d hd => ?_⟩
    cases k with
    | zero => simp at hd; subst hd; exact ⟨p0, by simp, id⟩
    | succ k => simp at hd
  | some (p0, d0) :: y :: l, p, ds, h => by
    simp only [allSome] at h
    cases hr : allSome (y :: l) with
    | none => simp [hr] at h
    | some r =>
      obtain ⟨c, ds'⟩ := r
      simp only [hr, Option.some.injEq, Prod.mk.injEq] at h
      obtain ⟨rfl, rfl⟩ := h
      obtain ⟨h1, h2⟩ := allSome_get (y :: l) c ds' hr
      refine ⟨by simpa using h1, fun k d hd => ?_⟩
      cases k with
      | zero => simp at hd; subst hd; exact ⟨p0, by simp, fun h => h.1⟩
      | succ k =>
        obtain ⟨q, g1, g2⟩ := h2 k d (by simpa using hd)
        exact ⟨q, by simpa using g1, fun h => g2 h.2⟩

theorem allVal_get : ∀ {l : List PV}, allVal l = true → ∀ (k : Nat) s, l[k]? = some s → ∃ v, s = .val v
  | [], _, k, s, h => by simp at h
  | .val v :: l, ha, k, s, h => by
    cases k with
    | zero => simp at h; exact ⟨v, h.symm⟩
    | succ k => exact allVal_get (l := l) ha k s (by simpa using h)
  | .seq _ _ :: l, ha, k, s, h => by simp [allVal] at ha
  | .pt _ _ :: l, ha, k, s, h => by simp [allVal] at ha
  | .agg _ :: l, ha, k, s, h => by simp [allVal] at ha
  | .tup _ :: l, ha, k, s, h => by simp [allVal] at ha

theorem pubR_rep {C : Ctx} {E : Env} {st : St} {w : World} (h : HRep C E st w) : ∀ (n : Nat) (s : SV) (p : Prop) (d : PV) (v : Value), pubR st C.m n s = some (p, d) → SRep E v s → ∀ b, (b = true → p) → PRep ((endEnv E st w C.m).m b) v d := by
  have lift : ∀ (b : Bool) (v : Value) (d : PV), PRep (E.m b) v d → PRep ((endEnv E st w C.m).m b) v d := fun b v d hp => hp.move (fun _ _ hb => endEnv_mem hb) rfl
  -- memory of an object of the call's own
  have memOf : ∀ i o bl cs T fr, C.m ≤ i → st.obj i = some o → E.blk i = some bl → w.heap[bl]? = some (.cells cs T fr) → ∀ b, (endEnv E st w C.m).m b bl = some cs := by
    intro i o bl cs T fr hi ho hb hw b
    obtain ⟨g1, g2⟩ := h.own i o bl ho hb
    have hmem : (endEnv E st w C.m).mem bl = some cs := by
      simp only [endEnv, g1]
      rw [if_pos ⟨i, o, hi, ho, hb⟩, hw]
    cases b with
    | false => exact hmem
    | true =>
      simp only [Env.m]
      have : E.base ≤ bl := by rw [h.base]; exact g2.1.resolve_right (fun x => by omega)
      rw [if_pos (show (endEnv E st w C.m).base ≤ bl from this)]; exact hmem
  have base : ∀ (n : Nat) (s : SV) (p : Prop) (d : PV) (v : Value), (∃ b d', s = .p b d' ∧ p = freshD b d' ∧ d = d') → SRep E v s → ∀ b, (b = true → p) → PRep ((endEnv E st w C.m).m b) v d := by
    rintro n s p d v ⟨b0, d', rfl, rfl, rfl⟩ hv b hb
    cases hv with
    | p _ _ _ hp =>
      refine lift _ _ _ ?_
      cases b with
      | true =>
        cases b0 with
        | true => exact hp
        | false =>
          have hb := hb rfl
          cases d with
          | val u => have := hp.val_inv; subst this; exact .val _
          | agg l =>
            simp only [freshD] at hb
            split at hb
            · rename_i hall
              obtain ⟨vs, rfl, hl, h1, he⟩ := hp.agg_inv
              refine .agg vs l hl h1 fun k u s hu hs => ?_
              obtain ⟨x, rfl⟩ := allVal_get hall k s hs
              have := (he k u _ hu hs).val_inv
              subst this; exact .val _
            · exact hb.elim
          | _ => exact hb.elim
      | false => exact hp.mono fun B cs hB => E.m_false b0 _ _ hB
  have rowc : ∀ (i : Nat) (T : TypeId) (sz n : Nat) (f : Nat → List PV) (v : Value), C.m ≤ i → st.obj i = some (.row T sz n f) → SRep E v (.row i) → ∀ b, (b = true → ∀ k, k < n → allVal (f k) = true) → PRep ((endEnv E st w C.m).m b) v (.seq n f) := by
    intro i T sz n f v hi hob hv b hb
    obtain ⟨v0, xs, u, hh, hw, hmax, hl, hc, he⟩ := row_inv (h.ob _ _ hob)
    cases hv with
    | row _ _ hh2 hsl =>
      rw [hh] at hh2; cases hh2
      rcases hw.2 with ⟨rfl, rfl⟩ | ⟨g, cap, cur, rfl, _, hg, hnc, hcm, hcs, htake⟩
      · exact .nil _
      · have hblk : E.blk i = some g := by simp [Env.blk, hh, blockOf]
        refine .seq g 0 n cap sz f cur u (memOf i _ g cur T _ hi hob hblk hg b) hnc hmax hl (fun j k s hj hs => ?_) (fun j k s hj hs => ?_)
        · obtain ⟨c1, c2⟩ := hc j k s hj hs
          refine ⟨?_, c2⟩
          rw [Nat.zero_add, ← Array.getElem?_toList]
          rw [← htake, List.getElem?_take] at c1
          split at c1
          · exact c1
          · cases c1
        · cases b with
          | false => exact (he j k s hj hs).mono fun B cs hB => endEnv_mem hB
          | true =>
            obtain ⟨x, rfl⟩ := allVal_get (hb rfl j hj) k s hs
            have := (he j k _ hj hs).val_inv
            rw [this]; exact .val x
  have subc : ∀ (i sz lo n m : Nat) (T : TypeId) (f : Nat → List PV) (v : Value), C.m ≤ i → st.obj i = some (.row T sz m f) → SRep E v (.sub i sz lo n) → ∀ b, (b = true → ∀ k, k < n → allVal (f (lo + k)) = true) → PRep ((endEnv E st w C.m).m b) v (.seq n (fun k => f (lo + k))) := by
    intro i sz lo n m T f v hi hob hv b hb
    cases hv with
    | sub _ _ _ _ bl n' cap c a hh hle hc hr ha =>
      obtain ⟨rfl, cur, u, hR⟩ := (h.ob _ _ hob).row_at hh
      rcases Nat.eq_zero_or_pos n with rfl | hn
      · exact .emp _ _ _
      · obtain rfl := ha (by omega)
        have hblk : E.blk i = some bl := by simp [Env.blk, hh, blockOf]
        refine .seq bl (lo * sz) n c sz _ cur (fun j k => u (lo + j) k) (memOf i _ bl cur T _ hi hob hblk hR.heap b) hc (by have := hR.hmax; omega) (fun j hj => hR.hl _ (by omega)) (fun j k s hj hs => ?_) (fun j k s hj hs => ?_)
        · have := hR.hc (lo + j) k s (by omega) hs
          rw [Nat.add_mul, Nat.add_assoc] at this
          exact this
        · cases b with
          | false => exact (hR.he (lo + j) k s (by omega) hs).mono fun B cs hB => endEnv_mem hB
          | true =>
            obtain ⟨x, rfl⟩ := allVal_get (hb rfl j hj) k s hs
            have := (hR.he (lo + j) k _ (by omega) hs).val_inv
            rw [this]; exact .val x
  have subd : ∀ (i sz lo n : Nat) (n0 : Nat) (p : Prop) (d : PV) (v : Value), pubR st C.m n0 (.sub i sz lo n) = some (p, d) → SRep E v (.sub i sz lo n) → ∀ b, (b = true → p) → PRep ((endEnv E st w C.m).m b) v d := by
    intro i sz lo n n0 p d v hp hv b hb
    have go : ∀ (T : TypeId) (sz' m : Nat) (f : Nat → List PV), st.obj i = some (.row T sz' m f) → (C.m.ble i).and (sz.beq sz') = true → p = (∀ k, k < n → allVal (f (lo + k)) = true) → d = .seq n (fun k => f (lo + k)) → ∀ b, (b = true → p) → PRep ((endEnv E st w C.m).m b) v d := by
      rintro T sz' m f hob hble rfl rfl
      simp only [Bool.and_eq_true] at hble
      obtain ⟨hb1, hb2⟩ := hble
      obtain rfl := Nat.eq_of_beq_eq_true hb2
      exact subc _ _ _ _ _ _ _ v (Nat.le_of_ble_eq_true hb1) hob hv
    cases n0 <;> simp only [pubR] at hp
    all_goals
      split at hp
      · split at hp
        · rename_i hob _ hble
          cases hp
          exact go _ _ _ _ hob hble rfl rfl b hb
        · cases hp
      · cases hp
  intro n
  induction n with
  | zero =>
    intro s p d v hp hv
    cases s <;> simp only [pubR] at hp <;> try (cases hp; done)
    · cases hp; exact base 0 _ _ _ v ⟨_, _, rfl, rfl, rfl⟩ hv
    · split at hp
      · split at hp
        · rename_i hob _ hble
          cases hp
          exact rowc _ _ _ _ _ v (Nat.le_of_ble_eq_true hble) hob hv
        · cases hp
      · cases hp
    · exact subd _ _ _ _ 0 _ _ v hp hv
  | succ n ih =>
    intro s p d v hp hv
    cases s <;> simp only [pubR] at hp <;> try (cases hp; done)
    · cases hp; exact base 0 _ _ _ v ⟨_, _, rfl, rfl, rfl⟩ hv
    · rename_i i off
      split at hp
      · rename_i T cs hble hob
        split at hp
        · rename_i p' ds hall
          cases hp
          intro b hb
          obtain ⟨bl, hh, rfl⟩ := own_inv hv
          obtain ⟨bl', vs, hh', hw, hA⟩ := (h.ob _ _ hob).cells_inv
          rw [hh] at hh'; cases hh'
          obtain ⟨g1, g2⟩ := allSome_get _ _ _ hall
          have hlen : ds.length = cs.length := by rw [← g1]; simp
          have hmm := memOf i _ bl vs T _ (Nat.le_of_ble_eq_true hble) hob (by simp [Env.blk, hh, blockOf]) hw b
          have get : ∀ (k : Nat) (s : PV), ds[k]? = some s → ∃ (u : Value) (c : SV) (q : Prop), vs[k]? = some u ∧ cs[k]? = some c ∧ pubR st C.m n c = some (q, s) ∧ (p → q) := by
            intro k s hs
            obtain ⟨q, q1, q2⟩ := g2 k s hs
            simp only [List.getElem?_map] at q1
            cases hc : cs[k]? with
            | none => simp [hc] at q1
            | some c =>
              simp [hc] at q1
              have hk : k < vs.size := by rw [hA.size]; exact (List.getElem?_eq_some_iff.1 hc).1
              exact ⟨vs[k], c, q, Array.getElem?_eq_getElem hk, rfl, q1, q2⟩
          have e0 : (Value.pointer (some ⟨bl, off, none⟩)) = .pointer (some ⟨bl, 0 + off, none⟩) := by rw [Nat.zero_add]
          rw [e0]
          refine .pt bl 0 off ds vs (fun k => vs.getD k undef) hmm (fun k s hs => ?_) (fun k s hs => ?_)
          · obtain ⟨u, c, q, r1, r2, r3, r4⟩ := get k s hs
            rw [Nat.zero_add, Array.getD_eq_getD_getElem?, r1]
            exact ⟨rfl, hA.one _ _ r1⟩
          · obtain ⟨u, c, q, r1, r2, r3, r4⟩ := get k s hs
            rw [Array.getD_eq_getD_getElem?, r1]
            exact ih c q s u r3 (hA.rep _ _ _ r1 r2) b (fun hbb => r4 (hb hbb))
        · cases hp
      · cases hp
    · split at hp
      · split at hp
        · rename_i hob _ hble
          cases hp
          exact rowc _ _ _ _ _ v (Nat.le_of_ble_eq_true hble) hob hv
        · cases hp
      · cases hp
    · exact subd _ _ _ _ (n + 1) _ _ v hp hv
    · rename_i l
      split at hp
      · rename_i p' ds hall
        cases hp
        intro b hb
        obtain ⟨g1, g2⟩ := allSome_get _ _ _ hall
        cases hv with
        | agg vs _ hl h1 he =>
          refine .agg vs ds (by rw [← g1, hl]; simp) h1 fun k u s hu hs => ?_
          obtain ⟨q, q1, q2⟩ := g2 k s hs
          simp only [List.getElem?_map] at q1
          cases hc : l[k]? with
          | none => simp [hc] at q1
          | some c => simp [hc] at q1; exact ih c q s u q1 (he k u c hu hc) b (fun hbb => q2 (hb hbb))
      · cases hp
    · rename_i l
      split at hp
      · rename_i p' ds hall
        cases hp
        intro b hb
        obtain ⟨g1, g2⟩ := allSome_get _ _ _ hall
        cases hv with
        | tup vs _ hl he =>
          refine .tup vs ds (by rw [← g1, hl]; simp) fun k u s hu hs => ?_
          obtain ⟨q, q1, q2⟩ := g2 k s hs
          simp only [List.getElem?_map] at q1
          cases hc : l[k]? with
          | none => simp [hc] at q1
          | some c => simp [hc] at q1; exact ih c q s u q1 (he k u c hu hc) b (fun hbb => q2 (hb hbb))
      · cases hp
    · rename_i f l
      split at hp
      · rename_i p' ds hall
        cases hp
        intro b hb
        obtain ⟨g1, g2⟩ := allSome_get _ _ _ hall
        cases hv with
        | fn _ vs _ hl he =>
          refine .fn _ vs ds (by rw [← g1, hl]; simp) fun k u s hu hs => ?_
          obtain ⟨q, q1, q2⟩ := g2 k s hs
          simp only [List.getElem?_map] at q1
          cases hc : l[k]? with
          | none => simp [hc] at q1
          | some c => simp [hc] at q1; exact ih c q s u q1 (he k u c hu hc) b (fun hbb => q2 (hb hbb))
      · cases hp

/- results of a function -/
def SameCells (w w1 : World) : Prop := ∀ (b : Nat) (cs : Array Value) (T : TypeId), w.heap[b]? = some (Obj.cells cs T (0, 0)) → w1.heap[b]? = w.heap[b]?
def readRes (a : Act) : ResultVar → Sem Value
  | .tmp t => pure (a.tmps.getD t undef)
  | .cell x t => do loadVar t (← asAddr (a.tmps.getD x undef))

theorem res1_run {C : Ctx} {E : Env} {st : St} {a : Act} {w : World} (h : Models C E st a w) {X : Cfg} (hTb : X.Tb.Ok X.P) {r : ResultVar} {s : SV} (hr : res1 X st r = some s) :
    ∃ v, SRep E v s ∧ ∀ w1 : World, SameCells w w1 →
      (readRes a r).run X.P w1 = .ok v w1 := by
  cases r with
  | tmp t => simp only [res1, Option.some.injEq] at hr; subst hr; exact ⟨_, h.slot t, fun w1 _ => rfl⟩
  | cell x T =>
    simp only [res1] at hr
    split at hr
    · rename_i d size _ _ i off hi hx
      split at hr
      · rename_i T' cs hob
        have hxv := h.slot x
        rw [hx] at hxv
        obtain ⟨b, hb, hxe⟩ := own_inv hxv
        obtain ⟨b', vs, hb', hw, hA⟩ := (h.heap.ob i _ hob).cells_inv
        rw [hb] at hb'; cases hb'
        obtain ⟨v, hv, hs⟩ := load_run (P := X.P) (base := 0) (w := w) (b := b) (hTb _ _ hi) (cs := cs) (E := E) (fun k s hs => by
          obtain ⟨u, hu, h1, h2⟩ := hA.at k s hs
          exact ⟨u, by simp [World.cell?, hw]; exact hu, h1, h2⟩) hr
        refine ⟨v, hs, fun w1 hw1 => ?_⟩
        have := hv w1 (fun k => by simp [World.cell?, hw1 b _ _ hw])
        rw [Nat.zero_add] at this
        simp only [readRes, hxe, asAddr, Sem.run_bind, Sem.run_pure, Result.andThen_ok, this]
      · cases hr
    · cases hr

theorem resL_run {C : Ctx} {E : Env} {st : St} {a : Act} {w : World} (h : Models C E st a w) {X : Cfg} (hTb : X.Tb.Ok X.P) : ∀ (rs : List ResultVar) (ss : List SV), resL X st rs = some ss →
    ∃ vs : List Value, vs.length = ss.length ∧ (∀ (k : Nat) u s, vs[k]? = some u → ss[k]? = some s → SRep E u s) ∧ ∀ w1 : World, SameCells w w1 →
      (rs.mapM (readRes a)).run X.P w1 = .ok vs w1
  | [], ss, hr => by simp [resL] at hr; subst hr; exact ⟨[], rfl, by simp, fun w1 _ => by simp⟩
  | r :: rs, ss, hr => by
    simp only [resL] at hr
    split at hr
    · rename_i s ss' h1 h2
      cases hr
      obtain ⟨v, e1, e2⟩ := res1_run h hTb h1
      obtain ⟨vs, f1, f2, f3⟩ := resL_run h hTb rs ss' h2
      refine ⟨v :: vs, by simp [f1], fun k u s hu hs => ?_, fun w1 hw1 => ?_⟩
      · cases k with
        | zero => simp at hu hs; subst hu; subst hs; exact e1
        | succ k => exact f2 k u s (by simpa using hu) (by simpa using hs)
      · rw [List.mapM_cons]
        simp only [Sem.run_bind, e2 w1 hw1, Result.andThen_ok, f3 w1 hw1, Sem.run_pure]
    · cases hr

theorem results_run {C : Ctx} {E : Env} {st : St} {a : Act} {w : World} (h : Models C E st a w) {X : Cfg} (hTb : X.Tb.Ok X.P) {fn : Func} {s : SV} (hr : resSV X st fn.results.toList = some s) :
    ∃ v, SRep E v s ∧ ∀ w1 : World, SameCells w w1 → (results fn a.tmps).run X.P w1 = .ok v w1 := by
  unfold resSV at hr
  have main : ∀ ss, resL X st fn.results.toList = some ss → ∃ vs : List Value, vs.length = ss.length ∧ (∀ (k : Nat) u s, vs[k]? = some u → ss[k]? = some s → SRep E u s) ∧ ∀ w1 : World, SameCells w w1 →
      (results fn a.tmps).run X.P w1 = .ok (if hh : vs.toArray.size = 1 then vs.toArray[0] else .tuple vs.toArray) w1 := by
    intro ss hss
    obtain ⟨vs, f1, f2, f3⟩ := resL_run h hTb _ ss hss
    refine ⟨vs, f1, f2, fun w1 hw1 => ?_⟩
    unfold results
    have he : (fun x : ResultVar => (match x with | .tmp t => (pure (a.tmps.getD t undef) : Sem Value) | .cell x t => do loadVar t (← asAddr (a.tmps.getD x undef)))) = readRes a := by funext r; cases r <;> rfl
    show (do let vs ← fn.results.mapM (fun x : ResultVar => (match x with | .tmp t => (pure (a.tmps.getD t undef) : Sem Value) | .cell x t => do loadVar t (← asAddr (a.tmps.getD x undef)))); pure (if h : vs.size = 1 then vs[0] else .tuple vs) : Sem Value).run X.P w1 = _
    rw [he, Array.mapM_eq_mapM_toList]
    have := f3 w1 hw1
    simp only [Sem.run_bind, Sem.run_map, this, Result.andThen_ok, Sem.run_pure]
  split at hr
  · rename_i s' hs
    cases hr
    obtain ⟨vs, f1, f2, f3⟩ := main _ hs
    match vs, f1 with
    | [v], _ => exact ⟨v, f2 0 v s rfl rfl, fun w1 hw1 => by simpa using f3 w1 hw1⟩
  · rename_i l hne hs
    cases hr
    obtain ⟨vs, f1, f2, f3⟩ := main _ hs
    have hlen : vs.length ≠ 1 := by
      intro he
      rw [f1] at he
      match l, he with
      | [x], _ => exact hne x rfl
    refine ⟨.tuple vs.toArray, .tup _ _ (by simpa using f1) fun k u s hu hs => f2 k u s (by simpa using hu) hs, fun w1 hw1 => ?_⟩
    have := f3 w1 hw1
    rw [dif_neg (by simpa using hlen)] at this
    exact this
  · cases hr

theorem obsEnd_get {st : St} {m : Nat} : ∀ (i : Nat) (os : List Ob), obsEnd st m i os → ∀ (k : Nat) o, os[k]? = some o → obEnd st m (i + k) o
  | i, [], _, k, o, ho => by simp at ho
  | i, [x], h, k, o, ho => by
    cases k with
    | zero => simp at ho; subst ho; exact h
    | succ k => simp at ho
  | i, x :: y :: os, h, k, o, ho => by
    simp only [obsEnd] at h
    cases k with
    | zero => simp at ho; subst ho; exact h.1
    | succ k => rw [show i + (k + 1) = i + 1 + k by omega]; exact obsEnd_get (i + 1) (y :: os) h.2 k o (by simpa using ho)
theorem cellsEnd_get {st : St} {m : Nat} : ∀ (ss cs : List SV), cellsEnd st m ss cs → ss.length = cs.length ∧ ∀ (k : Nat) s c, ss[k]? = some s → cs[k]? = some c → cellEnd st m s c
  | [], [], _ => by simp
  | [], _ :: _, h => by simp [cellsEnd] at h
  | _ :: _, [], h => by simp [cellsEnd] at h
  | [x], [y], h => by
    refine ⟨rfl, fun k a b ha hb => ?_⟩
    cases k with
    | zero => simp at ha hb; subst ha; subst hb; exact h
    | succ k => simp at ha
  | [x], y :: z :: ys, h => by simp [cellsEnd] at h
  | x :: z :: xs, [y], h => by simp [cellsEnd] at h
  | x :: x2 :: xs, y :: y2 :: ys, h => by
    simp only [cellsEnd] at h
    obtain ⟨h1, h2⟩ := cellsEnd_get (x2 :: xs) (y2 :: ys) h.2
    refine ⟨by simpa using h1, fun k a b ha hb => ?_⟩
    cases k with
    | zero => simp at ha hb; subst ha; subst hb; exact h.1
    | succ k => simp only [List.getElem?_cons_succ] at ha hb; exact h2 k a b ha hb

/-- the heap at the end of a call -/
theorem end_heap {w0 : World} {E0 : Env} {S : Spec} {a0 : S.A} (hr1 : S.ro ≤ (S.objs a0).length) (hr2 : (S.objs' a0).length + S.ro = (S.objs a0).length)
    (h0 : HRep (ctxOf w0 E0 (S.objs a0) S.ro) E0 (stOf (S.objs a0)) w0) {C : Ctx} (hC : ∃ nt, C = { ctxOf w0 E0 (S.objs a0) S.ro with nt := nt }) {E : Env} {st : St} {w : World} (h : HRep C E st w) (hobs : obsEnd st C.m S.ro (S.objs' a0))
    {w1 : World} (hsc : SameCells w w1) (hlow : ∀ k, k < w0.heap.size → w1.heap[k]? = w.heap[k]?) (hos : w1.os = w.os) (htape : w1.tape = w.tape) (hout : w1.output = w.output) (hsz : w1.heap.size = w.heap.size) (hcells : ∀ (b : Nat) (cs : Array Value) (T : TypeId) (fr : Nat × Nat), w.heap[b]? = some (Obj.cells cs T fr) → w1.heap[b]? = w.heap[b]?) :
    HRep (ctxOf w0 E0 (S.objs a0) S.ro) (endEnv E st w C.m) (stOf (S.post a0)) w1 := by
  obtain ⟨nt, hC⟩ := hC
  have hm : C.m = (S.objs a0).length := by rw [hC]; rfl
  have hbase : C.base = w0.heap.size := by rw [hC]; rfl
  have hhd0 : ∀ k, k < C.m → E.hd k = E0.hd k := fun k hk => by have := h.hd0 k (Nat.lt_of_lt_of_le hk h.mkh); rw [hC] at this; exact this
  have hmem0 : ∀ b cs, E0.mem b = some cs → E.mem b = some cs := fun b cs hb => h.mem0 b cs (by rw [hC]; exact hb)
  have plen : (S.post a0).length = C.m := by unfold Spec.post; simp; omega
  have ehd : ∀ k, k < C.m → (endEnv E st w C.m).hd k = E0.hd k := fun k hk => by simp [endEnv, hk, hhd0 k hk]
  have eblk : ∀ k, k < C.m → (endEnv E st w C.m).blk k = E0.blk k := fun k hk => by simp [Env.blk, ehd k hk]
  have objLt : ∀ k o, (S.post a0)[k]? = some o → k < C.m := fun k o ho => by rw [← plen]; exact (List.getElem?_eq_some_iff.1 ho).1
  have obj0 : ∀ k, k < C.m → ∃ o, (stOf (S.objs a0)).obj k = some o := fun k hk => by rw [stOf_obj]; exact ⟨_, List.getElem?_eq_getElem (by omega)⟩
  have wsize : w0.heap.size ≤ w.heap.size := by rw [← hbase]; exact Nat.le_trans h.fr.bsz h.fr.wsz
  have memSub : ∀ b cs, E0.mem b = some cs → (endEnv E st w C.m).mem b = some cs := fun b cs hb => endEnv_mem (hmem0 b cs hb)
  obtain ⟨hEk, hEI, hEw⟩ : E.k = none ∧ E.I = borOf E0.hd (S.objs a0) S.ro ∧ E.ws = w0 := by have := h.fr.sync; rw [hC] at this; exact this
  obtain ⟨hEk0, hEI0, hEw0⟩ : E0.k = none ∧ E0.I = borOf E0.hd (S.objs a0) S.ro ∧ E0.ws = w0 := h0.fr.sync
  have hmine : ∀ b, E0.mine b → (endEnv E st w C.m).mine b := fun b hb => by unfold Env.mine at *; rw [hEw0, hEI0] at hb; show E.ws.heap.size ≤ b ∨ E.I b; rw [hEw, hEI]; exact hb
  have ebase : (endEnv E st w C.m).base = E0.base := by
    show E.base = E0.base
    rw [h.base, hbase, h0.base]; rfl
  refine ⟨fun k o ho => ?_, fun i j o o' b ho ho' hb hb' => ?_, fun i o b ho hb => ?_, fun b cs hb => ?_, fun b cs hb => memSub b cs hb, fun b cs hb => ?_, fun i hi => ?_, ebase.trans h0.base, ⟨?_, ?_, ?_, ?_, ?_, by show E.ws.os = w0.os ∧ E.ws.tape = w0.tape ∧ E.ws.output = w0.output; rw [hEw]; exact ⟨rfl, rfl, rfl⟩, h.fr.isz, fun k hk hbor => ?_, ⟨hEk, hEI, hEw⟩⟩, fun k hk => ehd k (by rw [hm]; exact hk), by show (S.objs a0).length ≤ (S.post a0).length; omega, Nat.le_refl _, hEk⟩
  · rw [stOf_obj] at ho
    have hk := objLt k o ho
    rw [post_get, Nat.min_eq_left hr1] at ho
    by_cases hkr : k < S.ro
    · rw [if_pos hkr] at ho
      have h1 := h0.ob k o (by rw [stOf_obj]; exact ho)
      refine ((h1.move (no := C.m) (fun i hi => ehd i hi) memSub ebase hk (h1.lt (fun i hi => h0.new i (by show (S.objs a0).length ≤ i; omega))))).world fun b hb => ?_
      have hb0 : E0.blk k = some b := by rw [← eblk k hk]; exact hb
      have hlt := h1.blk_lt hb0
      rw [hlow b hlt]
      have hb2 := h.fr.block b (by rw [hEw]; exact hlt) (fun hbor => by
        rw [hEI] at hbor
        obtain ⟨k', o', g1, g2, g3⟩ := hbor
        have := h0.sep k k' o o' b (by rw [stOf_obj]; exact ho) (by rw [stOf_obj]; exact g2) hb0 g3
        omega)
      rw [hb2, hEw]
    · rw [if_neg hkr] at ho
      have he := obsEnd_get _ _ hobs _ o ho
      rw [show S.ro + (k - S.ro) = k by omega] at he
      cases o with
      | cells T cs =>
        simp only [obEnd] at he
        split at he
        · rename_i T' cs' hob
          obtain ⟨rfl, he⟩ := he
          obtain ⟨hl, hg⟩ := cellsEnd_get _ _ he
          obtain ⟨bl, vs, e1, e2, e3⟩ := (h.ob k _ hob).cells_inv
          refine .cells bl _ vs cs (by rw [ehd k hk, ← hhd0 k hk]; exact e1) (by rw [hsc bl _ _ e2]; exact e2) (by rw [e3.size]; exact hl) e3.one fun q u c hu hc => ?_
          have hq : q < cs'.length := by rw [← e3.size]; exact (Array.getElem?_eq_some_iff.1 hu).1
          have hs := List.getElem?_eq_getElem hq
          have hE := hg q _ c hs hc
          have hR := e3.rep q u _ hu hs
          unfold cellEnd at hE
          split at hE
          · exact .any _
          · split at hE
            · rename_i p d' hp
              exact .p _ _ _ (ple_rep hE.2 (pubR_rep h 3 _ _ _ u hp hR _ hE.1))
            · exact hE.elim
          · split at hE
            · rename_i i' off' hs'
              obtain ⟨rfl, rfl, hlt⟩ := hE
              rw [hs'] at hR
              obtain ⟨b2, g1, rfl⟩ := own_inv hR
              have hlt' : i' < C.m := by simpa [Nat.blt_eq] using hlt
              exact .own _ _ b2 (by rw [ehd _ hlt', ← hhd0 _ hlt']; exact g1)
            · exact hE.elim
          · split at hE
            · rename_i i' hs'
              obtain ⟨rfl, hlt⟩ := hE
              rw [hs'] at hR
              have hlt' : i' < C.m := by simpa [Nat.blt_eq] using hlt
              cases hR with | row _ _ g1 g2 => exact .row _ _ (by rw [ehd _ hlt', ← hhd0 _ hlt']; exact g1) g2
            · exact hE.elim
          · exact hE.elim
        · exact he.elim
      | row T sz n f =>
        simp only [obEnd] at he
        split at he
        · rename_i T' sz' n' f' hob
          obtain ⟨rfl, rfl, rfl, he⟩ := he
          obtain ⟨v0, xs, u, hh, hw, hmax, hl, hc, hee⟩ := row_inv (h.ob _ _ hob)
          refine (ORep.row _ _ _ f v0 xs u (by rw [ehd k hk, ← hhd0 k hk]; exact hh) hw hmax (fun q hq => by rw [← he q hq]; exact hl q hq) (fun q r s hq hs => hc q r s hq (by rw [he q hq]; exact hs)) (fun q r s hq hs => (hee q r s hq (by rw [he q hq]; exact hs)).mono fun b cs hb => endEnv_mem hb) : ORep (endEnv E st w C.m) w k _).world fun b hb => ?_
          rcases hw.2 with ⟨rfl, _⟩ | ⟨g, cap, cur, rfl, _, hg, _⟩
          · have : (endEnv E st w C.m).blk k = none := by simp [Env.blk, ehd k hk, ← hhd0 k hk, hh, blockOf]
            rw [this] at hb; cases hb
          · have : (endEnv E st w C.m).blk k = some g := by simp [Env.blk, ehd k hk, ← hhd0 k hk, hh, blockOf]
            rw [this] at hb; cases hb
            exact hsc _ _ _ hg
        · exact he.elim
  · rw [stOf_obj] at ho ho'
    have hi := objLt i o ho
    have hj := objLt j o' ho'
    obtain ⟨o1, h1⟩ := obj0 i hi
    obtain ⟨o2, h2⟩ := obj0 j hj
    rw [eblk i hi] at hb; rw [eblk j hj] at hb'
    exact h0.sep i j o1 o2 b h1 h2 hb hb'
  · rw [stOf_obj] at ho
    have hi := objLt i o ho
    obtain ⟨o1, h1⟩ := obj0 i hi
    rw [eblk i hi] at hb
    have hlt := (h0.ob i o1 h1).blk_lt hb
    obtain ⟨g1, g2, g3⟩ := h0.own i o1 b h1 hb
    refine ⟨?_, g2, g3.imp_left (hmine b)⟩
    have hE : E.mem b = none := by
      cases hm2 : E.mem b with
      | none => rfl
      | some cs =>
        rcases h.memnew b cs hm2 with x | x
        · rw [hC] at x; have x' : E0.mem b = some cs := x; rw [g1] at x'; cases x'
        · omega
    simp only [endEnv, hE]
    rw [if_neg]
    rintro ⟨j, oj, hj, hoj, hbj⟩
    have := (h.own j oj b hoj hbj).2.1
    omega
  · simp only [endEnv] at hb
    cases hE : E.mem b with
    | some c =>
      rw [hE] at hb; cases hb
      obtain ⟨T, fr, hw⟩ := h.mem b _ hE
      exact ⟨T, fr, by rw [hcells b _ _ _ hw]; exact hw⟩
    | none =>
      rw [hE] at hb
      simp only at hb
      split at hb
      · split at hb
        · rename_i c T fr hw
          cases hb; exact ⟨T, fr, by rw [hcells b _ _ _ hw]; exact hw⟩
        · cases hb
      · cases hb
  · simp only [endEnv] at hb
    cases hE : E.mem b with
    | some c =>
      rw [hE] at hb; cases hb
      rcases h.memnew b _ hE with x | x
      · rw [hC] at x; exact .inl x
      · exact .inr (by rw [hbase] at x; exact x)
    | none =>
      rw [hE] at hb
      simp only at hb
      split at hb
      · rename_i hex
        obtain ⟨j, oj, hj, hoj, hbj⟩ := hex
        obtain ⟨_, g2, g3⟩ := h.own j oj b hoj hbj
        have g2 := g2.resolve_right (fun x => by omega)
        have g3 := g3.resolve_right (fun x => by omega)
        exact .inr ⟨by rw [hbase] at g2; exact g2, g3⟩
      · cases hb
  · have : ¬ i < C.m := by have : (stOf (S.post a0)).no = (S.post a0).length := rfl; omega
    simp [endEnv, this]
  · rw [hos, h.fr.os, hC]
  · rw [htape, h.fr.tape, hC]
  · rw [hout, h.fr.output, hC]
  · show w0.heap.size ≤ E.ws.heap.size; rw [hEw]; exact Nat.le_refl _
  · show E.ws.heap.size ≤ w1.heap.size; rw [hEw]; omega
  · have hk' : k < E.ws.heap.size := hk
    rw [hEw] at hk'
    have hb' : ¬ E.I k := hbor
    rw [hlow k hk', h.fr.block k hk hb']; rfl

end Go.Sx

namespace Go.Sx
open Go

theorem enumS_look : ∀ (l : List SV) (i k : Nat), look (enumS i l) k = if i ≤ k then l[k - i]? else none
  | [], i, k => by simp [enumS, look]
  | o :: l, i, k => by
    simp only [enumS, look_cons, enumS_look l (i + 1) k]
    by_cases h : i = k
    · subst h; simp
    · rw [if_neg h]
      by_cases h2 : i ≤ k
      · rw [if_pos h2, if_pos (by omega), show k - i = (k - (i + 1)) + 1 by omega]; simp
      · rw [if_neg h2, if_neg (by omega)]

/-- the marks taken, one after the other -/
theorem leaves_marks {P : Program} {fn : Func} {tmps : Array Value} {R : Ending → World → Prop} : ∀ (l : List Nat) (w : World), l.Nodup → (∀ D ∈ l, w.heap[D]? = some (.deferred (some []))) →
    (∀ w1 : World, w1.os = w.os → w1.tape = w.tape → w1.output = w.output → w1.heap.size = w.heap.size → (∀ k, k ∉ l → w1.heap[k]? = w.heap[k]?) → ∃ v, (results fn tmps).run P w1 = .ok v w1 ∧ R (.returned v) w1) →
    LeavesInM Fence.wide 9 P fn tmps R (l.map fun D => { target := .collected D, args := #[] }) .returning w
  | [], w, _, _, h => h w rfl rfl rfl rfl fun _ _ => rfl
  | D :: l, w, hn, hD, h => by
    simp only [List.map_cons]
    refine ⟨by simp, .inl ⟨D, _, rfl, run_takeDeferred (hD D (by simp)), ?_⟩⟩
    have hnd := List.nodup_cons.1 hn
    refine leaves_marks l _ hnd.2 (fun D' hD' => ?_) fun w1 h1 h2 h3 h4 h5 => h w1 (h1.trans rfl) (h2.trans rfl) (h3.trans rfl) (h4.trans (by simp [World.putObj])) fun k hk => ?_
    · rw [World.putObj_heap_other (fun e : D' = D => hnd.1 (e ▸ hD'))]; exact hD D' (by simp [hD'])
    · simp only [List.mem_cons, not_or] at hk
      rw [h5 k hk.2, World.putObj_heap_other hk.1]

theorem fnOk {P : Program} {Tb : Tab} {f : Nat} {fn : Func} {S : Spec} (hm : P.follows .mixedOrders = true) (hTb : Tb.Ok P) (hf : P.funcs[f]? = some fn) (hnm : (fn.name == "runtime.NumGoroutine") = false) (hb : fn.body.isSome = true)
    (h : ∀ a, S.pre a → fnVC P Tb fn S a) : FnOk P f S := by
  refine ⟨⟨fn, hf, hb, hnm⟩, fun a0 hpre E vs w hgl hh hA => ?_⟩
  obtain ⟨⟨h1, h2, h3⟩, hvc⟩ := h a0 hpre
  cases hbody : fn.body with
  | none => rw [hbody] at hb; cases hb
  | some c =>
    simp only [hbody] at hvc
    have hro : S.ro ≤ (S.objs a0).length := Nat.le_of_ble_eq_true h2
    have hlen : (S.args a0).length ≤ fn.ntmps := Nat.le_of_ble_eq_true h1
    obtain ⟨hsz, hrep⟩ := hA
    refine callsIn_wide.1 (callsIn_of_wp_marks (F := Fence.wide) (n := 9) hf hbody trivial ?_ rfl)
    refine vc_ok c { ctxOf w E (S.objs a0) S.ro with nt := fn.ntmps } ⟨P, Tb, fn.ntmps, S.ro, (S.objs a0).length, false, none, S.inl, S.gl⟩ _ hm hTb rfl rfl ⟨rfl, fun l xs hy => (by cases hy), fun _ => ⟨rfl, rfl⟩, fun i b hi hb => ?_, hro, hgl⟩ hro (.inl rfl) _ _ E _ w hvc ⟨?_, fun t => ?_, ?_, (fun D o hD _ => by simp [ctxOf] at hD), [], fun _ => rfl, rfl, List.nodup_nil, by simp⟩ _ ?_
    · have hi' : i < (S.objs a0).length := hi
      exact (hh.ob i _ (by rw [stOf_obj]; exact List.getElem?_eq_getElem hi')).blk_lt hb
    · simp; omega
    · have hget : (entrySt (S.args a0) (S.objs a0)).get t = match (S.args a0)[t]? with | some s => s | none => .any := by
        unfold entrySt St.get
        simp only [enumS_look, Nat.zero_le, if_true, Nat.sub_zero]
        cases (S.args a0)[t]? <;> rfl
      rw [hget]
      cases hs : (S.args a0)[t]? with
      | none => exact .any _
      | some s =>
        have ht : t < vs.size := by rw [hsz]; exact (List.getElem?_eq_some_iff.1 hs).1
        have hu : vs[t]? = some vs[t] := Array.getElem?_eq_getElem ht
        have : (vs ++ Array.replicate (fn.ntmps - vs.size) undef).getD t undef = vs[t] := by
          rw [Array.getD_eq_getD_getElem?, Array.getElem?_append_left ht, hu]; rfl
        rw [this]
        exact hrep t _ s hu hs
    · exact ⟨fun i o ho => hh.ob i o ho, fun i j o o' b ho ho' => hh.sep i j o o' b ho ho', fun i o b ho hb => hh.own i o b ho hb, hh.mem, hh.mem0, hh.memnew, fun i hi => hh.new i hi, hh.base, ⟨hh.fr.os, hh.fr.tape, hh.fr.output, hh.fr.bsz, hh.fr.wsz, hh.fr.wos, hh.fr.isz, hh.fr.block, hh.fr.sync⟩, hh.hd0, hh.mno, hh.mkh, hh.kk⟩
    · intro e st' E' a' w' hq hM
      have main : (match resSV ⟨P, Tb, fn.ntmps, S.ro, (S.objs a0).length, false, none, S.inl, S.gl⟩ st' fn.results.toList with
          | some s => match pubR st' (S.objs a0).length 4 s with
            | some (p, d) => (S.fresh = true → p) ∧ ple d (S.res a0)
            | none => False
          | none => False) ∧ obsEnd st' (S.objs a0).length S.ro (S.objs' a0) →
          LeavesInM Fence.wide 9 P fn a'.tmps (fun e w' => ∃ v E', e = .returned v ∧ PRep (E'.m S.fresh) v (S.res a0) ∧ HRep (ctxOf w E (S.objs a0) S.ro) E' (stOf (S.post a0)) w') a'.defers .returning w' := by
        rintro ⟨hres, hobs⟩
        split at hres
        · rename_i s hs
          split at hres
          · rename_i p d hp
            obtain ⟨v, hv, hrun⟩ := results_run hM hTb hs
            obtain ⟨_, l, _, hl1, hl2, hl3⟩ := hM.marks
            rw [hl1]
            refine leaves_marks l w' hl2 (fun D hD => (hl3 D hD).2) fun w1 g1 g2 g3 g4 g5 => ?_
            have hnot : ∀ (b : Nat) (cs : Array Value) (T : TypeId) (fr : Nat × Nat), w'.heap[b]? = some (Obj.cells cs T fr) → b ∉ l := fun b cs T fr hb hm => by rw [(hl3 b hm).2] at hb; cases hb
            refine ⟨v, hrun w1 (fun b cs T hb => g5 b (hnot b _ _ _ hb)), v, _, rfl, ?_, end_heap hro h3 hh ⟨fn.ntmps, rfl⟩ hM.heap hobs (fun b cs T hb => g5 b (hnot b _ _ _ hb)) (fun k hk => g5 k fun hm => ?_) g1 g2 g3 g4 (fun b cs T fr hb => g5 b (hnot b _ _ _ hb))⟩
            · exact ple_rep hres.2 (pubR_rep hM.heap 4 s p d v hp hv S.fresh hres.1)
            · have := (hl3 k hm).1.1
              have this : w.heap.size ≤ k := this
              omega
          · exact hres.elim
        · exact hres.elim
      cases e with
      | normal => exact main hq
      | ret => exact main hq
      | _ => exact hq.elim

end Go.Sx

namespace Go.Sx
open Go

def seqQ (X : Cfg) (rs : List ResultVar) (n : Nat) : Exit → St → Prop := fun e st =>
  match e with
  | .normal | .ret => (match resSV X st rs with | some _ => True | none => False) ∧ (match st.k with | none => True | some k => k = n)
  | _ => False

/-- the verification condition of an iterator -/
def seqVC (P : Program) (Tb : Tab) (fn : Func) (S : SeqSpec) (a : S.A) : Prop :=
  (((S.capt a).length + 1).ble fn.ntmps = true ∧ ∀ x ∈ S.xs a, ∀ v ∈ x, vOk v = true) ∧ ∀ l : Nat,
    match fn.body with
    | some c => vc c ⟨P, Tb, fn.ntmps, 0, 0, false, some (l, S.xs a), [], []⟩ ⟨enumS 0 (.p false (.val (.func (.yield l) #[] #[])) :: mapP false (S.capt a)), [], 0, some 0⟩ (seqQ ⟨P, Tb, fn.ntmps, 0, 0, false, some (l, S.xs a), [], []⟩ fn.results.toList (S.xs a).length)
    | none => False

theorem seqOk {P : Program} {Tb : Tab} {f : Nat} {fn : Func} {S : SeqSpec} (hm : P.follows .mixedOrders = true) (hTb : Tb.Ok P) (hf : P.funcs[f]? = some fn) (hnm : (fn.name == "runtime.NumGoroutine") = false) (hb : fn.body.isSome = true)
    (h : ∀ a, S.pre a → seqVC P Tb fn S a) : SeqOk P f S := by
  refine ⟨⟨fn, hf, hb, hnm⟩, fun a0 hpre => ?_⟩
  obtain ⟨⟨h1, hvok⟩, hvc⟩ := h a0 hpre
  refine ⟨hvok, fun μ lb hsz hrep => ?_⟩
  intro l J W hstab hy hJ0 hμ
  have hvc := hvc l
  cases hbody : fn.body with
  | none => rw [hbody] at hb; cases hb
  | some c =>
    simp only [hbody] at hvc
    have hlen : (S.capt a0).length + 1 ≤ fn.ntmps := Nat.le_of_ble_eq_true h1
    obtain ⟨C, hC⟩ : ∃ C : Ctx, C = { w0 := W, bor := fun _ => False, mem0 := μ, base := W.heap.size, nt := fn.ntmps, hd0 := fun _ => none, m := 0, ro := 0, kh := 0, wk := { W with heap := #[] }, nm := false, J := J } := ⟨_, rfl⟩
    obtain ⟨E, hE⟩ : ∃ E : Env, E = { hd := fun _ => none, mem := μ, base := W.heap.size, ws := W, I := fun _ => False, k := some 0 } := ⟨_, rfl⟩
    refine callsIn_of_wp_marks (F := Fence.wide) (n := 9) hf hbody trivial ?_ rfl
    refine vc_ok c C ⟨P, Tb, fn.ntmps, 0, 0, false, some (l, S.xs a0), [], []⟩ _ hm hTb (by rw [hC]) (by rw [hC]) ⟨by rw [hC], fun l' xs hx => ?_, fun _ => ⟨rfl, by rw [hC]⟩, fun i b hi hb => by rw [hC] at hi; exact absurd hi (Nat.not_lt_zero _), by rw [hC]; exact Nat.le_refl _, fun p hp => by cases hp⟩ (by rw [hC]; exact Nat.le_refl _) (.inl rfl) _ _ E _ W hvc ⟨?_, fun t => ?_, ?_, fun D o hD _ => by rw [hC] at hD; simp at hD, [], fun _ => rfl, rfl, List.nodup_nil, by simp⟩ _ ?_
    · cases hx
      refine ⟨⟨fun k x I W1 hx hJ => ?_, by rw [hC]; exact hstab, by rw [hC], by rw [hC], by rw [hC]⟩, rfl⟩
      have := hy k x.toArray I W1 (by rw [List.getElem?_map, hx]; rfl) (by rw [hC] at hJ; exact hJ)
      rw [hC]; exact this
    · rw [hC]; simp; omega
    · have hget : St.get ⟨enumS 0 (.p false (.val (.func (.yield l) #[] #[])) :: mapP false (S.capt a0)), [], 0, some 0⟩ t = match (SV.p false (.val (.func (.yield l) #[] #[])) :: mapP false (S.capt a0))[t]? with | some s => s | none => .any := by
        unfold St.get
        simp only [enumS_look, Nat.zero_le, if_true, Nat.sub_zero]
        cases (SV.p false (.val (.func (.yield l) #[] #[])) :: mapP false (S.capt a0))[t]? <;> rfl
      rw [hget]
      cases t with
      | zero =>
        have : (#[Value.func (.yield l) #[] #[]] ++ lb ++ Array.replicate (fn.ntmps - (#[Value.func (.yield l) #[] #[]] ++ lb).size) undef).getD 0 undef = .func (.yield l) #[] #[] := by
          rw [Array.getD_eq_getD_getElem?, Array.getElem?_append_left (by simp; omega), Array.getElem?_append_left (by simp)]; rfl
        rw [this]
        exact .val _ _
      | succ t =>
        simp only [List.getElem?_cons_succ]
        rw [mapP_get]
        cases hs : (S.capt a0)[t]? with
        | none => exact .any _
        | some s =>
          have ht : t < lb.size := by rw [hsz]; exact (List.getElem?_eq_some_iff.1 hs).1
          have hu : lb[t]? = some lb[t] := Array.getElem?_eq_getElem ht
          have : (#[Value.func (.yield l) #[] #[]] ++ lb ++ Array.replicate (fn.ntmps - (#[Value.func (.yield l) #[] #[]] ++ lb).size) undef).getD (t + 1) undef = lb[t] := by
            rw [Array.getD_eq_getD_getElem?, Array.getElem?_append_left (by simp; omega), Array.getElem?_append_right (by simp)]
            simp [hu]
          rw [this]
          refine .p _ _ _ ?_
          have := hrep t _ s hu hs
          rw [hE]; exact this
    · refine ⟨fun i o ho => ?_, fun i j o o' b ho => ?_, fun i o b ho => ?_, fun b cs hb => ?_, fun b cs hb => ?_, fun b cs hb => ?_, fun i _ => by rw [hE], by rw [hE, hC], ⟨by rw [hC], by rw [hC], by rw [hC], by rw [hC, hE]; exact Nat.le_refl _, by rw [hE]; exact Nat.le_refl _, by rw [hE, hC]; exact ⟨rfl, rfl, rfl⟩, fun b hb => by rw [hE] at hb; exact hb.elim, fun k _ _ => by rw [hE], by rw [hE, hC]; exact hJ0⟩, fun k hk => by rw [hC] at hk; exact absurd hk (Nat.not_lt_zero _), by rw [hC]; exact Nat.le_refl _, by rw [hC]; exact Nat.le_refl _, by rw [hE]⟩
      · cases ho
      · cases ho
      · cases ho
      · rw [hE] at hb; exact hμ b cs hb
      · rw [hC] at hb; rw [hE]; exact hb
      · rw [hE] at hb; rw [hC]; exact .inl hb
    · intro e st' E' a' w' hq hM
      have main : (match resSV ⟨P, Tb, fn.ntmps, 0, 0, false, some (l, S.xs a0), [], []⟩ st' fn.results.toList with | some _ => True | none => False) ∧ (match st'.k with | none => True | some k => k = (S.xs a0).length) →
          LeavesInM Fence.wide 9 P fn a'.tmps (fun e W' => (∃ v, e = .returned v) ∧ ∃ I k, J k I W' ∧ (k = some ((S.xs a0).map List.toArray).length ∨ k = none)) a'.defers .returning w' := by
        rintro ⟨hres, hk⟩
        split at hres
        · rename_i s hs
          obtain ⟨v, hv, hrun⟩ := results_run hM hTb hs
          obtain ⟨_, l, _, hl1, hl2, hl3⟩ := hM.marks
          rw [hl1]
          refine leaves_marks l w' hl2 (fun D hD => (hl3 D hD).2) fun w1 g1 g2 g3 g4 g5 => ?_
          have hnot : ∀ (b : Nat) (cs : Array Value) (T : TypeId) (fr : Nat × Nat), w'.heap[b]? = some (Obj.cells cs T fr) → b ∉ l := fun b cs T fr hb hm => by rw [(hl3 b hm).2] at hb; cases hb
          refine ⟨v, hrun w1 (fun b cs T hb => g5 b (hnot b _ _ _ hb)), ⟨v, rfl⟩, fun b => E'.I b ∨ (E'.ws.heap.size ≤ b ∧ b < w1.heap.size), E'.k, ?_, ?_⟩
          · have hF := hM.heap.fr
            have hs := hF.sync
            rw [hC] at hs
            have hwos := hF.wos
            refine hstab _ _ _ _ _ hs (fun b hb => .inl hb) (fun b hb => hb.imp id (fun x => x.1)) (fun b hb => hb.elim (fun x => ?_) (fun x => x.2)) ?_ ?_ ?_ (by rw [g4]; exact hF.wsz) (fun b hb hn => ?_)
            · rw [g4]; exact Nat.lt_of_lt_of_le (hF.isz b x) hF.wsz
            · rw [g1, hF.os, hwos.1]
            · rw [g2, hF.tape, hwos.2.1]
            · rw [g3, hF.output, hwos.2.2]
            · rw [g5 b (fun hm => by
                have := (hl3 b hm).1.2
                unfold Env.mine at this
                exact this.elim (fun y => by omega) hn)]
              exact hF.block b hb hn
          · have hkk := hM.heap.kk
            rw [hkk]
            split at hk
            · rename_i e; rw [e]; exact .inr rfl
            · rename_i k e; rw [e, hk]; left; simp
        · exact hres.elim
      cases e with
      | normal => exact main hq
      | ret => exact main hq
      | _ => exact hq.elim

end Go.Sx

namespace Go.Sx
open Go

def descParts (P : Program) (t : Nat) : Option (Option (List (Nat × Nat) × Bool × Bool) × Bool) :=
  (P.underlying t).map fun d => match d with
    | .struct fs => (some (fieldPlaces fs, fs.all (fun f => f.name != "_"), fs.all (fun f => (P.info? f.type).isSome)), false)
    | .array _ _ => (none, false)
    | _ => (none, true)
def infoParts (P : Program) (t : Nat) : Option (Option Value × Nat × Nat) := (P.info? t).map fun i => (i.zero, i.size, i.bytes)

theorem TI.mk' {P : Program} {t : Nat} {d : TD} {size bytes : Nat} {z : Value} {zs : List Value} (hd : d.Ok P t) (hi : infoParts P t = some (some z, size, bytes)) (hz : z.cells.toList = zs)
    (h1 : zs.all (fun u => u.oneCell') = true) (hs : zs.length = size) : TI.Ok P t ⟨d, size, bytes, zs⟩ := by
  unfold infoParts at hi
  obtain ⟨I, hI, he⟩ := Option.map_eq_some_iff.1 hi
  simp only [Prod.mk.injEq] at he
  refine ⟨hd, I, hI, he.2.1, he.2.2, z, he.1, hz, fun k u hu => ?_, ?_⟩
  · have : u ∈ zs := by rw [← hz]; exact List.mem_of_getElem? (by simpa using hu)
    exact List.all_eq_true.1 h1 u this
  · have h : z.cells.size = zs.length := by rw [← hz]; simp
    exact h.trans hs
theorem TD.mkOther {P : Program} {t : Nat} (h : (descParts P t).map (·.2) = some true) : TD.other.Ok P t := by
  unfold descParts at h
  cases hu : P.underlying t with
  | none => rw [hu] at h; cases h
  | some d =>
    rw [hu] at h
    refine ⟨d, hu, fun fs e => ?_, fun n e e' => ?_⟩ <;> · subst_vars; cases h
theorem TD.mkStruct {P : Program} {t : Nat} {l : List (Nat × Nat)} (h : (descParts P t).map (·.1) = some (some (l, true, true))) (h2 : P.stoodInHeld t = false) (h3 : P.eqGuardType P.depth t = false) : (TD.struct l).Ok P t := by
  unfold descParts at h
  cases hu : P.underlying t with
  | none => rw [hu] at h; cases h
  | some d =>
    rw [hu] at h
    cases d with
    | struct fs =>
      simp only [Option.map_some, Option.some.injEq, Prod.mk.injEq] at h
      exact ⟨fs, hu, h.1, h2, h.2.1, h3, h.2.2⟩
    | _ => simp at h
theorem Tab.ok_nil {P : Program} : Tab.Ok P [] := fun t i h => by cases h
theorem Tab.ok_cons {P : Program} {k : Nat} {i : TI} {l : Tab} (h : TI.Ok P k i) (hl : Tab.Ok P l) : Tab.Ok P ((k, i) :: l) := fun t j hj => by
  rw [look_cons] at hj
  split at hj
  · rename_i e; cases hj; exact e ▸ h
  · exact hl t j hj
end Go.Sx

namespace Go.Sx
open Go

abbrev U := BitVec 64

theorem uLt (x : U) : x.toNat < 18446744073709551616 := x.isLt
theorem u_and (x y : U) : bits .and .u64 (x.toNat : Int) (y.toNat : Int) = ((x &&& y).toNat : Int) := by
  rw [u64_and_nat _ _ (uLt x) (uLt y), BitVec.toNat_and]
theorem u_or (x y : U) : bits .or .u64 (x.toNat : Int) (y.toNat : Int) = ((x ||| y).toNat : Int) := by
  rw [u64_or_nat _ _ (uLt x) (uLt y), BitVec.toNat_or]
theorem u_xor (x y : U) : bits .xor .u64 (x.toNat : Int) (y.toNat : Int) = ((x ^^^ y).toNat : Int) := by
  rw [u64_xor_nat _ _ (uLt x) (uLt y), BitVec.toNat_xor]
theorem u_andNot (x y : U) : bits .andNot .u64 (x.toNat : Int) (y.toNat : Int) = ((x &&& ~~~y).toNat : Int) := by
  rw [u64_andNot_nat _ _ (uLt x) (uLt y), BitVec.toNat_and, BitVec.toNat_not]
theorem u_wrap_nat (n : Nat) : IntKind.u64.wrap (n : Int) = ((BitVec.ofNat 64 n).toNat : Int) := by
  rw [IntKind.wrap_u64, BitVec.toNat_ofNat]; omega
theorem u_add (x y : U) : IntKind.u64.wrap ((x.toNat : Int) + (y.toNat : Int)) = ((x + y).toNat : Int) := by
  rw [IntKind.wrap_u64, BitVec.toNat_add]; omega
theorem u_sub (x y : U) : IntKind.u64.wrap ((x.toNat : Int) - (y.toNat : Int)) = ((x - y).toNat : Int) := by
  rw [IntKind.wrap_u64, BitVec.toNat_sub]; have := uLt x; have := uLt y; omega
theorem u_shl (x : U) (k : Nat) : IntKind.u64.wrap ((x.toNat : Int) * 2 ^ (min k IntKind.u64.bits)) = ((x <<< k).toNat : Int) := by
  have e : ((x.toNat : Int) * 2 ^ (min k IntKind.u64.bits)) = ((x.toNat * 2 ^ (min k 64) : Nat) : Int) := by simp [IntKind.bits]
  rw [e, IntKind.wrap_u64, BitVec.toNat_shiftLeft, Nat.shiftLeft_eq]
  rcases Nat.lt_or_ge k 64 with h | h
  · rw [Nat.min_eq_left (by omega)]; omega
  · rw [Nat.min_eq_right h]
    obtain ⟨j, rfl⟩ : ∃ j, k = 64 + j := ⟨k - 64, by omega⟩
    have : x.toNat * 2 ^ (64 + j) = (x.toNat * 2 ^ j) * 18446744073709551616 := by rw [Nat.pow_add, Nat.mul_comm (2 ^ 64), ← Nat.mul_assoc]
    rw [this]; omega
theorem u_shr (x : U) (k : Nat) : ((x.toNat : Int)).fdiv (2 ^ (min k IntKind.u64.bits)) = ((x >>> k).toNat : Int) := by
  have e : ((2 : Int) ^ (min k IntKind.u64.bits)) = ((2 ^ (min k 64) : Nat) : Int) := by simp [IntKind.bits]
  rw [e, Int.fdiv_eq_ediv_of_nonneg _ (Int.natCast_nonneg _), ← Int.natCast_ediv, BitVec.toNat_ushiftRight, Nat.shiftRight_eq_div_pow]
  rcases Nat.lt_or_ge k 64 with h | h
  · rw [Nat.min_eq_left (by omega)]
  · rw [Nat.min_eq_right h]
    have h1 : x.toNat / 2 ^ 64 = 0 := Nat.div_eq_of_lt x.isLt
    have h2 : x.toNat / 2 ^ k = 0 := Nat.div_eq_of_lt (Nat.lt_of_lt_of_le x.isLt (Nat.pow_le_pow_right (by omega) h))
    rw [h1, h2]
theorem u_inj {x y : U} : ((x.toNat : Int) = (y.toNat : Int)) ↔ x = y := by
  constructor
  · intro h; exact BitVec.eq_of_toNat_eq (by omega)
  · intro h; rw [h]
theorem u_beq (x y : U) : ((x.toNat : Int) == (y.toNat : Int)) = (x == y) := by
  rw [Bool.eq_iff_iff]; simp [u_inj]
theorem u_bne (x y : U) : ((x.toNat : Int) != (y.toNat : Int)) = (x != y) := by
  simp [bne, u_beq]
theorem u_lt (x y : U) : decide ((x.toNat : Int) < (y.toNat : Int)) = decide (x < y) := by
  simp [BitVec.lt_def]
theorem u_le (x y : U) : decide ((x.toNat : Int) ≤ (y.toNat : Int)) = decide (x ≤ y) := by
  simp [BitVec.le_def]
theorem u_wrap_self (x : U) : IntKind.u64.wrap (x.toNat : Int) = (x.toNat : Int) := by
  rw [IntKind.wrap_u64]; have := uLt x; omega
theorem i_wrap {n : Int} (h1 : -9223372036854775808 ≤ n) (h2 : n < 9223372036854775808) : IntKind.i64.wrap n = n := by
  simp [IntKind.wrap, IntKind.bits, IntKind.signed]; omega
theorem u_beq0 (x : U) : ((x.toNat : Int) == 0) = (x == 0#64) := u_beq x 0#64
theorem u_bne0 (x : U) : ((x.toNat : Int) != 0) = (x != 0#64) := u_bne x 0#64
theorem u_beq1 (x : U) : ((x.toNat : Int) == 1) = (x == 1#64) := u_beq x 1#64
theorem u_bne1 (x : U) : ((x.toNat : Int) != 1) = (x != 1#64) := u_bne x 1#64
theorem u_and1 (x : U) : bits .and .u64 (x.toNat : Int) 1 = ((x &&& 1#64).toNat : Int) := u_and x 1#64
theorem u_add1 (x : U) : IntKind.u64.wrap ((x.toNat : Int) + 1) = ((x + 1#64).toNat : Int) := u_add x 1#64
theorem u_sub1 (x : U) : IntKind.u64.wrap ((x.toNat : Int) - 1) = ((x - 1#64).toNat : Int) := u_sub x 1#64
theorem u_shl1 (k : Nat) : IntKind.u64.wrap (1 * 2 ^ (min k IntKind.u64.bits)) = ((1#64 <<< k).toNat : Int) := u_shl 1#64 k
theorem u_beq0' (x : U) : ((x.toNat : Int) = 0) = (x = 0#64) := propext (u_inj (x := x) (y := 0#64))
theorem u_beq1' (x : U) : ((x.toNat : Int) = 1) = (x = 1#64) := propext (u_inj (x := x) (y := 1#64))
theorem u_inj' (x y : U) : ((x.toNat : Int) = (y.toNat : Int)) = (x = y) := propext u_inj
theorem u_wrap_int (n : Int) : IntKind.u64.wrap n = ((BitVec.ofInt 64 n).toNat : Int) := by
  rw [IntKind.wrap_u64, BitVec.toNat_ofInt]; omega
theorem and_one_eq (x : U) (k : Nat) : (x >>> k &&& 1#64 == 1#64) = x.getLsbD k := by
  rw [Bool.eq_iff_iff, beq_iff_eq]
  constructor
  · intro h
    have := congrArg (fun b : U => b.getLsbD 0) h
    simpa using this
  · intro h
    apply BitVec.eq_of_getLsbD_eq
    intro i hi
    simp only [BitVec.getLsbD_and, BitVec.getLsbD_ushiftRight, BitVec.getLsbD_one]
    by_cases h0 : i = 0
    · subst h0; simp [h]
    · simp [h0]
theorem and_one_zero (x : U) (k : Nat) : (x >>> k &&& 1#64 == 0#64) = !x.getLsbD k := by
  rw [Bool.eq_iff_iff, beq_iff_eq]
  constructor
  · intro h
    have := congrArg (fun b : U => b.getLsbD 0) h
    simpa using this
  · intro h
    apply BitVec.eq_of_getLsbD_eq
    intro i hi
    simp only [BitVec.getLsbD_and, BitVec.getLsbD_ushiftRight, BitVec.getLsbD_one, BitVec.getLsbD_zero]
    by_cases h0 : i = 0
    · subst h0; simpa using h
    · simp [h0]
end Go.Sx

namespace Go.Sx
open Go Go.RowKit

theorem toPV_rep {μ : Nat → Option (Array Value)} {v : Value} (h : vOk v = true) : PRep μ v (toPV v) := by
  cases v with
  | agg cs =>
    refine .agg cs _ (by simp) (fun k u hu => ?_) (fun k u s hu hs => ?_)
    · exact List.all_eq_true.1 h u (List.mem_of_getElem? (by simpa using hu))
    · simp only [List.getElem?_map, Array.getElem?_toList, hu, Option.map_some, Option.some.injEq] at hs
      subst hs; exact .val u
  | _ => exact .val _

theorem HRep.below {C : Ctx} {E : Env} {st : St} {w w' : World} (h : HRep C E st w) (hb : Below w.heap.size w w') : HRep C E st w' := by
  refine ⟨fun i o ho => (h.ob i o ho).world fun b hbk => hb.block b ((h.ob i o ho).blk_lt hbk), h.sep, h.own, fun b cs hm => ?_, h.mem0, h.memnew, h.new, h.base, ⟨hb.os.trans h.fr.os, hb.tape.trans h.fr.tape, hb.output.trans h.fr.output, h.fr.bsz, Nat.le_trans h.fr.wsz hb.size, h.fr.wos, h.fr.isz, fun k hk hI => ?_, h.fr.sync⟩, h.hd0, h.mno, h.mkh, h.kk⟩
  · obtain ⟨T, fr, hw⟩ := h.mem b cs hm
    exact ⟨T, fr, (hb.block b (Array.getElem?_eq_some_iff.1 hw).1).trans hw⟩
  · rw [hb.block k (Nat.lt_of_lt_of_le hk h.fr.wsz)]; exact h.fr.block k hk hI

/-- a function of plain values, whose contract is known, with what its result is as data -/
theorem fnOk_glv {gl : List (Nat × Array Value)} {P : Program} {f : Nat} {fn : Func} (hf : P.funcs[f]? = some fn) (hb : fn.body.isSome = true) (hnm : (fn.name == "runtime.NumGoroutine") = false) {α : Type} {vals : α → List Value} {pre : α → Prop} {ret : α → Value} {pv : α → PV}
    (hv : ∀ a, pre a → ∀ μ, PRep μ (ret a) (pv a)) (h : ∀ a, pre a → ∀ w : World, (∀ p ∈ gl, ∃ T fr, w.heap[p.1]? = some (.cells p.2 T fr)) → Calls P f (vals a).toArray w fun e w' => e = .returned (ret a) ∧ Below w.heap.size w w') :
    FnOk P f { A := α, args := fun a => (vals a).map fun v => .p false (toPV v), objs := fun _ => [], pre := pre, res := pv, objs' := fun _ => [], fresh := true, ro := 0, gl := gl } := by
  refine ⟨⟨fn, hf, hb, hnm⟩, fun a hpre E vs w hgl hh hA => ?_⟩
  have hvs : vs = (vals a).toArray := by
    obtain ⟨h1, h2⟩ := hA
    have h1 : vs.size = (vals a).length := h1.trans (by simp)
    apply Array.ext_getElem?
    intro k
    rcases Nat.lt_or_ge k vs.size with hk | hk
    · have hk2 : k < (vals a).length := by omega
      have hs := h2 k vs[k] (.p false (toPV (vals a)[k])) (Array.getElem?_eq_getElem hk) (by show (List.map _ (vals a))[k]? = _; rw [List.getElem?_map, List.getElem?_eq_getElem hk2]; rfl)
      rw [Array.getElem?_eq_getElem hk]
      have hp : ∀ {u : Value} {d : PV}, SRep E u (.p false d) → PRep (E.m false) u d := fun hx => by cases hx with | p _ _ _ hp => exact hp
      rw [toPV_inv (hp hs)]; simp [hk2]
    · rw [Array.getElem?_eq_none hk]
      have : (vals a).length ≤ k := by omega
      simp [this]
  subst hvs
  exact (h a hpre w fun p hp => hh.mem _ _ (hgl p hp)).mono fun e w' ⟨he, hw⟩ => ⟨ret a, E, he, hv a hpre _, hh.below hw⟩
/-- a function of plain values, whose contract is known -/
theorem fnOk_gl {gl : List (Nat × Array Value)} {P : Program} {f : Nat} {fn : Func} (hf : P.funcs[f]? = some fn) (hb : fn.body.isSome = true) (hnm : (fn.name == "runtime.NumGoroutine") = false) {α : Type} {vals : α → List Value} {pre : α → Prop} {ret : α → Value}
    (hv : ∀ a, pre a → vOk (ret a) = true) (h : ∀ a, pre a → ∀ w : World, (∀ p ∈ gl, ∃ T fr, w.heap[p.1]? = some (.cells p.2 T fr)) → Calls P f (vals a).toArray w fun e w' => e = .returned (ret a) ∧ Below w.heap.size w w') :
    FnOk P f { A := α, args := fun a => (vals a).map fun v => .p false (toPV v), objs := fun _ => [], pre := pre, res := fun a => toPV (ret a), objs' := fun _ => [], fresh := true, ro := 0, gl := gl } :=
  fnOk_glv hf hb hnm (fun a hp _ => toPV_rep (hv a hp)) h
theorem fnOk_pure {P : Program} {f : Nat} {fn : Func} (hf : P.funcs[f]? = some fn) (hb : fn.body.isSome = true) (hnm : (fn.name == "runtime.NumGoroutine") = false) {α : Type} {vals : α → List Value} {pre : α → Prop} {ret : α → Value}
    (hv : ∀ a, pre a → vOk (ret a) = true) (h : ∀ a, pre a → ∀ w : World, Calls P f (vals a).toArray w fun e w' => e = .returned (ret a) ∧ Below w.heap.size w w') :
    FnOk P f { A := α, args := fun a => (vals a).map fun v => .p false (toPV v), objs := fun _ => [], pre := pre, res := fun a => toPV (ret a), objs' := fun _ => [], fresh := true, ro := 0 } :=
  fnOk_gl (gl := []) hf hb hnm hv fun a hp w _ => h a hp w

end Go.Sx

namespace Go.Sx
open Go

theorem bcase_p {t : Bool} {A B : Prop} {p : Prop} (e : t = true ↔ p) (h : p → A) (h' : ¬ p → B) : bcase t A B := by
  refine bcase_intro (fun ht => h (e.1 ht)) (fun ht => h' fun hp => ?_)
  rw [e.2 hp] at ht; cases ht
theorem bcase_n {t : Bool} {A B : Prop} {p : Prop} (e : t = true ↔ ¬ p) (h : ¬ p → A) (h' : p → B) : bcase t A B :=
  bcase_p e h fun hh => h' (Classical.byContradiction hh)
theorem bcase_b {t b : Bool} {A B : Prop} (e : t = b) (h : b = true → A) (h' : b = false → B) : bcase t A B :=
  bcase_intro (fun ht => h (e ▸ ht)) (fun ht => h' (e ▸ ht))
theorem bif_lt {a b : Int} {p : Prop} (h : a < b ↔ p) : decide (a < b) = true ↔ p := decide_eq_true_iff.trans h
theorem bif_le {a b : Int} {p : Prop} (h : a ≤ b ↔ p) : decide (a ≤ b) = true ↔ p := decide_eq_true_iff.trans h
theorem bif_eq {a b : Int} {p : Prop} (h : a = b ↔ p) : (a == b) = true ↔ p := (beq_iff_eq).trans h
theorem bif_ne {a b : Int} {p : Prop} (h : ¬ a = b ↔ p) : (a != b) = true ↔ p := (bne_iff_ne).trans h
theorem bif_not {b : Bool} {p : Prop} (h : b = false ↔ p) : (!b) = true ↔ p := by cases b <;> simpa using h
theorem wr1 {k : Nat} (h : k < 4611686018427387904) : IntKind.i64.wrap ((k : Int) + 1) = ((k + 1 : Nat) : Int) := by
  rw [i_wrap (by omega) (by omega)]; rfl
theorem wrs1 {k : Nat} (h : 0 < k) (h2 : k < 4611686018427387904) : IntKind.i64.wrap ((k : Int) - 1) = ((k - 1 : Nat) : Int) := by
  rw [i_wrap (by omega) (by omega)]; omega
theorem wrI {n : Int} (h1 : -9223372036854775808 ≤ n) (h2 : n < 9223372036854775808) : IntKind.i64.wrap n = n := i_wrap h1 h2
/-- a 1 at bit k, as a number of the machine -/
theorem i_shl1 {k : Nat} (h : k ≤ 61) : IntKind.i64.wrap (1 * 2 ^ (min k IntKind.i64.bits)) = ((2 ^ k : Nat) : Int) := by
  have h1 : min k IntKind.i64.bits = k := Nat.min_eq_left (by show k ≤ 64; omega)
  have h2 : (2 : Nat) ^ k ≤ 2 ^ 61 := Nat.pow_le_pow_right (by omega) h
  rw [h1, Int.one_mul, i_wrap]
  · simp
  · have : (0 : Int) ≤ 2 ^ k := Int.pow_nonneg (by omega)
    omega
  · have : ((2 ^ k : Nat) : Int) ≤ ((2 ^ 61 : Nat) : Int) := by exact_mod_cast h2
    have e : ((2 ^ k : Nat) : Int) = (2 : Int) ^ k := by simp
    rw [← e]; omega

end Go.Sx
namespace Go.Sx
open Go
theorem b8_eq {x y : UInt8} {n : Int} (h : (y.toNat : Int) = n) : (((x.toNat : Nat) : Int) == n) = true ↔ x = y := by
  rw [beq_iff_eq, ← h]
  constructor
  · intro e; exact UInt8.toNat_inj.1 (by omega)
  · rintro rfl; rfl
theorem b8_ne {x y : UInt8} {n : Int} (h : (y.toNat : Int) = n) : (((x.toNat : Nat) : Int) != n) = true ↔ ¬ x = y := by
  rw [← b8_eq h (x := x)]; simp

/-- a string of bytes -/
def strOf (l : List UInt8) : ByteArray := ⟨l.toArray⟩
def bAt (l : List UInt8) (k : Nat) : UInt8 := (strOf l).data.getD k 0
theorem bAt_eq (l : List UInt8) (k : Nat) : bAt l k = l.getD k 0 := by simp [bAt, strOf]
theorem strOf_size (l : List UInt8) : (strOf l).size = l.length := by simp [strOf, ByteArray.size]
theorem strOf_get {l : List UInt8} {k : Nat} (h : k < l.length) : (strOf l)[k]? = some (bAt l k) := by
  have hs : k < (strOf l).size := by rw [strOf_size]; exact h
  rw [getElem?_pos (strOf l) k hs, bAt_eq]
  simp [strOf, ByteArray.getElem_eq_getElem_data, List.getD, h]
theorem strOf_append (a b : List UInt8) : strOf a ++ strOf b = strOf (a ++ b) := by
  apply ByteArray.ext
  simp [strOf, ByteArray.data_append]
theorem strOf_inj {a b : List UInt8} (h : strOf a = strOf b) : a = b := by
  have := congrArg (fun s : ByteArray => s.data.toList) h
  simpa [strOf] using this
theorem strOf_toList (s : ByteArray) : strOf s.data.toList = s := by simp [strOf]
theorem strOf_eqv (a b : List UInt8) : ((strOf a).data.toList == (strOf b).data.toList) = (a == b) := by simp [strOf]
theorem bCell_strOf (l : List UInt8) (k : Nat) : bCell (strOf l) k = [.val (.int .u8 (bAt l k).toNat)] := rfl
end Go.Sx
namespace Go.Sx
open Go
theorem i_wrap_nat {x : Nat} (h : x < 9223372036854775808) : IntKind.i64.wrap (x : Int) = (x : Int) := i_wrap (by omega) (by omega)
theorem i_and {a b : Nat} (ha : a < 9223372036854775808) : bits .and .i64 (a : Int) (b : Int) = ((BitVec.ofNat 64 a &&& BitVec.ofNat 64 b).toNat : Int) := by
  show IntKind.i64.wrap ((BitVec.ofInt 64 (a : Int) &&& BitVec.ofInt 64 (b : Int)).toNat : Int) = _
  rw [BitVec.ofInt_natCast, BitVec.ofInt_natCast]
  refine i_wrap_nat ?_
  rw [BitVec.toNat_and]
  refine Nat.lt_of_le_of_lt Nat.and_le_left ?_
  rw [BitVec.toNat_ofNat]; omega
theorem i_andNot {a b : Nat} (ha : a < 9223372036854775808) : bits .andNot .i64 (a : Int) (b : Int) = ((BitVec.ofNat 64 a &&& ~~~ BitVec.ofNat 64 b).toNat : Int) := by
  show IntKind.i64.wrap ((BitVec.ofInt 64 (a : Int) &&& ~~~ BitVec.ofInt 64 (b : Int)).toNat : Int) = _
  rw [BitVec.ofInt_natCast, BitVec.ofInt_natCast]
  refine i_wrap_nat ?_
  rw [BitVec.toNat_and]
  refine Nat.lt_of_le_of_lt Nat.and_le_left ?_
  rw [BitVec.toNat_ofNat]; omega
theorem i_or {a b : Nat} (ha : a < 9223372036854775808) (hb : b < 9223372036854775808) : bits .or .i64 (a : Int) (b : Int) = ((a ||| b : Nat) : Int) := by
  show IntKind.i64.wrap ((BitVec.ofInt 64 (a : Int) ||| BitVec.ofInt 64 (b : Int)).toNat : Int) = _
  have e1 : (BitVec.ofNat 64 a).toNat = a := by rw [BitVec.toNat_ofNat]; omega
  have e2 : (BitVec.ofNat 64 b).toNat = b := by rw [BitVec.toNat_ofNat]; omega
  rw [BitVec.ofInt_natCast, BitVec.ofInt_natCast, BitVec.toNat_or, e1, e2]
  exact i_wrap_nat (Nat.or_lt_two_pow (n := 63) ha hb)
theorem i_xor {a b : Nat} (ha : a < 9223372036854775808) (hb : b < 9223372036854775808) : bits .xor .i64 (a : Int) (b : Int) = ((a ^^^ b : Nat) : Int) := by
  show IntKind.i64.wrap ((BitVec.ofInt 64 (a : Int) ^^^ BitVec.ofInt 64 (b : Int)).toNat : Int) = _
  have e1 : (BitVec.ofNat 64 a).toNat = a := by rw [BitVec.toNat_ofNat]; omega
  have e2 : (BitVec.ofNat 64 b).toNat = b := by rw [BitVec.toNat_ofNat]; omega
  rw [BitVec.ofInt_natCast, BitVec.ofInt_natCast, BitVec.toNat_xor, e1, e2]
  exact i_wrap_nat (Nat.xor_lt_two_pow (n := 63) ha hb)
/- bits of words -/
theorem shl1_bit {k : Nat} (hk : k < 64) (i : Nat) : (1#64 <<< k).getLsbD i = decide (i = k) := by
  rw [BitVec.getLsbD_shiftLeft, BitVec.getLsbD_one]
  by_cases e : i = k
  · subst e; simp [hk]
  · by_cases h : i < k
    · simp [h, e]
    · have h2 : i - k ≠ 0 := by omega
      simp [e, h2]
theorem eq0_iff (x : U) : x = 0#64 ↔ ∀ i, i < 64 → x.getLsbD i = false := by
  constructor
  · rintro rfl i _; exact BitVec.getLsbD_zero
  · intro h
    apply BitVec.eq_of_getLsbD_eq
    intro i hi; rw [h i hi, BitVec.getLsbD_zero]
theorem ne0_iff (x : U) : x ≠ 0#64 ↔ ∃ i, i < 64 ∧ x.getLsbD i = true := by
  rw [ne_eq, eq0_iff]
  constructor
  · intro h
    apply Classical.byContradiction
    intro hn
    exact h fun i hi => by
      cases hx : x.getLsbD i with
      | false => rfl
      | true => exact absurd ⟨i, hi, hx⟩ hn
  · rintro ⟨i, hi, hx⟩ h
    rw [h i hi] at hx; cases hx
end Go.Sx
namespace Go.Sx
open Go
theorem wrap_z : IntKind.i64.wrap 0 = 0 := rfl
end Go.Sx
namespace Go.Sx
open Go
theorem zA (x y : U) : bits .and .u64 (x.toNat : Int) (y.toNat : Int) = ((x &&& y).toNat : Int) := u_and x y
theorem zB (x y : U) : bits .or .u64 (x.toNat : Int) (y.toNat : Int) = ((x ||| y).toNat : Int) := u_or x y
theorem zC (x y : U) : bits .xor .u64 (x.toNat : Int) (y.toNat : Int) = ((x ^^^ y).toNat : Int) := u_xor x y
theorem zD (x y : U) : bits .andNot .u64 (x.toNat : Int) (y.toNat : Int) = ((x &&& ~~~y).toNat : Int) := u_andNot x y
theorem zE (x : U) : bits .and .u64 (x.toNat : Int) 1 = ((x &&& 1#64).toNat : Int) := u_and1 x
theorem zF (x y : U) : IntKind.u64.wrap ((x.toNat : Int) + (y.toNat : Int)) = ((x + y).toNat : Int) := u_add x y
theorem zG (x : U) : IntKind.u64.wrap ((x.toNat : Int) + 1) = ((x + 1#64).toNat : Int) := u_add1 x
theorem zH (x y : U) : IntKind.u64.wrap ((x.toNat : Int) - (y.toNat : Int)) = ((x - y).toNat : Int) := u_sub x y
theorem zI (x : U) : IntKind.u64.wrap ((x.toNat : Int) - 1) = ((x - 1#64).toNat : Int) := u_sub1 x
theorem zJ (k : Nat) : IntKind.u64.wrap (1 * 2 ^ (min k IntKind.u64.bits)) = ((1#64 <<< k).toNat : Int) := u_shl1 k
theorem zK (x : U) (k : Nat) : IntKind.u64.wrap ((x.toNat : Int) * 2 ^ (min k IntKind.u64.bits)) = ((x <<< k).toNat : Int) := u_shl x k
theorem zL (x : U) (k : Nat) : ((x.toNat : Int)).fdiv (2 ^ (min k IntKind.u64.bits)) = ((x >>> k).toNat : Int) := u_shr x k
theorem zM (x : U) : ((x.toNat : Int) == 0) = (x == 0#64) := u_beq0 x
theorem zN (x : U) : ((x.toNat : Int) != 0) = (x != 0#64) := u_bne0 x
theorem zO (x : U) : ((x.toNat : Int) == 1) = (x == 1#64) := u_beq1 x
theorem zP (x : U) : ((x.toNat : Int) != 1) = (x != 1#64) := u_bne1 x
theorem zQ (x y : U) : ((x.toNat : Int) == (y.toNat : Int)) = (x == y) := u_beq x y
theorem zR (x y : U) : ((x.toNat : Int) != (y.toNat : Int)) = (x != y) := u_bne x y
theorem zS (x y : U) : decide ((x.toNat : Int) < (y.toNat : Int)) = decide (x < y) := u_lt x y
theorem zT (x y : U) : decide ((x.toNat : Int) ≤ (y.toNat : Int)) = decide (x ≤ y) := u_le x y
theorem zU (x : U) : ((x.toNat : Int) = 0) = (x = 0#64) := u_beq0' x
theorem zV (x : U) : ((x.toNat : Int) = 1) = (x = 1#64) := u_beq1' x
theorem zW (x y : U) : ((x.toNat : Int) = (y.toNat : Int)) = (x = y) := u_inj' x y
theorem zX (x : U) (k : Nat) : (x >>> k &&& 1#64 == 1#64) = x.getLsbD k := and_one_eq x k
theorem zY (x : U) (k : Nat) : (x >>> k &&& 1#64 == 0#64) = !x.getLsbD k := and_one_zero x k
theorem zZ (n : Nat) : ((n : Int)).toNat = n := Int.toNat_natCast n
theorem yA {p : Prop} [Decidable p] : (decide p = true) ↔ p := decide_eq_true_iff
theorem yB {p : Prop} [Decidable p] : (decide p = false) ↔ ¬ p := decide_eq_false_iff_not
theorem yC {b : Bool} : ((!b) = true) ↔ b = false := by cases b <;> simp
theorem yD {b : Bool} : ((!b) = false) ↔ b = true := by cases b <;> simp
theorem yE {α : Type} [BEq α] [LawfulBEq α] {a b : α} : (a == b) = true ↔ a = b := beq_iff_eq
theorem yF {α : Type} [BEq α] [LawfulBEq α] {a b : α} : (a != b) = true ↔ ¬ a = b := bne_iff_ne
theorem yG {α : Type} {a b : α} : (a ≠ b) = ¬ (a = b) := rfl
theorem yH {α : Type} [BEq α] [LawfulBEq α] {a b : α} : (a == b) = false ↔ ¬ a = b := beq_eq_false_iff_ne
theorem yI {α : Type} [BEq α] [LawfulBEq α] {a b : α} : (a != b) = false ↔ a = b := bne_eq_false_iff_eq
theorem yJ {p : Prop} : (¬ ¬ p) ↔ p := Classical.not_not
theorem yK {b : Bool} : (¬ b = true) = (b = false) := by cases b <;> simp
theorem yL : (!true) = false := rfl
theorem yM : (!false) = true := rfl
/-- all rules of words and numbers at once -/
theorem zz : (∀ (x y : U), bits .and .u64 (x.toNat : Int) (y.toNat : Int) = ((x &&& y).toNat : Int)) ∧
    (∀ (x y : U), bits .or .u64 (x.toNat : Int) (y.toNat : Int) = ((x ||| y).toNat : Int)) ∧
    (∀ (x y : U), bits .xor .u64 (x.toNat : Int) (y.toNat : Int) = ((x ^^^ y).toNat : Int)) ∧
    (∀ (x y : U), bits .andNot .u64 (x.toNat : Int) (y.toNat : Int) = ((x &&& ~~~y).toNat : Int)) ∧
    (∀ (x : U), bits .and .u64 (x.toNat : Int) 1 = ((x &&& 1#64).toNat : Int)) ∧
    (∀ (x y : U), IntKind.u64.wrap ((x.toNat : Int) + (y.toNat : Int)) = ((x + y).toNat : Int)) ∧
    (∀ (x : U), IntKind.u64.wrap ((x.toNat : Int) + 1) = ((x + 1#64).toNat : Int)) ∧
    (∀ (x y : U), IntKind.u64.wrap ((x.toNat : Int) - (y.toNat : Int)) = ((x - y).toNat : Int)) ∧
    (∀ (x : U), IntKind.u64.wrap ((x.toNat : Int) - 1) = ((x - 1#64).toNat : Int)) ∧
    (∀ (k : Nat), IntKind.u64.wrap (1 * 2 ^ (min k IntKind.u64.bits)) = ((1#64 <<< k).toNat : Int)) ∧
    (∀ (x : U) (k : Nat), IntKind.u64.wrap ((x.toNat : Int) * 2 ^ (min k IntKind.u64.bits)) = ((x <<< k).toNat : Int)) ∧
    (∀ (x : U) (k : Nat), ((x.toNat : Int)).fdiv (2 ^ (min k IntKind.u64.bits)) = ((x >>> k).toNat : Int)) ∧
    (∀ (x : U), ((x.toNat : Int) == 0) = (x == 0#64)) ∧
    (∀ (x : U), ((x.toNat : Int) != 0) = (x != 0#64)) ∧
    (∀ (x : U), ((x.toNat : Int) == 1) = (x == 1#64)) ∧
    (∀ (x : U), ((x.toNat : Int) != 1) = (x != 1#64)) ∧
    (∀ (x y : U), ((x.toNat : Int) == (y.toNat : Int)) = (x == y)) ∧
    (∀ (x y : U), ((x.toNat : Int) != (y.toNat : Int)) = (x != y)) ∧
    (∀ (x y : U), decide ((x.toNat : Int) < (y.toNat : Int)) = decide (x < y)) ∧
    (∀ (x y : U), decide ((x.toNat : Int) ≤ (y.toNat : Int)) = decide (x ≤ y)) ∧
    (∀ (x : U), ((x.toNat : Int) = 0) = (x = 0#64)) ∧
    (∀ (x : U), ((x.toNat : Int) = 1) = (x = 1#64)) ∧
    (∀ (x y : U), ((x.toNat : Int) = (y.toNat : Int)) = (x = y)) ∧
    (∀ (x : U) (k : Nat), (x >>> k &&& 1#64 == 1#64) = x.getLsbD k) ∧
    (∀ (x : U) (k : Nat), (x >>> k &&& 1#64 == 0#64) = !x.getLsbD k) ∧
    (∀ (n : Nat), ((n : Int)).toNat = n) ∧
    (∀ {p : Prop} [Decidable p], (decide p = true) ↔ p) ∧
    (∀ {p : Prop} [Decidable p], (decide p = false) ↔ ¬ p) ∧
    (∀ {b : Bool}, ((!b) = true) ↔ b = false) ∧
    (∀ {b : Bool}, ((!b) = false) ↔ b = true) ∧
    (∀ {α : Type} [BEq α] [LawfulBEq α] {a b : α}, (a == b) = true ↔ a = b) ∧
    (∀ {α : Type} [BEq α] [LawfulBEq α] {a b : α}, (a != b) = true ↔ ¬ a = b) ∧
    (∀ {α : Type} {a b : α}, (a ≠ b) = ¬ (a = b)) ∧
    (∀ {α : Type} [BEq α] [LawfulBEq α] {a b : α}, (a == b) = false ↔ ¬ a = b) ∧
    (∀ {α : Type} [BEq α] [LawfulBEq α] {a b : α}, (a != b) = false ↔ a = b) ∧
    (∀ {p : Prop}, (¬ ¬ p) ↔ p) ∧
    (∀ {b : Bool}, (¬ b = true) = (b = false)) ∧
    ((!true) = false) ∧
    ((!false) = true) :=
  ⟨@zA, @zB, @zC, @zD, @zE, @zF, @zG, @zH, @zI, @zJ, @zK, @zL, @zM, @zN, @zO, @zP, @zQ, @zR, @zS, @zT, @zU, @zV, @zW, @zX, @zY, @zZ, @yA, @yB, @yC, @yD, @yE, @yF, @yG, @yH, @yI, @yJ, @yK, @yL, @yM⟩
theorem ai {a b : Prop} (h : a) (k : b) : a ∧ b := ⟨h, k⟩
theorem ei {α : Sort _} {p : α → Prop} (w : α) (h : p w) : ∃ x, p x := ⟨w, h⟩
theorem nof {p : Prop} (h : false = true) : p := absurd h Bool.false_ne_true

end Go.Sx
