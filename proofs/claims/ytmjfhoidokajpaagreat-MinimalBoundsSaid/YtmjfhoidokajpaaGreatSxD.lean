/- The symbolic executor stands for the model: entering a loop, and coming round. -/
import Derived.Test.YtmjfhoidokajpaaGreatSxC
set_option maxHeartbeats 1000000
set_option maxRecDepth 4000
set_option linter.unusedSimpArgs false
set_option linter.unusedVariables false
set_option linter.unusedSectionVars false
namespace Go.Sx
open Go

theorem svsOf_length : ∀ (n : Nat) (cs : List LV), (svsOf n cs).length = cs.length
  | n, [] => rfl
  | n, .s _ :: cs => by simp [svsOf, svsOf_length n cs]
  | n, .rw _ _ _ _ :: cs => by simp [svsOf, svsOf_length (n + 1) cs]

theorem keys_len {α : Type} : ∀ (l : List (Nat × α)), (keysOf l).length = l.length ∧ (valsOf l).length = l.length
  | [] => by simp [keysOf, valsOf]
  | (t, v) :: l => by simp [keysOf, valsOf, (keys_len l).1, (keys_len l).2]

theorem zipK_look : ∀ (ts : List Nat) (ss : List SV), ts.length = ss.length → distinct ts = true → ∀ t, (∀ k : Nat, ts[k]? = some t → look (zipK ts ss) t = ss[k]?) ∧ (t ∉ ts → look (zipK ts ss) t = none)
  | [], [], _, _, t => by simp [zipK, look]
  | [], _ :: _, h, _, t => by simp at h
  | _ :: _, [], h, _, t => by simp at h
  | i :: ts, s :: ss, h, hd, t => by
    simp only [distinct, Bool.and_eq_true, Bool.not_eq_true'] at hd
    have hi : i ∉ ts := fun hm => by have := (inL_iff i ts).2 hm; rw [hd.1] at this; cases this
    obtain ⟨h1, h2⟩ := zipK_look ts ss (by simpa using h) hd.2 t
    refine ⟨fun k hk => ?_, fun hm => ?_⟩
    · simp only [zipK, look_cons]
      cases k with
      | zero => simp at hk; subst hk; simp
      | succ k =>
        simp at hk
        have : i ≠ t := fun e => by subst e; exact hi (List.mem_of_getElem? hk)
        rw [if_neg this, h1 k hk]; simp
    · simp only [List.mem_cons, not_or] at hm
      simp only [zipK, look_cons]
      rw [if_neg (fun e => hm.1 e.symm), h2 hm.2]

theorem look_append {α : Type} : ∀ (a b : List (Nat × α)) (t : Nat), look (a ++ b) t = match look a t with | some v => some v | none => look b t
  | [], b, t => by simp [look]
  | (k, v) :: a, b, t => by
    simp only [List.cons_append, look_cons]
    by_cases h : k = t
    · simp [h]
    · simp only [h, if_false]; exact look_append a b t

theorem dropKeys_look (W : List Nat) : ∀ (l : List (Nat × SV)) (t : Nat), look (dropKeys W l) t = if t ∈ W then none else look l t
  | [], t => by simp [dropKeys, look]
  | (k, s) :: l, t => by
    simp only [dropKeys]
    cases hk : inL k W with
    | true =>
      have := (inL_iff k W).1 hk
      rw [dropKeys_look W l t, look_cons]
      by_cases h : t ∈ W
      · simp [h]
      · rw [if_neg h, if_neg h, if_neg (fun e : k = t => h (e ▸ this))]
    | false =>
      have hn : k ∉ W := fun hm => by have := (inL_iff k W).2 hm; rw [hk] at this; cases this
      rw [look_cons, look_cons, dropKeys_look W l t]
      by_cases h : k = t
      · subst h; simp [hn]
      · simp [h]

theorem goneOb_look : ∀ (G : List Nat) (l : List (Nat × Option Ob)) (i : Nat), look (goneOb G l) i = if i ∈ G then some none else look l i
  | [], l, i => by simp [goneOb]
  | j :: G, l, i => by
    simp only [goneOb, look_cons, goneOb_look G l i, List.mem_cons]
    by_cases h : j = i
    · simp [h]
    · rw [if_neg h]
      have : (i = j ∨ i ∈ G) ↔ i ∈ G := ⟨fun x => x.resolve_left (fun e => h e.symm), .inr⟩
      simp [this]

/- groups of a state -/
def valsAt (a : Act) : List Nat → List Value
  | [] => []
  | t :: l => a.tmps.getD t undef :: valsAt a l
def blkVals (E : Env) (w : World) (i : Nat) : List Value :=
  match E.blk i with
  | some b => match w.heap[b]? with
    | some (.cells vs _ _) => vs.toList
    | _ => []
  | none => []
def cellsOr (st : St) (u : UO) : List SV := match cellsAt st u.i u.T with | some cs => cs | none => []
def slotGroup (st : St) (a : Act) (ups : List (Nat × LV)) : Group := ⟨getAll st (keysOf ups), valsOf ups, valsAt a (keysOf ups)⟩
def uoGroups (st : St) (E : Env) (w : World) (uos : List UO) : List Group := uos.map fun u => ⟨cellsOr st u, u.l, blkVals E w u.i⟩

theorem getAll_get (st : St) : ∀ (l : List Nat) (k : Nat), (getAll st l)[k]? = (l[k]?).map st.get
  | [], k => by simp [getAll]
  | t :: l, 0 => by simp [getAll]
  | t :: l, k + 1 => by simp [getAll, getAll_get st l k]
theorem valsAt_get (a : Act) : ∀ (l : List Nat) (k : Nat), (valsAt a l)[k]? = (l[k]?).map fun t => a.tmps.getD t undef
  | [], k => by simp [valsAt]
  | t :: l, 0 => by simp [valsAt]
  | t :: l, k + 1 => by simp [valsAt, valsAt_get a l k]
theorem getAll_len (st : St) : ∀ (l : List Nat), (getAll st l).length = l.length
  | [] => rfl
  | t :: l => by simp [getAll, getAll_len st l]
theorem valsAt_len (a : Act) : ∀ (l : List Nat), (valsAt a l).length = l.length
  | [] => rfl
  | t :: l => by simp [valsAt, valsAt_len a l]

theorem cellsAt_some {st : St} {i : Nat} {T : TypeId} {cs : List SV} (h : cellsAt st i T = some cs) : st.obj i = some (.cells T cs) := by
  unfold cellsAt at h
  split at h
  · rename_i T' cs' ho
    split at h
    · rename_i hb
      cases h; rw [ho, Nat.eq_of_beq_eq_true hb]
    · cases h
  · cases h

theorem uoM_get {st : St} {no : Nat} : ∀ {uos : List UO}, uoM st no uos → ∀ u ∈ uos, ∃ cs, cellsAt st u.i u.T = some cs ∧ lvMs st no cs u.l
  | [], _, u, hu => by simp at hu
  | v :: uos, h, u, hu => by
    simp only [uoM] at h
    rcases List.mem_cons.1 hu with rfl | hu
    · cases hc : cellsAt st u.i u.T with
      | some cs => rw [hc] at h; exact ⟨cs, rfl, h.1⟩
      | none => rw [hc] at h; exact h.1.elim
    · exact uoM_get h.2 u hu

theorem blkVals_of {C : Ctx} {E : Env} {st : St} {w : World} (h : HRep C E st w) {u : UO} {cs : List SV} (hc : cellsAt st u.i u.T = some cs) :
    ∃ b vs, E.hd u.i = some (.pointer (some ⟨b, 0, none⟩)) ∧ w.heap[b]? = some (.cells vs u.T (0, 0)) ∧ ARep E vs cs ∧ blkVals E w u.i = vs.toList := by
  obtain ⟨b, vs, h1, h2, h3⟩ := (h.ob _ _ (cellsAt_some hc)).cells_inv
  exact ⟨b, vs, h1, h2, h3, by simp [blkVals, Env.blk, h1, blockOf, h2]⟩

theorem groups_ok {C : Ctx} {E : Env} {st : St} {a : Act} {w : World} (h : Models C E st a w) {no : Nat} {ups : List (Nat × LV)} {uos : List UO} (h1 : lvMs st no (getAll st (keysOf ups)) (valsOf ups)) (h2 : uoM st no uos) :
    ∀ g ∈ slotGroup st a ups :: uoGroups st E w uos, g.Ok E st no := by
  intro g hg
  rcases List.mem_cons.1 hg with rfl | hg
  · refine ⟨h1, by simp [slotGroup, valsAt_len, getAll_len], fun k v s hv hs => ?_⟩
    simp only [slotGroup, valsAt_get, getAll_get] at hv hs
    cases hk : (keysOf ups)[k]? with
    | none => simp [hk] at hv
    | some t => simp [hk] at hv hs; subst hv; subst hs; simpa using h.slot t
  · obtain ⟨u, hu, rfl⟩ := List.mem_map.1 hg
    obtain ⟨cs, hc, hm⟩ := uoM_get h2 u hu
    obtain ⟨b, vs, e1, e2, e3, e4⟩ := blkVals_of h.heap hc
    refine ⟨by simp only [cellsOr, hc]; exact hm, by simp only [cellsOr, hc, e4]; simpa using e3.size, fun k v s hv hs => ?_⟩
    simp only [cellsOr, hc, e4] at hv hs
    exact e3.rep k v s (by simpa using hv) hs

theorem gSrc_rows {st : St} {a : Act} {E : Env} {w : World} (ups : List (Nat × LV)) (uos : List UO) : (gSrc (slotGroup st a ups :: uoGroups st E w uos)).filterMap id = allRows st ups uos := by
  have h2 : ∀ uos : List UO, (gSrc (uoGroups st E w uos)).filterMap id = uoRows st uos := by
    intro uos
    induction uos with
    | nil => rfl
    | cons u us ih =>
      simp only [uoGroups, List.map_cons, gSrc, uoRows, List.filterMap_append, rowSrc_in]
      have ih' : (gSrc (us.map fun u => (⟨cellsOr st u, u.l, blkVals E w u.i⟩ : Group))).filterMap id = uoRows st us := ih
      rw [ih']
      congr 1
      unfold cellsOr
      cases cellsAt st u.i u.T with
      | some cs => rfl
      | none => cases u.l <;> simp [rowsIn]
  simp only [gSrc, List.filterMap_append, rowSrc_in, h2, allRows, slotGroup]

/-- the head's objects -/
theorem uoCnt_eq {st : St} {E : Env} {w : World} : ∀ (n : Nat) (uos : List UO), uoCnt n uos = n + (gList (uoGroups st E w uos)).length
  | n, [] => rfl
  | n, u :: us => by
    simp only [uoCnt, uoGroups, List.map_cons, gList, List.length_append]
    rw [uoCnt_eq (st := st) (E := E) (w := w) (cntOf n u.l) us, cntOf_eq]
    simp only [uoGroups]
    omega

theorem uoObs_hi {st : St} {E : Env} {w : World} {no : Nat} : ∀ (n : Nat) (uos : List UO), (∀ u ∈ uos, u.i < no) → no ≤ n → ∀ i, no ≤ i → look (uoObs n uos) i = if n ≤ i then ((gList (uoGroups st E w uos))[i - n]?).map some else none
  | n, [], _, _, i, hi => by simp [uoObs, look, uoGroups, gList]
  | n, u :: us, hlt, hn, i, hi => by
    have hu := hlt u (by simp)
    simp only [uoObs, look_cons, if_neg (show ¬ u.i = i by omega), look_append, rowsOf_look]
    rw [uoObs_hi (st := st) (E := E) (w := w) (cntOf n u.l) us (fun v hv => hlt v (by simp [hv])) (by rw [cntOf_eq]; omega) i hi, cntOf_eq]
    simp only [uoGroups, List.map_cons, gList]
    by_cases h : n ≤ i
    · rw [if_pos h, if_pos h]
      by_cases h2 : i - n < (rwList u.l).length
      · rw [List.getElem?_append_left h2, List.getElem?_eq_getElem h2]; rfl
      · rw [List.getElem?_append_right (by omega), List.getElem?_eq_none (by omega), if_pos (by omega), show i - n - (rwList u.l).length = i - (n + (rwList u.l).length) by omega]; rfl
    · rw [if_neg h, if_neg h, if_neg (by omega)]

theorem uoObs_lo {no : Nat} : ∀ (n : Nat) (uos : List UO), no ≤ n → ∀ i, i < no → (∀ o, look (uoObs n uos) i = some o → ∃ u ∈ uos, u.i = i) ∧ (i ∉ uoIdx uos → look (uoObs n uos) i = none)
  | n, [], _, i, _ => by simp [uoObs, look]
  | n, u :: us, hn, i, hi => by
    obtain ⟨h1, h2⟩ := uoObs_lo (cntOf n u.l) us (by rw [cntOf_eq]; omega) i hi
    have hrow : look (rowsOf n u.l) i = none := by rw [rowsOf_look, if_neg (by omega)]
    refine ⟨fun o ho => ?_, fun hm => ?_⟩
    · simp only [uoObs, look_cons, look_append, hrow] at ho
      by_cases e : u.i = i
      · exact ⟨u, by simp, e⟩
      · rw [if_neg e] at ho
        obtain ⟨v, hv, he⟩ := h1 o ho
        exact ⟨v, by simp [hv], he⟩
    · simp only [uoIdx, List.mem_cons, not_or] at hm
      simp only [uoObs, look_cons, look_append, hrow]
      rw [if_neg (fun e => hm.1 e.symm), h2 hm.2]

theorem uoIdx_mem : ∀ {uos : List UO} {i : Nat}, i ∈ uoIdx uos ↔ ∃ u ∈ uos, u.i = i
  | [], i => by simp [uoIdx]
  | u :: us, i => by
    simp only [uoIdx, List.mem_cons, uoIdx_mem (uos := us)]
    constructor
    · rintro (rfl | ⟨v, hv, rfl⟩)
      · exact ⟨u, .inl rfl, rfl⟩
      · exact ⟨v, .inr hv, rfl⟩
    · rintro ⟨v, (rfl | hv), rfl⟩
      · exact .inl rfl
      · exact .inr ⟨v, hv, rfl⟩

/-- what the object of a UO is at the head -/
theorem uoObs_at {st : St} {E E2 : Env} {w : World} {no0 : Nat} (hhd : ∀ i, i < no0 → E2.hd i = E.hd i) (hmem : ∀ b cs, E.mem b = some cs → E2.mem b = some cs) (hbase : E2.base = E.base) {C : Ctx} (h : HRep C E st w) :
    ∀ (n : Nat) (uos : List UO), distinct (uoIdx uos) = true → (∀ u ∈ uos, u.i < no0) → no0 ≤ n → uoM st no0 uos →
      (∀ p v, (gVals (uoGroups st E w uos))[p]? = some v → E2.hd (n + p) = some v) → ∀ u ∈ uos, ∃ cs, look (uoObs n uos) u.i = some (some (.cells u.T cs)) ∧ ORep E2 w u.i (.cells u.T cs) ∧ ∃ o, st.obj u.i = some o
  | n, [], _, _, _, _, _, u, hu => by simp at hu
  | n, v :: us, hd, hlt, hn, hM, hvals, u, hu => by
    simp only [uoIdx, distinct, Bool.and_eq_true, Bool.not_eq_true'] at hd
    have hni : v.i ∉ uoIdx us := fun hm => by have := (inL_iff _ _).2 hm; rw [hd.1] at this; cases this
    simp only [uoM] at hM
    cases hc : cellsAt st v.i v.T with
    | none => rw [hc] at hM; exact hM.1.elim
    | some cs =>
      rw [hc] at hM
      obtain ⟨b, vs, e1, e2, e3, e4⟩ := blkVals_of h hc
      obtain ⟨hl, hget⟩ := lvMs_get _ _ _ _ hM.1
      have hgrp : Grp E cs vs.toList := ⟨by simpa using e3.size, fun k x s hx hs => e3.rep k x s (by simpa using hx) hs⟩
      have hv0 : gVals (uoGroups st E w (v :: us)) = rowVals v.l vs.toList ++ gVals (uoGroups st E w us) := by simp [uoGroups, gVals, e4]
      have l1 := rowVals_length v.l vs.toList (by rw [hgrp.len, hl])
      rcases List.mem_cons.1 hu with rfl | hu
      · refine ⟨svsOf n u.l, by simp [uoObs, look_cons], ?_, _, cellsAt_some hc⟩
        have hrep := grp_rep hhd hmem hbase cs u.l vs.toList n hget hl hgrp (fun p x hp => hvals p x (by rw [hv0, List.getElem?_append_left (List.getElem?_eq_some_iff.1 hp).1]; exact hp))
        exact .cells b u.T vs _ (by rw [hhd _ (hlt u (by simp))]; exact e1) e2 (by rw [svsOf_length, ← hl]; exact e3.size) e3.one fun k x s hx hs => hrep k x s (by simpa using hx) hs
      · obtain ⟨cs', r1, r2, r3⟩ := uoObs_at hhd hmem hbase h (cntOf n v.l) us hd.2 (fun x hx => hlt x (by simp [hx])) (by rw [cntOf_eq]; omega) hM.2 (fun p x hp => by
          rw [cntOf_eq, Nat.add_assoc]
          refine hvals _ x ?_
          rw [hv0, List.getElem?_append_right (by omega), l1, show (rwList v.l).length + p - (rwList v.l).length = p by omega]; exact hp) u hu
        refine ⟨cs', ?_, r2, r3⟩
        have hne : ¬ v.i = u.i := fun e => hni (uoIdx_mem.2 ⟨u, hu, e.symm⟩)
        have hlo := hlt u (by simp [hu])
        simp only [uoObs, look_cons, if_neg hne, look_append, rowsOf_look, if_neg (show ¬ n ≤ u.i by omega)]
        exact r1

theorem uoOk_get {ro no : Nat} : ∀ {l : List Nat}, uoOk ro no l = true → ∀ i ∈ l, ro ≤ i ∧ i < no
  | [], _, u, hu => by simp at hu
  | v :: us, h, u, hu => by
    simp only [uoOk, Bool.and_eq_true] at h
    rcases List.mem_cons.1 hu with rfl | hu
    · exact ⟨Nat.le_of_ble_eq_true h.1.1, by simpa [Nat.blt_eq] using h.1.2⟩
    · exact uoOk_get h.2 u hu

theorem Models.slts {C : Ctx} {E : Env} {st : St} {a : Act} {w : World} (h : Models C E st a w) : ∀ t, SLt st.no (st.get t) := fun t => (h.slot t).lt h.heap.new
theorem HRep.olts {C : Ctx} {E : Env} {st : St} {w : World} (h : HRep C E st w) : ∀ i o, st.obj i = some o → i < st.no ∧ OLt st.no o := fun i o ho => ⟨h.lt ho, (h.ob i o ho).lt h.new⟩

/-- **To the head of a loop**, from its beginning (st0) or from the end of a round. -/
theorem toHead {C : Ctx} {X : Cfg} (hro : C.ro = X.ro) {st0 : St} (hmn : C.kh ≤ st0.no) (hsl : ∀ t, SLt st0.no (st0.get t)) (hol : ∀ i o, st0.obj i = some o → i < st0.no ∧ OLt st0.no o) {st1 : St} {E1 : Env} {a : Act} {w : World} (h : Models C E1 st1 a w)
    {W G : List Nat} {ups : List (Nat × LV)} {uos : List UO} (hkd : distinct (keysOf ups) = true) (hud : distinct (uoIdx uos) = true) (huo : uoOk X.ro st0.no (uoIdx uos) = true)
    (hslots : ∀ t, t ∉ W → st1.get t = st0.get t) (hobjs : ∀ i, i < st0.no → i ∉ uoIdx uos → i ∉ G → st1.obj i = st0.obj i)
    (hm1 : lvMs st1 st0.no (getAll st1 (keysOf ups)) (valsOf ups)) (hm2 : uoM st1 st0.no uos)
    {c : Option Nat} (hkk : c = st1.k) (hrd : distinct (allRows st1 ups uos) = true) (hrow : ∀ j, j ∈ allRows st1 ups uos → C.m ≤ j ∧ (j < st0.no → j ∈ G ∧ j ∉ uoIdx uos)) :
    ∃ vals, Models C (headEnv E1 st0.no vals) (headSt st0 W G ups uos c) a w := by
  have hgs := groups_ok h hm1 hm2
  obtain ⟨len1, len2, _⟩ := gRows _ hgs
  have huo' : ∀ u ∈ uos, X.ro ≤ u.i ∧ u.i < st0.no := fun u hu => uoOk_get huo u.i (uoIdx_mem.2 ⟨u, hu, rfl⟩)
  have hhd : ∀ i, i < st0.no → (headEnv E1 st0.no (gVals (slotGroup st1 a ups :: uoGroups st1 E1 w uos))).hd i = E1.hd i := fun i hi => by simp [headEnv, hi]
  have hrw : (rowVals (valsOf ups) (valsAt a (keysOf ups))).length = (rwList (valsOf ups)).length := rowVals_length _ _ (by rw [valsAt_len, (keys_len ups).1, (keys_len ups).2])
  have hvals : ∀ p v, (gVals (slotGroup st1 a ups :: uoGroups st1 E1 w uos))[p]? = some v → (headEnv E1 st0.no (gVals (slotGroup st1 a ups :: uoGroups st1 E1 w uos))).hd (st0.no + p) = some v := fun p v hp => by
    have : ¬ st0.no + p < st0.no := by omega
    simp only [headEnv, if_neg this, Nat.add_sub_cancel_left]; exact hp
  have hvals2 : ∀ p v, (gVals (uoGroups st1 E1 w uos))[p]? = some v → (headEnv E1 st0.no (gVals (slotGroup st1 a ups :: uoGroups st1 E1 w uos))).hd (cntOf st0.no (valsOf ups) + p) = some v := fun p v hp => by
    rw [cntOf_eq, Nat.add_assoc]
    refine hvals _ v ?_
    simp only [gVals, slotGroup]
    rw [List.getElem?_append_right (by omega), hrw, Nat.add_sub_cancel_left]; exact hp
  have hat := uoObs_at (E2 := headEnv E1 st0.no (gVals (slotGroup st1 a ups :: uoGroups st1 E1 w uos))) hhd (fun _ _ h => h) rfl h.heap (cntOf st0.no (valsOf ups)) uos hud (fun u hu => (huo' u hu).2) (by rw [cntOf_eq]; omega) hm2 hvals2
  -- the objects of the head
  have lookup : ∀ i, (headSt st0 W G ups uos c).obj i = match look (rowsOf st0.no (valsOf ups)) i with | some o => o | none => match look (uoObs (cntOf st0.no (valsOf ups)) uos) i with | some o => o | none => if i ∈ G then none else st0.obj i := by
    intro i
    unfold headSt St.obj
    simp only [look_append, goneOb_look]
    cases look (rowsOf st0.no (valsOf ups)) i with
    | some o => rfl
    | none =>
      simp only
      cases look (uoObs (cntOf st0.no (valsOf ups)) uos) i with
      | some o => rfl
      | none =>
        simp only
        by_cases hG : i ∈ G <;> simp [hG]
  have hlow : ∀ i, i < st0.no → look (rowsOf st0.no (valsOf ups)) i = none := fun i hi => by rw [rowsOf_look, if_neg (by omega)]
  refine ⟨gVals (slotGroup st1 a ups :: uoGroups st1 E1 w uos), h.size, fun t => ?_, ?_, h.marks⟩
  · -- slots
    have hz := zipK_look (keysOf ups) (svsOf st0.no (valsOf ups)) (by rw [svsOf_length, (keys_len ups).1, (keys_len ups).2]) hkd t
    have hget : (headSt st0 W G ups uos c).get t = match look (zipK (keysOf ups) (svsOf st0.no (valsOf ups))) t with | some s => s | none => if t ∈ W then .any else st0.get t := by
      unfold headSt St.get
      simp only [look_append, dropKeys_look]
      cases look (zipK (keysOf ups) (svsOf st0.no (valsOf ups))) t with
      | some s => rfl
      | none => by_cases hW : t ∈ W <;> simp [hW]
    rw [hget]
    by_cases hk : t ∈ keysOf ups
    · obtain ⟨k, hk⟩ := List.getElem?_of_mem hk
      rw [hz.1 k hk]
      have hks : k < (svsOf st0.no (valsOf ups)).length := by rw [svsOf_length, (keys_len ups).2, ← (keys_len ups).1]; exact (List.getElem?_eq_some_iff.1 hk).1
      rw [List.getElem?_eq_getElem hks]
      obtain ⟨_, hgrp⟩ := hgs (slotGroup st1 a ups) (by simp)
      obtain ⟨hl, hg⟩ := lvMs_get _ _ _ _ hm1
      refine grp_rep hhd (fun _ _ h => h) rfl (getAll st1 (keysOf ups)) (valsOf ups) (valsAt a (keysOf ups)) st0.no hg hl hgrp (fun p v hp => hvals p v ?_) k _ _ ?_ (List.getElem?_eq_getElem hks)
      · simp only [gVals, slotGroup]
        rw [List.getElem?_append_left (List.getElem?_eq_some_iff.1 hp).1]; exact hp
      · rw [valsAt_get, hk]; rfl
    · rw [hz.2 hk]
      by_cases hW : t ∈ W
      · simp only [hW, if_true]; exact .any _
      · simp only [hW, if_false]
        have := h.slot t
        rw [hslots t hW] at this
        exact this.move hhd (fun _ _ h => h) rfl (hsl t)
  · refine head_heap h.heap hmn hkk hgs (by rw [gSrc_rows]; exact hrd) (fun j hj => ?_) (fun i hi => ?_) ?_ (fun i o hi ho => ?_)
    · rw [gSrc_rows] at hj
      obtain ⟨g1, g2⟩ := hrow j hj
      refine ⟨g1, fun hlt => ?_⟩
      obtain ⟨g3, g4⟩ := g2 hlt
      rw [lookup, hlow j hlt, ((uoObs_lo (cntOf st0.no (valsOf ups)) uos (by rw [cntOf_eq]; omega) j hlt).2 g4)]
      simp [g3]
    · rw [lookup, rowsOf_look, if_pos hi, uoObs_hi (st := st1) (E := E1) (w := w) (cntOf st0.no (valsOf ups)) uos (fun u hu => (huo' u hu).2) (by rw [cntOf_eq]; omega) i hi, cntOf_eq]
      simp only [gList, slotGroup]
      have hnone : st0.obj i = none := by
        cases hs : st0.obj i with
        | none => rfl
        | some o => have := (hol i o hs).1; omega
      by_cases h2 : i - st0.no < (rwList (valsOf ups)).length
      · rw [List.getElem?_append_left h2, List.getElem?_eq_getElem h2]; rfl
      · rw [List.getElem?_append_right (by omega), List.getElem?_eq_none (by omega), if_pos (by omega), show i - st0.no - (rwList (valsOf ups)).length = i - (st0.no + (rwList (valsOf ups)).length) by omega]
        cases (gList (uoGroups st1 E1 w uos))[i - (st0.no + (rwList (valsOf ups)).length)]? with
        | some o => rfl
        | none => simp [hnone]
    · show uoCnt (cntOf st0.no (valsOf ups)) uos = _
      rw [uoCnt_eq (st := st1) (E := E1) (w := w), cntOf_eq]
      simp only [gList, slotGroup, List.length_append]
      omega
    · rw [lookup, hlow i hi] at ho
      simp only at ho
      by_cases hu : i ∈ uoIdx uos
      · obtain ⟨u, hu1, rfl⟩ := uoIdx_mem.1 hu
        obtain ⟨cs, r1, r2, r3⟩ := hat u hu1
        rw [r1] at ho
        simp only [Option.some.injEq] at ho
        subst ho
        exact ⟨r3, .inr r2⟩
      · rw [(uoObs_lo (cntOf st0.no (valsOf ups)) uos (by rw [cntOf_eq]; omega) i hi).2 hu] at ho
        simp only at ho
        by_cases hG : i ∈ G
        · simp [hG] at ho
        · rw [if_neg hG] at ho
          have hs := hobjs i hi hu hG
          exact ⟨⟨o, by rw [hs]; exact ho⟩, .inl ⟨by rw [hs]; exact ho, (hol i o ho).2⟩⟩

end Go.Sx

namespace Go.Sx
open Go

theorem rowsIn_row {st : St} {no : Nat} : ∀ (ss : List SV) (cs : List LV), lvMs st no ss cs → ∀ j ∈ rowsIn ss cs, ∃ T sz n f, st.obj j = some (.row T sz n f)
  | [], cs, _, j, hj => by cases cs <;> simp [rowsIn] at hj
  | s :: ss, [], _, j, hj => by cases s <;> simp [rowsIn] at hj
  | s :: ss, c :: cs, h, j, hj => by
    obtain ⟨hl, hg⟩ := lvMs_get _ _ _ _ h
    have h0 := hg 0 s c rfl rfl
    have hrest : lvMs st no ss cs ∨ (ss = [] ∧ cs = []) := by
      cases ss with
      | nil => cases cs with
        | nil => exact .inr ⟨rfl, rfl⟩
        | cons _ _ => simp at hl
      | cons x xs => cases cs with
        | nil => simp at hl
        | cons y ys => simp only [lvMs] at h; exact .inl h.2
    have tail : ∀ j ∈ rowsIn ss cs, ∃ T sz n f, st.obj j = some (.row T sz n f) := by
      rcases hrest with h1 | ⟨rfl, rfl⟩
      · exact rowsIn_row ss cs h1
      · intro j hj; simp [rowsIn] at hj
    cases c with
    | s c0 =>
      have : rowsIn (s :: ss) (.s c0 :: cs) = rowsIn ss cs := by cases s <;> simp [rowsIn]
      rw [this] at hj; exact tail j hj
    | rw T sz n f =>
      simp only [lvM] at h0
      split at h0
      · rename_i i
        simp only [rowsIn, List.mem_cons] at hj
        rcases hj with rfl | hj
        · split at h0
          · rename_i ho; exact ⟨_, _, _, _, ho⟩
          · exact h0.elim
        · exact tail j hj
      · simp only [rowsIn] at hj; exact tail j hj
      · exact h0.elim

theorem uoRows_row {st : St} {no : Nat} : ∀ {uos : List UO}, uoM st no uos → ∀ j ∈ uoRows st uos, ∃ T sz n f, st.obj j = some (.row T sz n f)
  | [], _, j, hj => by simp [uoRows] at hj
  | u :: us, h2, j, hj => by
    simp only [uoM] at h2
    simp only [uoRows] at hj
    rcases List.mem_append.1 hj with hj | hj
    · cases hc : cellsAt st u.i u.T with
      | none => rw [hc] at hj; simp at hj
      | some cs =>
        rw [hc] at hj h2
        exact rowsIn_row _ _ h2.1 j hj
    · exact uoRows_row h2.2 j hj
theorem allRows_row {st : St} {no : Nat} {ups : List (Nat × LV)} {uos : List UO} (h1 : lvMs st no (getAll st (keysOf ups)) (valsOf ups)) (h2 : uoM st no uos) : ∀ j ∈ allRows st ups uos, ∃ T sz n f, st.obj j = some (.row T sz n f) := by
  intro j hj
  rcases List.mem_append.1 hj with hj | hj
  · exact rowsIn_row _ _ h1 j hj
  · exact uoRows_row h2 j hj

theorem allRows_uo {st : St} {no : Nat} {ups : List (Nat × LV)} {uos : List UO} (h1 : lvMs st no (getAll st (keysOf ups)) (valsOf ups)) (h2 : uoM st no uos) {j : Nat} (hj : j ∈ allRows st ups uos) : j ∉ uoIdx uos := by
  intro hu
  obtain ⟨u, hu1, rfl⟩ := uoIdx_mem.1 hu
  obtain ⟨cs, hc, _⟩ := uoM_get h2 u hu1
  obtain ⟨T, sz, n, f, hr⟩ := allRows_row h1 h2 u.i hj
  rw [cellsAt_some hc] at hr; cases hr

theorem allGe_mem {ro : Nat} {l : List Nat} (h : allGe ro l = true) {j : Nat} (hj : j ∈ l) : ro ≤ j := by
  obtain ⟨k, hk⟩ := List.getElem?_of_mem hj
  exact allGe_get l h k j hk

theorem dropN_look {α : Type} (W : List Nat) : ∀ (n : Nat) (l : List (Nat × α)) (t : Nat), keysIn W n l = true → t ∉ W → look l t = look (dropN n l) t
  | 0, l, t, _, _ => rfl
  | n + 1, [], t, _, _ => rfl
  | n + 1, (k, v) :: l, t, h, ht => by
    simp only [keysIn, Bool.and_eq_true] at h
    have : ¬ k = t := fun e => ht (e ▸ (inL_iff k W).1 h.1)
    rw [look_cons, if_neg this]
    exact dropN_look W n l t h.2 ht
theorem dropN_look2 {α : Type} (no : Nat) (P : List Nat) : ∀ (n : Nat) (l : List (Nat × α)) (t : Nat), keysGe no P n l = true → t < no → t ∉ P → look l t = look (dropN n l) t
  | 0, l, t, _, _, _ => rfl
  | n + 1, [], t, _, _, _ => rfl
  | n + 1, (k, v) :: l, t, h, hlt, ht => by
    simp only [keysGe, Bool.and_eq_true, Bool.or_eq_true] at h
    have : ¬ k = t := fun e => by
      subst e
      rcases h.1 with h1 | h1
      · have := Nat.le_of_ble_eq_true h1; omega
      · exact ht ((inL_iff k P).1 h1)
    rw [look_cons, if_neg this]
    exact dropN_look2 no P n l t h.2 hlt ht

theorem head_get {st : St} {W G : List Nat} {ups : List (Nat × LV)} {uos : List UO} {c : Option Nat} (hk : ∀ t ∈ keysOf ups, t ∈ W) (hkd : distinct (keysOf ups) = true) {t : Nat} (ht : t ∉ W) : (headSt st W G ups uos c).get t = st.get t := by
  have hz := (zipK_look (keysOf ups) (svsOf st.no (valsOf ups)) (by rw [svsOf_length, (keys_len ups).1, (keys_len ups).2]) hkd t).2 (fun h => ht (hk t h))
  unfold headSt St.get
  simp only [look_append, hz, dropKeys_look, ht, if_false]
theorem head_obj {st : St} {W G : List Nat} {ups : List (Nat × LV)} {uos : List UO} {c : Option Nat} {i : Nat} (hi : i < st.no) (hu : i ∉ uoIdx uos) (hG : i ∉ G) : (headSt st W G ups uos c).obj i = st.obj i := by
  unfold headSt St.obj
  simp only [look_append, goneOb_look, rowsOf_look, if_neg (show ¬ st.no ≤ i by omega), (uoObs_lo (cntOf st.no (valsOf ups)) uos (by rw [cntOf_eq]; omega) i hi).2 hu, hG, if_false]

theorem enter_head {C : Ctx} {X : Cfg} (hro : C.ro = X.ro) (hcm : C.m = X.m) {st : St} {E : Env} {a : Act} {w : World} (h : Models C E st a w) {W : List Nat} {ups : List (Nat × LV)} {uos : List UO} {c : Option Nat} (hcc : c = st.k) (he : enterM X st W (allRows st ups uos) ups uos) :
    ∃ E2, Models C E2 (headSt st W (allRows st ups uos) ups uos c) a w := by
  obtain ⟨⟨h1, _, h3, h4, h5, h6⟩, h7, h8⟩ := he
  obtain ⟨vals, hh⟩ := toHead hro h.heap.mno h.slts h.heap.olts h h1 h3 h4 (fun _ _ => rfl) (fun _ _ _ _ => rfl) h7 h8 hcc h5 fun j hj => ⟨by rw [hcm]; exact allGe_mem h6 hj, fun _ => ⟨hj, allRows_uo h7 h8 hj⟩⟩
  exact ⟨_, hh⟩

theorem again_head {C : Ctx} {X : Cfg} (hro : C.ro = X.ro) (hcm : C.m = X.m) (hrm : C.ro ≤ C.m) {st : St} {E : Env} {a0 : Act} {w0 : World} (h0 : Models C E st a0 w0) {W G : List Nat} {ups ups' : List (Nat × LV)} {uos uos' : List UO} {c c' : Option Nat} (hk : ∀ t ∈ keysOf ups, t ∈ W)
    (hkk : keysOf ups' = keysOf ups) (huu : uoIdx uos' = uoIdx uos) (hkd : distinct (keysOf ups) = true) (hud : distinct (uoIdx uos) = true) (huo : uoOk X.ro st.no (uoIdx uos) = true)
    {st1 : St} {E1 : Env} {a : Act} {w : World} (h : Models C E1 st1 a w) (hcc : c' = st1.k) (ha : againM st (headSt st W G ups uos c) st1 W ups' uos') : ∃ E2, Models C E2 (headSt st W G ups' uos' c') a w := by
  obtain ⟨h1, ⟨h3, h4⟩, ⟨h5, h6⟩, h7, h8⟩ := ha
  refine (fun ⟨vals, hh⟩ => ⟨_, hh⟩ : (∃ vals, Models C (headEnv E1 st.no vals) (headSt st W G ups' uos' c') a w) → _) (toHead hro h0.heap.mno h0.slts h0.heap.olts h (by rw [hkk]; exact hkd) (by rw [huu]; exact hud) (by rw [huu]; exact huo) (fun t ht => ?_) (fun i hi hu hG => ?_) h7 h8 hcc h5 fun j hj => ⟨?_, fun hlt => ?_⟩)
  · rw [← head_get (st := st) (G := G) (uos := uos) hk hkd ht]
    unfold St.get
    have e1 := dropKeys_look W st1.fr t
    have e2 := dropKeys_look W (headSt st W G ups uos c).fr t
    rw [if_neg ht] at e1 e2
    rw [← e1, h1, e2]
  · rw [huu] at hu h4
    rw [← head_obj (st := st) (W := W) (ups := ups) hi hu hG]
    unfold St.obj
    rw [dropN_look2 st.no (uoIdx uos) _ st1.ob i h4 hi hu, h3]
  · have := allGe_mem h6 hj; have := h0.heap.mno; have := h0.heap.mkh; omega
  · have := allGe_mem h6 hj; omega

end Go.Sx

namespace Go.Sx
open Go

def VcOk (c : Code) : Prop := ∀ (C : Ctx) (X : Cfg) (F : Fence), X.P.follows .mixedOrders = true → X.Tb.Ok X.P → C.nt = X.nt → C.ro = X.ro → CX C X F → C.ro ≤ C.m → Wide F →
  ∀ (st : St) (Q : Exit → St → Prop) (E : Env) (a : Act) (w : World), vc c X st Q → Models C E st a w →
    ∀ (Qw : Exit → Act → World → Prop), (∀ e st' E' a' w', Q e st' → Models C E' st' a' w' → Qw e a' w') → c.wpIn F 9 X.P Qw a w

/-- the context of a round -/
def ctxR (C : Ctx) (no : Nat) (k : Option Nat) (E1 : Env) (I : Nat → Prop) (W : World) : Ctx :=
  { C with kh := no, hd0 := E1.hd, mem0 := E1.mem, wk := W, nm := true, J := fun k' I1 ws => k' = k ∧ I1 = (fun b => E1.mine b ∧ b < W.heap.size ∧ ¬ I b) ∧ ws = W }

/-- the loop's state between rounds -/
structure Mid (C : Ctx) (E : Env) (no : Nat) (w : World) (l0 : List Nat) (st : St) (E1 : Env) (I : Nat → Prop) (W : World) : Prop where
  heap : HRep C E1 st W
  marks : ∀ D ∈ l0, W.heap[D]? = some (.deferred (some []))
  knc : KeepNC C.wk W
  le : E.Le E1
  ws : E1.ws = E.ws
  I_ : E1.I = E.I
  k : E1.k = E.k
  lo : ∀ b, I b → w.heap.size ≤ b
  own : ∀ i o b, st.obj i = some o → E1.blk i = some b → ¬ I b
  mem : ∀ b cs, E1.mem b = some cs → ¬ I b
  no_ : no ≤ st.no

theorem ORep.cellsAt {E : Env} {w : World} {i : Nat} {o : Ob} (h : ORep E w i o) {b : Nat} (hb : E.blk i = some b) : ∃ ob, w.heap[b]? = some ob ∧ ob.isCells = true := by
  cases h with
  | cells b' T vs cs hh hw _ _ _ => simp [Env.blk, hh, blockOf] at hb; subst hb; exact ⟨_, hw, rfl⟩
  | row T sz n f v xs u hh hw _ _ _ _ =>
    rcases hw.2 with ⟨rfl, _⟩ | ⟨g, cap, cur, rfl, _, hg, _⟩
    · simp [Env.blk, hh, blockOf] at hb
    · simp [Env.blk, hh, blockOf] at hb; subst hb; exact ⟨_, hg, rfl⟩

theorem Mid.stab {C : Ctx} {E : Env} {st0 : St} {no : Nat} {w : World} {a0 : Act} (h0 : Models C E st0 a0 w) {l0 : List Nat} (hl0 : ∀ D ∈ l0, D < w.heap.size) {st : St} {E1 : Env} {I I' : Nat → Prop} {W W' : World} (h : Mid C E no w l0 st E1 I W)
    (h1 : ∀ b, I b → I' b) (h2 : ∀ b, I' b → I b ∨ W.heap.size ≤ b) (hos : W'.os = W.os) (htape : W'.tape = W.tape) (hout : W'.output = W.output) (hsz : W.heap.size ≤ W'.heap.size) (hwz : w.heap.size ≤ W.heap.size)
    (hs : ∀ b o, W.heap[b]? = some o → ¬ I b → (b < w.heap.size ∨ o.isCells = true) → W'.heap[b]? = some o) : Mid C E no w l0 st E1 I' W' := by
  have low : ∀ b, b < w.heap.size → W'.heap[b]? = W.heap[b]? := fun b hb => by
    have hx := Array.getElem?_eq_getElem (xs := W.heap) (i := b) (by omega)
    rw [hx]; exact hs b _ hx (fun hi => by have := h.lo b hi; omega) (.inl hb)
  have grow : ∀ b, b < W.heap.size → ¬ I b → ¬ I' b := fun b hb hn hi => (h2 b hi).elim hn (fun x => by omega)
  refine ⟨⟨fun i o ho => (h.heap.ob i o ho).world fun b hb => ?_, h.heap.sep, h.heap.own, fun b cs hb => ?_, h.heap.mem0, h.heap.memnew, h.heap.new, h.heap.base, ⟨hos.trans h.heap.fr.os, htape.trans h.heap.fr.tape, hout.trans h.heap.fr.output, h.heap.fr.bsz, Nat.le_trans h.heap.fr.wsz hsz, h.heap.fr.wos, h.heap.fr.isz, fun k hk hI => ?_, h.heap.fr.sync⟩, h.heap.hd0, h.heap.mno, h.heap.mkh, h.heap.kk⟩,
    fun D hD => ?_, fun D o hD ho => ?_, h.le, h.ws, h.I_, h.k, fun b hb => ?_, fun i o b ho hb => ?_, fun b cs hb => ?_, h.no_⟩
  · obtain ⟨ob, hob, hc⟩ := (h.heap.ob i o ho).cellsAt hb
    rw [hs b ob hob (h.own i o b ho hb) (.inr hc), hob]
  · obtain ⟨T, fr, hw⟩ := h.heap.mem b cs hb
    exact ⟨T, fr, hs b _ hw (h.mem b cs hb) (.inr rfl)⟩
  · have : k < w.heap.size := by rw [h.ws] at hk; exact Nat.lt_of_lt_of_le hk h0.heap.fr.wsz
    rw [low k this]; exact h.heap.fr.block k hk hI
  · rw [low D (hl0 D hD)]; exact h.marks D hD
  · have hD2 := h0.marks.1 D o hD ho
    rw [low D (Array.getElem?_eq_some_iff.1 hD2).1]; exact h.knc D o hD ho
  · rcases h2 b hb with x | x
    · exact h.lo b x
    · omega
  · exact grow b ((h.heap.ob i o ho).blk_lt hb) (h.own i o b ho hb)
  · exact grow b (h.heap.mem_lt hb) (h.mem b cs hb)

theorem Mid.into {C : Ctx} {E : Env} {no : Nat} {w : World} {l0 : List Nat} {st : St} {E1 : Env} {I : Nat → Prop} {W : World} (h : Mid C E no w l0 st E1 I W) (hkno : C.m ≤ no) {a : Act} (hsz : a.tmps.size = C.nt) (hsl : ∀ t, SRep E1 (a.tmps.getD t undef) (st.get t)) (hd : a.defers = []) :
    Models (ctxR C no E.k E1 I W) { E1 with ws := W, I := fun b => E1.mine b ∧ b < W.heap.size ∧ ¬ I b } st a W := by
  have hle : E1.Le { E1 with ws := W, I := fun b => E1.mine b ∧ b < W.heap.size ∧ ¬ I b } := ⟨fun _ _ h => h, fun _ _ h => h, rfl⟩
  refine ⟨hsz, fun t => (hsl t).mono hle, ⟨fun i o ho => (h.heap.ob i o ho).mono hle, h.heap.sep, fun i o b ho hb => ?_, h.heap.mem, fun _ _ h => h, fun b cs hb => .inl hb, h.heap.new, h.heap.base, ⟨h.heap.fr.os, h.heap.fr.tape, h.heap.fr.output, Nat.le_trans h.heap.fr.bsz h.heap.fr.wsz, Nat.le_refl _, ⟨h.heap.fr.os, h.heap.fr.tape, h.heap.fr.output⟩, fun b hb => hb.2.1, fun _ _ _ => rfl, h.k, rfl, rfl⟩, fun _ _ => rfl, h.no_, hkno, h.heap.kk⟩,
    fun D o hD _ => hD, [], fun _ => rfl, by simp [hd], List.nodup_nil, by simp⟩
  obtain ⟨g1, g2, g3⟩ := h.heap.own i o b ho hb
  exact ⟨g1, g2, g3.imp_left fun hm => .inr ⟨hm, (h.heap.ob i o ho).blk_lt hb, h.own i o b ho hb⟩⟩

theorem Mid.outof {C : Ctx} {E : Env} {no : Nat} {w : World} {l0 : List Nat} {st : St} {E1 : Env} {I : Nat → Prop} {W : World} (h : Mid C E no w l0 st E1 I W) (hIs : ∀ b, I b → b < W.heap.size) (hE : ∀ i v, E.hd i = some v → i < no) (hkno : C.kh ≤ no) (hkm : C.m ≤ C.kh) (hrom : C.ro ≤ C.m) (hwsz : w.heap.size ≤ W.heap.size) (hwb : C.base ≤ w.heap.size) (hlent : ∀ i b, i < C.m → (C.hd0 i).bind blockOf = some b → b < C.base)
    {st2 : St} {E2 : Env} {a2 : Act} {W2 : World} (h2 : Models (ctxR C no E.k E1 I W) E2 st2 a2 W2) :
    Mid C E no w l0 st2 { E2 with ws := E.ws, I := E.I, k := E.k } I W2 ∧ KeepsOthers W W2 ∧ KeepsI I E.mem W W2 ∧ (∀ t, SRep { E2 with ws := E.ws, I := E.I, k := E.k } (a2.tmps.getD t undef) (st2.get t)) ∧ a2.defers = [] ∧ W.heap.size ≤ W2.heap.size := by
  obtain ⟨hk2, hI2, hw2⟩ : E2.k = E.k ∧ E2.I = (fun b => E1.mine b ∧ b < W.heap.size ∧ ¬ I b) ∧ E2.ws = W := h2.heap.fr.sync
  have hle : E2.Le { E2 with ws := E.ws, I := E.I, k := E.k } := ⟨fun _ _ h => h, fun _ _ h => h, rfl⟩
  have hsz : W.heap.size ≤ W2.heap.size := by have := h2.heap.fr.wsz; rw [hw2] at this; exact this
  have same : ∀ b, b < W.heap.size → ¬ (E1.mine b ∧ b < W.heap.size ∧ ¬ I b) → W2.heap[b]? = W.heap[b]? := fun b hb hn => by
    have := h2.heap.fr.block b (by rw [hw2]; exact hb) (by rw [hI2]; exact hn)
    rw [hw2] at this; exact this
  have hm1 : ∀ b, E1.mine b ↔ E.mine b := fun b => by unfold Env.mine; rw [h.ws, h.I_]
  have hwsW : E.ws.heap.size ≤ W.heap.size := by have := h.heap.fr.wsz; rw [h.ws] at this; exact this
  -- what is the round's own
  have mine2 : ∀ b, E2.mine b → E.mine b ∧ ¬ I b := fun b hb => by
    unfold Env.mine at hb
    rw [hw2, hI2] at hb
    rcases hb with hb | ⟨hb, _, hn⟩
    · exact ⟨.inl (by omega), fun hi => by have := hIs b hi; omega⟩
    · exact ⟨(hm1 b).1 hb, hn⟩
  have hhd : ∀ k, k < no → E2.hd k = E1.hd k := fun k hk => h2.heap.hd0 k hk
  have hnc : KeepNC W W2 := h2.marks.1
  refine ⟨⟨⟨fun i o ho => (h2.heap.ob i o ho).mono hle, h2.heap.sep, fun i o b ho hb => ?_, h2.heap.mem, fun b cs hb => h2.heap.mem0 b cs (h.heap.mem0 b cs hb), fun b cs hb => ?_, h2.heap.new, h2.heap.base, ⟨h2.heap.fr.os, h2.heap.fr.tape, h2.heap.fr.output, ?_, ?_, ?_, ?_, fun k hk hI => ?_, ?_⟩, fun k hk => ?_, Nat.le_trans hkno h2.heap.mno, hkm, ?_⟩,
    fun D hD => hnc D _ (h.marks D hD) rfl, fun D o hD ho => hnc D o (h.knc D o hD ho) ho, ⟨fun i v hv => ?_, fun b cs hb => h2.heap.mem0 b cs (h.le.mem b cs hb), ?_⟩, rfl, rfl, rfl, h.lo, fun i o b ho hb => ?_, fun b cs hb => ?_, h2.heap.mno⟩, ⟨hsz, hnc⟩, ⟨?_, ?_, ?_, hsz, fun b hb => ?_, fun b cs hb _ => ?_⟩, fun t => (h2.slot t).mono hle, ?_, hsz⟩
  · obtain ⟨g1, g2, g3⟩ := h2.heap.own i o b ho hb
    exact ⟨g1, g2, g3.imp_left fun hm => (mine2 b hm).1⟩
  · rcases h2.heap.memnew b cs hb with x | x
    · exact (h.heap.memnew b cs x).imp_right fun y => ⟨y.1, (hm1 b).1 y.2⟩
    · exact .inr ⟨x.1, (mine2 b x.2).1⟩
  · have := h.heap.fr.bsz; rw [h.ws] at this; exact this
  · show E.ws.heap.size ≤ W2.heap.size; omega
  · have := h.heap.fr.wos; rw [h.ws] at this; exact this
  · have := h.heap.fr.isz; rw [h.ws, h.I_] at this; exact this
  · have hk' : k < E.ws.heap.size := hk
    have hI' : ¬ E.I k := hI
    rw [same k (by omega) (fun ⟨x, _⟩ => ((hm1 k).1 x).elim (fun y => by omega) hI')]
    have := h.heap.fr.block k (by rw [h.ws]; exact hk') (by rw [h.I_]; exact hI')
    rw [this, h.ws]
  · have := h.heap.fr.sync; rw [h.ws, h.I_, h.k] at this; exact this
  · show E2.hd k = _
    rw [hhd k (by omega)]; exact h.heap.hd0 k hk
  · show E.k = st2.k
    rw [← hk2]; exact h2.heap.kk
  · show E2.hd i = some v
    rw [hhd i (hE i v hv)]; exact h.le.hd i v hv
  · show E2.base = E.base
    rw [h2.heap.base]; show C.base = E.base; rw [← h.le.base, h.heap.base]
  · obtain ⟨_, g2, g3⟩ := h2.heap.own i o b ho hb
    rcases g3 with g3 | ⟨g3, _⟩
    · exact (mine2 b g3).2
    · -- an object that is lent stays the same
      have g4 : i < C.m := g3
      have hi : i < no := Nat.lt_of_lt_of_le g3 (Nat.le_trans hkm hkno)
      have hb' : (E2.hd i).bind blockOf = some b := hb
      rw [hhd i hi, h.heap.hd0 i (by omega)] at hb'
      have := hlent i b g4 hb'
      intro hI
      have := h.lo b hI
      omega
  · rcases h2.heap.memnew b cs hb with x | x
    · exact h.mem b cs x
    · exact (mine2 b x.2).2
  · exact h2.heap.fr.os.trans h.heap.fr.os.symm
  · exact h2.heap.fr.tape.trans h.heap.fr.tape.symm
  · exact h2.heap.fr.output.trans h.heap.fr.output.symm
  · exact same b (hIs b hb) (fun x => x.2.2 hb)
  · exact h2.heap.mem b cs (h2.heap.mem0 b cs (h.le.mem b cs hb))
  · obtain ⟨_, l, l1, l2, _⟩ := h2.marks
    rw [l2, l1 rfl]; rfl

theorem putPs_sound {C : Ctx} {E : Env} {w : World} {X : Cfg} (hnt : C.nt = X.nt) {K : St → Prop} {G : Act → World → Prop} (hG : ∀ st' a', K st' → Models C E st' a' w → G a' w) : ∀ (ps : List Nat) (vs : List Value) (st : St) (a : Act), allLt X.nt ps = true → (∀ v ∈ vs, vOk v = true) → putPs ps vs st K → Models C E st a w →
    G { a with tmps := (ps.zip vs).foldl (fun t (p, v) => t.setIfInBounds p v) a.tmps } w
  | [], [], st, a, _, _, hk, h => hG st _ hk h
  | [], _ :: _, _, _, _, _, hk, _ => hk.elim
  | _ :: _, [], _, _, _, _, hk, _ => hk.elim
  | p :: ps, v :: vs, st, a, hp, hv, hk, h => by
    simp only [allLt, Bool.and_eq_true] at hp
    simp only [putPs, putK_eq] at hk
    have hrep : SRep E v (.p true (toPV v)) := by
      refine .p _ _ _ ?_
      have hv0 := hv v (by simp)
      cases v with
      | agg cs =>
        refine .agg cs _ (by simp) (fun k u hu => ?_) (fun k u s hu hs => ?_)
        · exact List.all_eq_true.1 hv0 u (List.mem_of_getElem? (by simpa using hu))
        · simp only [List.getElem?_map, Array.getElem?_toList, hu, Option.map_some, Option.some.injEq] at hs
          subst hs; exact .val u
      | _ => exact .val _
    exact putPs_sound hnt hG ps vs _ _ hp.2 (fun u hu => hv u (by simp [hu])) hk (h.puto (t := some p) (by simpa [okDst, hnt] using hp.1) hrep)

theorem head_fr {st : St} {G : List Nat} {uos : List UO} {c : Option Nat} (t : Nat) : (headSt st [] G [] uos c).get t = st.get t := by
  unfold headSt St.get
  simp [zipK, keysOf, dropKeys_look]

theorem HRep.withFr {C : Ctx} {E : Env} {st : St} {w : World} (h : HRep C E st w) (f : List (Nat × SV)) : HRep C E ⟨f, st.ob, st.no, st.k⟩ w :=
  ⟨h.ob, h.sep, h.own, h.mem, h.mem0, h.memnew, h.new, h.base, h.fr, h.hd0, h.mno, h.mkh, h.kk⟩
theorem Mid.withFr {C : Ctx} {E : Env} {no : Nat} {w : World} {l0 : List Nat} {st : St} {E1 : Env} {I : Nat → Prop} {W : World} (h : Mid C E no w l0 st E1 I W) (f : List (Nat × SV)) : Mid C E no w l0 ⟨f, st.ob, st.no, st.k⟩ E1 I W :=
  ⟨h.heap.withFr f, h.marks, h.knc, h.le, h.ws, h.I_, h.k, h.lo, h.own, h.mem, h.no_⟩

theorem lvM_obj {st st' : St} (h : ∀ i, st.obj i = st'.obj i) (no : Nat) (s : SV) (c : LV) : lvM st no s c = lvM st' no s c := by
  cases c with
  | s c => cases c <;> rfl
  | rw T sz n f => simp only [lvM, h]
theorem lvMs_obj {st st' : St} (h : ∀ i, st.obj i = st'.obj i) (no : Nat) : ∀ (ss : List SV) (cs : List LV), lvMs st no ss cs = lvMs st' no ss cs
  | [], [] => rfl
  | [], _ :: _ => rfl
  | _ :: _, [] => by simp [lvMs]
  | [s], [c] => by simp only [lvMs, lvM_obj h]
  | [s], c :: d :: cs => by simp [lvMs, lvM_obj h]
  | s :: t :: ss, [c] => by simp [lvMs, lvM_obj h]
  | s :: t :: ss, c :: d :: cs => by
    simp only [lvMs, lvM_obj h]
    rw [lvMs_obj h no (t :: ss) (d :: cs)]
theorem uoM_obj {st st' : St} (h : ∀ i, st.obj i = st'.obj i) (no : Nat) : ∀ (uos : List UO), uoM st no uos = uoM st' no uos
  | [] => rfl
  | u :: us => by
    have e : cellsAt st u.i u.T = cellsAt st' u.i u.T := by unfold cellsAt; rw [h]
    simp only [uoM, e, uoM_obj h no us, lvMs_obj h no]
theorem uoRows_obj {st st' : St} (h : ∀ i, st.obj i = st'.obj i) : ∀ (uos : List UO), uoRows st uos = uoRows st' uos
  | [] => rfl
  | u :: us => by
    have e : cellsAt st u.i u.T = cellsAt st' u.i u.T := by unfold cellsAt; rw [h]
    simp only [uoRows, e, uoRows_obj h us]

theorem range_ok {g : Operand} {ps : Array Tmp} {assign body : Code} (ha : VcOk assign) (hb : VcOk body) : VcOk (.rangeFunc g ps assign body) := by
  intro C X F hm hTb hnt hro hcm hrm hF st Q E a w hk h Qw hn
  simp only [vc, rangeVC] at hk
  split at hk
  · rename_i fr gf capt hg
    obtain ⟨⟨hrnd, hps⟩, S, ⟨⟨gfn, hgf, hgb, hgn⟩, hS⟩, a0, hcapt, hpre, hlen, L, ⟨hud, huo, hgd, hgm⟩, hm2, hi0, hround, hdone⟩ := hk
    obtain ⟨hFw, hnm⟩ := hcm.f hrnd
    subst hFw
    have hgv := ev_rep h g
    rw [hg] at hgv
    obtain ⟨cvs, hge, hcl, hce⟩ : ∃ cvs, a.eval g = .func (.func gf) #[] cvs ∧ cvs.size = capt.length ∧ ∀ (k : Nat) (u : Value) (s : PV), cvs[k]? = some u → capt[k]? = some s → PRep (E.m fr) u s := by
      generalize a.eval g = v at hgv
      cases hgv with
      | p _ _ _ hp => cases hp with
        | fn _ vs _ hl he => exact ⟨vs, rfl, hl, he⟩
    obtain ⟨hvok, hseq⟩ := hS a0 hpre
    obtain ⟨pl1, pl2⟩ := ples1_get _ _ hcapt
    have hseq := hseq E.mem cvs (hcl.trans pl1) (fun k u s hu hs => by
      have hk : k < capt.length := by rw [← hcl]; exact (Array.getElem?_eq_some_iff.1 hu).1
      have hc := List.getElem?_eq_getElem hk
      exact ple1_rep (pl2 k _ s hc hs) ((hce k u _ hu hc).mono (fun b cs hb => E.m_false _ _ _ hb)))
    obtain ⟨hwknc, l0, _, hld, hln, hl0⟩ := h.marks
    have hl0s : ∀ D ∈ l0, D < w.heap.size := fun D hD => (Array.getElem?_eq_some_iff.1 (hl0 D hD).2).1
    have hbw : C.base ≤ w.heap.size := Nat.le_trans h.heap.fr.bsz h.heap.fr.wsz
    have hE : ∀ i v, E.hd i = some v → i < st.no := fun i v hv => by
      rcases Nat.lt_or_ge i st.no with x | x
      · exact x
      · rw [h.heap.new i x] at hv; cases hv
    have hkno := h.heap.mno
    have hkm := h.heap.mkh
    obtain ⟨Hd, hHd⟩ : ∃ Hd : L.X → St, Hd = fun x => headSt st [] (uoRows st (L.uo L.x0)) [] (L.uo x) st.k := ⟨_, rfl⟩
    have hslot : ∀ {E1 : Env}, E.Le E1 → ∀ x t, SRep E1 (a.tmps.getD t undef) ((Hd x).get t) := by
      intro E1 hle x t
      rw [hHd]
      simp only [head_fr]
      exact (h.slot t).mono hle
    have hnoH : ∀ x, st.no ≤ (Hd x).no := fun x => by
      rw [hHd]
      show st.no ≤ uoCnt (cntOf st.no []) (L.uo x)
      rw [uoCnt_eq (st := st) (E := E) (w := w), cntOf_eq]
      omega
    obtain ⟨vals0, hh0⟩ := toHead (W := []) (ups := []) (uos := L.uo L.x0) (G := uoRows st (L.uo L.x0)) (c := st.k) hro h.heap.mno h.slts h.heap.olts h rfl hud huo (fun _ _ => rfl) (fun _ _ _ _ => rfl) trivial hm2 rfl hgd
      (fun j hj => ⟨by rw [hcm.m]; exact allGe_mem hgm hj, fun _ => ⟨hj, allRows_uo (ups := []) trivial hm2 hj⟩⟩)
    obtain ⟨X', hX'⟩ : ∃ X' : Cfg, X' = { X with rnd := true, yl := none } := ⟨_, rfl⟩
    obtain ⟨Qr, hQr⟩ : ∃ Qr : Nat → L.X → Exit → St → Prop, Qr = fun k x e st2 => match e with
          | .normal => ∃ x', uoIdx (L.uo x') = uoIdx (L.uo x) ∧ againO st (Hd x) st2 (L.uo x') ∧ L.inv (k + 1) x'
          | .ret => Q .ret ⟨(Hd x).fr, st2.ob, st2.no, st2.k⟩
          | .exit id => Q (.exit id) ⟨(Hd x).fr, st2.ob, st2.no, st2.k⟩
          | _ => False := ⟨_, rfl⟩
    have cxr : ∀ {E1 : Env} {I : Nat → Prop} {W : World} {st1 : St} (l : Nat), Mid C E st.no w l0 st1 E1 I W → CX (ctxR C st.no E.k E1 I W) X' (Fence.wide.inRound l) := fun {E1 I W st1} l hM => by
      subst hX'
      refine ⟨hcm.m, fun l xs hy => (by cases hy), fun hr => (by cases hr), fun i b hi hb => hcm.lent i b hi ?_, hcm.rm, fun p hp => hM.heap.mem0 _ _ (hcm.gl p hp)⟩
      have hb' : (E1.hd i).bind blockOf = some b := hb
      have hi' : i < C.m := hi
      rw [hM.heap.hd0 i (by omega)] at hb'
      exact hb'
    have hwide : ∀ l, Wide (Fence.wide.inRound l) := fun l => .inr ⟨l, rfl⟩
    refine wp_range (xs := (S.xs a0).map List.toArray) (μ := E.mem) hge (fun args w => callFunc_run hgf hgb hgn args w) hseq (fun b cs hb => h.heap.mem b cs hb) (fun x hx => ?_)
      (fun k I W => ∃ E1 x, L.inv k x ∧ uoIdx (L.uo x) = uoIdx (L.uo L.x0) ∧ w.heap.size ≤ W.heap.size ∧ Mid C E st.no w l0 (Hd x) E1 I W)
      (fun c I W => ∃ E1 st1, w.heap.size ≤ W.heap.size ∧ Mid C E st.no w l0 st1 E1 I W ∧ (∀ t, SRep E1 (a.tmps.getD t undef) (st1.get t)) ∧ ((c = .ret ∧ Q .ret st1) ∨ ∃ id, c = .exit id ∧ Q (.exit id) st1))
      (fun k I I' W W' hj h1 h2 h2' hos htape hout hsz hs => ?_) (fun c I I' W W' hj h1 h2 h2' hos htape hout hsz hs => ?_)
      ⟨headEnv E st.no vals0, L.x0, hi0, rfl, Nat.le_refl _, by rw [hHd]; exact hh0.heap, fun D hD => (hl0 D hD).2, hwknc, ⟨fun i v hv => by simp [headEnv, hE i v hv, hv], fun _ _ h => h, rfl⟩, rfl, rfl, rfl, fun _ h => h.elim, fun _ _ _ _ _ h => h.elim, fun _ _ _ h => h.elim, hnoH _⟩
      (fun k xv I a' W => ∃ E1 st1 x, L.inv k x ∧ uoIdx (L.uo x) = uoIdx (L.uo L.x0) ∧ w.heap.size ≤ W.heap.size ∧ Mid C E st.no w l0 st1 E1 I W ∧ a'.tmps.size = C.nt ∧ (∀ t, SRep E1 (a'.tmps.getD t undef) (st1.get t)) ∧ a'.defers = [] ∧ vc body X' st1 (Qr k x))
      (fun k xv a' I I' W W' hj h1 h2 h2' hos htape hout hsz hs => ?_) (fun l k xv I W hx hj hI => ?_) (fun l k xv I a' W hx hj hI => ?_) (fun D I W hD hj hdf => ?_) (fun D c I W hD hj hdf => ?_)
    · obtain ⟨y, hy, rfl⟩ := List.mem_map.1 hx
      simpa using hlen y hy
    · obtain ⟨E1, x, hinv, huu, hwW, hM⟩ := hj
      exact ⟨E1, x, hinv, huu, by omega, hM.stab h hl0s h1 h2 hos htape hout hsz hwW hs⟩
    · obtain ⟨E1, st1, hwW, hM, hr⟩ := hj
      exact ⟨E1, st1, by omega, hM.stab h hl0s h1 h2 hos htape hout hsz hwW hs, hr⟩
    · obtain ⟨E1, st1, x, hinv, huu, hwW, hM, hr⟩ := hj
      exact ⟨E1, st1, x, hinv, huu, by omega, hM.stab h hl0s h1 h2 hos htape hout hsz hwW hs, hr⟩
    · -- the loop's variables
      obtain ⟨E1, x, hinv, huu, hwW, hM⟩ := hj
      rw [List.getElem?_map] at hx
      cases hvs : (S.xs a0)[k]? with
      | none => rw [hvs] at hx; cases hx
      | some vs =>
        rw [hvs] at hx
        simp only [Option.map_some, Option.some.injEq] at hx
        subst hx
        have hr := hround k x vs hinv hvs
        rw [forceSt_eq] at hr
        have hin := hM.into (a := { a with defers := [] }) (by omega) h.size (hslot hM.le x) rfl
        have e : (ps.zip vs.toArray).foldl (fun (t : Array Value) (p, v) => t.setIfInBounds p v) a.tmps = (ps.toList.zip vs).foldl (fun (t : Array Value) (p, v) => t.setIfInBounds p v) a.tmps := by
          rw [← Array.foldl_toList, Array.toList_zip]
        rw [e]
        rw [← hX'] at hr
        have hr' : putPs ps.toList vs (Hd x) fun hd' => vc assign X' hd' fun e st1 => match e with
            | .normal => vc body X' st1 (Qr k x)
            | _ => False := by rw [hQr, hHd]; exact hr
        refine putPs_sound (X := X) (hG := fun st' a' hk' h' => ?_) (G := fun a' w' => w' = W → assign.wpIn (Fence.wide.inRound l) 9 X.P _ a' w') (by exact hnt) ps.toList vs (Hd x) { a with defers := [] } hps (hvok vs (List.mem_of_getElem? hvs)) hr' hin rfl
        intro _
        have cxp := cxr l hM
        refine (show X'.P = X.P by rw [hX']) ▸ ha (ctxR C st.no E.k E1 I W) X' (Fence.wide.inRound l) (by rw [hX']; exact hm) (by rw [hX']; exact hTb) (by rw [hX']; exact hnt) (by rw [hX']; exact hro) cxp hrm (hwide l) st' _ _ a' W hk' h' _ ?_
        intro e st2 E2 a2 W2 hq h2
        cases e with
        | normal =>
          obtain ⟨o1, o2, o3, o4, o5, o6⟩ := hM.outof (fun b hb => (hI b hb).2) hE hkno hkm hrm hwW hbw hcm.lent h2
          exact ⟨o2, o3, _, st2, x, hinv, huu, by omega, o1, h2.size, o4, o5, hq⟩
        | _ => exact hq.elim
    · -- the body
      obtain ⟨E1, st1, x, hinv, huu, hwW, hM, hsz, hsl, hdf, hvc⟩ := hj
      have hin := hM.into (by omega) hsz hsl hdf
      have cxp := cxr l hM
      refine (show X'.P = X.P by rw [hX']) ▸ hb (ctxR C st.no E.k E1 I W) X' (Fence.wide.inRound l) (by rw [hX']; exact hm) (by rw [hX']; exact hTb) (by rw [hX']; exact hnt) (by rw [hX']; exact hro) cxp hrm (hwide l) st1 _ _ a' W hvc hin _ ?_
      intro e st2 E2 a2 W2 hq h2
      have hout := hM.outof (fun b hb => (hI b hb).2) hE hkno hkm hrm hwW hbw hcm.lent h2
      rw [hQr] at hq
      cases e with
      | normal =>
        obtain ⟨x', hux, ⟨⟨q1, q2⟩, ⟨q3, q4⟩, q5⟩, hinv'⟩ := hq
        have hle2 : E.Le E2 := ⟨hout.1.le.hd, hout.1.le.mem, hout.1.le.base⟩
        have h2' : Models (ctxR C st.no E.k E1 I W) E2 ⟨st.fr, st2.ob, st2.no, st2.k⟩ { a with defers := [] } W2 :=
          ⟨h.size, fun t => (h.slot t).mono hle2, h2.heap.withFr _, h2.marks.1, [], fun _ => rfl, rfl, List.nodup_nil, by simp⟩
        have hkk : st.k = st2.k := by
          have h3 : E2.k = E.k := h2.heap.fr.sync.1
          rw [← h2.heap.kk, h3, h.heap.kk]
        obtain ⟨vals, hh⟩ := toHead (C := ctxR C st.no E.k E1 I W) (X := X) (W := []) (ups := []) (uos := L.uo x') (G := uoRows st (L.uo L.x0)) (c := st.k) hro (Nat.le_refl _) h.slts h.heap.olts h2' rfl (by rw [hux, huu]; exact hud) (by rw [hux, huu]; exact huo) (fun _ _ => rfl)
          (fun i hi hu hG => by
            have e1 : (Hd x).obj i = st.obj i := by rw [hHd]; exact head_obj (ups := []) hi (by rw [← hux]; exact hu) hG
            rw [← e1]
            unfold St.obj
            rw [dropN_look2 st.no (uoIdx (L.uo x')) _ st2.ob i q2 hi hu, q1])
          trivial ((uoM_obj (st := ⟨st.fr, st2.ob, st2.no, st2.k⟩) (st' := st2) (fun _ => rfl) st.no (L.uo x')).mpr q5) hkk ((congrArg distinct (uoRows_obj (st := ⟨st.fr, st2.ob, st2.no, st2.k⟩) (st' := st2) (fun _ => rfl) (L.uo x'))).trans q3)
          (fun j hj => by
            have hj' : j ∈ uoRows st2 (L.uo x') := (uoRows_obj (st := ⟨st.fr, st2.ob, st2.no, st2.k⟩) (st' := st2) (fun _ => rfl) (L.uo x')) ▸ hj
            have := allGe_mem q4 hj'
            exact ⟨by show C.m ≤ j; omega, fun hlt => by omega⟩)
        obtain ⟨o1, o2, o3, _, _, o6⟩ := hM.outof (fun b hb => (hI b hb).2) hE hkno hkm hrm hwW hbw hcm.lent hh
        exact ⟨o2, o3, _, x', hinv', hux.trans huu, by omega, by rw [hHd]; exact o1⟩
      | ret =>
        obtain ⟨o1, o2, o3, _, _, o6⟩ := hout
        exact ⟨o2, o3, _, ⟨(Hd x).fr, st2.ob, st2.no, st2.k⟩, by omega, o1.withFr _, hslot o1.le x, .inl ⟨rfl, hq⟩⟩
      | exit id =>
        obtain ⟨o1, o2, o3, _, _, o6⟩ := hout
        exact ⟨o2, o3, _, ⟨(Hd x).fr, st2.ob, st2.no, st2.k⟩, by omega, o1.withFr _, hslot o1.le x, .inr ⟨id, rfl, hq⟩⟩
      | _ => exact hq.elim
    all_goals
      have fin : ∀ {E1 : Env} {st1 : St}, Mid C E st.no w l0 st1 E1 I W → (∀ t, SRep E1 (a.tmps.getD t undef) (st1.get t)) → Models C E1 st1 { a with defers := { target := .collected D, args := #[] } :: a.defers } W := fun {E1 st1} hM hsl => by
        have hmn : ∀ b, E.mine b → E1.mine b := fun b hb => by unfold Env.mine at *; rw [hM.ws, hM.I_]; exact hb
        refine ⟨h.size, hsl, hM.heap, hM.knc, D :: l0, fun hx => (by rw [hnm] at hx; cases hx), by simp [hld], List.nodup_cons.2 ⟨fun hx => by have := hl0s D hx; omega, hln⟩, fun D' hD' => ?_⟩
        rcases List.mem_cons.1 hD' with rfl | hD'
        · exact ⟨⟨by omega, hmn _ (.inl (Nat.le_trans h.heap.fr.wsz hD))⟩, hdf⟩
        · exact ⟨⟨(hl0 D' hD').1.1, hmn _ (hl0 D' hD').1.2⟩, hM.marks D' hD'⟩
    · obtain ⟨E1, x, hinv, huu, hwW, hM⟩ := hj
      have hq := hdone x (by simpa using hinv)
      rw [forceSt_eq] at hq
      exact hn .normal (Hd x) E1 _ W (by rw [hHd]; exact hq) (fin hM (hslot hM.le x))
    · obtain ⟨E1, st1, hwW, hM, hsl, ⟨rfl, hq⟩ | ⟨id, rfl, hq⟩⟩ := hj
      · exact wpIn_ret (hn _ st1 E1 _ W hq (fin hM hsl))
      · exact wpIn_exit (hn _ st1 E1 _ W hq (fin hM hsl))
  · exact hk.elim

end Go.Sx

namespace Go.Sx
open Go

theorem vc_ok (c : Code) : VcOk c := by
  induction c with
  | skip =>
    intro C X F hm hTb hnt hro hcm hrm hF st Q E a w hk h Qw hn
    exact wpIn_skip (hn _ st E a w hk h)
  | region id ops draw =>
    intro C X F hm hTb hnt hro hcm hrm hF st Q E a w hk h Qw hn
    cases draw with
    | false => exact region_sound hTb hnt hro hcm hF (fun st' E' a' w' hk' h' => hn _ st' E' a' w' hk' h') hk h
    | true =>
      obtain ⟨ord, ho, hk⟩ := hk
      exact region_draw_sound hm hTb hnt hro hcm hF ho (fun st' E' a' w' hk' h' => hn _ st' E' a' w' hk' h') hk h
  | seq x y ihx ihy =>
    intro C X F hm hTb hnt hro hcm hrm hF st Q E a w hk h Qw hn
    refine wpIn_seq (ihx C X F hm hTb hnt hro hcm hrm hF st _ E a w hk h _ fun e st' E' a' w' hq h' => ?_)
    cases e with
    | normal => exact ihy C X F hm hTb hnt hro hcm hrm hF st' Q E' a' w' hq h' Qw hn
    | _ => exact hn _ st' E' a' w' hq h'
  | cond c x y ihx ihy =>
    intro C X F hm hTb hnt hro hcm hrm hF st Q E a w hk h Qw hn
    simp only [vc] at hk
    split at hk
    · rename_i b t hc
      have hcv := ev_rep h c
      rw [hc] at hcv
      rcases bcase_elim hk with ⟨rfl, hk⟩ | ⟨rfl, hk⟩
      · exact wpIn_cond_true hcv.val_inv (ihx C X F hm hTb hnt hro hcm hrm hF st Q E a w hk h Qw hn)
      · exact wpIn_cond_false hcv.val_inv (ihy C X F hm hTb hnt hro hcm hrm hF st Q E a w hk h Qw hn)
    · exact hk.elim
  | block id x ih =>
    intro C X F hm hTb hnt hro hcm hrm hF st Q E a w hk h Qw hn
    refine wpIn_block (ih C X F hm hTb hnt hro hcm hrm hF st _ E a w hk h _ fun e st' E' a' w' hq h' => ?_)
    cases e with
    | exit j =>
      simp only at hq
      cases hb : j.beq id with
      | true =>
        obtain rfl := Nat.eq_of_beq_eq_true hb
        rw [hb] at hq
        simp only [Exit.inBlock, if_true]
        exact hn _ st' E' a' w' hq h'
      | false =>
        rw [hb] at hq
        have hne : ¬ j = id := fun e => by subst e; simp at hb
        simp only [Exit.inBlock, if_neg hne]
        exact hn _ st' E' a' w' hq h'
    | _ => exact hn _ st' E' a' w' hq h'
  | loop body ih =>
    intro C X F hm hTb hnt hro hcm hrm hF st Q E a w hk h Qw hn
    obtain ⟨L, hk⟩ := hk
    cases L with
    | unroll n =>
      refine wpIn_loop_rounds n ?_
      simp only at hk
      induction n generalizing st E a w with
      | zero => exact hk.elim
      | succ n ihn =>
        rw [roundsIn_succ]
        refine ih C X F hm hTb hnt hro hcm hrm hF st _ E a w hk h _ fun e st' E' a' w' hq h' => ?_
        cases e with
        | normal => exact ihn st' E' a' w' h' hq
        | _ => exact hn _ st' E' a' w' hq h'
    | inv L =>
      obtain ⟨⟨he, hcc⟩, hi, hround⟩ := hk
      obtain ⟨E2, h2⟩ := enter_head hro hcm.m h hcc.symm he
      obtain ⟨⟨hkd, _, hud, huo, _, _⟩, _, _⟩ := he
      have key : ∀ (m : Nat) (x : L.X) (E2 : Env) (a : Act) (w : World), L.meas x < m → L.inv x → keysOf (L.up x) = keysOf (L.up L.x0) → uoIdx (L.uo x) = uoIdx (L.uo L.x0) →
          Models C E2 (headSt st (writesC body ++ keysOf (L.up L.x0)) (allRows st (L.up L.x0) (L.uo L.x0)) (L.up x) (L.uo x) (L.cnt x)) a w → Code.roundsIn F 9 X.P body Qw m a w := by
        intro m
        induction m with
        | zero => intro x E2 a w hlt; omega
        | succ m ihm =>
          intro x E2 a w hlt hx hk1 hk2 h2
          rw [roundsIn_succ]
          have hr := hround x hx
          rw [forceSt_eq] at hr
          refine ih C X F hm hTb hnt hro hcm hrm hF _ _ E2 a w hr h2 _ fun e st' E' a' w' hq h' => ?_
          cases e with
          | normal =>
            obtain ⟨x', ⟨q1, q2⟩, ⟨q3, q6⟩, q4, q5⟩ := hq
            obtain ⟨E3, h3⟩ := again_head hro hcm.m hrm h (fun t ht => by rw [hk1] at ht; exact List.mem_append_right _ ht) q1 q2 (by rw [hk1]; exact hkd) (by rw [hk2]; exact hud) (by rw [hk2]; exact huo) h' q6.symm q3
            exact ihm x' E3 a' w' (by omega) q4 (q1.trans hk1) (q2.trans hk2) h3
          | _ => exact hn _ st' E' a' w' hq h'
      exact wpIn_loop_rounds (L.meas L.x0 + 1) (key _ L.x0 E2 a w (by omega) hi rfl rfl h2)
  | rangeFunc g ps x y ihx ihy => exact range_ok ihx ihy
  | exit id =>
    intro C X F hm hTb hnt hro hcm hrm hF st Q E a w hk h Qw hn
    exact wpIn_exit (hn _ st E a w hk h)
  | scope => exact fun C X F hm hTb hnt hro hcm hrm hF st Q E a w hk => hk.elim
  | label => exact fun C X F hm hTb hnt hro hcm hrm hF st Q E a w hk => hk.elim
  | goto => exact fun C X F hm hTb hnt hro hcm hrm hF st Q E a w hk => hk.elim
  | ret =>
    intro C X F hm hTb hnt hro hcm hrm hF st Q E a w hk h Qw hn
    exact wpIn_ret (hn _ st E a w hk h)
  | refuse => exact fun C X F hm hTb hnt hro hcm hrm hF st Q E a w hk => hk.elim

end Go.Sx
