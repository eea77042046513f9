/- Contracts of chapter 7: a task with its prime implicants, owners, counts, points that are open. -/
import Derived.Test.YtmjfhoidokajpaaGreatZ3
set_option maxHeartbeats 1000000
set_option maxRecDepth 4000
set_option linter.unusedSimpArgs false
set_option linter.unusedVariables false
set_option linter.unusedSectionVars false
namespace Go.Sx.Pn
open Go Go.Proofs

/-- how often each point is covered, as data -/
def cntP (f : Nat → Nat) : List PV := [
  iP (f 0 : Nat), iP (f 1 : Nat), iP (f 2 : Nat), iP (f 3 : Nat), iP (f 4 : Nat), iP (f 5 : Nat), iP (f 6 : Nat), iP (f 7 : Nat),
  iP (f 8 : Nat), iP (f 9 : Nat), iP (f 10 : Nat), iP (f 11 : Nat), iP (f 12 : Nat), iP (f 13 : Nat), iP (f 14 : Nat), iP (f 15 : Nat),
  iP (f 16 : Nat), iP (f 17 : Nat), iP (f 18 : Nat), iP (f 19 : Nat), iP (f 20 : Nat), iP (f 21 : Nat), iP (f 22 : Nat), iP (f 23 : Nat),
  iP (f 24 : Nat), iP (f 25 : Nat), iP (f 26 : Nat), iP (f 27 : Nat), iP (f 28 : Nat), iP (f 29 : Nat), iP (f 30 : Nat), iP (f 31 : Nat),
  iP (f 32 : Nat), iP (f 33 : Nat), iP (f 34 : Nat), iP (f 35 : Nat), iP (f 36 : Nat), iP (f 37 : Nat), iP (f 38 : Nat), iP (f 39 : Nat),
  iP (f 40 : Nat), iP (f 41 : Nat), iP (f 42 : Nat), iP (f 43 : Nat), iP (f 44 : Nat), iP (f 45 : Nat), iP (f 46 : Nat), iP (f 47 : Nat),
  iP (f 48 : Nat), iP (f 49 : Nat), iP (f 50 : Nat), iP (f 51 : Nat), iP (f 52 : Nat), iP (f 53 : Nat), iP (f 54 : Nat), iP (f 55 : Nat),
  iP (f 56 : Nat), iP (f 57 : Nat), iP (f 58 : Nat), iP (f 59 : Nat), iP (f 60 : Nat), iP (f 61 : Nat), iP (f 62 : Nat), iP (f 63 : Nat)]
def cntV (f : Nat → Nat) : List LV := [
  .s (iA (f 0 : Nat)), .s (iA (f 1 : Nat)), .s (iA (f 2 : Nat)), .s (iA (f 3 : Nat)), .s (iA (f 4 : Nat)), .s (iA (f 5 : Nat)), .s (iA (f 6 : Nat)), .s (iA (f 7 : Nat)),
  .s (iA (f 8 : Nat)), .s (iA (f 9 : Nat)), .s (iA (f 10 : Nat)), .s (iA (f 11 : Nat)), .s (iA (f 12 : Nat)), .s (iA (f 13 : Nat)), .s (iA (f 14 : Nat)), .s (iA (f 15 : Nat)),
  .s (iA (f 16 : Nat)), .s (iA (f 17 : Nat)), .s (iA (f 18 : Nat)), .s (iA (f 19 : Nat)), .s (iA (f 20 : Nat)), .s (iA (f 21 : Nat)), .s (iA (f 22 : Nat)), .s (iA (f 23 : Nat)),
  .s (iA (f 24 : Nat)), .s (iA (f 25 : Nat)), .s (iA (f 26 : Nat)), .s (iA (f 27 : Nat)), .s (iA (f 28 : Nat)), .s (iA (f 29 : Nat)), .s (iA (f 30 : Nat)), .s (iA (f 31 : Nat)),
  .s (iA (f 32 : Nat)), .s (iA (f 33 : Nat)), .s (iA (f 34 : Nat)), .s (iA (f 35 : Nat)), .s (iA (f 36 : Nat)), .s (iA (f 37 : Nat)), .s (iA (f 38 : Nat)), .s (iA (f 39 : Nat)),
  .s (iA (f 40 : Nat)), .s (iA (f 41 : Nat)), .s (iA (f 42 : Nat)), .s (iA (f 43 : Nat)), .s (iA (f 44 : Nat)), .s (iA (f 45 : Nat)), .s (iA (f 46 : Nat)), .s (iA (f 47 : Nat)),
  .s (iA (f 48 : Nat)), .s (iA (f 49 : Nat)), .s (iA (f 50 : Nat)), .s (iA (f 51 : Nat)), .s (iA (f 52 : Nat)), .s (iA (f 53 : Nat)), .s (iA (f 54 : Nat)), .s (iA (f 55 : Nat)),
  .s (iA (f 56 : Nat)), .s (iA (f 57 : Nat)), .s (iA (f 58 : Nat)), .s (iA (f 59 : Nat)), .s (iA (f 60 : Nat)), .s (iA (f 61 : Nat)), .s (iA (f 62 : Nat)), .s (iA (f 63 : Nat))]
def cntS (f : Nat → Nat) : List SV := [
  iA (f 0 : Nat), iA (f 1 : Nat), iA (f 2 : Nat), iA (f 3 : Nat), iA (f 4 : Nat), iA (f 5 : Nat), iA (f 6 : Nat), iA (f 7 : Nat),
  iA (f 8 : Nat), iA (f 9 : Nat), iA (f 10 : Nat), iA (f 11 : Nat), iA (f 12 : Nat), iA (f 13 : Nat), iA (f 14 : Nat), iA (f 15 : Nat),
  iA (f 16 : Nat), iA (f 17 : Nat), iA (f 18 : Nat), iA (f 19 : Nat), iA (f 20 : Nat), iA (f 21 : Nat), iA (f 22 : Nat), iA (f 23 : Nat),
  iA (f 24 : Nat), iA (f 25 : Nat), iA (f 26 : Nat), iA (f 27 : Nat), iA (f 28 : Nat), iA (f 29 : Nat), iA (f 30 : Nat), iA (f 31 : Nat),
  iA (f 32 : Nat), iA (f 33 : Nat), iA (f 34 : Nat), iA (f 35 : Nat), iA (f 36 : Nat), iA (f 37 : Nat), iA (f 38 : Nat), iA (f 39 : Nat),
  iA (f 40 : Nat), iA (f 41 : Nat), iA (f 42 : Nat), iA (f 43 : Nat), iA (f 44 : Nat), iA (f 45 : Nat), iA (f 46 : Nat), iA (f 47 : Nat),
  iA (f 48 : Nat), iA (f 49 : Nat), iA (f 50 : Nat), iA (f 51 : Nat), iA (f 52 : Nat), iA (f 53 : Nat), iA (f 54 : Nat), iA (f 55 : Nat),
  iA (f 56 : Nat), iA (f 57 : Nat), iA (f 58 : Nat), iA (f 59 : Nat), iA (f 60 : Nat), iA (f 61 : Nat), iA (f 62 : Nat), iA (f 63 : Nat)]
theorem cnt_all {p : Nat → Prop} (h : ∀ k, k < 64 → p k) : p 0 ∧ p 1 ∧ p 2 ∧ p 3 ∧ p 4 ∧ p 5 ∧ p 6 ∧ p 7 ∧ p 8 ∧ p 9 ∧ p 10 ∧ p 11 ∧ p 12 ∧ p 13 ∧ p 14 ∧ p 15 ∧ p 16 ∧ p 17 ∧ p 18 ∧ p 19 ∧ p 20 ∧ p 21 ∧ p 22 ∧ p 23 ∧ p 24 ∧ p 25 ∧ p 26 ∧ p 27 ∧ p 28 ∧ p 29 ∧ p 30 ∧ p 31 ∧ p 32 ∧ p 33 ∧ p 34 ∧ p 35 ∧ p 36 ∧ p 37 ∧ p 38 ∧ p 39 ∧ p 40 ∧ p 41 ∧ p 42 ∧ p 43 ∧ p 44 ∧ p 45 ∧ p 46 ∧ p 47 ∧ p 48 ∧ p 49 ∧ p 50 ∧ p 51 ∧ p 52 ∧ p 53 ∧ p 54 ∧ p 55 ∧ p 56 ∧ p 57 ∧ p 58 ∧ p 59 ∧ p 60 ∧ p 61 ∧ p 62 ∧ p 63 :=
  ⟨h 0 (by decide), h 1 (by decide), h 2 (by decide), h 3 (by decide), h 4 (by decide), h 5 (by decide), h 6 (by decide), h 7 (by decide), h 8 (by decide), h 9 (by decide), h 10 (by decide), h 11 (by decide), h 12 (by decide), h 13 (by decide), h 14 (by decide), h 15 (by decide), h 16 (by decide), h 17 (by decide), h 18 (by decide), h 19 (by decide), h 20 (by decide), h 21 (by decide), h 22 (by decide), h 23 (by decide), h 24 (by decide), h 25 (by decide), h 26 (by decide), h 27 (by decide), h 28 (by decide), h 29 (by decide), h 30 (by decide), h 31 (by decide), h 32 (by decide), h 33 (by decide), h 34 (by decide), h 35 (by decide), h 36 (by decide), h 37 (by decide), h 38 (by decide), h 39 (by decide), h 40 (by decide), h 41 (by decide), h 42 (by decide), h 43 (by decide), h 44 (by decide), h 45 (by decide), h 46 (by decide), h 47 (by decide), h 48 (by decide), h 49 (by decide), h 50 (by decide), h 51 (by decide), h 52 (by decide), h 53 (by decide), h 54 (by decide), h 55 (by decide), h 56 (by decide), h 57 (by decide), h 58 (by decide), h 59 (by decide), h 60 (by decide), h 61 (by decide), h 62 (by decide), h 63 (by decide)⟩
theorem cntS_eq (f : Nat → Nat) : cntS f = (List.range 64).map fun k => iA (f k : Nat) := rfl
theorem cntV_eq (f : Nat → Nat) : cntV f = (List.range 64).map fun k => .s (iA (f k : Nat)) := rfl
theorem cntS_get (f : Nat → Nat) {k : Nat} (hk : k < 64) : (cntS f)[k]? = some (iA (f k : Nat)) := by
  rw [cntS_eq, List.getElem?_map, List.getElem?_range hk]; rfl
/-- a cell read or written at a place that is no literal -/
theorem rdStep {r : Option SV} {s : SV} {K : SV → Prop} (h : r = some s) (hk : K s) : (match (generalizing := false) r with | some s => K s | none => False) := by
  subst h; exact hk
theorem wrStep {b : Bool} {r : Option (List SV)} {s : List SV} {K : List SV → Prop} (hb : b = true) (h : r = some s) (hk : K s) : (match (generalizing := false) b, r with | true, some s => K s | _, _ => False) := by
  subst hb; subst h; exact hk
theorem splice_set : ∀ (cs : List SV) (k : Nat) (x : SV), k < cs.length → splice cs k [x] = some (cs.set k x)
  | [], k, x, h => absurd h (Nat.not_lt_zero _)
  | c :: cs, 0, x, _ => by cases cs <;> rfl
  | c :: cs, k + 1, x, h => by
    show (match splice cs k [x] with | some r => some (c :: r) | none => none) = _
    rw [splice_set cs k x (by simpa using h)]; rfl

theorem cntRd {f : Nat → Nat} {k : Nat} (hk : k < 64) : readCells false 1 (0 + (k : Int).toNat * 1) (cntS f) = some (iA (f k : Nat)) := by
  show nth (cntS f) (0 + (k : Int).toNat * 1) = _
  rw [nth_eq, Int.toNat_natCast, Nat.zero_add, Nat.mul_one]; exact cntS_get f hk
theorem cntWr {f : Nat → Nat} {k : Nat} {x : SV} (hk : k < 64) : splice (cntS f) (0 + (k : Int).toNat * 1) [x] = some ((cntS f).set k x) := by
  rw [Int.toNat_natCast, Nat.zero_add, Nat.mul_one]; exact splice_set _ _ _ hk
theorem lvMs_of {st : St} {no : Nat} : ∀ (ss : List SV) (us : List LV), ss.length = us.length → (∀ (k : Nat) s u, ss[k]? = some s → us[k]? = some u → lvM st no s u) → lvMs st no ss us
  | [], [], _, _ => trivial
  | [], _ :: _, h, _ => by simp at h
  | _ :: _, [], h, _ => by simp at h
  | [s], [u], _, h => h 0 s u rfl rfl
  | [s], u :: u2 :: us, h, _ => by simp at h
  | s :: s2 :: ss, [u], h, _ => by simp at h
  | s :: s2 :: ss, u :: u2 :: us, hl, h => ⟨h 0 s u rfl rfl, lvMs_of (s2 :: ss) (u2 :: us) (by simpa using hl) fun k s' u' h1 h2 => h (k + 1) s' u' h1 h2⟩
theorem rows_none : ∀ (ss : List SV) (us : List LV), (∀ u ∈ us, ∃ s, u = .s s) → rowsIn ss us = []
  | [], _, _ => by simp [rowsIn]
  | s :: ss, [], _ => by cases s <;> simp [rowsIn]
  | s :: ss, u :: us, h => by
    obtain ⟨t, rfl⟩ := h u (List.mem_cons_self ..)
    have := rows_none ss us fun u hu => h u (List.mem_cons_of_mem _ hu)
    cases s <;> simp [rowsIn, this]
theorem rows_cnt (ss : List SV) (g : Nat → Nat) : rowsIn ss (cntV g) = [] := rows_none _ _ fun u hu => by
  rw [cntV_eq] at hu
  obtain ⟨k, _, rfl⟩ := List.mem_map.1 hu
  exact ⟨_, rfl⟩
theorem cnt_set {st : St} {no : Nat} {f g : Nat → Nat} {k : Nat} {b : Bool} {v : Int} (h : ∀ p, ((g p : Nat) : Int) = if p = k then v else f p) : lvMs st no ((cntS f).set k (.p b (.val (.int .i64 v)))) (cntV g) := by
  refine lvMs_of _ _ (by rw [List.length_set, cntS_eq, cntV_eq]; simp) fun j s u hs hu => ?_
  rw [cntV_eq, List.getElem?_map] at hu
  have hj : j < 64 := by
    have := (List.getElem?_eq_some_iff.1 hs).1
    rw [List.length_set, cntS_eq] at this; simpa using this
  rw [List.getElem?_range hj] at hu
  cases hu
  rw [List.getElem?_set] at hs
  have hj2 := h j
  by_cases e : k = j
  · subst e
    rw [if_pos rfl] at hs
    have hlt : k < (cntS f).length := by rw [cntS_eq]; simpa using hj
    rw [if_pos hlt] at hs
    cases hs
    rw [if_pos rfl] at hj2
    exact ⟨⟨fun h => (by cases h), hj2.symm⟩, rfl⟩
  · rw [if_neg e, cntS_get f hj] at hs
    cases hs
    rw [if_neg fun h => e h.symm] at hj2
    exact ⟨⟨fun h => (by cases h), hj2.symm⟩, rfl⟩
/-- a task with its prime implicants -/
def wCs (x : Tk) (L : List Cu) : List PV := [.val (.int .i64 x.on.n), .val (.int .u64 x.on.bits.toNat), .val (.int .i64 x.free.n), .val (.int .u64 x.free.bits.toNat), csP L]
def wP (x : Tk) (L : List Cu) : PV := .pt (wCs x L) 0
def wA (x : Tk) (L : List Cu) : SV := .p false (wP x L)
theorem min_ok : FnOk Tryz.prog 97 hasS := by
  refine fnOk (Tb := tab) mixed tab_ok Tryz.func97 rfl rfl ?_
  rintro ⟨c, p⟩ hpre
  refine ai (ai rfl (ai rfl rfl)) ?_
  refine ai (ai (fun _ => (by (repeat' (first | exact rfl | exact trivial | exact (fun _ => rfl) | exact (fun _ _ => rfl) | exact nof | refine ai ?_ ?_)))) ?_) trivial
  show (bits .and .u64 (IntKind.u64.wrap p) c.care.toNat == (c.value.toNat : Int)) = hasC c p
  rw [u_wrap_int]
  try simp only [zz, reduceCtorEq]
  rfl
theorem powW {n : Nat} (hn : n ≤ 6) : IntKind.i64.wrap (1 * 2 ^ min (n : Int).toNat IntKind.i64.bits) = ((2 ^ n : Nat) : Int) := pow6 hn

def onW (x : Tk) (n : Nat) (p : Int) : Bool := decide (0 ≤ p) && decide (p < (2 ^ n : Nat)) && x.on.bits.getLsbD p.toNat
def wonS : Spec := fnS (fun y : Nat × Tk × List Cu × Int => [wA y.2.1 y.2.2.1, iA y.2.2.2]) (fun y => y.1 ≤ 6 ∧ y.2.1.on.n = y.1) (fun y => bP (onW y.2.1 y.1 y.2.2.2))
theorem won_ok : FnOk Tryz.prog 73 wonS := by
  refine fnOk (Tb := tab) mixed tab_ok Tryz.func73 rfl rfl ?_
  rintro ⟨n, ⟨⟨N, b⟩, fr⟩, L, p⟩ hpre
  refine ai (ai rfl (ai rfl rfl)) ?_
  obtain ⟨hn, hN⟩ : n ≤ 6 ∧ N = n := hpre
  subst hN
  refine bcase_p (p := 0 ≤ p) (by first | (with_reducible refine bif_lt ?_; omega) | (with_reducible refine bif_le ?_; omega) | (with_reducible refine bif_eq ?_; omega) | (with_reducible refine bif_ne ?_; omega) | exact b8_eq rfl | exact b8_ne rfl | exact bif_lt (by omega) | exact bif_le (by omega) | exact bif_eq (by omega) | exact bif_ne (by omega) | exact Iff.rfl | (simp only [zz, reduceCtorEq] <;> first | done | omega | exact Iff.rfl) | (simp; done) | (simp; omega)) (fun h1 => ?_) (fun h1 => ?_)
  · skip
    repeat (refine ai (by first | exact Int.natCast_nonneg _ | omega | exact ai (Int.natCast_nonneg _) (by omega)) ?_)
    refine bcase_p (p := p < (2 ^ n : Nat)) (by show decide (p < IntKind.i64.wrap (1 * 2 ^ min (n : Int).toNat IntKind.i64.bits)) = true ↔ _; rw [pow6 hn, decide_eq_true_iff]) (fun h2 => ?_) (fun h2 => ?_)
    · refine ai h1 ?_
      refine ai (ai (fun _ => (by (repeat' (first | exact rfl | exact trivial | exact (fun _ => rfl) | exact (fun _ _ => rfl) | exact nof | refine ai ?_ ?_)))) ?_) trivial
      obtain ⟨q, rfl⟩ := Int.eq_ofNat_of_zero_le h1
      show (bits .and .u64 ((b.toNat : Int).fdiv (2 ^ min (q : Int).toNat IntKind.u64.bits)) 1 == 1) = (decide ((0 : Int) ≤ q) && decide ((q : Int) < (2 ^ n : Nat)) && b.getLsbD q)
      try simp only [zz, reduceCtorEq]
      have h3 : decide ((0 : Int) ≤ q) = true := decide_eq_true h1
      have h4 : decide ((q : Int) < (2 ^ n : Nat)) = true := decide_eq_true h2
      rw [h3, h4]; rfl
    · skip
      refine ai (ai (fun _ => (by (repeat' (first | exact rfl | exact trivial | exact (fun _ => rfl) | exact (fun _ _ => rfl) | exact nof | refine ai ?_ ?_)))) ?_) trivial
      show false = (decide ((0 : Int) ≤ p) && decide (p < (2 ^ n : Nat)) && b.getLsbD p.toNat)
      rw [decide_eq_false h2]; simp
  · skip
    refine ai (ai (fun _ => (by (repeat' (first | exact rfl | exact trivial | exact (fun _ => rfl) | exact (fun _ _ => rfl) | exact nof | refine ai ?_ ?_)))) ?_) trivial
    show false = (decide ((0 : Int) ≤ p) && decide (p < (2 ^ n : Nat)) && b.getLsbD p.toNat)
    rw [decide_eq_false h1]; rfl

def wownS : Spec := fnS (fun y : Tk × List Cu × Int => [wA y.1 y.2.1, iA y.2.2]) (fun y => y.2.1.length ≤ 1000000) (fun y => nsP (ownL y.2.1 y.2.2))
theorem wown_ok : FnOk Tryz.prog 89 wownS := by
  refine fnOk (Tb := tab) mixed tab_ok Tryz.func89 rfl rfl ?_
  rintro ⟨x, l, p⟩ hpre
  refine ai (ai rfl (ai rfl rfl)) ?_
  have hl : l.length ≤ 1000000 := hpre
  refine ei (LAnn.inv { X := Nat, up := fun k => [(13, .s (iA k)), (5, rowN (ownTo l p k))], uo := fun k => [], inv := fun k => k ≤ l.length ∧ (True), meas := fun k => l.length - k, x0 := 0 }) ?_
  refine ai (ai (ai (by (repeat' (first | exact rfl | exact trivial | exact (fun _ => rfl) | exact (fun _ _ => rfl) | exact nof | refine ai ?_ ?_))) (ai (by (repeat' (first | with_reducible rfl | exact trivial | refine ai ?_ ?_ | (show (_ : Int) = _; first | with_reducible rfl | exact wr1 (by omega) | (simp only [zz, reduceCtorEq] <;> first | done | rfl | omega) | omega | rfl) | exact rfl | exact (fun _ => rfl) | exact (fun _ _ => rfl) | exact nof))) (by (repeat' (first | with_reducible rfl | exact trivial | refine ai ?_ ?_ | (show (_ : Int) = _; first | with_reducible rfl | exact wr1 (by omega) | (simp only [zz, reduceCtorEq] <;> first | done | rfl | omega) | omega | rfl) | exact rfl | exact (fun _ => rfl) | exact (fun _ _ => rfl) | exact nof))))) rfl) (ai (ai (Nat.zero_le _) ?_) ?_)
  · trivial
  intro (k : Nat) ⟨hk, _⟩
  refine bcase_p (p := k < l.length) (by first | (with_reducible refine bif_lt ?_; omega) | (with_reducible refine bif_le ?_; omega) | (with_reducible refine bif_eq ?_; omega) | (with_reducible refine bif_ne ?_; omega) | exact b8_eq rfl | exact b8_ne rfl | exact bif_lt (by omega) | exact bif_le (by omega) | exact bif_eq (by omega) | exact bif_ne (by omega) | exact Iff.rfl | (simp only [zz, reduceCtorEq] <;> first | done | omega | exact Iff.rfl) | (simp; done) | (simp; omega)) (fun h1 => ?_) (fun h1 => ?_)
  · refine ai (ai (Int.natCast_nonneg _) (by show (k : Int) < (l.length : Int); omega)) ?_
    refine ai rfl ?_
    refine ei _ (ai min_ok (ei ((l.getD k ⟨0, 0⟩, p)) (ei [] (ai (ai rfl (ai rfl (ai rfl (ai rfl (ai (fun _ => Or.inl rfl) (ai (by first | exact nof | exact (fun _ => ai rfl rfl)) (by first | exact Or.inl rfl | exact Or.inr rfl))))))) (ai (by (repeat' (first | with_reducible rfl | exact trivial | refine ai ?_ ?_ | (show (_ : Int) = _; first | with_reducible rfl | exact wr1 (by omega) | (simp only [zz, reduceCtorEq] <;> first | done | rfl | omega) | omega | rfl) | exact rfl | exact (fun _ => rfl) | exact (fun _ _ => rfl) | exact nof))) (ai trivial (ai (trivial) ?_)))))))
    refine bcase_b (b := hasC (l.getD k ⟨0, 0⟩) p) (by first | exact rfl | (simp only [zz, reduceCtorEq] <;> first | done | exact rfl)) (fun h2 => ?_) (fun h2 => ?_)
    · have hlen : (ownTo l p k).length ≤ k := filt_len _ k
      refine ai (ai (by show (ownTo l p k).length + 1 ≤ maxLen; unfold maxLen; omega) (by show ((ownTo l p k).length + 1) * 8 ≤ 140737488355328; omega)) ?_
      refine ai (fun k hk => by
        have hk : k < 1 := hk
        obtain rfl : k = 0 := by omega
        rfl) ?_
      refine ei (k + 1) (ai (ai rfl rfl) (ai (ai ?_ rfl) (ai (ai (by show k + 1 ≤ l.length; omega) ?_) (by show l.length - (k + 1) < l.length - k; omega))))
      any_goals (repeat' (first | with_reducible rfl | exact trivial | refine ai ?_ ?_ | (show (_ : Int) = _; first | with_reducible rfl | exact wr1 (by omega) | (simp only [zz, reduceCtorEq] <;> first | done | rfl | omega) | omega | rfl) | exact rfl | exact (fun _ => rfl) | exact (fun _ _ => rfl) | exact nof))
      · exact app_len (filt_yes h2)
      · exact join_app (fun i : Nat => [iP (i : Int)]) 0 (filt_yes h2) _ rfl
    · skip
      refine ei (k + 1) (ai (ai rfl rfl) (ai (ai ?_ rfl) (ai (ai (by show k + 1 ≤ l.length; omega) ?_) (by show l.length - (k + 1) < l.length - k; omega))))
      any_goals (repeat' (first | with_reducible rfl | exact trivial | refine ai ?_ ?_ | (show (_ : Int) = _; first | with_reducible rfl | exact wr1 (by omega) | (simp only [zz, reduceCtorEq] <;> first | done | rfl | omega) | omega | rfl) | exact rfl | exact (fun _ => rfl) | exact (fun _ _ => rfl) | exact nof))
      · exact congrArg List.length (filt_no h2)
      · exact row_same (fun i : Nat => [iP (i : Int)]) 0 (filt_no h2)
  · obtain rfl : k = l.length := by omega
    refine ai (ai (fun _ => (by (repeat' (first | exact rfl | exact trivial | exact (fun _ => rfl) | exact (fun _ _ => rfl) | exact nof | refine ai ?_ ?_)))) ?_) trivial
    any_goals (repeat' (first | with_reducible rfl | exact trivial | refine ai ?_ ?_ | (show (_ : Int) = _; first | with_reducible rfl | exact wr1 (by omega) | (simp only [zz, reduceCtorEq] <;> first | done | rfl | omega) | omega | rfl) | exact rfl | exact (fun _ => rfl) | exact (fun _ _ => rfl) | exact nof))

def wchL (L : List Cu) (l : List Nat) : List Cu := l.map fun i => L.getD i ⟨0, 0⟩
theorem wch_succ {L : List Cu} {l : List Nat} {k : Nat} (hk : k < l.length) : wchL L (l.take (k + 1)) = wchL L (l.take k) ++ [L.getD (l.getD k 0) ⟨0, 0⟩] := by
  unfold wchL
  rw [List.take_add_one, List.map_append, List.getElem?_eq_getElem hk]
  simp [List.getD_eq_getElem?_getD, hk]
def wchS : Spec := fnS (fun y : Tk × List Cu × List Nat => [wA y.1 y.2.1, nsA y.2.2]) (fun y => y.2.1.length ≤ 1000000 ∧ y.2.2.length ≤ 1000000 ∧ ∀ i ∈ y.2.2, i < y.2.1.length) (fun y => csP (wchL y.2.1 y.2.2))
theorem wch_ok : FnOk Tryz.prog 42 wchS := by
  refine fnOk (Tb := tab) mixed tab_ok Tryz.func42 rfl rfl ?_
  rintro ⟨x, L, l⟩ hpre
  refine ai (ai rfl (ai rfl rfl)) ?_
  obtain ⟨hL, hl, hi⟩ : L.length ≤ 1000000 ∧ l.length ≤ 1000000 ∧ ∀ i ∈ l, i < L.length := hpre
  refine ei (LAnn.inv { X := Nat, up := fun k => [(10, .s (iA k)), (5, rowC (wchL L (l.take k)))], uo := fun k => [], inv := fun k => k ≤ l.length ∧ (True), meas := fun k => l.length - k, x0 := 0 }) ?_
  refine ai (ai (ai (by (repeat' (first | exact rfl | exact trivial | exact (fun _ => rfl) | exact (fun _ _ => rfl) | exact nof | refine ai ?_ ?_))) (ai (by (repeat' (first | with_reducible rfl | exact trivial | refine ai ?_ ?_ | (show (_ : Int) = _; first | with_reducible rfl | exact wr1 (by omega) | (simp only [zz, reduceCtorEq] <;> first | done | rfl | omega) | omega | rfl) | exact rfl | exact (fun _ => rfl) | exact (fun _ _ => rfl) | exact nof))) (by (repeat' (first | with_reducible rfl | exact trivial | refine ai ?_ ?_ | (show (_ : Int) = _; first | with_reducible rfl | exact wr1 (by omega) | (simp only [zz, reduceCtorEq] <;> first | done | rfl | omega) | omega | rfl) | exact rfl | exact (fun _ => rfl) | exact (fun _ _ => rfl) | exact nof))))) rfl) (ai (ai (Nat.zero_le _) ?_) ?_)
  · trivial
  intro (k : Nat) ⟨hk, _⟩
  refine bcase_p (p := k < l.length) (by first | (with_reducible refine bif_lt ?_; omega) | (with_reducible refine bif_le ?_; omega) | (with_reducible refine bif_eq ?_; omega) | (with_reducible refine bif_ne ?_; omega) | exact b8_eq rfl | exact b8_ne rfl | exact bif_lt (by omega) | exact bif_le (by omega) | exact bif_eq (by omega) | exact bif_ne (by omega) | exact Iff.rfl | (simp only [zz, reduceCtorEq] <;> first | done | omega | exact Iff.rfl) | (simp; done) | (simp; omega)) (fun h1 => ?_) (fun h1 => ?_)
  · refine ai (ai (Int.natCast_nonneg _) (by show (k : Int) < (l.length : Int); omega)) ?_
    refine ai rfl ?_
    have h3 : l.getD k 0 < L.length := hi _ (by rw [List.getD_eq_getElem?_getD, List.getElem?_eq_getElem h1]; exact List.getElem_mem h1)
    refine ai (ai (Int.natCast_nonneg _) (by show ((l.getD k 0 : Nat) : Int) < (L.length : Int); omega)) ?_
    refine ai rfl ?_
    have hlen : (wchL L (l.take k)).length ≤ k := by
      unfold wchL; rw [List.length_map, List.length_take]; omega
    refine ai (ai (by show (wchL L (l.take k)).length + 1 ≤ maxLen; unfold maxLen; omega) (by show ((wchL L (l.take k)).length + 1) * 16 ≤ 140737488355328; omega)) ?_
    refine ai (fun k hk => by
      have hk : k < 1 := hk
      obtain rfl : k = 0 := by omega
      rfl) ?_
    refine ei (k + 1) (ai (ai rfl rfl) (ai (ai ?_ rfl) (ai (ai (by show k + 1 ≤ l.length; omega) ?_) (by show l.length - (k + 1) < l.length - k; omega))))
    any_goals (repeat' (first | with_reducible rfl | exact trivial | refine ai ?_ ?_ | (show (_ : Int) = _; first | with_reducible rfl | exact wr1 (by omega) | (simp only [zz, reduceCtorEq] <;> first | done | rfl | omega) | omega | rfl) | exact rfl | exact (fun _ => rfl) | exact (fun _ _ => rfl) | exact nof))
    · exact app_len (wch_succ h1)
    · exact join_app (fun c : Cu => c.cells) ⟨0, 0⟩ (wch_succ h1) _ rfl
  · obtain rfl : k = l.length := by omega
    refine ai (ai (fun _ => (by (repeat' (first | exact rfl | exact trivial | exact (fun _ => rfl) | exact (fun _ _ => rfl) | exact nof | refine ai ?_ ?_)))) ?_) trivial
    show ple _ (csP (wchL L l))
    rw [show wchL L l = wchL L (l.take l.length) by rw [List.take_length]]
    any_goals (repeat' (first | with_reducible rfl | exact trivial | refine ai ?_ ?_ | (show (_ : Int) = _; first | with_reducible rfl | exact wr1 (by omega) | (simp only [zz, reduceCtorEq] <;> first | done | rfl | omega) | omega | rfl) | exact rfl | exact (fun _ => rfl) | exact (fun _ _ => rfl) | exact nof))

/-- the counts with one cube more, as far as a point -/
def wiF (f : Nat → Nat) (c : Cu) (k p : Nat) : Nat := if p < k ∧ hasC c p = true then f p + 1 else f p
theorem wiF_zero (f : Nat → Nat) (c : Cu) : wiF f c 0 = f := by
  funext p; simp [wiF]
theorem wiF_yes {f : Nat → Nat} {c : Cu} {k : Nat} (h : hasC c k = true) (p : Nat) : wiF f c (k + 1) p = if p = k then wiF f c k k + 1 else wiF f c k p := by
  unfold wiF
  by_cases e : p = k
  · subst e; simp [h]
  · rw [if_neg e]
    have : (p < k + 1 ∧ hasC c p = true) ↔ (p < k ∧ hasC c p = true) := by
      constructor
      · exact fun ⟨h1, h2⟩ => ⟨by omega, h2⟩
      · exact fun ⟨h1, h2⟩ => ⟨by omega, h2⟩
    simp only [this]
theorem wiF_no {f : Nat → Nat} {c : Cu} {k : Nat} (h : hasC c k = false) : wiF f c (k + 1) = wiF f c k := by
  funext p
  unfold wiF
  have : (p < k + 1 ∧ hasC c p = true) ↔ (p < k ∧ hasC c p = true) := by
    constructor
    · rintro ⟨h1, h2⟩
      refine ⟨?_, h2⟩
      have : p ≠ k := fun e => by rw [e, h] at h2; cases h2
      omega
    · exact fun ⟨h1, h2⟩ => ⟨by omega, h2⟩
  simp only [this]
theorem wiF_le {f : Nat → Nat} {c : Cu} {B : Nat} (h : ∀ p, f p ≤ B) (k p : Nat) : wiF f c k p ≤ B + 1 := by
  have := h p
  unfold wiF; split <;> omega
def cntA (f : Nat → Nat) : SV := .p false (.agg (cntP f))
def wiS : Spec := fnS (fun y : Nat × Tk × List Cu × (Nat → Nat) × Cu => [wA y.2.1 y.2.2.1, cntA y.2.2.2.1, cA y.2.2.2.2]) (fun y => y.1 ≤ 6 ∧ y.2.1.on.n = y.1 ∧ ∀ p, y.2.2.2.1 p ≤ 1000000) (fun y => .agg (cntP (wiF y.2.2.2.1 y.2.2.2.2 (2 ^ y.1))))
theorem wi_ok : FnOk Tryz.prog 84 wiS := by
  refine fnOk (Tb := tab) mixed tab_ok Tryz.func84 rfl rfl ?_
  rintro ⟨n, ⟨⟨N, b⟩, fr⟩, L, f, c⟩ hpre
  refine ai (ai rfl (ai rfl rfl)) ?_
  obtain ⟨hn, hN, hf⟩ : n ≤ 6 ∧ N = n ∧ ∀ p, f p ≤ 1000000 := hpre
  subst hN
  have h64 := pow_le64 hn
  repeat (refine ai (by first | exact Int.natCast_nonneg _ | omega | exact ai (Int.natCast_nonneg _) (by omega)) ?_)
  refine ei (LAnn.inv { X := Nat, up := fun k => [(15, .s (iA k))], uo := fun k => [⟨0, 81, cntV (wiF f c k)⟩], inv := fun k => k ≤ 2 ^ n ∧ (True), meas := fun k => 2 ^ n - k, x0 := 0 }) ?_
  refine ai (ai (ai (by (repeat' (first | exact rfl | exact trivial | exact (fun _ => rfl) | exact (fun _ _ => rfl) | exact nof | refine ai ?_ ?_))) (ai ?_ ?_)) rfl) (ai (ai (Nat.zero_le _) ?_) ?_)
  · skip
    (repeat' (first | exact rfl | exact trivial | exact (fun _ => rfl) | exact (fun _ _ => rfl) | exact nof | refine ai ?_ ?_))
  · skip
    (repeat' (first | exact rfl | exact trivial | exact (fun _ => rfl) | exact (fun _ _ => rfl) | exact nof | refine ai ?_ ?_))
  · trivial
  intro (k : Nat) ⟨hk, _⟩
  refine bcase_p (p := k < 2 ^ n) (by show decide ((k : Int) < IntKind.i64.wrap (1 * 2 ^ min (n : Int).toNat IntKind.i64.bits)) = true ↔ _; rw [pow6 hn, decide_eq_true_iff]; omega) (fun h1 => ?_) (fun h1 => ?_)
  · have hk64 : k < 64 := by omega
    refine ei _ (ai min_ok (ei ((c, k)) (ei [] (ai (ai rfl (ai rfl (ai rfl (ai rfl (ai (fun _ => Or.inl rfl) (ai (by first | exact nof | exact (fun _ => ai rfl rfl)) (by first | exact Or.inl rfl | exact Or.inr rfl))))))) (ai (by (repeat' (first | with_reducible rfl | exact trivial | refine ai ?_ ?_ | (show (_ : Int) = _; first | with_reducible rfl | exact wr1 (by omega) | (simp only [zz, reduceCtorEq] <;> first | done | rfl | omega) | omega | rfl) | exact rfl | exact (fun _ => rfl) | exact (fun _ _ => rfl) | exact nof))) (ai trivial (ai (trivial) ?_)))))))
    refine bcase_b (b := hasC c k) (by first | exact rfl | (simp only [zz, reduceCtorEq] <;> first | done | exact rfl)) (fun h2 => ?_) (fun h2 => ?_)
    · refine ai (ai (Int.natCast_nonneg _) (by show (k : Int) < (64 : Nat); omega)) ?_
      refine rdStep (s := iA (wiF f c k k : Nat)) ?_ ?_
      · exact cntRd hk64
      refine ai (ai (Int.natCast_nonneg _) (by show (k : Int) < (64 : Nat); omega)) ?_
      refine wrStep rfl (s := (cntS (wiF f c k)).set k (.p true (.val (.int .i64 (IntKind.i64.wrap ((wiF f c k k : Nat) + 1)))))) ?_ ?_
      · exact cntWr hk64
      refine ei (k + 1) (ai (ai rfl rfl) (ai (ai (ai rfl (ai (ai rfl rfl) (ai (ai ?_ ?_) (ai ?_ (ai ?_ trivial))))) rfl) (ai (ai (by show k + 1 ≤ 2 ^ n; omega) trivial) (by show 2 ^ n - (k + 1) < 2 ^ n - k; omega))))
      · show distinct ([] ++ (rowsIn ((cntS (wiF f c k)).set k _) (cntV (wiF f c (k + 1))) ++ [])) = true
        rw [rows_cnt]; rfl
      · show allGe _ ([] ++ (rowsIn ((cntS (wiF f c k)).set k _) (cntV (wiF f c (k + 1))) ++ [])) = true
        rw [rows_cnt]; rfl
      · skip
        (repeat' (first | with_reducible rfl | exact trivial | refine ai ?_ ?_ | (show (_ : Int) = _; first | with_reducible rfl | exact wr1 (by omega) | (simp only [zz, reduceCtorEq] <;> first | done | rfl | omega) | omega | rfl) | exact rfl | exact (fun _ => rfl) | exact (fun _ _ => rfl) | exact nof))
      · refine cnt_set fun p => ?_
        have := wiF_le (c := c) hf k k
        rw [wiF_yes h2 p]
        split
        · rename_i e; subst e; exact (wr1 (by omega)).symm
        · rfl
    · skip
      refine ei (k + 1) (ai (ai rfl rfl) (ai (ai ?_ rfl) (ai (ai (by show k + 1 ≤ 2 ^ n; omega) ?_) (by show 2 ^ n - (k + 1) < 2 ^ n - k; omega))))
      any_goals (repeat' (first | with_reducible rfl | exact trivial | refine ai ?_ ?_ | (show (_ : Int) = _; first | with_reducible rfl | exact wr1 (by omega) | (simp only [zz, reduceCtorEq] <;> first | done | rfl | omega) | omega | rfl) | exact rfl | exact (fun _ => rfl) | exact (fun _ _ => rfl) | exact nof))
      all_goals exact congrArg (fun f : Nat → Nat => ((f _ : Nat) : Int)) (wiF_no h2).symm
  · obtain rfl : k = 2 ^ n := by omega
    refine ai (ai (fun _ => (by (repeat' (first | exact rfl | exact trivial | exact (fun _ => rfl) | exact (fun _ _ => rfl) | exact nof | refine ai ?_ ?_)))) ?_) trivial
    any_goals (repeat' (first | with_reducible rfl | exact trivial | refine ai ?_ ?_ | (show (_ : Int) = _; first | with_reducible rfl | exact wr1 (by omega) | (simp only [zz, reduceCtorEq] <;> first | done | rfl | omega) | omega | rfl) | exact rfl | exact (fun _ => rfl) | exact (fun _ _ => rfl) | exact nof))

/-- the points that have to be covered, and are not -/
def opQ (x : Tk) (n : Nat) (f : Nat → Nat) (k : Nat) : Bool := onW x n k && decide (f k = 0)
def opTo (x : Tk) (n : Nat) (f : Nat → Nat) (m : Nat) : List Nat := (List.range m).filter (opQ x n f)
def opL (x : Tk) (n : Nat) (f : Nat → Nat) : List Nat := opTo x n f (2 ^ n)
def wopS : Spec := fnS (fun y : Nat × Tk × List Cu × (Nat → Nat) => [wA y.2.1 y.2.2.1, cntA y.2.2.2]) (fun y => y.1 ≤ 6 ∧ y.2.1.on.n = y.1) (fun y => nsP (opL y.2.1 y.1 y.2.2.2))
theorem wop_ok : FnOk Tryz.prog 40 wopS := by
  refine fnOk (Tb := tab) mixed tab_ok Tryz.func40 rfl rfl ?_
  rintro ⟨n, ⟨⟨N, b⟩, fr⟩, L, f⟩ hpre
  refine ai (ai rfl (ai rfl rfl)) ?_
  obtain ⟨hn, hN⟩ : n ≤ 6 ∧ N = n := hpre
  subst hN
  have h64 := pow_le64 hn
  repeat (refine ai (by first | exact Int.natCast_nonneg _ | omega | exact ai (Int.natCast_nonneg _) (by omega)) ?_)
  refine ei (LAnn.inv { X := Nat, up := fun k => [(14, .s (iA k)), (5, rowN (opTo ⟨⟨n, b⟩, fr⟩ n f k))], uo := fun k => [], inv := fun k => k ≤ 2 ^ n ∧ (True), meas := fun k => 2 ^ n - k, x0 := 0 }) ?_
  refine ai (ai (ai (by (repeat' (first | exact rfl | exact trivial | exact (fun _ => rfl) | exact (fun _ _ => rfl) | exact nof | refine ai ?_ ?_))) (ai (by (repeat' (first | with_reducible rfl | exact trivial | refine ai ?_ ?_ | (show (_ : Int) = _; first | with_reducible rfl | exact wr1 (by omega) | (simp only [zz, reduceCtorEq] <;> first | done | rfl | omega) | omega | rfl) | exact rfl | exact (fun _ => rfl) | exact (fun _ _ => rfl) | exact nof))) (by (repeat' (first | with_reducible rfl | exact trivial | refine ai ?_ ?_ | (show (_ : Int) = _; first | with_reducible rfl | exact wr1 (by omega) | (simp only [zz, reduceCtorEq] <;> first | done | rfl | omega) | omega | rfl) | exact rfl | exact (fun _ => rfl) | exact (fun _ _ => rfl) | exact nof))))) rfl) (ai (ai (Nat.zero_le _) ?_) ?_)
  · trivial
  intro (k : Nat) ⟨hk, _⟩
  refine bcase_p (p := k < 2 ^ n) (by show decide ((k : Int) < IntKind.i64.wrap (1 * 2 ^ min (n : Int).toNat IntKind.i64.bits)) = true ↔ _; rw [pow6 hn, decide_eq_true_iff]; omega) (fun h1 => ?_) (fun h1 => ?_)
  · have hk64 : k < 64 := by omega
    have hlen : (opTo ⟨⟨n, b⟩, fr⟩ n f k).length ≤ k := filt_len _ k
    refine ei _ (ai won_ok (ei ((n, ⟨⟨n, b⟩, fr⟩, L, (k : Int))) (ei [] (ai (ai rfl (ai rfl (ai rfl (ai rfl (ai (fun _ => Or.inl rfl) (ai (by first | exact nof | exact (fun _ => ai rfl rfl)) (by first | exact Or.inl rfl | exact Or.inr rfl))))))) (ai (by (repeat' (first | with_reducible rfl | exact trivial | refine ai ?_ ?_ | (show (_ : Int) = _; first | with_reducible rfl | exact wr1 (by omega) | (simp only [zz, reduceCtorEq] <;> first | done | rfl | omega) | omega | rfl) | exact rfl | exact (fun _ => rfl) | exact (fun _ _ => rfl) | exact nof))) (ai trivial (ai (⟨hn, rfl⟩) ?_)))))))
    refine bcase_b (b := onW ⟨⟨n, b⟩, fr⟩ n k) (by first | exact rfl | (simp only [zz, reduceCtorEq] <;> first | done | exact rfl)) (fun h2 => ?_) (fun h2 => ?_)
    · refine ai (ai (Int.natCast_nonneg _) (by show (k : Int) < (64 : Nat); omega)) ?_
      refine rdStep (s := iA (f k : Nat)) (cntRd hk64) ?_
      refine bcase_p (p := f k = 0) (by show ((f k : Int) == 0) = true ↔ _; rw [beq_iff_eq]; omega) (fun h3 => ?_) (fun h3 => ?_)
      · have hq : opQ ⟨⟨n, b⟩, fr⟩ n f k = true := by rw [opQ, h2, h3]; rfl
        refine ai (ai (by show (opTo ⟨⟨n, b⟩, fr⟩ n f k).length + 1 ≤ maxLen; unfold maxLen; omega) (by show ((opTo ⟨⟨n, b⟩, fr⟩ n f k).length + 1) * 8 ≤ 140737488355328; omega)) ?_
        refine ai (fun k hk => by
          have hk : k < 1 := hk
          obtain rfl : k = 0 := by omega
          rfl) ?_
        refine ei (k + 1) (ai (ai rfl rfl) (ai (ai ?_ rfl) (ai (ai (by show k + 1 ≤ 2 ^ n; omega) ?_) (by show 2 ^ n - (k + 1) < 2 ^ n - k; omega))))
        any_goals (repeat' (first | with_reducible rfl | exact trivial | refine ai ?_ ?_ | (show (_ : Int) = _; first | with_reducible rfl | exact wr1 (by omega) | (simp only [zz, reduceCtorEq] <;> first | done | rfl | omega) | omega | rfl) | exact rfl | exact (fun _ => rfl) | exact (fun _ _ => rfl) | exact nof))
        · exact app_len (filt_yes hq)
        · exact join_app (fun i : Nat => [iP (i : Int)]) 0 (filt_yes hq) _ rfl
      · have hq : opQ ⟨⟨n, b⟩, fr⟩ n f k = false := by rw [opQ, h2, decide_eq_false h3]; rfl
        refine ei (k + 1) (ai (ai rfl rfl) (ai (ai ?_ rfl) (ai (ai (by show k + 1 ≤ 2 ^ n; omega) ?_) (by show 2 ^ n - (k + 1) < 2 ^ n - k; omega))))
        any_goals (repeat' (first | with_reducible rfl | exact trivial | refine ai ?_ ?_ | (show (_ : Int) = _; first | with_reducible rfl | exact wr1 (by omega) | (simp only [zz, reduceCtorEq] <;> first | done | rfl | omega) | omega | rfl) | exact rfl | exact (fun _ => rfl) | exact (fun _ _ => rfl) | exact nof))
        · exact congrArg List.length (filt_no hq)
        · exact row_same (fun i : Nat => [iP (i : Int)]) 0 (filt_no hq)
    · have hq : opQ ⟨⟨n, b⟩, fr⟩ n f k = false := by rw [opQ, h2]; rfl
      refine ei (k + 1) (ai (ai rfl rfl) (ai (ai ?_ rfl) (ai (ai (by show k + 1 ≤ 2 ^ n; omega) ?_) (by show 2 ^ n - (k + 1) < 2 ^ n - k; omega))))
      any_goals (repeat' (first | with_reducible rfl | exact trivial | refine ai ?_ ?_ | (show (_ : Int) = _; first | with_reducible rfl | exact wr1 (by omega) | (simp only [zz, reduceCtorEq] <;> first | done | rfl | omega) | omega | rfl) | exact rfl | exact (fun _ => rfl) | exact (fun _ _ => rfl) | exact nof))
      · exact congrArg List.length (filt_no hq)
      · exact row_same (fun i : Nat => [iP (i : Int)]) 0 (filt_no hq)
  · obtain rfl : k = 2 ^ n := by omega
    refine ai (ai (fun _ => (by (repeat' (first | exact rfl | exact trivial | exact (fun _ => rfl) | exact (fun _ _ => rfl) | exact nof | refine ai ?_ ?_)))) ?_) trivial
    any_goals (repeat' (first | with_reducible rfl | exact trivial | refine ai ?_ ?_ | (show (_ : Int) = _; first | with_reducible rfl | exact wr1 (by omega) | (simp only [zz, reduceCtorEq] <;> first | done | rfl | omega) | omega | rfl) | exact rfl | exact (fun _ => rfl) | exact (fun _ _ => rfl) | exact nof))

/-- a right task with its prime implicants, or the error -/
def wofP (x : Tk) : PV := if chkK x = 0 then wP x (primesL x.on.n.toNat x) else .val (.pointer none)
def fnSF {α : Type} (args : α → List SV) (pre : α → Prop) (res : α → PV) : Spec := { A := α, args := args, objs := fun _ => [], pre := pre, res := res, objs' := fun _ => [], fresh := false, ro := 0 }
theorem fnSF_at {P : Program} {f : Nat} {α : Type} {args : α → List SV} {pre : α → Prop} {res : α → PV} (h : FnOk P f (fnSF args pre res)) (a : α) (hp : pre a) {r : PV} (e : res a = r) :
    FnOk P f (fnSF (fun _ : Unit => args a) (fun _ => True) (fun _ => r)) := by
  subst e
  exact ⟨h.1, fun _ _ E vs w hg hh hA => h.2 a hp E vs w hg hh hA⟩
def wofS : Spec := fnSF (fun x : Tk => [kA x]) (fun _ => True) (fun x => .tup [wofP x, iP (chkK x)])
theorem wof_ok : FnOk Tryz.prog 58 wofS := by
  refine fnOk (Tb := tab) mixed tab_ok Tryz.func58 rfl rfl ?_
  rintro (x : Tk) hpre
  refine ai (ai rfl (ai rfl rfl)) ?_
  refine ei _ (ai checkTask_ok (ei (x) (ei [] (ai (ai rfl (ai rfl (ai rfl (ai rfl (ai (fun _ => Or.inl rfl) (ai (by first | exact nof | exact (fun _ => ai rfl rfl)) (by first | exact Or.inl rfl | exact Or.inr rfl))))))) (ai (by (repeat' (first | with_reducible rfl | exact trivial | refine ai ?_ ?_ | (show (_ : Int) = _; first | with_reducible rfl | exact wr1 (by omega) | (simp only [zz, reduceCtorEq] <;> first | done | rfl | omega) | omega | rfl) | exact rfl | exact (fun _ => rfl) | exact (fun _ _ => rfl) | exact nof))) (ai trivial (ai (trivial) ?_)))))))
  refine bcase_n (p := chkK x = 0) (by first | (with_reducible refine bif_lt ?_; omega) | (with_reducible refine bif_le ?_; omega) | (with_reducible refine bif_eq ?_; omega) | (with_reducible refine bif_ne ?_; omega) | exact b8_eq rfl | exact b8_ne rfl | exact bif_lt (by omega) | exact bif_le (by omega) | exact bif_eq (by omega) | exact bif_ne (by omega) | exact Iff.rfl | (simp only [zz, reduceCtorEq] <;> first | done | omega | exact Iff.rfl) | (simp; done) | (simp; omega)) (fun h1 => ?_) (fun h1 => ?_)
  · skip
    refine ai (ai (fun h => absurd (show false = true from h) (by decide)) ?_) trivial
    show ple _ (.tup [wofP x, iP (chkK x)])
    rw [wofP, if_neg h1]
    any_goals (repeat' (first | with_reducible rfl | exact trivial | refine ai ?_ ?_ | (show (_ : Int) = _; first | with_reducible rfl | exact wr1 (by omega) | (simp only [zz, reduceCtorEq] <;> first | done | rfl | omega) | omega | rfl) | exact rfl | exact (fun _ => rfl) | exact (fun _ _ => rfl) | exact nof))
  have hp := fnS_at Primes_ok x trivial (r := .tup [csP (primesL x.on.n.toNat x), iP 0]) (by show PV.tup [csP (if chkK x = 0 then primesL x.on.n.toNat x else []), iP (chkK x)] = _; rw [if_pos h1, h1])
  refine ei _ (ai hp (ei (()) (ei [] (ai (ai rfl (ai rfl (ai rfl (ai rfl (ai (fun _ => Or.inl rfl) (ai (by first | exact nof | exact (fun _ => ai rfl rfl)) (by first | exact Or.inl rfl | exact Or.inr rfl))))))) (ai (by (repeat' (first | with_reducible rfl | exact trivial | refine ai ?_ ?_ | (show (_ : Int) = _; first | with_reducible rfl | exact wr1 (by omega) | (simp only [zz, reduceCtorEq] <;> first | done | rfl | omega) | omega | rfl) | exact rfl | exact (fun _ => rfl) | exact (fun _ _ => rfl) | exact nof))) (ai trivial (ai (trivial) ?_)))))))
  refine ai (ai (fun h => absurd (show false = true from h) (by decide)) ?_) trivial
  show ple _ (.tup [wofP x, iP (chkK x)])
  rw [wofP, if_pos h1, h1]
  any_goals (repeat' (first | with_reducible rfl | exact trivial | refine ai ?_ ?_ | (show (_ : Int) = _; first | with_reducible rfl | exact wr1 (by omega) | (simp only [zz, reduceCtorEq] <;> first | done | rfl | omega) | omega | rfl) | exact rfl | exact (fun _ => rfl) | exact (fun _ _ => rfl) | exact nof))
def wfewE (x : Tk) : Int := if chkK x = 0 then (if 4 < x.on.n then 12 else 0) else chkK x
def wfewP (x : Tk) : PV := if wfewE x = 0 then wP x (primesL x.on.n.toNat x) else .val (.pointer none)
def wfewS : Spec := fnSF (fun x : Tk => [kA x]) (fun _ => True) (fun x => .tup [wfewP x, iP (wfewE x)])
theorem wfew_ok : FnOk Tryz.prog 38 wfewS := by
  refine fnOk (Tb := tab) mixed tab_ok Tryz.func38 rfl rfl ?_
  rintro (x : Tk) hpre
  refine ai (ai rfl (ai rfl rfl)) ?_
  by_cases h0 : chkK x = 0
  · have hp := fnSF_at wof_ok x trivial (r := .tup [wP x (primesL x.on.n.toNat x), iP 0]) (by show PV.tup [wofP x, iP (chkK x)] = _; rw [wofP, if_pos h0, h0])
    refine ei _ (ai hp (ei (()) (ei [] (ai (ai rfl (ai rfl (ai rfl (ai rfl (ai (fun _ => Or.inl rfl) (ai (by first | exact nof | exact (fun _ => ai rfl rfl)) (by first | exact Or.inl rfl | exact Or.inr rfl))))))) (ai (by (repeat' (first | with_reducible rfl | exact trivial | refine ai ?_ ?_ | (show (_ : Int) = _; first | with_reducible rfl | exact wr1 (by omega) | (simp only [zz, reduceCtorEq] <;> first | done | rfl | omega) | omega | rfl) | exact rfl | exact (fun _ => rfl) | exact (fun _ _ => rfl) | exact nof))) (ai trivial (ai (trivial) ?_)))))))
    refine bcase_p (p := 4 < x.on.n) (by first | (with_reducible refine bif_lt ?_; omega) | (with_reducible refine bif_le ?_; omega) | (with_reducible refine bif_eq ?_; omega) | (with_reducible refine bif_ne ?_; omega) | exact b8_eq rfl | exact b8_ne rfl | exact bif_lt (by omega) | exact bif_le (by omega) | exact bif_eq (by omega) | exact bif_ne (by omega) | exact Iff.rfl | (simp only [zz, reduceCtorEq] <;> first | done | omega | exact Iff.rfl) | (simp; done) | (simp; omega)) (fun h1 => ?_) (fun h1 => ?_)
    · have e : wfewE x = 12 := by rw [wfewE, if_pos h0, if_pos h1]
      refine ai (ai (fun h => absurd (show false = true from h) (by decide)) ?_) trivial
      show ple _ (.tup [wfewP x, iP (wfewE x)])
      rw [wfewP, e, if_neg (show ¬ ((12 : Int) = 0) by decide)]
      any_goals (repeat' (first | with_reducible rfl | exact trivial | refine ai ?_ ?_ | (show (_ : Int) = _; first | with_reducible rfl | exact wr1 (by omega) | (simp only [zz, reduceCtorEq] <;> first | done | rfl | omega) | omega | rfl) | exact rfl | exact (fun _ => rfl) | exact (fun _ _ => rfl) | exact nof))
    · have e : wfewE x = 0 := by rw [wfewE, if_pos h0, if_neg h1]
      refine ai (ai (fun h => absurd (show false = true from h) (by decide)) ?_) trivial
      show ple _ (.tup [wfewP x, iP (wfewE x)])
      rw [wfewP, e, if_pos rfl]
      any_goals (repeat' (first | with_reducible rfl | exact trivial | refine ai ?_ ?_ | (show (_ : Int) = _; first | with_reducible rfl | exact wr1 (by omega) | (simp only [zz, reduceCtorEq] <;> first | done | rfl | omega) | omega | rfl) | exact rfl | exact (fun _ => rfl) | exact (fun _ _ => rfl) | exact nof))
  · have hp := fnSF_at wof_ok x trivial (r := .tup [.val (.pointer none), iP (chkK x)]) (by show PV.tup [wofP x, iP (chkK x)] = _; rw [wofP, if_neg h0])
    have e : wfewE x = chkK x := by rw [wfewE, if_neg h0]
    refine ei _ (ai hp (ei (()) (ei [] (ai (ai rfl (ai rfl (ai rfl (ai rfl (ai (fun _ => Or.inl rfl) (ai (by first | exact nof | exact (fun _ => ai rfl rfl)) (by first | exact Or.inl rfl | exact Or.inr rfl))))))) (ai (by (repeat' (first | with_reducible rfl | exact trivial | refine ai ?_ ?_ | (show (_ : Int) = _; first | with_reducible rfl | exact wr1 (by omega) | (simp only [zz, reduceCtorEq] <;> first | done | rfl | omega) | omega | rfl) | exact rfl | exact (fun _ => rfl) | exact (fun _ _ => rfl) | exact nof))) (ai trivial (ai (trivial) ?_)))))))
    refine bcase_p (p := chkK x = 0) (by first | (with_reducible refine bif_lt ?_; omega) | (with_reducible refine bif_le ?_; omega) | (with_reducible refine bif_eq ?_; omega) | (with_reducible refine bif_ne ?_; omega) | exact b8_eq rfl | exact b8_ne rfl | exact bif_lt (by omega) | exact bif_le (by omega) | exact bif_eq (by omega) | exact bif_ne (by omega) | exact Iff.rfl | (simp only [zz, reduceCtorEq] <;> first | done | omega | exact Iff.rfl) | (simp; done) | (simp; omega)) (fun h1 => ?_) (fun h1 => ?_)
    · exact absurd h1 h0
    · skip
      refine ai (ai (fun h => absurd (show false = true from h) (by decide)) ?_) trivial
      show ple _ (.tup [wfewP x, iP (wfewE x)])
      rw [wfewP, e, if_neg h0]
      any_goals (repeat' (first | with_reducible rfl | exact trivial | refine ai ?_ ?_ | (show (_ : Int) = _; first | with_reducible rfl | exact wr1 (by omega) | (simp only [zz, reduceCtorEq] <;> first | done | rfl | omega) | omega | rfl) | exact rfl | exact (fun _ => rfl) | exact (fun _ _ => rfl) | exact nof))

end Go.Sx.Pn
