/- Contracts of chapter 7: Spare. -/
import Derived.Test.YtmjfhoidokajpaaGreatM14
set_option maxHeartbeats 1000000
set_option maxRecDepth 4000
set_option linter.unusedSimpArgs false
set_option linter.unusedVariables false
set_option linter.unusedSectionVars false
namespace Go.Sx.Pn
open Go Go.Proofs

def revNS : Spec := { A := List Nat, args := fun _ => [.row 0], objs := fun l => [rowB l], pre := fun l => l.length ≤ 1000000000, res := fun _ => .tup [], objs' := fun l => [rowB l.reverse], fresh := true, ro := 0 }
theorem revI_ok : FnOk Tryz.prog 54 { A := List Int, args := fun _ => [.row 0], objs := fun l => [.row 3 1 l.length (fun k => [.val (Value.int .i64 (l.getD k default))])], pre := fun l => l.length ≤ 1000000000, res := fun _ => .tup [], objs' := fun l => [.row 3 1 l.reverse.length (fun k => [.val (Value.int .i64 (l.reverse.getD k default))])], fresh := true, ro := 0 } :=
  fnOk_sortrow (enc := Value.int .i64) Tryz.func54 rfl rfl (fun _ => rfl) (fun _ => rfl) (srt := List.reverse) (fun _ => List.length_reverse) (fun p cap w => Tryz.slices_Reverse_int_empty p cap w)
    (fun blk off cap zs w h1 h2 h3 => (Tryz.slices_Reverse_int blk off cap zs w h1 (by omega)).mono fun e w' ⟨he, n, hw⟩ => ⟨he, n, #[], by rw [Go.Sort.grow_empty]; exact hw⟩)
theorem revN_ok : FnOk Tryz.prog 54 revNS :=
  fnOk_via revI_ok (fun l : List Nat => l.map fun n : Nat => (n : Int)) (fun _ _ => rfl) (fun l _ => by simp only [rowB]; rw [cell_nat, List.length_map]) (fun l _ => by simp only [rowB]; rw [← List.map_reverse, cell_nat, List.length_map]) (fun _ _ => rfl) (fun l h => by show (l.map _).length ≤ 1000000000; rw [List.length_map]; exact h)

/- a list from its end on -/
def backV (l : List Cu) (k : Nat) : List Value := [iV (l.length - 1 - k), cV (l.getD (l.length - 1 - k) ⟨0, 0⟩)]
def backIt : SeqSpec := { A := List Cu, capt := fun l => [.pt [csP l] 0], pre := fun l => l.length ≤ 1000000, xs := fun l => (List.range l.length).map (backV l) }
theorem backIt_ok : SeqOk Tryz.prog 83 backIt := by
  refine seqOk (Tb := tab) mixed tab_ok Tryz.func83 rfl rfl ?_
  rintro (l : List Cu) hpre
  refine ai (ai rfl ?_) ?_
  · intro x hx v hv
    obtain ⟨k, _, rfl⟩ := List.mem_map.1 hx
    simp only [backV, List.mem_cons, List.mem_nil_iff, or_false] at hv
    rcases hv with rfl | rfl <;> rfl
  have hl : l.length ≤ 1000000 := hpre
  intro y
  refine ei (LAnn.inv { X := Int, up := fun v => [(3, .s (iA v))], uo := fun _ => [], inv := fun v => -1 ≤ v ∧ v < l.length, meas := fun v => (v + 1).toNat, x0 := ((l.length : Int) - 1), cnt := fun v => some ((l.length : Int) - 1 - v).toNat }) ?_
  refine ai (ai (ai (by (repeat' (first | exact rfl | exact trivial | exact (fun _ => rfl) | exact (fun _ _ => rfl) | exact nof | refine ai ?_ ?_))) (ai ?_ ?_)) ?_) (ai ?_ ?_)
  · skip
    (repeat' (first | exact rfl | exact trivial | exact (fun _ => rfl) | exact (fun _ _ => rfl) | exact nof | refine ai ?_ ?_))
    exact wrap_i _ (by omega) (by omega)
  · skip
    (repeat' (first | exact rfl | exact trivial | exact (fun _ => rfl) | exact (fun _ _ => rfl) | exact nof | refine ai ?_ ?_))
  · show some 0 = some ((l.length : Int) - 1 - ((l.length : Int) - 1)).toNat
    rw [Int.sub_self]; rfl
  · exact ⟨by show -1 ≤ (l.length : Int) - 1; omega, by show (l.length : Int) - 1 < l.length; omega⟩
  intro (v : Int) ⟨hv1, hv2⟩
  refine bcase_p (p := 0 ≤ v) (by first | (with_reducible refine bif_lt ?_; omega) | (with_reducible refine bif_le ?_; omega) | (with_reducible refine bif_eq ?_; omega) | (with_reducible refine bif_ne ?_; omega) | exact b8_eq rfl | exact b8_ne rfl | exact bif_lt (by omega) | exact bif_le (by omega) | exact bif_eq (by omega) | exact bif_ne (by omega) | exact Iff.rfl | (simp only [zz, reduceCtorEq] <;> first | done | omega | exact Iff.rfl) | (simp; done) | (simp; omega)) (fun h1 => ?_) (fun h1 => ?_)
  · obtain ⟨q, rfl⟩ := Int.eq_ofNat_of_zero_le h1
    have hq : q < l.length := by omega
    have e : ((l.length : Int) - 1 - (q : Int)).toNat = l.length - 1 - q := by omega
    refine ai (ai (Int.natCast_nonneg _) (by show (q : Int) < (l.length : Int); omega)) ?_
    refine ai rfl ?_
    refine ai rfl (ei [iV q, cV (l.getD q ⟨0, 0⟩)] (ai ?_ (ai ?_ (ai ?_ ?_))))
    · show ((List.range l.length).map (backV l))[((l.length : Int) - 1 - (q : Int)).toNat]? = _
      rw [e, List.getElem?_map, List.getElem?_range (by omega)]
      show some (backV l (l.length - 1 - q)) = _
      rw [backV, show l.length - 1 - (l.length - 1 - q) = q by omega]
    · skip
      (repeat' (first | exact rfl | exact trivial | exact (fun _ => rfl) | exact (fun _ _ => rfl) | exact nof | refine ai ?_ ?_))
    · skip
      refine ei (((q : Int) - 1)) (ai (ai rfl rfl) (ai (ai ?_ ?_) (ai ?_ ?_)))
      · skip
        (repeat' (first | exact rfl | exact trivial | exact (fun _ => rfl) | exact (fun _ _ => rfl) | exact nof | refine ai ?_ ?_))
        exact wrap_i _ (by omega) (by omega)
      · show some (((l.length : Int) - 1 - (q : Int)).toNat + 1) = some ((l.length : Int) - 1 - ((q : Int) - 1)).toNat
        congr 1; omega
      · exact ⟨by show -1 ≤ (q : Int) - 1; omega, by show (q : Int) - 1 < l.length; omega⟩
      · show ((q : Int) - 1 + 1).toNat < ((q : Int) + 1).toNat; omega
    · exact ai trivial trivial
  · refine ai trivial ?_
    show ((l.length : Int) - 1 - v).toNat = ((List.range l.length).map (backV l)).length
    rw [List.length_map, List.length_range]; omega
def backS : Spec := fnSF (fun l : List Cu => [csA l]) (fun _ => True) (fun l => .fn 83 [.pt [csP l] 0])
theorem back_ok : FnOk Tryz.prog 51 backS := by
  refine fnOk (Tb := tab) mixed tab_ok Tryz.func51 rfl rfl ?_
  rintro (l : List Cu) hpre
  refine ai (ai rfl (ai rfl rfl)) ?_
  refine ai (ai nof ?_) trivial
  (repeat' (first | exact rfl | exact trivial | exact (fun _ => rfl) | exact (fun _ _ => rfl) | exact nof | refine ai ?_ ?_))

/- both covers are the same -/
theorem covWQ (x : Tk) (n : Nat) (l : List Cu) : covW x n l = covQ x n l := by
  rw [Bool.eq_iff_iff, covW_iff]
  unfold covQ
  rw [List.all_eq_true]
  have mem : ∀ k : Nat, ownL l (k : Int) = [] ↔ ∀ c ∈ l, hasC c (k : Int) = false := fun k => by
    rw [List.eq_nil_iff_forall_not_mem]
    constructor
    · intro h c hc
      cases hh : hasC c (k : Int) with
      | false => rfl
      | true =>
        obtain ⟨j, hj⟩ := List.getElem?_of_mem hc
        exact absurd (mem_own.2 ⟨(List.getElem?_eq_some_iff.1 hj).1, by rw [List.getD_eq_getElem?_getD, hj]; exact hh⟩) (h j)
    · intro h j hj
      obtain ⟨h1, h2⟩ := mem_own.1 hj
      rw [h _ (getC_mem h1)] at h2; cases h2
  constructor
  · intro h k hk
    have hk := List.mem_range.1 hk
    unfold covK
    cases hon : x.on.bits.getLsbD k with
    | false => rfl
    | true =>
      obtain ⟨c, hc, hh⟩ := h k hk (by rw [onW_bit hk]; exact hon)
      rw [Bool.true_and, Bool.not_eq_true', decide_eq_false_iff_not, mem]
      intro h2
      rw [h2 c hc] at hh; cases hh
  · intro h k hk hon
    have h1 := h k (List.mem_range.2 hk)
    rw [onW_bit hk] at hon
    unfold covK at h1
    rw [hon, Bool.true_and, Bool.not_eq_true', decide_eq_false_iff_not, mem] at h1
    refine Classical.byContradiction fun hno => h1 fun c hc => ?_
    exact Bool.eq_false_iff.2 fun hh => hno ⟨c, hc, hh⟩

/-- what is left of some cubes, and which have been left out -/
@[irreducible] def spSt (x : Tk) (n i : Nat) (s : List Cu × List Nat) : List Cu × List Nat := if covQ x n (s.1.eraseIdx i) then (s.1.eraseIdx i, s.2 ++ [i]) else s
def spTo (x : Tk) (n : Nat) (l : List Cu) : Nat → List Cu × List Nat
  | 0 => (l, [])
  | k + 1 => spSt x n (l.length - 1 - k) (spTo x n l k)
theorem sp_yes {x : Tk} {n i : Nat} {s : List Cu × List Nat} (h : covQ x n (s.1.eraseIdx i) = true) : spSt x n i s = (s.1.eraseIdx i, s.2 ++ [i]) := by rw [spSt, if_pos h]
theorem sp_no {x : Tk} {n i : Nat} {s : List Cu × List Nat} (h : covQ x n (s.1.eraseIdx i) = false) : spSt x n i s = s := by rw [spSt, h]; rfl
theorem sp_len (x : Tk) (n : Nat) (l : List Cu) : ∀ k, k ≤ l.length → l.length ≤ (spTo x n l k).1.length + k ∧ (spTo x n l k).1.length ≤ l.length ∧ (spTo x n l k).2.length ≤ k
  | 0, _ => ⟨Nat.le_refl _, Nat.le_refl _, Nat.le_refl _⟩
  | k + 1, hk => by
    obtain ⟨h1, h2, h3⟩ := sp_len x n l k (by omega)
    rw [spTo]
    cases h : covQ x n ((spTo x n l k).1.eraseIdx (l.length - 1 - k)) with
    | true =>
      rw [sp_yes h]
      simp only [List.length_append, List.length_cons, List.length_nil]
      rw [List.length_eraseIdx]
      split <;> omega
    | false => rw [sp_no h]; omega
theorem erase_get (l : List Cu) (i k : Nat) : (l.eraseIdx i).getD k ⟨0, 0⟩ = if k < i then l.getD k ⟨0, 0⟩ else l.getD (k + 1) ⟨0, 0⟩ := by
  rw [List.getD_eq_getElem?_getD, List.getElem?_eraseIdx]
  split
  · rw [List.getD_eq_getElem?_getD]
  · rw [List.getD_eq_getElem?_getD]
theorem erase_len {l : List Cu} {i : Nat} (h : i < l.length) : (l.eraseIdx i).length = l.length - 1 := by
  rw [List.length_eraseIdx, if_pos h]

/-- the answer of Spare -/
def sparL (x : Tk) (l : List Cu) : List Nat := if verE x l = 0 then (spTo x x.on.n.toNat l l.length).2.reverse else []
def SpareS : Spec := fnS (fun y : Tk × List Cu => [kA y.1, csA y.2]) (fun y => y.2.length ≤ 1000000) (fun y => .tup [nsP (sparL y.1 y.2), iP (verE y.1 y.2)])
theorem del_cells {r : List Cu} {i N n m lo a b : Nat} (hN : N = r.length) (hn : n = i) (hi : i < r.length) (hlo : lo = i + 1) (hm : m = r.length - (i + 1)) (ha : a = 0 + ((n + m : Nat) : Int).toNat) (f : Nat → List PV) (hf : ∀ k, k < N → f k = (r.getD k ⟨0, 0⟩).cells) (z : List PV) :
    ∀ k, k < n + m → clrF (ovl n lo m f) a b z (0 + k) = ((r.eraseIdx i).getD k ⟨0, 0⟩).cells := by
  subst hN hn hlo hm ha
  intro k hk
  unfold clrF
  rw [if_neg (by omega), Nat.zero_add, erase_get]
  unfold ovl
  by_cases h : k < n
  · rw [if_neg (by omega), if_pos h, hf k (by omega)]
  · rw [if_pos (by omega), if_neg h, hf _ (by omega), show n + 1 + (k - n) = k + 1 by omega]

end Go.Sx.Pn
