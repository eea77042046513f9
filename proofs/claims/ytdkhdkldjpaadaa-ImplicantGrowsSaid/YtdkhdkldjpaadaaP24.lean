/- Contracts: cubes read from texts. -/
import Derived.Test.YtdkhdkldjpaadaaP23
set_option maxHeartbeats 1000000
set_option maxRecDepth 4000
set_option linter.unusedSimpArgs false
set_option linter.unusedVariables false
namespace Go.Sx.Pn
open Go Go.Proofs

def bitC (c : Cu) (k : Nat) (x : UInt8) : Cu :=
  ⟨if x = 45 then c.care else c.care ||| 1#64 <<< k, if x = 49 then c.value ||| 1#64 <<< k else c.value⟩
def cubeTo (l : List UInt8) : Nat → Cu
  | 0 => ⟨0, 0⟩
  | k + 1 => bitC (cubeTo l k) k (bAt l k)
def okB (x : UInt8) : Bool := x == 49 || x == 48 || x == 45
def parseC (l : List UInt8) : Int × Cu × Int :=
  if 6 < l.length then (0, ⟨0, 0⟩, 17) else if (List.range l.length).all (fun k => okB (bAt l k)) then (((l.length : Nat) : Int), cubeTo l l.length, 0) else (0, ⟨0, 0⟩, 4)
theorem parse_bad {l : List UInt8} {k : Nat} (h6 : ¬ 6 < l.length) (hk : k < l.length) (h : okB (bAt l k) = false) : parseC l = (0, ⟨0, 0⟩, 4) := by
  have : (List.range l.length).all (fun k => okB (bAt l k)) = false := List.all_eq_false.2 ⟨k, List.mem_range.2 hk, by rw [h]; decide⟩
  rw [parseC, if_neg h6, this]; rfl
theorem parse_ok {l : List UInt8} (h6 : ¬ 6 < l.length) (h : ∀ k, k < l.length → okB (bAt l k) = true) : parseC l = (((l.length : Nat) : Int), cubeTo l l.length, 0) := by
  have : (List.range l.length).all (fun k => okB (bAt l k)) = true := List.all_eq_true.2 fun k hk => h k (List.mem_range.1 hk)
  rw [parseC, if_neg h6, this]; rfl
theorem all_succ {l : List UInt8} {k : Nat} (h : ∀ j, j < k → okB (bAt l j) = true) (hk : okB (bAt l k) = true) : ∀ j, j < k + 1 → okB (bAt l j) = true := fun j hj => by
  by_cases e : j = k
  · subst e; exact hk
  · exact h j (by omega)

def resP (x : Int × Cu × Int) : PV := .tup [iP x.1, cP x.2.1, iP x.2.2]
def ParseS : Spec := fnS (fun l : List UInt8 => [strA l]) (fun l => l.length ≤ 1000000) (fun l => resP (parseC l))
theorem rParse_ok : FnOk Try.prog 21 ParseS := by
  refine fnOk (Tb := tab) mixed tab_ok Try.func21 rfl rfl ?_
  rintro l hpre
  refine And.intro (And.intro rfl (And.intro rfl rfl)) ?_
  have hl : l.length ≤ 1000000 := hpre
  have hsz := strOf_size l
  refine bcase_p (p := 6 < l.length) (by first | (with_reducible refine bif_lt ?_; omega) | (with_reducible refine bif_le ?_; omega) | (with_reducible refine bif_eq ?_; omega) | (with_reducible refine bif_ne ?_; omega) | exact b8_eq rfl | exact b8_ne rfl | exact bif_lt (by omega) | exact bif_le (by omega) | exact bif_eq (by omega) | exact bif_ne (by omega) | exact Iff.rfl | (simp only [zA, zB, zC, zD, zE, zF, zG, zH, zI, zJ, zK, zL, zM, zN, zO, zP, zQ, zR, zS, zT, zU, zV, zW, zX, zY, zZ, yA, yB, yC, yD, yE, yF, yG, yH, yI, yJ, yK, yL, yM, reduceCtorEq] <;> first | done | omega | exact Iff.rfl) | (simp; done) | (simp; omega)) (fun h6 => ?_) (fun h6 => ?_)
  · skip
    refine And.intro (And.intro (fun _ => (by (repeat' (first | exact rfl | exact trivial | exact (fun _ => rfl) | exact (fun _ _ => rfl) | exact (fun h => absurd h Bool.false_ne_true) | refine And.intro ?_ ?_)))) ?_) trivial
    show ple _ (resP (parseC l))
    rw [show parseC l = (0, ⟨0, 0⟩, 17) by simp [parseC, h6]]
    any_goals (repeat' (first | with_reducible rfl | exact trivial | refine And.intro ?_ ?_ | (show (_ : Int) = _; first | with_reducible rfl | exact wr1 (by omega) | (simp only [zA, zB, zC, zD, zE, zF, zG, zH, zI, zJ, zK, zL, zM, zN, zO, zP, zQ, zR, zS, zT, zU, zV, zW, zX, zY, zZ, yA, yB, yC, yD, yE, yF, yG, yH, yI, yJ, yK, yL, yM, reduceCtorEq] <;> first | done | rfl | omega) | omega | rfl) | exact rfl | exact (fun _ => rfl) | exact (fun _ _ => rfl) | exact (fun h => absurd h Bool.false_ne_true)))
  refine Exists.intro (LAnn.inv { X := Nat, up := fun k => [(6, .s (iA k))], uo := fun k => [⟨1, 24, [.s (uA (cubeTo l k).care), .s (uA (cubeTo l k).value)]⟩], inv := fun k => k ≤ l.length ∧ (∀ j, j < k → okB (bAt l j) = true), meas := fun k => l.length - k, x0 := 0 }) ?_
  refine And.intro (And.intro (And.intro (by (repeat' (first | exact rfl | exact trivial | exact (fun _ => rfl) | exact (fun _ _ => rfl) | exact (fun h => absurd h Bool.false_ne_true) | refine And.intro ?_ ?_))) (And.intro (by (repeat' (first | with_reducible rfl | exact trivial | refine And.intro ?_ ?_ | (show (_ : Int) = _; first | with_reducible rfl | exact wr1 (by omega) | (simp only [zA, zB, zC, zD, zE, zF, zG, zH, zI, zJ, zK, zL, zM, zN, zO, zP, zQ, zR, zS, zT, zU, zV, zW, zX, zY, zZ, yA, yB, yC, yD, yE, yF, yG, yH, yI, yJ, yK, yL, yM, reduceCtorEq] <;> first | done | rfl | omega) | omega | rfl) | exact rfl | exact (fun _ => rfl) | exact (fun _ _ => rfl) | exact (fun h => absurd h Bool.false_ne_true)))) (by (repeat' (first | with_reducible rfl | exact trivial | refine And.intro ?_ ?_ | (show (_ : Int) = _; first | with_reducible rfl | exact wr1 (by omega) | (simp only [zA, zB, zC, zD, zE, zF, zG, zH, zI, zJ, zK, zL, zM, zN, zO, zP, zQ, zR, zS, zT, zU, zV, zW, zX, zY, zZ, yA, yB, yC, yD, yE, yF, yG, yH, yI, yJ, yK, yL, yM, reduceCtorEq] <;> first | done | rfl | omega) | omega | rfl) | exact rfl | exact (fun _ => rfl) | exact (fun _ _ => rfl) | exact (fun h => absurd h Bool.false_ne_true)))))) rfl) (And.intro (And.intro (Nat.zero_le _) ?_) ?_)
  · exact fun j hj => absurd hj (Nat.not_lt_zero _)
  intro (k : Nat) ⟨hk, hall⟩
  refine bcase_p (p := k < l.length) (by first | (with_reducible refine bif_lt ?_; omega) | (with_reducible refine bif_le ?_; omega) | (with_reducible refine bif_eq ?_; omega) | (with_reducible refine bif_ne ?_; omega) | exact b8_eq rfl | exact b8_ne rfl | exact bif_lt (by omega) | exact bif_le (by omega) | exact bif_eq (by omega) | exact bif_ne (by omega) | exact Iff.rfl | (simp only [zA, zB, zC, zD, zE, zF, zG, zH, zI, zJ, zK, zL, zM, zN, zO, zP, zQ, zR, zS, zT, zU, zV, zW, zX, zY, zZ, yA, yB, yC, yD, yE, yF, yG, yH, yI, yJ, yK, yL, yM, reduceCtorEq] <;> first | done | omega | exact Iff.rfl) | (simp; done) | (simp; omega)) (fun h1 => ?_) (fun h1 => ?_)
  · have hget := strOf_get h1
    have e49 : bAt l k = 49 → cubeTo l (k + 1) = ⟨(cubeTo l k).care ||| 1#64 <<< k, (cubeTo l k).value ||| 1#64 <<< k⟩ := fun h => by simp only [cubeTo, bitC, h]; rfl
    have e48 : ¬ bAt l k = 49 → ¬ bAt l k = 45 → cubeTo l (k + 1) = ⟨(cubeTo l k).care ||| 1#64 <<< k, (cubeTo l k).value⟩ := fun h h' => by simp only [cubeTo, bitC, h, h', if_false]
    have e45 : bAt l k = 45 → cubeTo l (k + 1) = cubeTo l k := fun h => by simp only [cubeTo, bitC, h]; rfl
    refine Exists.intro (bAt l k) (And.intro (And.intro (Int.natCast_nonneg _) hget) ?_)
    refine bcase_n (p := bAt l k = 48) (by first | (with_reducible refine bif_lt ?_; omega) | (with_reducible refine bif_le ?_; omega) | (with_reducible refine bif_eq ?_; omega) | (with_reducible refine bif_ne ?_; omega) | exact b8_eq rfl | exact b8_ne rfl | exact bif_lt (by omega) | exact bif_le (by omega) | exact bif_eq (by omega) | exact bif_ne (by omega) | exact Iff.rfl | (simp only [zA, zB, zC, zD, zE, zF, zG, zH, zI, zJ, zK, zL, zM, zN, zO, zP, zQ, zR, zS, zT, zU, zV, zW, zX, zY, zZ, yA, yB, yC, yD, yE, yF, yG, yH, yI, yJ, yK, yL, yM, reduceCtorEq] <;> first | done | omega | exact Iff.rfl) | (simp; done) | (simp; omega)) (fun h2 => ?_) (fun h2 => ?_)
    · skip
      refine Exists.intro (bAt l k) (And.intro (And.intro (Int.natCast_nonneg _) hget) ?_)
      refine bcase_n (p := bAt l k = 49) (by first | (with_reducible refine bif_lt ?_; omega) | (with_reducible refine bif_le ?_; omega) | (with_reducible refine bif_eq ?_; omega) | (with_reducible refine bif_ne ?_; omega) | exact b8_eq rfl | exact b8_ne rfl | exact bif_lt (by omega) | exact bif_le (by omega) | exact bif_eq (by omega) | exact bif_ne (by omega) | exact Iff.rfl | (simp only [zA, zB, zC, zD, zE, zF, zG, zH, zI, zJ, zK, zL, zM, zN, zO, zP, zQ, zR, zS, zT, zU, zV, zW, zX, zY, zZ, yA, yB, yC, yD, yE, yF, yG, yH, yI, yJ, yK, yL, yM, reduceCtorEq] <;> first | done | omega | exact Iff.rfl) | (simp; done) | (simp; omega)) (fun h3 => ?_) (fun h3 => ?_)
      · skip
        refine Exists.intro (bAt l k) (And.intro (And.intro (Int.natCast_nonneg _) hget) ?_)
        refine bcase_n (p := bAt l k = 45) (by first | (with_reducible refine bif_lt ?_; omega) | (with_reducible refine bif_le ?_; omega) | (with_reducible refine bif_eq ?_; omega) | (with_reducible refine bif_ne ?_; omega) | exact b8_eq rfl | exact b8_ne rfl | exact bif_lt (by omega) | exact bif_le (by omega) | exact bif_eq (by omega) | exact bif_ne (by omega) | exact Iff.rfl | (simp only [zA, zB, zC, zD, zE, zF, zG, zH, zI, zJ, zK, zL, zM, zN, zO, zP, zQ, zR, zS, zT, zU, zV, zW, zX, zY, zZ, yA, yB, yC, yD, yE, yF, yG, yH, yI, yJ, yK, yL, yM, reduceCtorEq] <;> first | done | omega | exact Iff.rfl) | (simp; done) | (simp; omega)) (fun h4 => ?_) (fun h4 => ?_)
        · skip
          refine And.intro (And.intro (fun _ => (by (repeat' (first | exact rfl | exact trivial | exact (fun _ => rfl) | exact (fun _ _ => rfl) | exact (fun h => absurd h Bool.false_ne_true) | refine And.intro ?_ ?_)))) ?_) trivial
          show ple _ (resP (parseC l))
          rw [parse_bad h6 h1 (by simp [okB, h2, h3, h4])]
          any_goals (repeat' (first | with_reducible rfl | exact trivial | refine And.intro ?_ ?_ | (show (_ : Int) = _; first | with_reducible rfl | exact wr1 (by omega) | (simp only [zA, zB, zC, zD, zE, zF, zG, zH, zI, zJ, zK, zL, zM, zN, zO, zP, zQ, zR, zS, zT, zU, zV, zW, zX, zY, zZ, yA, yB, yC, yD, yE, yF, yG, yH, yI, yJ, yK, yL, yM, reduceCtorEq] <;> first | done | rfl | omega) | omega | rfl) | exact rfl | exact (fun _ => rfl) | exact (fun _ _ => rfl) | exact (fun h => absurd h Bool.false_ne_true)))
        · have hx : okB (bAt l k) = true := by rw [h4]; rfl
          refine Exists.intro (bAt l k) (And.intro (And.intro (Int.natCast_nonneg _) hget) ?_)
          refine bcase_n (p := bAt l k = 45) (by first | (with_reducible refine bif_lt ?_; omega) | (with_reducible refine bif_le ?_; omega) | (with_reducible refine bif_eq ?_; omega) | (with_reducible refine bif_ne ?_; omega) | exact b8_eq rfl | exact b8_ne rfl | exact bif_lt (by omega) | exact bif_le (by omega) | exact bif_eq (by omega) | exact bif_ne (by omega) | exact Iff.rfl | (simp only [zA, zB, zC, zD, zE, zF, zG, zH, zI, zJ, zK, zL, zM, zN, zO, zP, zQ, zR, zS, zT, zU, zV, zW, zX, zY, zZ, yA, yB, yC, yD, yE, yF, yG, yH, yI, yJ, yK, yL, yM, reduceCtorEq] <;> first | done | omega | exact Iff.rfl) | (simp; done) | (simp; omega)) (fun h5 => ?_) (fun h5 => ?_)
          · skip
            refine Exists.intro [0, 1, 2, 3, 4, 5, 6] (And.intro (by kernel_rfl) ?_)
            repeat (refine And.intro (by first | exact Int.natCast_nonneg _ | omega | exact And.intro (Int.natCast_nonneg _) (by omega)) ?_)
            refine Exists.intro (bAt l k) (And.intro (And.intro (Int.natCast_nonneg _) hget) ?_)
            refine bcase_p (p := bAt l k = 49) (by first | (with_reducible refine bif_lt ?_; omega) | (with_reducible refine bif_le ?_; omega) | (with_reducible refine bif_eq ?_; omega) | (with_reducible refine bif_ne ?_; omega) | exact b8_eq rfl | exact b8_ne rfl | exact bif_lt (by omega) | exact bif_le (by omega) | exact bif_eq (by omega) | exact bif_ne (by omega) | exact Iff.rfl | (simp only [zA, zB, zC, zD, zE, zF, zG, zH, zI, zJ, zK, zL, zM, zN, zO, zP, zQ, zR, zS, zT, zU, zV, zW, zX, zY, zZ, yA, yB, yC, yD, yE, yF, yG, yH, yI, yJ, yK, yL, yM, reduceCtorEq] <;> first | done | omega | exact Iff.rfl) | (simp; done) | (simp; omega)) (fun h6 => ?_) (fun h6 => ?_)
            · skip
              refine Exists.intro [0, 1, 2, 3, 4, 5, 6] (And.intro (by kernel_rfl) ?_)
              repeat (refine And.intro (by first | exact Int.natCast_nonneg _ | omega | exact And.intro (Int.natCast_nonneg _) (by omega)) ?_)
              refine Exists.intro (k + 1) (And.intro (And.intro rfl rfl) (And.intro (And.intro ?_ rfl) (And.intro (And.intro (by show k + 1 ≤ l.length; omega) ?_) (by show l.length - (k + 1) < l.length - k; omega))))
              any_goals (repeat' (first | with_reducible rfl | exact trivial | refine And.intro ?_ ?_ | (show (_ : Int) = _; first | with_reducible rfl | exact wr1 (by omega) | (simp only [zA, zB, zC, zD, zE, zF, zG, zH, zI, zJ, zK, zL, zM, zN, zO, zP, zQ, zR, zS, zT, zU, zV, zW, zX, zY, zZ, yA, yB, yC, yD, yE, yF, yG, yH, yI, yJ, yK, yL, yM, reduceCtorEq] <;> first | done | rfl | omega) | omega | rfl) | exact rfl | exact (fun _ => rfl) | exact (fun _ _ => rfl) | exact (fun h => absurd h Bool.false_ne_true)))
              · (rw [e49 h6]; show (_ : Int) = _; first | rfl | simp only [zA, zB, zC, zD, zE, zF, zG, zH, zI, zJ, zK, zL, zM, zN, zO, zP, zQ, zR, zS, zT, zU, zV, zW, zX, zY, zZ, yA, yB, yC, yD, yE, yF, yG, yH, yI, yJ, yK, yL, yM, reduceCtorEq])
              · (rw [e49 h6]; show (_ : Int) = _; first | rfl | simp only [zA, zB, zC, zD, zE, zF, zG, zH, zI, zJ, zK, zL, zM, zN, zO, zP, zQ, zR, zS, zT, zU, zV, zW, zX, zY, zZ, yA, yB, yC, yD, yE, yF, yG, yH, yI, yJ, yK, yL, yM, reduceCtorEq])
              · exact all_succ hall hx
            · skip
              refine Exists.intro (k + 1) (And.intro (And.intro rfl rfl) (And.intro (And.intro ?_ rfl) (And.intro (And.intro (by show k + 1 ≤ l.length; omega) ?_) (by show l.length - (k + 1) < l.length - k; omega))))
              any_goals (repeat' (first | with_reducible rfl | exact trivial | refine And.intro ?_ ?_ | (show (_ : Int) = _; first | with_reducible rfl | exact wr1 (by omega) | (simp only [zA, zB, zC, zD, zE, zF, zG, zH, zI, zJ, zK, zL, zM, zN, zO, zP, zQ, zR, zS, zT, zU, zV, zW, zX, zY, zZ, yA, yB, yC, yD, yE, yF, yG, yH, yI, yJ, yK, yL, yM, reduceCtorEq] <;> first | done | rfl | omega) | omega | rfl) | exact rfl | exact (fun _ => rfl) | exact (fun _ _ => rfl) | exact (fun h => absurd h Bool.false_ne_true)))
              · (rw [e48 h6 h5]; show (_ : Int) = _; first | rfl | simp only [zA, zB, zC, zD, zE, zF, zG, zH, zI, zJ, zK, zL, zM, zN, zO, zP, zQ, zR, zS, zT, zU, zV, zW, zX, zY, zZ, yA, yB, yC, yD, yE, yF, yG, yH, yI, yJ, yK, yL, yM, reduceCtorEq])
              · (rw [e48 h6 h5]; show (_ : Int) = _; first | rfl | simp only [zA, zB, zC, zD, zE, zF, zG, zH, zI, zJ, zK, zL, zM, zN, zO, zP, zQ, zR, zS, zT, zU, zV, zW, zX, zY, zZ, yA, yB, yC, yD, yE, yF, yG, yH, yI, yJ, yK, yL, yM, reduceCtorEq])
              · exact all_succ hall hx
          · have h5 : bAt l k = 45 := h5
            refine Exists.intro (bAt l k) (And.intro (And.intro (Int.natCast_nonneg _) hget) ?_)
            refine bcase_p (p := bAt l k = 49) (by first | (with_reducible refine bif_lt ?_; omega) | (with_reducible refine bif_le ?_; omega) | (with_reducible refine bif_eq ?_; omega) | (with_reducible refine bif_ne ?_; omega) | exact b8_eq rfl | exact b8_ne rfl | exact bif_lt (by omega) | exact bif_le (by omega) | exact bif_eq (by omega) | exact bif_ne (by omega) | exact Iff.rfl | (simp only [zA, zB, zC, zD, zE, zF, zG, zH, zI, zJ, zK, zL, zM, zN, zO, zP, zQ, zR, zS, zT, zU, zV, zW, zX, zY, zZ, yA, yB, yC, yD, yE, yF, yG, yH, yI, yJ, yK, yL, yM, reduceCtorEq] <;> first | done | omega | exact Iff.rfl) | (simp; done) | (simp; omega)) (fun h6 => ?_) (fun h6 => ?_)
            · rw [h5] at h6; cases h6
            · skip
              refine Exists.intro (k + 1) (And.intro (And.intro rfl rfl) (And.intro (And.intro ?_ rfl) (And.intro (And.intro (by show k + 1 ≤ l.length; omega) ?_) (by show l.length - (k + 1) < l.length - k; omega))))
              any_goals (repeat' (first | with_reducible rfl | exact trivial | refine And.intro ?_ ?_ | (show (_ : Int) = _; first | with_reducible rfl | exact wr1 (by omega) | (simp only [zA, zB, zC, zD, zE, zF, zG, zH, zI, zJ, zK, zL, zM, zN, zO, zP, zQ, zR, zS, zT, zU, zV, zW, zX, zY, zZ, yA, yB, yC, yD, yE, yF, yG, yH, yI, yJ, yK, yL, yM, reduceCtorEq] <;> first | done | rfl | omega) | omega | rfl) | exact rfl | exact (fun _ => rfl) | exact (fun _ _ => rfl) | exact (fun h => absurd h Bool.false_ne_true)))
              · (rw [e45 h5]; show (_ : Int) = _; first | rfl | simp only [zA, zB, zC, zD, zE, zF, zG, zH, zI, zJ, zK, zL, zM, zN, zO, zP, zQ, zR, zS, zT, zU, zV, zW, zX, zY, zZ, yA, yB, yC, yD, yE, yF, yG, yH, yI, yJ, yK, yL, yM, reduceCtorEq])
              · (rw [e45 h5]; show (_ : Int) = _; first | rfl | simp only [zA, zB, zC, zD, zE, zF, zG, zH, zI, zJ, zK, zL, zM, zN, zO, zP, zQ, zR, zS, zT, zU, zV, zW, zX, zY, zZ, yA, yB, yC, yD, yE, yF, yG, yH, yI, yJ, yK, yL, yM, reduceCtorEq])
              · exact all_succ hall hx
      · have hx : okB (bAt l k) = true := by rw [h3]; rfl
        refine Exists.intro (bAt l k) (And.intro (And.intro (Int.natCast_nonneg _) hget) ?_)
        refine bcase_n (p := bAt l k = 45) (by first | (with_reducible refine bif_lt ?_; omega) | (with_reducible refine bif_le ?_; omega) | (with_reducible refine bif_eq ?_; omega) | (with_reducible refine bif_ne ?_; omega) | exact b8_eq rfl | exact b8_ne rfl | exact bif_lt (by omega) | exact bif_le (by omega) | exact bif_eq (by omega) | exact bif_ne (by omega) | exact Iff.rfl | (simp only [zA, zB, zC, zD, zE, zF, zG, zH, zI, zJ, zK, zL, zM, zN, zO, zP, zQ, zR, zS, zT, zU, zV, zW, zX, zY, zZ, yA, yB, yC, yD, yE, yF, yG, yH, yI, yJ, yK, yL, yM, reduceCtorEq] <;> first | done | omega | exact Iff.rfl) | (simp; done) | (simp; omega)) (fun h5 => ?_) (fun h5 => ?_)
        · skip
          refine Exists.intro [0, 1, 2, 3, 4, 5, 6] (And.intro (by kernel_rfl) ?_)
          repeat (refine And.intro (by first | exact Int.natCast_nonneg _ | omega | exact And.intro (Int.natCast_nonneg _) (by omega)) ?_)
          refine Exists.intro (bAt l k) (And.intro (And.intro (Int.natCast_nonneg _) hget) ?_)
          refine bcase_p (p := bAt l k = 49) (by first | (with_reducible refine bif_lt ?_; omega) | (with_reducible refine bif_le ?_; omega) | (with_reducible refine bif_eq ?_; omega) | (with_reducible refine bif_ne ?_; omega) | exact b8_eq rfl | exact b8_ne rfl | exact bif_lt (by omega) | exact bif_le (by omega) | exact bif_eq (by omega) | exact bif_ne (by omega) | exact Iff.rfl | (simp only [zA, zB, zC, zD, zE, zF, zG, zH, zI, zJ, zK, zL, zM, zN, zO, zP, zQ, zR, zS, zT, zU, zV, zW, zX, zY, zZ, yA, yB, yC, yD, yE, yF, yG, yH, yI, yJ, yK, yL, yM, reduceCtorEq] <;> first | done | omega | exact Iff.rfl) | (simp; done) | (simp; omega)) (fun h6 => ?_) (fun h6 => ?_)
          · skip
            refine Exists.intro [0, 1, 2, 3, 4, 5, 6] (And.intro (by kernel_rfl) ?_)
            repeat (refine And.intro (by first | exact Int.natCast_nonneg _ | omega | exact And.intro (Int.natCast_nonneg _) (by omega)) ?_)
            refine Exists.intro (k + 1) (And.intro (And.intro rfl rfl) (And.intro (And.intro ?_ rfl) (And.intro (And.intro (by show k + 1 ≤ l.length; omega) ?_) (by show l.length - (k + 1) < l.length - k; omega))))
            any_goals (repeat' (first | with_reducible rfl | exact trivial | refine And.intro ?_ ?_ | (show (_ : Int) = _; first | with_reducible rfl | exact wr1 (by omega) | (simp only [zA, zB, zC, zD, zE, zF, zG, zH, zI, zJ, zK, zL, zM, zN, zO, zP, zQ, zR, zS, zT, zU, zV, zW, zX, zY, zZ, yA, yB, yC, yD, yE, yF, yG, yH, yI, yJ, yK, yL, yM, reduceCtorEq] <;> first | done | rfl | omega) | omega | rfl) | exact rfl | exact (fun _ => rfl) | exact (fun _ _ => rfl) | exact (fun h => absurd h Bool.false_ne_true)))
            · (rw [e49 h6]; show (_ : Int) = _; first | rfl | simp only [zA, zB, zC, zD, zE, zF, zG, zH, zI, zJ, zK, zL, zM, zN, zO, zP, zQ, zR, zS, zT, zU, zV, zW, zX, zY, zZ, yA, yB, yC, yD, yE, yF, yG, yH, yI, yJ, yK, yL, yM, reduceCtorEq])
            · (rw [e49 h6]; show (_ : Int) = _; first | rfl | simp only [zA, zB, zC, zD, zE, zF, zG, zH, zI, zJ, zK, zL, zM, zN, zO, zP, zQ, zR, zS, zT, zU, zV, zW, zX, zY, zZ, yA, yB, yC, yD, yE, yF, yG, yH, yI, yJ, yK, yL, yM, reduceCtorEq])
            · exact all_succ hall hx
          · skip
            refine Exists.intro (k + 1) (And.intro (And.intro rfl rfl) (And.intro (And.intro ?_ rfl) (And.intro (And.intro (by show k + 1 ≤ l.length; omega) ?_) (by show l.length - (k + 1) < l.length - k; omega))))
            any_goals (repeat' (first | with_reducible rfl | exact trivial | refine And.intro ?_ ?_ | (show (_ : Int) = _; first | with_reducible rfl | exact wr1 (by omega) | (simp only [zA, zB, zC, zD, zE, zF, zG, zH, zI, zJ, zK, zL, zM, zN, zO, zP, zQ, zR, zS, zT, zU, zV, zW, zX, zY, zZ, yA, yB, yC, yD, yE, yF, yG, yH, yI, yJ, yK, yL, yM, reduceCtorEq] <;> first | done | rfl | omega) | omega | rfl) | exact rfl | exact (fun _ => rfl) | exact (fun _ _ => rfl) | exact (fun h => absurd h Bool.false_ne_true)))
            · (rw [e48 h6 h5]; show (_ : Int) = _; first | rfl | simp only [zA, zB, zC, zD, zE, zF, zG, zH, zI, zJ, zK, zL, zM, zN, zO, zP, zQ, zR, zS, zT, zU, zV, zW, zX, zY, zZ, yA, yB, yC, yD, yE, yF, yG, yH, yI, yJ, yK, yL, yM, reduceCtorEq])
            · (rw [e48 h6 h5]; show (_ : Int) = _; first | rfl | simp only [zA, zB, zC, zD, zE, zF, zG, zH, zI, zJ, zK, zL, zM, zN, zO, zP, zQ, zR, zS, zT, zU, zV, zW, zX, zY, zZ, yA, yB, yC, yD, yE, yF, yG, yH, yI, yJ, yK, yL, yM, reduceCtorEq])
            · exact all_succ hall hx
        · have h5 : bAt l k = 45 := h5
          refine Exists.intro (bAt l k) (And.intro (And.intro (Int.natCast_nonneg _) hget) ?_)
          refine bcase_p (p := bAt l k = 49) (by first | (with_reducible refine bif_lt ?_; omega) | (with_reducible refine bif_le ?_; omega) | (with_reducible refine bif_eq ?_; omega) | (with_reducible refine bif_ne ?_; omega) | exact b8_eq rfl | exact b8_ne rfl | exact bif_lt (by omega) | exact bif_le (by omega) | exact bif_eq (by omega) | exact bif_ne (by omega) | exact Iff.rfl | (simp only [zA, zB, zC, zD, zE, zF, zG, zH, zI, zJ, zK, zL, zM, zN, zO, zP, zQ, zR, zS, zT, zU, zV, zW, zX, zY, zZ, yA, yB, yC, yD, yE, yF, yG, yH, yI, yJ, yK, yL, yM, reduceCtorEq] <;> first | done | omega | exact Iff.rfl) | (simp; done) | (simp; omega)) (fun h6 => ?_) (fun h6 => ?_)
          · rw [h5] at h6; cases h6
          · skip
            refine Exists.intro (k + 1) (And.intro (And.intro rfl rfl) (And.intro (And.intro ?_ rfl) (And.intro (And.intro (by show k + 1 ≤ l.length; omega) ?_) (by show l.length - (k + 1) < l.length - k; omega))))
            any_goals (repeat' (first | with_reducible rfl | exact trivial | refine And.intro ?_ ?_ | (show (_ : Int) = _; first | with_reducible rfl | exact wr1 (by omega) | (simp only [zA, zB, zC, zD, zE, zF, zG, zH, zI, zJ, zK, zL, zM, zN, zO, zP, zQ, zR, zS, zT, zU, zV, zW, zX, zY, zZ, yA, yB, yC, yD, yE, yF, yG, yH, yI, yJ, yK, yL, yM, reduceCtorEq] <;> first | done | rfl | omega) | omega | rfl) | exact rfl | exact (fun _ => rfl) | exact (fun _ _ => rfl) | exact (fun h => absurd h Bool.false_ne_true)))
            · (rw [e45 h5]; show (_ : Int) = _; first | rfl | simp only [zA, zB, zC, zD, zE, zF, zG, zH, zI, zJ, zK, zL, zM, zN, zO, zP, zQ, zR, zS, zT, zU, zV, zW, zX, zY, zZ, yA, yB, yC, yD, yE, yF, yG, yH, yI, yJ, yK, yL, yM, reduceCtorEq])
            · (rw [e45 h5]; show (_ : Int) = _; first | rfl | simp only [zA, zB, zC, zD, zE, zF, zG, zH, zI, zJ, zK, zL, zM, zN, zO, zP, zQ, zR, zS, zT, zU, zV, zW, zX, zY, zZ, yA, yB, yC, yD, yE, yF, yG, yH, yI, yJ, yK, yL, yM, reduceCtorEq])
            · exact all_succ hall hx
    · have hx : okB (bAt l k) = true := by rw [h2]; rfl
      refine Exists.intro (bAt l k) (And.intro (And.intro (Int.natCast_nonneg _) hget) ?_)
      refine bcase_n (p := bAt l k = 45) (by first | (with_reducible refine bif_lt ?_; omega) | (with_reducible refine bif_le ?_; omega) | (with_reducible refine bif_eq ?_; omega) | (with_reducible refine bif_ne ?_; omega) | exact b8_eq rfl | exact b8_ne rfl | exact bif_lt (by omega) | exact bif_le (by omega) | exact bif_eq (by omega) | exact bif_ne (by omega) | exact Iff.rfl | (simp only [zA, zB, zC, zD, zE, zF, zG, zH, zI, zJ, zK, zL, zM, zN, zO, zP, zQ, zR, zS, zT, zU, zV, zW, zX, zY, zZ, yA, yB, yC, yD, yE, yF, yG, yH, yI, yJ, yK, yL, yM, reduceCtorEq] <;> first | done | omega | exact Iff.rfl) | (simp; done) | (simp; omega)) (fun h5 => ?_) (fun h5 => ?_)
      · skip
        refine Exists.intro [0, 1, 2, 3, 4, 5, 6] (And.intro (by kernel_rfl) ?_)
        repeat (refine And.intro (by first | exact Int.natCast_nonneg _ | omega | exact And.intro (Int.natCast_nonneg _) (by omega)) ?_)
        refine Exists.intro (bAt l k) (And.intro (And.intro (Int.natCast_nonneg _) hget) ?_)
        refine bcase_p (p := bAt l k = 49) (by first | (with_reducible refine bif_lt ?_; omega) | (with_reducible refine bif_le ?_; omega) | (with_reducible refine bif_eq ?_; omega) | (with_reducible refine bif_ne ?_; omega) | exact b8_eq rfl | exact b8_ne rfl | exact bif_lt (by omega) | exact bif_le (by omega) | exact bif_eq (by omega) | exact bif_ne (by omega) | exact Iff.rfl | (simp only [zA, zB, zC, zD, zE, zF, zG, zH, zI, zJ, zK, zL, zM, zN, zO, zP, zQ, zR, zS, zT, zU, zV, zW, zX, zY, zZ, yA, yB, yC, yD, yE, yF, yG, yH, yI, yJ, yK, yL, yM, reduceCtorEq] <;> first | done | omega | exact Iff.rfl) | (simp; done) | (simp; omega)) (fun h6 => ?_) (fun h6 => ?_)
        · skip
          refine Exists.intro [0, 1, 2, 3, 4, 5, 6] (And.intro (by kernel_rfl) ?_)
          repeat (refine And.intro (by first | exact Int.natCast_nonneg _ | omega | exact And.intro (Int.natCast_nonneg _) (by omega)) ?_)
          refine Exists.intro (k + 1) (And.intro (And.intro rfl rfl) (And.intro (And.intro ?_ rfl) (And.intro (And.intro (by show k + 1 ≤ l.length; omega) ?_) (by show l.length - (k + 1) < l.length - k; omega))))
          any_goals (repeat' (first | with_reducible rfl | exact trivial | refine And.intro ?_ ?_ | (show (_ : Int) = _; first | with_reducible rfl | exact wr1 (by omega) | (simp only [zA, zB, zC, zD, zE, zF, zG, zH, zI, zJ, zK, zL, zM, zN, zO, zP, zQ, zR, zS, zT, zU, zV, zW, zX, zY, zZ, yA, yB, yC, yD, yE, yF, yG, yH, yI, yJ, yK, yL, yM, reduceCtorEq] <;> first | done | rfl | omega) | omega | rfl) | exact rfl | exact (fun _ => rfl) | exact (fun _ _ => rfl) | exact (fun h => absurd h Bool.false_ne_true)))
          · (rw [e49 h6]; show (_ : Int) = _; first | rfl | simp only [zA, zB, zC, zD, zE, zF, zG, zH, zI, zJ, zK, zL, zM, zN, zO, zP, zQ, zR, zS, zT, zU, zV, zW, zX, zY, zZ, yA, yB, yC, yD, yE, yF, yG, yH, yI, yJ, yK, yL, yM, reduceCtorEq])
          · (rw [e49 h6]; show (_ : Int) = _; first | rfl | simp only [zA, zB, zC, zD, zE, zF, zG, zH, zI, zJ, zK, zL, zM, zN, zO, zP, zQ, zR, zS, zT, zU, zV, zW, zX, zY, zZ, yA, yB, yC, yD, yE, yF, yG, yH, yI, yJ, yK, yL, yM, reduceCtorEq])
          · exact all_succ hall hx
        · skip
          refine Exists.intro (k + 1) (And.intro (And.intro rfl rfl) (And.intro (And.intro ?_ rfl) (And.intro (And.intro (by show k + 1 ≤ l.length; omega) ?_) (by show l.length - (k + 1) < l.length - k; omega))))
          any_goals (repeat' (first | with_reducible rfl | exact trivial | refine And.intro ?_ ?_ | (show (_ : Int) = _; first | with_reducible rfl | exact wr1 (by omega) | (simp only [zA, zB, zC, zD, zE, zF, zG, zH, zI, zJ, zK, zL, zM, zN, zO, zP, zQ, zR, zS, zT, zU, zV, zW, zX, zY, zZ, yA, yB, yC, yD, yE, yF, yG, yH, yI, yJ, yK, yL, yM, reduceCtorEq] <;> first | done | rfl | omega) | omega | rfl) | exact rfl | exact (fun _ => rfl) | exact (fun _ _ => rfl) | exact (fun h => absurd h Bool.false_ne_true)))
          · (rw [e48 h6 h5]; show (_ : Int) = _; first | rfl | simp only [zA, zB, zC, zD, zE, zF, zG, zH, zI, zJ, zK, zL, zM, zN, zO, zP, zQ, zR, zS, zT, zU, zV, zW, zX, zY, zZ, yA, yB, yC, yD, yE, yF, yG, yH, yI, yJ, yK, yL, yM, reduceCtorEq])
          · (rw [e48 h6 h5]; show (_ : Int) = _; first | rfl | simp only [zA, zB, zC, zD, zE, zF, zG, zH, zI, zJ, zK, zL, zM, zN, zO, zP, zQ, zR, zS, zT, zU, zV, zW, zX, zY, zZ, yA, yB, yC, yD, yE, yF, yG, yH, yI, yJ, yK, yL, yM, reduceCtorEq])
          · exact all_succ hall hx
      · have h5 : bAt l k = 45 := h5
        refine Exists.intro (bAt l k) (And.intro (And.intro (Int.natCast_nonneg _) hget) ?_)
        refine bcase_p (p := bAt l k = 49) (by first | (with_reducible refine bif_lt ?_; omega) | (with_reducible refine bif_le ?_; omega) | (with_reducible refine bif_eq ?_; omega) | (with_reducible refine bif_ne ?_; omega) | exact b8_eq rfl | exact b8_ne rfl | exact bif_lt (by omega) | exact bif_le (by omega) | exact bif_eq (by omega) | exact bif_ne (by omega) | exact Iff.rfl | (simp only [zA, zB, zC, zD, zE, zF, zG, zH, zI, zJ, zK, zL, zM, zN, zO, zP, zQ, zR, zS, zT, zU, zV, zW, zX, zY, zZ, yA, yB, yC, yD, yE, yF, yG, yH, yI, yJ, yK, yL, yM, reduceCtorEq] <;> first | done | omega | exact Iff.rfl) | (simp; done) | (simp; omega)) (fun h6 => ?_) (fun h6 => ?_)
        · rw [h5] at h6; cases h6
        · skip
          refine Exists.intro (k + 1) (And.intro (And.intro rfl rfl) (And.intro (And.intro ?_ rfl) (And.intro (And.intro (by show k + 1 ≤ l.length; omega) ?_) (by show l.length - (k + 1) < l.length - k; omega))))
          any_goals (repeat' (first | with_reducible rfl | exact trivial | refine And.intro ?_ ?_ | (show (_ : Int) = _; first | with_reducible rfl | exact wr1 (by omega) | (simp only [zA, zB, zC, zD, zE, zF, zG, zH, zI, zJ, zK, zL, zM, zN, zO, zP, zQ, zR, zS, zT, zU, zV, zW, zX, zY, zZ, yA, yB, yC, yD, yE, yF, yG, yH, yI, yJ, yK, yL, yM, reduceCtorEq] <;> first | done | rfl | omega) | omega | rfl) | exact rfl | exact (fun _ => rfl) | exact (fun _ _ => rfl) | exact (fun h => absurd h Bool.false_ne_true)))
          · (rw [e45 h5]; show (_ : Int) = _; first | rfl | simp only [zA, zB, zC, zD, zE, zF, zG, zH, zI, zJ, zK, zL, zM, zN, zO, zP, zQ, zR, zS, zT, zU, zV, zW, zX, zY, zZ, yA, yB, yC, yD, yE, yF, yG, yH, yI, yJ, yK, yL, yM, reduceCtorEq])
          · (rw [e45 h5]; show (_ : Int) = _; first | rfl | simp only [zA, zB, zC, zD, zE, zF, zG, zH, zI, zJ, zK, zL, zM, zN, zO, zP, zQ, zR, zS, zT, zU, zV, zW, zX, zY, zZ, yA, yB, yC, yD, yE, yF, yG, yH, yI, yJ, yK, yL, yM, reduceCtorEq])
          · exact all_succ hall hx
  · obtain rfl : k = l.length := by omega
    refine Exists.intro [0, 1, 2, 3, 4, 5] (And.intro (by kernel_rfl) ?_)
    refine And.intro (And.intro (fun _ => (by (repeat' (first | exact rfl | exact trivial | exact (fun _ => rfl) | exact (fun _ _ => rfl) | exact (fun h => absurd h Bool.false_ne_true) | refine And.intro ?_ ?_)))) ?_) trivial
    show ple _ (resP (parseC l))
    rw [parse_ok h6 hall]
    any_goals (repeat' (first | with_reducible rfl | exact trivial | refine And.intro ?_ ?_ | (show (_ : Int) = _; first | with_reducible rfl | exact wr1 (by omega) | (simp only [zA, zB, zC, zD, zE, zF, zG, zH, zI, zJ, zK, zL, zM, zN, zO, zP, zQ, zR, zS, zT, zU, zV, zW, zX, zY, zZ, yA, yB, yC, yD, yE, yF, yG, yH, yI, yJ, yK, yL, yM, reduceCtorEq] <;> first | done | rfl | omega) | omega | rfl) | exact rfl | exact (fun _ => rfl) | exact (fun _ _ => rfl) | exact (fun h => absurd h Bool.false_ne_true)))


theorem Parse_ok : FnOk Try.prog 20 ParseS := by
  refine fnOk (Tb := tab) mixed tab_ok Try.func20 rfl rfl ?_
  rintro l hpre
  refine And.intro (And.intro rfl (And.intro rfl rfl)) ?_
  have hl : l.length ≤ 1000000 := hpre
  have hsz := strOf_size l
  refine bcase_p (p := 6 < l.length) (by first | (with_reducible refine bif_lt ?_; omega) | (with_reducible refine bif_le ?_; omega) | (with_reducible refine bif_eq ?_; omega) | (with_reducible refine bif_ne ?_; omega) | exact b8_eq rfl | exact b8_ne rfl | exact bif_lt (by omega) | exact bif_le (by omega) | exact bif_eq (by omega) | exact bif_ne (by omega) | exact Iff.rfl | (simp only [zA, zB, zC, zD, zE, zF, zG, zH, zI, zJ, zK, zL, zM, zN, zO, zP, zQ, zR, zS, zT, zU, zV, zW, zX, zY, zZ, yA, yB, yC, yD, yE, yF, yG, yH, yI, yJ, yK, yL, yM, reduceCtorEq] <;> first | done | omega | exact Iff.rfl) | (simp; done) | (simp; omega)) (fun h6 => ?_) (fun h6 => ?_)
  · skip
    refine And.intro (And.intro (fun _ => (by (repeat' (first | exact rfl | exact trivial | exact (fun _ => rfl) | exact (fun _ _ => rfl) | exact (fun h => absurd h Bool.false_ne_true) | refine And.intro ?_ ?_)))) ?_) trivial
    show ple _ (resP (parseC l))
    rw [show parseC l = (0, ⟨0, 0⟩, 17) by simp [parseC, h6]]
    any_goals (repeat' (first | with_reducible rfl | exact trivial | refine And.intro ?_ ?_ | (show (_ : Int) = _; first | with_reducible rfl | exact wr1 (by omega) | (simp only [zA, zB, zC, zD, zE, zF, zG, zH, zI, zJ, zK, zL, zM, zN, zO, zP, zQ, zR, zS, zT, zU, zV, zW, zX, zY, zZ, yA, yB, yC, yD, yE, yF, yG, yH, yI, yJ, yK, yL, yM, reduceCtorEq] <;> first | done | rfl | omega) | omega | rfl) | exact rfl | exact (fun _ => rfl) | exact (fun _ _ => rfl) | exact (fun h => absurd h Bool.false_ne_true)))
  refine And.intro (by rw [hsz]; unfold maxLen; omega) ?_
  refine Exists.intro (LAnn.inv { X := Nat, up := fun k => [(15, .s (iA k))], uo := fun k => [⟨1, 24, [.s (uA (cubeTo l k).care), .s (uA (cubeTo l k).value)]⟩], inv := fun k => k ≤ l.length ∧ (∀ j, j < k → okB (bAt l j) = true), meas := fun k => l.length - k, x0 := 0 }) ?_
  refine And.intro (And.intro (And.intro (by (repeat' (first | exact rfl | exact trivial | exact (fun _ => rfl) | exact (fun _ _ => rfl) | exact (fun h => absurd h Bool.false_ne_true) | refine And.intro ?_ ?_))) (And.intro (by (repeat' (first | with_reducible rfl | exact trivial | refine And.intro ?_ ?_ | (show (_ : Int) = _; first | with_reducible rfl | exact wr1 (by omega) | (simp only [zA, zB, zC, zD, zE, zF, zG, zH, zI, zJ, zK, zL, zM, zN, zO, zP, zQ, zR, zS, zT, zU, zV, zW, zX, zY, zZ, yA, yB, yC, yD, yE, yF, yG, yH, yI, yJ, yK, yL, yM, reduceCtorEq] <;> first | done | rfl | omega) | omega | rfl) | exact rfl | exact (fun _ => rfl) | exact (fun _ _ => rfl) | exact (fun h => absurd h Bool.false_ne_true)))) (by (repeat' (first | with_reducible rfl | exact trivial | refine And.intro ?_ ?_ | (show (_ : Int) = _; first | with_reducible rfl | exact wr1 (by omega) | (simp only [zA, zB, zC, zD, zE, zF, zG, zH, zI, zJ, zK, zL, zM, zN, zO, zP, zQ, zR, zS, zT, zU, zV, zW, zX, zY, zZ, yA, yB, yC, yD, yE, yF, yG, yH, yI, yJ, yK, yL, yM, reduceCtorEq] <;> first | done | rfl | omega) | omega | rfl) | exact rfl | exact (fun _ => rfl) | exact (fun _ _ => rfl) | exact (fun h => absurd h Bool.false_ne_true)))))) rfl) (And.intro (And.intro (Nat.zero_le _) ?_) ?_)
  · exact fun j hj => absurd hj (Nat.not_lt_zero _)
  intro (k : Nat) ⟨hk, hall⟩
  refine bcase_p (p := k < l.length) (by first | (with_reducible refine bif_lt ?_; omega) | (with_reducible refine bif_le ?_; omega) | (with_reducible refine bif_eq ?_; omega) | (with_reducible refine bif_ne ?_; omega) | exact b8_eq rfl | exact b8_ne rfl | exact bif_lt (by omega) | exact bif_le (by omega) | exact bif_eq (by omega) | exact bif_ne (by omega) | exact Iff.rfl | (simp only [zA, zB, zC, zD, zE, zF, zG, zH, zI, zJ, zK, zL, zM, zN, zO, zP, zQ, zR, zS, zT, zU, zV, zW, zX, zY, zZ, yA, yB, yC, yD, yE, yF, yG, yH, yI, yJ, yK, yL, yM, reduceCtorEq] <;> first | done | omega | exact Iff.rfl) | (simp; done) | (simp; omega)) (fun h1 => ?_) (fun h1 => ?_)
  · have e49 : bAt l k = 49 → cubeTo l (k + 1) = ⟨(cubeTo l k).care ||| 1#64 <<< k, (cubeTo l k).value ||| 1#64 <<< k⟩ := fun h => by simp only [cubeTo, bitC, h]; rfl
    have e48 : ¬ bAt l k = 49 → ¬ bAt l k = 45 → cubeTo l (k + 1) = ⟨(cubeTo l k).care ||| 1#64 <<< k, (cubeTo l k).value⟩ := fun h h' => by simp only [cubeTo, bitC, h, h', if_false]
    have e45 : bAt l k = 45 → cubeTo l (k + 1) = cubeTo l k := fun h => by simp only [cubeTo, bitC, h]; rfl
    refine And.intro (And.intro (Int.natCast_nonneg _) (by show (k : Int) < ((strOf l).size : Int); omega)) ?_
    refine And.intro rfl ?_
    refine bcase_p (p := bAt l k = 49) (by first | (with_reducible refine bif_lt ?_; omega) | (with_reducible refine bif_le ?_; omega) | (with_reducible refine bif_eq ?_; omega) | (with_reducible refine bif_ne ?_; omega) | exact b8_eq rfl | exact b8_ne rfl | exact bif_lt (by omega) | exact bif_le (by omega) | exact bif_eq (by omega) | exact bif_ne (by omega) | exact Iff.rfl | (simp only [zA, zB, zC, zD, zE, zF, zG, zH, zI, zJ, zK, zL, zM, zN, zO, zP, zQ, zR, zS, zT, zU, zV, zW, zX, zY, zZ, yA, yB, yC, yD, yE, yF, yG, yH, yI, yJ, yK, yL, yM, reduceCtorEq] <;> first | done | omega | exact Iff.rfl) | (simp; done) | (simp; omega)) (fun h2 => ?_) (fun h2 => ?_)
    · skip
      refine Exists.intro [0, 1, 2, 3, 4, 5, 6] (And.intro (by kernel_rfl) ?_)
      repeat (refine And.intro (by first | exact Int.natCast_nonneg _ | omega | exact And.intro (Int.natCast_nonneg _) (by omega)) ?_)
      refine Exists.intro [0, 1, 2, 3, 4, 5, 6] (And.intro (by kernel_rfl) ?_)
      repeat (refine And.intro (by first | exact Int.natCast_nonneg _ | omega | exact And.intro (Int.natCast_nonneg _) (by omega)) ?_)
      refine Exists.intro (k + 1) (And.intro (And.intro rfl rfl) (And.intro (And.intro ?_ rfl) (And.intro (And.intro (by show k + 1 ≤ l.length; omega) ?_) (by show l.length - (k + 1) < l.length - k; omega))))
      any_goals (repeat' (first | with_reducible rfl | exact trivial | refine And.intro ?_ ?_ | (show (_ : Int) = _; first | with_reducible rfl | exact wr1 (by omega) | (simp only [zA, zB, zC, zD, zE, zF, zG, zH, zI, zJ, zK, zL, zM, zN, zO, zP, zQ, zR, zS, zT, zU, zV, zW, zX, zY, zZ, yA, yB, yC, yD, yE, yF, yG, yH, yI, yJ, yK, yL, yM, reduceCtorEq] <;> first | done | rfl | omega) | omega | rfl) | exact rfl | exact (fun _ => rfl) | exact (fun _ _ => rfl) | exact (fun h => absurd h Bool.false_ne_true)))
      · (rw [e49 h2]; show (_ : Int) = _; first | rfl | simp only [zA, zB, zC, zD, zE, zF, zG, zH, zI, zJ, zK, zL, zM, zN, zO, zP, zQ, zR, zS, zT, zU, zV, zW, zX, zY, zZ, yA, yB, yC, yD, yE, yF, yG, yH, yI, yJ, yK, yL, yM, reduceCtorEq])
      · (rw [e49 h2]; show (_ : Int) = _; first | rfl | simp only [zA, zB, zC, zD, zE, zF, zG, zH, zI, zJ, zK, zL, zM, zN, zO, zP, zQ, zR, zS, zT, zU, zV, zW, zX, zY, zZ, yA, yB, yC, yD, yE, yF, yG, yH, yI, yJ, yK, yL, yM, reduceCtorEq])
      · exact all_succ hall (by rw [h2]; rfl)
    refine bcase_p (p := bAt l k = 48) (by first | (with_reducible refine bif_lt ?_; omega) | (with_reducible refine bif_le ?_; omega) | (with_reducible refine bif_eq ?_; omega) | (with_reducible refine bif_ne ?_; omega) | exact b8_eq rfl | exact b8_ne rfl | exact bif_lt (by omega) | exact bif_le (by omega) | exact bif_eq (by omega) | exact bif_ne (by omega) | exact Iff.rfl | (simp only [zA, zB, zC, zD, zE, zF, zG, zH, zI, zJ, zK, zL, zM, zN, zO, zP, zQ, zR, zS, zT, zU, zV, zW, zX, zY, zZ, yA, yB, yC, yD, yE, yF, yG, yH, yI, yJ, yK, yL, yM, reduceCtorEq] <;> first | done | omega | exact Iff.rfl) | (simp; done) | (simp; omega)) (fun h3 => ?_) (fun h3 => ?_)
    · skip
      refine Exists.intro [0, 1, 2, 3, 4, 5, 6] (And.intro (by kernel_rfl) ?_)
      repeat (refine And.intro (by first | exact Int.natCast_nonneg _ | omega | exact And.intro (Int.natCast_nonneg _) (by omega)) ?_)
      refine Exists.intro (k + 1) (And.intro (And.intro rfl rfl) (And.intro (And.intro ?_ rfl) (And.intro (And.intro (by show k + 1 ≤ l.length; omega) ?_) (by show l.length - (k + 1) < l.length - k; omega))))
      any_goals (repeat' (first | with_reducible rfl | exact trivial | refine And.intro ?_ ?_ | (show (_ : Int) = _; first | with_reducible rfl | exact wr1 (by omega) | (simp only [zA, zB, zC, zD, zE, zF, zG, zH, zI, zJ, zK, zL, zM, zN, zO, zP, zQ, zR, zS, zT, zU, zV, zW, zX, zY, zZ, yA, yB, yC, yD, yE, yF, yG, yH, yI, yJ, yK, yL, yM, reduceCtorEq] <;> first | done | rfl | omega) | omega | rfl) | exact rfl | exact (fun _ => rfl) | exact (fun _ _ => rfl) | exact (fun h => absurd h Bool.false_ne_true)))
      · (rw [e48 h2 (by rw [h3]; decide)]; show (_ : Int) = _; first | rfl | simp only [zA, zB, zC, zD, zE, zF, zG, zH, zI, zJ, zK, zL, zM, zN, zO, zP, zQ, zR, zS, zT, zU, zV, zW, zX, zY, zZ, yA, yB, yC, yD, yE, yF, yG, yH, yI, yJ, yK, yL, yM, reduceCtorEq])
      · (rw [e48 h2 (by rw [h3]; decide)]; show (_ : Int) = _; first | rfl | simp only [zA, zB, zC, zD, zE, zF, zG, zH, zI, zJ, zK, zL, zM, zN, zO, zP, zQ, zR, zS, zT, zU, zV, zW, zX, zY, zZ, yA, yB, yC, yD, yE, yF, yG, yH, yI, yJ, yK, yL, yM, reduceCtorEq])
      · exact all_succ hall (by rw [h3]; rfl)
    refine bcase_p (p := bAt l k = 45) (by first | (with_reducible refine bif_lt ?_; omega) | (with_reducible refine bif_le ?_; omega) | (with_reducible refine bif_eq ?_; omega) | (with_reducible refine bif_ne ?_; omega) | exact b8_eq rfl | exact b8_ne rfl | exact bif_lt (by omega) | exact bif_le (by omega) | exact bif_eq (by omega) | exact bif_ne (by omega) | exact Iff.rfl | (simp only [zA, zB, zC, zD, zE, zF, zG, zH, zI, zJ, zK, zL, zM, zN, zO, zP, zQ, zR, zS, zT, zU, zV, zW, zX, zY, zZ, yA, yB, yC, yD, yE, yF, yG, yH, yI, yJ, yK, yL, yM, reduceCtorEq] <;> first | done | omega | exact Iff.rfl) | (simp; done) | (simp; omega)) (fun h4 => ?_) (fun h4 => ?_)
    · skip
      refine Exists.intro (k + 1) (And.intro (And.intro rfl rfl) (And.intro (And.intro ?_ rfl) (And.intro (And.intro (by show k + 1 ≤ l.length; omega) ?_) (by show l.length - (k + 1) < l.length - k; omega))))
      any_goals (repeat' (first | with_reducible rfl | exact trivial | refine And.intro ?_ ?_ | (show (_ : Int) = _; first | with_reducible rfl | exact wr1 (by omega) | (simp only [zA, zB, zC, zD, zE, zF, zG, zH, zI, zJ, zK, zL, zM, zN, zO, zP, zQ, zR, zS, zT, zU, zV, zW, zX, zY, zZ, yA, yB, yC, yD, yE, yF, yG, yH, yI, yJ, yK, yL, yM, reduceCtorEq] <;> first | done | rfl | omega) | omega | rfl) | exact rfl | exact (fun _ => rfl) | exact (fun _ _ => rfl) | exact (fun h => absurd h Bool.false_ne_true)))
      · (rw [e45 h4]; show (_ : Int) = _; first | rfl | simp only [zA, zB, zC, zD, zE, zF, zG, zH, zI, zJ, zK, zL, zM, zN, zO, zP, zQ, zR, zS, zT, zU, zV, zW, zX, zY, zZ, yA, yB, yC, yD, yE, yF, yG, yH, yI, yJ, yK, yL, yM, reduceCtorEq])
      · (rw [e45 h4]; show (_ : Int) = _; first | rfl | simp only [zA, zB, zC, zD, zE, zF, zG, zH, zI, zJ, zK, zL, zM, zN, zO, zP, zQ, zR, zS, zT, zU, zV, zW, zX, zY, zZ, yA, yB, yC, yD, yE, yF, yG, yH, yI, yJ, yK, yL, yM, reduceCtorEq])
      · exact all_succ hall (by rw [h4]; rfl)
    · skip
      refine And.intro (And.intro (fun _ => (by (repeat' (first | exact rfl | exact trivial | exact (fun _ => rfl) | exact (fun _ _ => rfl) | exact (fun h => absurd h Bool.false_ne_true) | refine And.intro ?_ ?_)))) ?_) trivial
      show ple _ (resP (parseC l))
      rw [parse_bad h6 h1 (by simp [okB, h2, h3, h4])]
      any_goals (repeat' (first | with_reducible rfl | exact trivial | refine And.intro ?_ ?_ | (show (_ : Int) = _; first | with_reducible rfl | exact wr1 (by omega) | (simp only [zA, zB, zC, zD, zE, zF, zG, zH, zI, zJ, zK, zL, zM, zN, zO, zP, zQ, zR, zS, zT, zU, zV, zW, zX, zY, zZ, yA, yB, yC, yD, yE, yF, yG, yH, yI, yJ, yK, yL, yM, reduceCtorEq] <;> first | done | rfl | omega) | omega | rfl) | exact rfl | exact (fun _ => rfl) | exact (fun _ _ => rfl) | exact (fun h => absurd h Bool.false_ne_true)))
  · obtain rfl : k = l.length := by omega
    refine Exists.intro [0, 1, 2, 3, 4, 5] (And.intro (by kernel_rfl) ?_)
    refine And.intro (And.intro (fun _ => (by (repeat' (first | exact rfl | exact trivial | exact (fun _ => rfl) | exact (fun _ _ => rfl) | exact (fun h => absurd h Bool.false_ne_true) | refine And.intro ?_ ?_)))) ?_) trivial
    show ple _ (resP (parseC l))
    rw [parse_ok h6 hall]
    any_goals (repeat' (first | with_reducible rfl | exact trivial | refine And.intro ?_ ?_ | (show (_ : Int) = _; first | with_reducible rfl | exact wr1 (by omega) | (simp only [zA, zB, zC, zD, zE, zF, zG, zH, zI, zJ, zK, zL, zM, zN, zO, zP, zQ, zR, zS, zT, zU, zV, zW, zX, zY, zZ, yA, yB, yC, yD, yE, yF, yG, yH, yI, yJ, yK, yL, yM, reduceCtorEq] <;> first | done | rfl | omega) | omega | rfl) | exact rfl | exact (fun _ => rfl) | exact (fun _ _ => rfl) | exact (fun h => absurd h Bool.false_ne_true)))

end Go.Sx.Pn
