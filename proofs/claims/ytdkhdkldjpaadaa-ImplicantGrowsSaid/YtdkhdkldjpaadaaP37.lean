/- Contracts of package truth: constants and disjunctions. -/
import Derived.Test.YtdkhdkldjpaadaaP35
set_option maxHeartbeats 1000000
set_option maxRecDepth 4000
set_option linter.unusedSimpArgs false
set_option linter.unusedVariables false
namespace Go.Sx.Pn
open Go Go.Proofs

def iV (k : Nat) : Value := .int .i64 k
def pointsIt : SeqSpec := { A := Nat, capt := fun n => [.pt [iP n] 0], pre := fun n => n ≤ 6, xs := fun n => (List.range (2 ^ n)).map fun k => [iV k] }
theorem pointsIt_ok : SeqOk Try.prog 161 pointsIt := by
  refine seqOk (Tb := tab) mixed tab_ok Try.func161 rfl rfl ?_
  rintro (n : Nat) hpre
  refine And.intro (And.intro rfl ?_) ?_
  · intro x hx v hv
    obtain ⟨c, _, rfl⟩ := List.mem_map.1 hx
    simp only [List.mem_singleton] at hv
    subst hv; rfl
  have hn : n ≤ 6 := hpre
  have h64 := pow_le64 hn
  intro l
  repeat (refine And.intro (by first | exact Int.natCast_nonneg _ | omega | exact And.intro (Int.natCast_nonneg _) (by omega)) ?_)
  refine Exists.intro (LAnn.inv { X := Nat, up := fun k => [(6, .s (iA k))], uo := fun _ => [], inv := fun k => k ≤ 2 ^ n, meas := fun k => 2 ^ n - k, x0 := 0, cnt := fun k => some k }) ?_
  refine And.intro (And.intro (And.intro (by (repeat' (first | exact rfl | exact trivial | exact (fun _ => rfl) | exact (fun _ _ => rfl) | exact (fun h => absurd h Bool.false_ne_true) | refine And.intro ?_ ?_))) (by (repeat' (first | exact rfl | exact trivial | exact (fun _ => rfl) | exact (fun _ _ => rfl) | exact (fun h => absurd h Bool.false_ne_true) | refine And.intro ?_ ?_)))) rfl) (And.intro ?_ ?_)
  · exact Nat.zero_le _
  intro (k : Nat) (hk : k ≤ 2 ^ n)
  refine bcase_p (p := k < 2 ^ n) (by show decide ((k : Int) < IntKind.i64.wrap (1 * 2 ^ min (n : Int).toNat IntKind.i64.bits)) = true ↔ _; rw [pow6 hn, decide_eq_true_iff]; omega) (fun h1 => ?_) (fun h1 => ?_)
  · refine And.intro rfl (Exists.intro [iV k] (And.intro ?_ (And.intro ?_ (And.intro ?_ ?_))))
    · show ((List.range (2 ^ n)).map fun k => [iV k])[k]? = _
      simp [h1]
    · skip
      (repeat' (first | exact rfl | exact trivial | exact (fun _ => rfl) | exact (fun _ _ => rfl) | exact (fun h => absurd h Bool.false_ne_true) | refine And.intro ?_ ?_))
    · skip
      refine Exists.intro (k + 1) (And.intro (And.intro rfl rfl) (And.intro (And.intro ?_ ?_) (And.intro ?_ ?_)))
      · skip
        (repeat' (first | exact rfl | exact trivial | exact (fun _ => rfl) | exact (fun _ _ => rfl) | exact (fun h => absurd h Bool.false_ne_true) | refine And.intro ?_ ?_))
        exact wr1 (by omega)
      · rfl
      · show k + 1 ≤ 2 ^ n; omega
      · show 2 ^ n - (k + 1) < 2 ^ n - k; omega
    · exact And.intro trivial trivial
  · obtain rfl : k = 2 ^ n := by omega
    refine And.intro trivial ?_
    show 2 ^ n = ((List.range (2 ^ n)).map fun k => [iV k]).length
    simp
def tpointsS : Spec := fnS (fun n : Nat => [iA n]) (fun _ => True) (fun n => .fn 161 [.pt [iP n] 0])
theorem tpoints_ok : FnOk Try.prog 145 tpointsS := by
  refine fnOk (Tb := tab) mixed tab_ok Try.func145 rfl rfl ?_
  rintro (n : Nat) hpre
  refine And.intro (And.intro rfl (And.intro rfl rfl)) ?_
  refine And.intro (And.intro (fun _ => (by (repeat' (first | exact rfl | exact trivial | exact (fun _ => rfl) | exact (fun _ _ => rfl) | exact (fun h => absurd h Bool.false_ne_true) | refine And.intro ?_ ?_)))) ?_) trivial
  (repeat' (first | exact rfl | exact trivial | exact (fun _ => rfl) | exact (fun _ _ => rfl) | exact (fun h => absurd h Bool.false_ne_true) | refine And.intro ?_ ?_))

def boxB (b : Bool) : Ob := .cells 4 [.p false (.val (.bool b))]
def const1S : Spec := { A := Int × Bool, args := fun x => [iA x.1, .own 0 0], objs := fun x => [boxB x.2], pre := fun _ => True, res := fun x => bP x.2, objs' := fun _ => [], fresh := true, ro := 1 }
theorem const1_ok : FnOk Try.prog 109 const1S := by
  refine fnOk (Tb := tab) mixed tab_ok Try.func109 rfl rfl ?_
  rintro ⟨k, b⟩ hpre
  refine And.intro (And.intro rfl (And.intro rfl rfl)) ?_
  refine And.intro (And.intro (fun _ => (by (repeat' (first | exact rfl | exact trivial | exact (fun _ => rfl) | exact (fun _ _ => rfl) | exact (fun h => absurd h Bool.false_ne_true) | refine And.intro ?_ ?_)))) ?_) trivial
  (repeat' (first | exact rfl | exact trivial | exact (fun _ => rfl) | exact (fun _ _ => rfl) | exact (fun h => absurd h Bool.false_ne_true) | refine And.intro ?_ ?_))
def constU (b : Bool) : Nat → U
  | 0 => 0#64
  | k + 1 => if b then constU b k ||| 1#64 <<< k else constU b k
def madeCS : Spec := { A := Nat × Bool, args := fun x => [iA x.1, .fn 109 [.own 0 0]], objs := fun x => [boxB x.2], pre := fun x => x.1 ≤ 6, res := fun x => tP ⟨x.1, constU x.2 (2 ^ x.1)⟩, objs' := fun _ => [], fresh := true, ro := 1 }
theorem madeC_ok : FnOk Try.prog 108 madeCS := by
  refine fnOk (Tb := tab) mixed tab_ok Try.func108 rfl rfl ?_
  rintro ⟨n, b⟩ hpre
  refine And.intro (And.intro rfl (And.intro rfl rfl)) ?_
  have hn : n ≤ 6 := hpre
  have h64 := pow_le64 hn
  refine Exists.intro _ (And.intro tpoints_ok (Exists.intro (n) (Exists.intro [] (And.intro (And.intro rfl (And.intro rfl (And.intro rfl (And.intro rfl (And.intro (fun _ => Or.inl rfl) (by first | exact (fun h => absurd h Bool.false_ne_true) | exact (fun _ => And.intro rfl rfl))))))) (And.intro (by (repeat' (first | with_reducible rfl | exact trivial | refine And.intro ?_ ?_ | (show (_ : Int) = _; first | with_reducible rfl | exact wr1 (by omega) | (simp only [zA, zB, zC, zD, zE, zF, zG, zH, zI, zJ, zK, zL, zM, zN, zO, zP, zQ, zR, zS, zT, zU, zV, zW, zX, zY, zZ, yA, yB, yC, yD, yE, yF, yG, yH, yI, yJ, yK, yL, yM, reduceCtorEq] <;> first | done | rfl | omega) | omega | rfl) | exact rfl | exact (fun _ => rfl) | exact (fun _ _ => rfl) | exact (fun h => absurd h Bool.false_ne_true)))) (And.intro trivial (And.intro (trivial) ?_)))))))
  refine And.intro (And.intro rfl rfl) (Exists.intro pointsIt (And.intro pointsIt_ok (Exists.intro n (And.intro ?_ (And.intro hn (And.intro ?_ (Exists.intro { X := Nat, uo := fun k => [⟨3, 38, [.s (iA n), .s (uA (constU b k))]⟩], inv := fun k y => y = k, x0 := 0 } (And.intro ?_ (And.intro ?_ (And.intro rfl (And.intro ?_ ?_)))))))))))
  · skip
    (repeat' (first | exact rfl | exact trivial | exact (fun _ => rfl) | exact (fun _ _ => rfl) | exact (fun h => absurd h Bool.false_ne_true) | refine And.intro ?_ ?_))
  · intro v hv
    obtain ⟨c, _, rfl⟩ := List.mem_map.1 hv
    rfl
  · skip
    (repeat' (first | exact rfl | exact trivial | exact (fun _ => rfl) | exact (fun _ _ => rfl) | exact (fun h => absurd h Bool.false_ne_true) | refine And.intro ?_ ?_))
  · skip
    (repeat' (first | exact rfl | exact trivial | exact (fun _ => rfl) | exact (fun _ _ => rfl) | exact (fun h => absurd h Bool.false_ne_true) | refine And.intro ?_ ?_))
  · intro (k : Nat) (y : Nat) vs (hy : y = k) hvs
    subst hy
    have hvs : ((List.range (2 ^ n)).map fun k => [iV k])[y]? = some vs := hvs
    rw [List.getElem?_map] at hvs
    cases hc : (List.range (2 ^ n))[y]? with
    | none => rw [hc] at hvs; cases hvs
    | some c =>
      rw [hc] at hvs
      simp only [Option.map_some, Option.some.injEq] at hvs
      have hy : y < 2 ^ n := by simpa using (List.getElem?_eq_some_iff.1 hc).1
      have hcy : y = c := by simpa [hy] using hc
      subst hcy
      subst hvs
      refine Exists.intro _ (And.intro const1_ok (Exists.intro (((y : Int), b)) (Exists.intro [0] (And.intro (And.intro rfl (And.intro rfl (And.intro rfl (And.intro rfl (And.intro (by first | exact (fun _ => Or.inl rfl) | exact (fun h => absurd h Bool.false_ne_true) | exact (fun _ => Or.inr (by (repeat' (first | exact rfl | exact trivial | exact (fun _ => rfl) | exact (fun _ _ => rfl) | exact (fun h => absurd h Bool.false_ne_true) | refine And.intro ?_ ?_))))) (by first | exact (fun h => absurd h Bool.false_ne_true) | exact (fun _ => And.intro rfl rfl))))))) (And.intro (by (repeat' (first | with_reducible rfl | exact trivial | refine And.intro ?_ ?_ | (show (_ : Int) = _; first | with_reducible rfl | exact wr1 (by omega) | (simp only [zA, zB, zC, zD, zE, zF, zG, zH, zI, zJ, zK, zL, zM, zN, zO, zP, zQ, zR, zS, zT, zU, zV, zW, zX, zY, zZ, yA, yB, yC, yD, yE, yF, yG, yH, yI, yJ, yK, yL, yM, reduceCtorEq] <;> first | done | rfl | omega) | omega | rfl) | exact rfl | exact (fun _ => rfl) | exact (fun _ _ => rfl) | exact (fun h => absurd h Bool.false_ne_true)))) (And.intro (by (repeat' (first | with_reducible rfl | exact trivial | refine And.intro ?_ ?_ | (show (_ : Int) = _; first | with_reducible rfl | exact wr1 (by omega) | (simp only [zA, zB, zC, zD, zE, zF, zG, zH, zI, zJ, zK, zL, zM, zN, zO, zP, zQ, zR, zS, zT, zU, zV, zW, zX, zY, zZ, yA, yB, yC, yD, yE, yF, yG, yH, yI, yJ, yK, yL, yM, reduceCtorEq] <;> first | done | rfl | omega) | omega | rfl) | exact rfl | exact (fun _ => rfl) | exact (fun _ _ => rfl) | exact (fun h => absurd h Bool.false_ne_true)))) (And.intro (trivial) ?_)))))))
      refine bcase_b (b := b) (by first | exact rfl | (simp only [zA, zB, zC, zD, zE, zF, zG, zH, zI, zJ, zK, zL, zM, zN, zO, zP, zQ, zR, zS, zT, zU, zV, zW, zX, zY, zZ, yA, yB, yC, yD, yE, yF, yG, yH, yI, yJ, yK, yL, yM, reduceCtorEq] <;> first | done | exact rfl)) (fun h1 => ?_) (fun h1 => ?_)
      · skip
        refine Exists.intro [0, 1, 2, 3, 4, 5, 6] (And.intro (by kernel_rfl) ?_)
        repeat (refine And.intro (by first | exact Int.natCast_nonneg _ | omega | exact And.intro (Int.natCast_nonneg _) (by omega)) ?_)
        refine Exists.intro (y + 1) (And.intro rfl (And.intro ?_ rfl))
        (repeat' (first | exact rfl | exact trivial | exact (fun _ => rfl) | exact (fun _ _ => rfl) | exact (fun h => absurd h Bool.false_ne_true) | refine And.intro ?_ ?_))
        (rw [show constU b (y + 1) = constU b y ||| 1#64 <<< y by rw [constU, if_pos h1]]; show (_ : Int) = _; first | rfl | simp only [zA, zB, zC, zD, zE, zF, zG, zH, zI, zJ, zK, zL, zM, zN, zO, zP, zQ, zR, zS, zT, zU, zV, zW, zX, zY, zZ, yA, yB, yC, yD, yE, yF, yG, yH, yI, yJ, yK, yL, yM, reduceCtorEq])
      · refine Exists.intro (y + 1) (And.intro rfl (And.intro ?_ rfl))
        (repeat' (first | exact rfl | exact trivial | exact (fun _ => rfl) | exact (fun _ _ => rfl) | exact (fun h => absurd h Bool.false_ne_true) | refine And.intro ?_ ?_))
        (rw [show constU b (y + 1) = constU b y by rw [constU, h1]; rfl]; show (_ : Int) = _; first | rfl | simp only [zA, zB, zC, zD, zE, zF, zG, zH, zI, zJ, zK, zL, zM, zN, zO, zP, zQ, zR, zS, zT, zU, zV, zW, zX, zY, zZ, yA, yB, yC, yD, yE, yF, yG, yH, yI, yJ, yK, yL, yM, reduceCtorEq])
  · intro y (hy : y = ((List.range (2 ^ n)).map fun k => [iV k]).length)
    have hy : y = 2 ^ n := by simpa using hy
    subst hy
    refine And.intro (And.intro (fun _ => (by (repeat' (first | exact rfl | exact trivial | exact (fun _ => rfl) | exact (fun _ _ => rfl) | exact (fun h => absurd h Bool.false_ne_true) | refine And.intro ?_ ?_)))) ?_) trivial
    (repeat' (first | exact rfl | exact trivial | exact (fun _ => rfl) | exact (fun _ _ => rfl) | exact (fun h => absurd h Bool.false_ne_true) | refine And.intro ?_ ?_))

theorem constU_false : ∀ m, constU false m = 0#64
  | 0 => rfl
  | m + 1 => by rw [constU]; exact constU_false m
def constC (n : Int) (b : Bool) : Tb × Int := if 0 ≤ n ∧ n ≤ 6 then (⟨n, constU b (2 ^ n.toNat)⟩, 0) else (⟨0, 0⟩, 2)
def ConstS : Spec := fnS (fun x : Int × Bool => [iA x.1, bA x.2]) (fun _ => True) (fun x => .tup [tP (constC x.1 x.2).1, iP (constC x.1 x.2).2])
theorem Const_ok : FnOk Try.prog 58 ConstS := by
  refine fnOk (Tb := tab) mixed tab_ok Try.func58 rfl rfl ?_
  rintro ⟨n, b⟩ hpre
  refine And.intro (And.intro rfl (And.intro rfl rfl)) ?_
  refine Exists.intro _ (And.intro sized_ok (Exists.intro (n) (Exists.intro [] (And.intro (And.intro rfl (And.intro rfl (And.intro rfl (And.intro rfl (And.intro (fun _ => Or.inl rfl) (by first | exact (fun h => absurd h Bool.false_ne_true) | exact (fun _ => And.intro rfl rfl))))))) (And.intro (by (repeat' (first | with_reducible rfl | exact trivial | refine And.intro ?_ ?_ | (show (_ : Int) = _; first | with_reducible rfl | exact wr1 (by omega) | (simp only [zA, zB, zC, zD, zE, zF, zG, zH, zI, zJ, zK, zL, zM, zN, zO, zP, zQ, zR, zS, zT, zU, zV, zW, zX, zY, zZ, yA, yB, yC, yD, yE, yF, yG, yH, yI, yJ, yK, yL, yM, reduceCtorEq] <;> first | done | rfl | omega) | omega | rfl) | exact rfl | exact (fun _ => rfl) | exact (fun _ _ => rfl) | exact (fun h => absurd h Bool.false_ne_true)))) (And.intro trivial (And.intro (trivial) ?_)))))))
  refine bcase_n (p := (0 ≤ n ∧ n ≤ 6)) (by show (!(decide (0 ≤ n) && decide (n ≤ 6))) = true ↔ _; simp; omega) (fun h1 => ?_) (fun h1 => ?_)
  · skip
    refine And.intro (And.intro (fun _ => (by (repeat' (first | exact rfl | exact trivial | exact (fun _ => rfl) | exact (fun _ _ => rfl) | exact (fun h => absurd h Bool.false_ne_true) | refine And.intro ?_ ?_)))) ?_) trivial
    show ple _ (.tup [tP (constC n b).1, iP (constC n b).2])
    rw [show constC n b = (⟨0, 0⟩, 2) by simp [constC, h1]]
    any_goals (repeat' (first | with_reducible rfl | exact trivial | refine And.intro ?_ ?_ | (show (_ : Int) = _; first | with_reducible rfl | exact wr1 (by omega) | (simp only [zA, zB, zC, zD, zE, zF, zG, zH, zI, zJ, zK, zL, zM, zN, zO, zP, zQ, zR, zS, zT, zU, zV, zW, zX, zY, zZ, yA, yB, yC, yD, yE, yF, yG, yH, yI, yJ, yK, yL, yM, reduceCtorEq] <;> first | done | rfl | omega) | omega | rfl) | exact rfl | exact (fun _ => rfl) | exact (fun _ _ => rfl) | exact (fun h => absurd h Bool.false_ne_true)))
  obtain ⟨k, rfl⟩ := Int.eq_ofNat_of_zero_le h1.1
  refine Exists.intro _ (And.intro madeC_ok (Exists.intro ((k, b)) (Exists.intro [0] (And.intro (And.intro rfl (And.intro rfl (And.intro rfl (And.intro rfl (And.intro (by first | exact (fun _ => Or.inl rfl) | exact (fun h => absurd h Bool.false_ne_true) | exact (fun _ => Or.inr (by (repeat' (first | exact rfl | exact trivial | exact (fun _ => rfl) | exact (fun _ _ => rfl) | exact (fun h => absurd h Bool.false_ne_true) | refine And.intro ?_ ?_))))) (by first | exact (fun h => absurd h Bool.false_ne_true) | exact (fun _ => And.intro rfl rfl))))))) (And.intro (by (repeat' (first | with_reducible rfl | exact trivial | refine And.intro ?_ ?_ | (show (_ : Int) = _; first | with_reducible rfl | exact wr1 (by omega) | (simp only [zA, zB, zC, zD, zE, zF, zG, zH, zI, zJ, zK, zL, zM, zN, zO, zP, zQ, zR, zS, zT, zU, zV, zW, zX, zY, zZ, yA, yB, yC, yD, yE, yF, yG, yH, yI, yJ, yK, yL, yM, reduceCtorEq] <;> first | done | rfl | omega) | omega | rfl) | exact rfl | exact (fun _ => rfl) | exact (fun _ _ => rfl) | exact (fun h => absurd h Bool.false_ne_true)))) (And.intro (by (repeat' (first | with_reducible rfl | exact trivial | refine And.intro ?_ ?_ | (show (_ : Int) = _; first | with_reducible rfl | exact wr1 (by omega) | (simp only [zA, zB, zC, zD, zE, zF, zG, zH, zI, zJ, zK, zL, zM, zN, zO, zP, zQ, zR, zS, zT, zU, zV, zW, zX, zY, zZ, yA, yB, yC, yD, yE, yF, yG, yH, yI, yJ, yK, yL, yM, reduceCtorEq] <;> first | done | rfl | omega) | omega | rfl) | exact rfl | exact (fun _ => rfl) | exact (fun _ _ => rfl) | exact (fun h => absurd h Bool.false_ne_true)))) (And.intro ((by show k ≤ 6; omega)) ?_)))))))
  refine And.intro (And.intro (fun _ => (by (repeat' (first | exact rfl | exact trivial | exact (fun _ => rfl) | exact (fun _ _ => rfl) | exact (fun h => absurd h Bool.false_ne_true) | refine And.intro ?_ ?_)))) ?_) trivial
  show ple _ (.tup [tP (constC k b).1, iP (constC k b).2])
  rw [show constC k b = (⟨k, constU b (2 ^ k)⟩, 0) by rw [constC, if_pos h1]; rfl]
  any_goals (repeat' (first | with_reducible rfl | exact trivial | refine And.intro ?_ ?_ | (show (_ : Int) = _; first | with_reducible rfl | exact wr1 (by omega) | (simp only [zA, zB, zC, zD, zE, zF, zG, zH, zI, zJ, zK, zL, zM, zN, zO, zP, zQ, zR, zS, zT, zU, zV, zW, zX, zY, zZ, yA, yB, yC, yD, yE, yF, yG, yH, yI, yJ, yK, yL, yM, reduceCtorEq] <;> first | done | rfl | omega) | omega | rfl) | exact rfl | exact (fun _ => rfl) | exact (fun _ _ => rfl) | exact (fun h => absurd h Bool.false_ne_true)))

/-- an operation on words, joined over two tables -/
def joinT (op : U → U → U) (a b : Tb) : Tb × Int :=
  if chkT a = 0 then (if chkT b = 0 then (if a.n = b.n then (⟨a.n, op a.bits b.bits⟩, 0) else (⟨0, 0⟩, 8)) else (⟨0, 0⟩, chkT b)) else (⟨0, 0⟩, chkT a)
def opS (op : U → U → U) : Spec := fnS (fun x : U × U => [uA x.1, uA x.2]) (fun _ => True) (fun x => uP (op x.1 x.2))
def resT (x : Tb × Int) : PV := .tup [tP x.1, iP x.2]
def joinedS' (g : Nat) (op : U → U → U) : Spec := fnS (fun x : Tb × Tb => [tA x.1, tA x.2, .fn g []]) (fun _ => True) (fun x => resT (joinT op x.1 x.2))
theorem tjoined_ok (g : Nat) (op : U → U → U) (hg : FnOk Try.prog g (opS op)) : FnOk Try.prog 110 (joinedS' g op) := by
  refine fnOk (Tb := tab) mixed tab_ok Try.func110 rfl rfl ?_
  rintro ⟨a, b⟩ hpre
  refine And.intro (And.intro rfl (And.intro rfl rfl)) ?_
  refine Exists.intro (LAnn.unroll 3) ?_
  refine And.intro (And.intro (by decide) (by decide)) ?_
  refine And.intro (by decide) ?_
  refine Exists.intro _ (And.intro tcheck_ok (Exists.intro (a) (Exists.intro [] (And.intro (And.intro rfl (And.intro rfl (And.intro rfl (And.intro rfl (And.intro (fun _ => Or.inl rfl) (by first | exact (fun h => absurd h Bool.false_ne_true) | exact (fun _ => And.intro rfl rfl))))))) (And.intro (by (repeat' (first | with_reducible rfl | exact trivial | refine And.intro ?_ ?_ | (show (_ : Int) = _; first | with_reducible rfl | exact wr1 (by omega) | (simp only [zA, zB, zC, zD, zE, zF, zG, zH, zI, zJ, zK, zL, zM, zN, zO, zP, zQ, zR, zS, zT, zU, zV, zW, zX, zY, zZ, yA, yB, yC, yD, yE, yF, yG, yH, yI, yJ, yK, yL, yM, reduceCtorEq] <;> first | done | rfl | omega) | omega | rfl) | exact rfl | exact (fun _ => rfl) | exact (fun _ _ => rfl) | exact (fun h => absurd h Bool.false_ne_true)))) (And.intro trivial (And.intro (trivial) ?_)))))))
  refine bcase_n (p := chkT a = 0) (by first | (with_reducible refine bif_lt ?_; omega) | (with_reducible refine bif_le ?_; omega) | (with_reducible refine bif_eq ?_; omega) | (with_reducible refine bif_ne ?_; omega) | exact b8_eq rfl | exact b8_ne rfl | exact bif_lt (by omega) | exact bif_le (by omega) | exact bif_eq (by omega) | exact bif_ne (by omega) | exact Iff.rfl | (simp only [zA, zB, zC, zD, zE, zF, zG, zH, zI, zJ, zK, zL, zM, zN, zO, zP, zQ, zR, zS, zT, zU, zV, zW, zX, zY, zZ, yA, yB, yC, yD, yE, yF, yG, yH, yI, yJ, yK, yL, yM, reduceCtorEq] <;> first | done | omega | exact Iff.rfl) | (simp; done) | (simp; omega)) (fun h1 => ?_) (fun h1 => ?_)
  · skip
    refine And.intro (And.intro (fun _ => (by (repeat' (first | exact rfl | exact trivial | exact (fun _ => rfl) | exact (fun _ _ => rfl) | exact (fun h => absurd h Bool.false_ne_true) | refine And.intro ?_ ?_)))) ?_) trivial
    show ple _ (resT (joinT op a b))
    rw [show joinT op a b = (⟨0, 0⟩, chkT a) by simp [joinT, h1]]
    any_goals (repeat' (first | with_reducible rfl | exact trivial | refine And.intro ?_ ?_ | (show (_ : Int) = _; first | with_reducible rfl | exact wr1 (by omega) | (simp only [zA, zB, zC, zD, zE, zF, zG, zH, zI, zJ, zK, zL, zM, zN, zO, zP, zQ, zR, zS, zT, zU, zV, zW, zX, zY, zZ, yA, yB, yC, yD, yE, yF, yG, yH, yI, yJ, yK, yL, yM, reduceCtorEq] <;> first | done | rfl | omega) | omega | rfl) | exact rfl | exact (fun _ => rfl) | exact (fun _ _ => rfl) | exact (fun h => absurd h Bool.false_ne_true)))
  refine And.intro (And.intro (by decide) (by decide)) ?_
  refine And.intro (by decide) ?_
  refine Exists.intro _ (And.intro tcheck_ok (Exists.intro (b) (Exists.intro [] (And.intro (And.intro rfl (And.intro rfl (And.intro rfl (And.intro rfl (And.intro (fun _ => Or.inl rfl) (by first | exact (fun h => absurd h Bool.false_ne_true) | exact (fun _ => And.intro rfl rfl))))))) (And.intro (by (repeat' (first | with_reducible rfl | exact trivial | refine And.intro ?_ ?_ | (show (_ : Int) = _; first | with_reducible rfl | exact wr1 (by omega) | (simp only [zA, zB, zC, zD, zE, zF, zG, zH, zI, zJ, zK, zL, zM, zN, zO, zP, zQ, zR, zS, zT, zU, zV, zW, zX, zY, zZ, yA, yB, yC, yD, yE, yF, yG, yH, yI, yJ, yK, yL, yM, reduceCtorEq] <;> first | done | rfl | omega) | omega | rfl) | exact rfl | exact (fun _ => rfl) | exact (fun _ _ => rfl) | exact (fun h => absurd h Bool.false_ne_true)))) (And.intro trivial (And.intro (trivial) ?_)))))))
  refine bcase_n (p := chkT b = 0) (by first | (with_reducible refine bif_lt ?_; omega) | (with_reducible refine bif_le ?_; omega) | (with_reducible refine bif_eq ?_; omega) | (with_reducible refine bif_ne ?_; omega) | exact b8_eq rfl | exact b8_ne rfl | exact bif_lt (by omega) | exact bif_le (by omega) | exact bif_eq (by omega) | exact bif_ne (by omega) | exact Iff.rfl | (simp only [zA, zB, zC, zD, zE, zF, zG, zH, zI, zJ, zK, zL, zM, zN, zO, zP, zQ, zR, zS, zT, zU, zV, zW, zX, zY, zZ, yA, yB, yC, yD, yE, yF, yG, yH, yI, yJ, yK, yL, yM, reduceCtorEq] <;> first | done | omega | exact Iff.rfl) | (simp; done) | (simp; omega)) (fun h2 => ?_) (fun h2 => ?_)
  · skip
    refine And.intro (And.intro (fun _ => (by (repeat' (first | exact rfl | exact trivial | exact (fun _ => rfl) | exact (fun _ _ => rfl) | exact (fun h => absurd h Bool.false_ne_true) | refine And.intro ?_ ?_)))) ?_) trivial
    show ple _ (resT (joinT op a b))
    rw [show joinT op a b = (⟨0, 0⟩, chkT b) by simp [joinT, h1, h2]]
    any_goals (repeat' (first | with_reducible rfl | exact trivial | refine And.intro ?_ ?_ | (show (_ : Int) = _; first | with_reducible rfl | exact wr1 (by omega) | (simp only [zA, zB, zC, zD, zE, zF, zG, zH, zI, zJ, zK, zL, zM, zN, zO, zP, zQ, zR, zS, zT, zU, zV, zW, zX, zY, zZ, yA, yB, yC, yD, yE, yF, yG, yH, yI, yJ, yK, yL, yM, reduceCtorEq] <;> first | done | rfl | omega) | omega | rfl) | exact rfl | exact (fun _ => rfl) | exact (fun _ _ => rfl) | exact (fun h => absurd h Bool.false_ne_true)))
  refine bcase_n (p := a.n = b.n) (by first | (with_reducible refine bif_lt ?_; omega) | (with_reducible refine bif_le ?_; omega) | (with_reducible refine bif_eq ?_; omega) | (with_reducible refine bif_ne ?_; omega) | exact b8_eq rfl | exact b8_ne rfl | exact bif_lt (by omega) | exact bif_le (by omega) | exact bif_eq (by omega) | exact bif_ne (by omega) | exact Iff.rfl | (simp only [zA, zB, zC, zD, zE, zF, zG, zH, zI, zJ, zK, zL, zM, zN, zO, zP, zQ, zR, zS, zT, zU, zV, zW, zX, zY, zZ, yA, yB, yC, yD, yE, yF, yG, yH, yI, yJ, yK, yL, yM, reduceCtorEq] <;> first | done | omega | exact Iff.rfl) | (simp; done) | (simp; omega)) (fun h3 => ?_) (fun h3 => ?_)
  · skip
    refine And.intro (And.intro (fun _ => (by (repeat' (first | exact rfl | exact trivial | exact (fun _ => rfl) | exact (fun _ _ => rfl) | exact (fun h => absurd h Bool.false_ne_true) | refine And.intro ?_ ?_)))) ?_) trivial
    show ple _ (resT (joinT op a b))
    rw [show joinT op a b = (⟨0, 0⟩, 8) by simp [joinT, h1, h2, h3]]
    any_goals (repeat' (first | with_reducible rfl | exact trivial | refine And.intro ?_ ?_ | (show (_ : Int) = _; first | with_reducible rfl | exact wr1 (by omega) | (simp only [zA, zB, zC, zD, zE, zF, zG, zH, zI, zJ, zK, zL, zM, zN, zO, zP, zQ, zR, zS, zT, zU, zV, zW, zX, zY, zZ, yA, yB, yC, yD, yE, yF, yG, yH, yI, yJ, yK, yL, yM, reduceCtorEq] <;> first | done | rfl | omega) | omega | rfl) | exact rfl | exact (fun _ => rfl) | exact (fun _ _ => rfl) | exact (fun h => absurd h Bool.false_ne_true)))
  refine Exists.intro [0, 1, 2, 3, 4, 5, 6, 7, 8, 9, 10] (And.intro (by kernel_rfl) ?_)
  refine Exists.intro _ (And.intro hg (Exists.intro ((a.bits, b.bits)) (Exists.intro [] (And.intro (And.intro rfl (And.intro rfl (And.intro rfl (And.intro rfl (And.intro (fun _ => Or.inl rfl) (by first | exact (fun h => absurd h Bool.false_ne_true) | exact (fun _ => And.intro rfl rfl))))))) (And.intro (by (repeat' (first | with_reducible rfl | exact trivial | refine And.intro ?_ ?_ | (show (_ : Int) = _; first | with_reducible rfl | exact wr1 (by omega) | (simp only [zA, zB, zC, zD, zE, zF, zG, zH, zI, zJ, zK, zL, zM, zN, zO, zP, zQ, zR, zS, zT, zU, zV, zW, zX, zY, zZ, yA, yB, yC, yD, yE, yF, yG, yH, yI, yJ, yK, yL, yM, reduceCtorEq] <;> first | done | rfl | omega) | omega | rfl) | exact rfl | exact (fun _ => rfl) | exact (fun _ _ => rfl) | exact (fun h => absurd h Bool.false_ne_true)))) (And.intro trivial (And.intro (trivial) ?_)))))))
  refine And.intro (And.intro (fun _ => (by (repeat' (first | exact rfl | exact trivial | exact (fun _ => rfl) | exact (fun _ _ => rfl) | exact (fun h => absurd h Bool.false_ne_true) | refine And.intro ?_ ?_)))) ?_) trivial
  show ple _ (resT (joinT op a b))
  rw [show joinT op a b = (⟨a.n, op a.bits b.bits⟩, 0) by simp [joinT, h1, h2, h3]]
  any_goals (repeat' (first | with_reducible rfl | exact trivial | refine And.intro ?_ ?_ | (show (_ : Int) = _; first | with_reducible rfl | exact wr1 (by omega) | (simp only [zA, zB, zC, zD, zE, zF, zG, zH, zI, zJ, zK, zL, zM, zN, zO, zP, zQ, zR, zS, zT, zU, zV, zW, zX, zY, zZ, yA, yB, yC, yD, yE, yF, yG, yH, yI, yJ, yK, yL, yM, reduceCtorEq] <;> first | done | rfl | omega) | omega | rfl) | exact rfl | exact (fun _ => rfl) | exact (fun _ _ => rfl) | exact (fun h => absurd h Bool.false_ne_true)))

theorem or1_ok : FnOk Try.prog 111 (opS (· ||| ·)) := by
  refine fnOk (Tb := tab) mixed tab_ok Try.func111 rfl rfl ?_
  rintro ⟨x, y⟩ hpre
  refine And.intro (And.intro rfl (And.intro rfl rfl)) ?_
  refine And.intro (And.intro (fun _ => (by (repeat' (first | exact rfl | exact trivial | exact (fun _ => rfl) | exact (fun _ _ => rfl) | exact (fun h => absurd h Bool.false_ne_true) | refine And.intro ?_ ?_)))) ?_) trivial
  any_goals (repeat' (first | with_reducible rfl | exact trivial | refine And.intro ?_ ?_ | (show (_ : Int) = _; first | with_reducible rfl | exact wr1 (by omega) | (simp only [zA, zB, zC, zD, zE, zF, zG, zH, zI, zJ, zK, zL, zM, zN, zO, zP, zQ, zR, zS, zT, zU, zV, zW, zX, zY, zZ, yA, yB, yC, yD, yE, yF, yG, yH, yI, yJ, yK, yL, yM, reduceCtorEq] <;> first | done | rfl | omega) | omega | rfl) | exact rfl | exact (fun _ => rfl) | exact (fun _ _ => rfl) | exact (fun h => absurd h Bool.false_ne_true)))
def OrS : Spec := fnS (fun x : Tb × Tb => [tA x.1, tA x.2]) (fun _ => True) (fun x => resT (joinT (· ||| ·) x.1 x.2))
theorem Or_ok : FnOk Try.prog 59 OrS := by
  refine fnOk (Tb := tab) mixed tab_ok Try.func59 rfl rfl ?_
  rintro ⟨a, b⟩ hpre
  refine And.intro (And.intro rfl (And.intro rfl rfl)) ?_
  refine Exists.intro _ (And.intro (tjoined_ok _ _ or1_ok) (Exists.intro ((a, b)) (Exists.intro [] (And.intro (And.intro rfl (And.intro rfl (And.intro rfl (And.intro rfl (And.intro (fun _ => Or.inl rfl) (by first | exact (fun h => absurd h Bool.false_ne_true) | exact (fun _ => And.intro rfl rfl))))))) (And.intro (by (repeat' (first | with_reducible rfl | exact trivial | refine And.intro ?_ ?_ | (show (_ : Int) = _; first | with_reducible rfl | exact wr1 (by omega) | (simp only [zA, zB, zC, zD, zE, zF, zG, zH, zI, zJ, zK, zL, zM, zN, zO, zP, zQ, zR, zS, zT, zU, zV, zW, zX, zY, zZ, yA, yB, yC, yD, yE, yF, yG, yH, yI, yJ, yK, yL, yM, reduceCtorEq] <;> first | done | rfl | omega) | omega | rfl) | exact rfl | exact (fun _ => rfl) | exact (fun _ _ => rfl) | exact (fun h => absurd h Bool.false_ne_true)))) (And.intro trivial (And.intro (trivial) ?_)))))))
  refine And.intro (And.intro (fun _ => (by (repeat' (first | exact rfl | exact trivial | exact (fun _ => rfl) | exact (fun _ _ => rfl) | exact (fun h => absurd h Bool.false_ne_true) | refine And.intro ?_ ?_)))) ?_) trivial
  any_goals (repeat' (first | with_reducible rfl | exact trivial | refine And.intro ?_ ?_ | (show (_ : Int) = _; first | with_reducible rfl | exact wr1 (by omega) | (simp only [zA, zB, zC, zD, zE, zF, zG, zH, zI, zJ, zK, zL, zM, zN, zO, zP, zQ, zR, zS, zT, zU, zV, zW, zX, zY, zZ, yA, yB, yC, yD, yE, yF, yG, yH, yI, yJ, yK, yL, yM, reduceCtorEq] <;> first | done | rfl | omega) | omega | rfl) | exact rfl | exact (fun _ => rfl) | exact (fun _ _ => rfl) | exact (fun h => absurd h Bool.false_ne_true)))

end Go.Sx.Pn
