/- The law of chapter 4 on a Boolean algebra: its functions. -/
import Derived.Test.YtmncplgccielbaaDoorQ1
set_option maxHeartbeats 1000000
set_option maxRecDepth 4000
set_option linter.unusedSimpArgs false
set_option linter.unusedVariables false
set_option linter.unusedSectionVars false
namespace Go.Sx.Pn
open Go Go.Proofs

theorem and1_ok : FnOk Tryd.prog 29 (opS (· &&& ·)) := by
  refine fnOk (Tb := tab) mixed tab_ok Tryd.func29 rfl rfl ?_
  rintro ⟨x, y⟩ hpre
  refine ai (ai rfl (ai rfl rfl)) ?_
  refine ai (ai (fun _ => (by (repeat' (first | exact rfl | exact trivial | exact (fun _ => rfl) | exact (fun _ _ => rfl) | exact nof | refine ai ?_ ?_)))) ?_) trivial
  any_goals (repeat' (first | with_reducible rfl | exact trivial | refine ai ?_ ?_ | (show (_ : Int) = _; first | with_reducible rfl | exact wr1 (by omega) | (simp only [zz, reduceCtorEq] <;> first | done | rfl | omega) | omega | rfl) | exact rfl | exact (fun _ => rfl) | exact (fun _ _ => rfl) | exact nof))
theorem xor1_ok : FnOk Tryd.prog 30 (opS (· ^^^ ·)) := by
  refine fnOk (Tb := tab) mixed tab_ok Tryd.func30 rfl rfl ?_
  rintro ⟨x, y⟩ hpre
  refine ai (ai rfl (ai rfl rfl)) ?_
  refine ai (ai (fun _ => (by (repeat' (first | exact rfl | exact trivial | exact (fun _ => rfl) | exact (fun _ _ => rfl) | exact nof | refine ai ?_ ?_)))) ?_) trivial
  any_goals (repeat' (first | with_reducible rfl | exact trivial | refine ai ?_ ?_ | (show (_ : Int) = _; first | with_reducible rfl | exact wr1 (by omega) | (simp only [zz, reduceCtorEq] <;> first | done | rfl | omega) | omega | rfl) | exact rfl | exact (fun _ => rfl) | exact (fun _ _ => rfl) | exact nof))
def JoinS (op : U → U → U) : Spec := fnS (fun x : Tb × Tb => [tA x.1, tA x.2]) (fun _ => True) (fun x => resT (joinT op x.1 x.2))
theorem And_ok : FnOk Tryd.prog 12 (JoinS (· &&& ·)) := by
  refine fnOk (Tb := tab) mixed tab_ok Tryd.func12 rfl rfl ?_
  rintro ⟨a, b⟩ hpre
  refine ai (ai rfl (ai rfl rfl)) ?_
  refine ei _ (ai (tjoined_ok _ _ and1_ok) (ei ((a, b)) (ei [] (ai (ai rfl (ai rfl (ai rfl (ai rfl (ai (fun _ => Or.inl rfl) (ai (by first | exact nof | exact (fun _ => ai rfl rfl)) (by first | exact Or.inl rfl | exact Or.inr rfl))))))) (ai (by (repeat' (first | with_reducible rfl | exact trivial | refine ai ?_ ?_ | (show (_ : Int) = _; first | with_reducible rfl | exact wr1 (by omega) | (simp only [zz, reduceCtorEq] <;> first | done | rfl | omega) | omega | rfl) | exact rfl | exact (fun _ => rfl) | exact (fun _ _ => rfl) | exact nof))) (ai trivial (ai (trivial) ?_)))))))
  refine ai (ai (fun _ => (by (repeat' (first | exact rfl | exact trivial | exact (fun _ => rfl) | exact (fun _ _ => rfl) | exact nof | refine ai ?_ ?_)))) ?_) trivial
  any_goals (repeat' (first | with_reducible rfl | exact trivial | refine ai ?_ ?_ | (show (_ : Int) = _; first | with_reducible rfl | exact wr1 (by omega) | (simp only [zz, reduceCtorEq] <;> first | done | rfl | omega) | omega | rfl) | exact rfl | exact (fun _ => rfl) | exact (fun _ _ => rfl) | exact nof))
theorem Xor_ok : FnOk Tryd.prog 13 (JoinS (· ^^^ ·)) := by
  refine fnOk (Tb := tab) mixed tab_ok Tryd.func13 rfl rfl ?_
  rintro ⟨a, b⟩ hpre
  refine ai (ai rfl (ai rfl rfl)) ?_
  refine ei _ (ai (tjoined_ok _ _ xor1_ok) (ei ((a, b)) (ei [] (ai (ai rfl (ai rfl (ai rfl (ai rfl (ai (fun _ => Or.inl rfl) (ai (by first | exact nof | exact (fun _ => ai rfl rfl)) (by first | exact Or.inl rfl | exact Or.inr rfl))))))) (ai (by (repeat' (first | with_reducible rfl | exact trivial | refine ai ?_ ?_ | (show (_ : Int) = _; first | with_reducible rfl | exact wr1 (by omega) | (simp only [zz, reduceCtorEq] <;> first | done | rfl | omega) | omega | rfl) | exact rfl | exact (fun _ => rfl) | exact (fun _ _ => rfl) | exact nof))) (ai trivial (ai (trivial) ?_)))))))
  refine ai (ai (fun _ => (by (repeat' (first | exact rfl | exact trivial | exact (fun _ => rfl) | exact (fun _ _ => rfl) | exact nof | refine ai ?_ ?_)))) ?_) trivial
  any_goals (repeat' (first | with_reducible rfl | exact trivial | refine ai ?_ ?_ | (show (_ : Int) = _; first | with_reducible rfl | exact wr1 (by omega) | (simp only [zz, reduceCtorEq] <;> first | done | rfl | omega) | omega | rfl) | exact rfl | exact (fun _ => rfl) | exact (fun _ _ => rfl) | exact nof))
def notT (t : Tb) : Tb × Int := if chkT t = 0 then (⟨t.n, t.bits ^^^ wholeU t.n.toNat⟩, 0) else (⟨0, 0#64⟩, chkT t)
def NotS : Spec := fnS (fun t : Tb => [tA t]) (fun _ => True) (fun t => resT (notT t))
/-- a word of a table of n variables -/
def Rt (n : Nat) (u : U) : Prop := chkT ⟨n, u⟩ = 0
theorem rt_iff {n : Nat} (hn : n ≤ 6) (u : U) : Rt n u ↔ ∀ i, 2 ^ n ≤ i → i < 64 → u.getLsbD i = false := by
  have h3 : ¬ (6 : Int) < n := by omega
  have h0 : ¬ (n : Int) < 0 := by omega
  unfold Rt
  rw [← whole_iff hn]
  simp [chkT, h3, h0]
theorem Rt.and {n : Nat} (hn : n ≤ 6) {u v : U} (hu : Rt n u) (hv : Rt n v) : Rt n (u &&& v) := by
  rw [rt_iff hn] at *
  intro i h1 h2; rw [BitVec.getLsbD_and, hu i h1 h2]; rfl
theorem Rt.or {n : Nat} (hn : n ≤ 6) {u v : U} (hu : Rt n u) (hv : Rt n v) : Rt n (u ||| v) := by
  rw [rt_iff hn] at *
  intro i h1 h2; rw [BitVec.getLsbD_or, hu i h1 h2, hv i h1 h2]; rfl
theorem Rt.xor {n : Nat} (hn : n ≤ 6) {u v : U} (hu : Rt n u) (hv : Rt n v) : Rt n (u ^^^ v) := by
  rw [rt_iff hn] at *
  intro i h1 h2; rw [BitVec.getLsbD_xor, hu i h1 h2, hv i h1 h2]; rfl
theorem Rt.whole {n : Nat} (hn : n ≤ 6) : Rt n (wholeU n) := by
  rw [rt_iff hn]
  intro i h1 h2; rw [wholeU_bit hn h2]; simp; omega
theorem const_bit (b : Bool) : ∀ (m : Nat), m ≤ 64 → ∀ i, (constU b m).getLsbD i = (decide (i < m) && b)
  | 0, _, i => by simp [constU]
  | m + 1, h, i => by
    rw [constU]
    have ih := const_bit b m (by omega) i
    cases b with
    | false => rw [if_neg (by simp), ih]; simp
    | true =>
      rw [if_pos rfl, BitVec.getLsbD_or, ih, shl1_bit (by omega)]
      by_cases e : i = m
      · subst e; simp
      · by_cases h2 : i < m
        · simp [h2, show i < m + 1 by omega]
        · simp [h2, e, show ¬ i < m + 1 by omega]
theorem const_true {n : Nat} (hn : n ≤ 6) : constU true (2 ^ n) = wholeU n := by
  apply BitVec.eq_of_getLsbD_eq
  intro i hi
  rw [const_bit true _ (pow_le64 hn), wholeU_bit hn hi]; simp
theorem const_false (m : Nat) (h : m ≤ 64) : constU false m = 0#64 := by
  apply BitVec.eq_of_getLsbD_eq
  intro i hi
  rw [const_bit false _ h]; simp
theorem whole_ne {n : Nat} (hn : n ≤ 6) : wholeU n ≠ 0#64 := fun h => by
  have := congrArg (fun b : U => b.getLsbD 0) h
  simp only [wholeU_bit hn (show 0 < 64 by decide)] at this
  have := Nat.two_pow_pos n
  simp at *

theorem join_at {n : Nat} {g : Nat} {op : U → U → U} (hg : FnOk Tryd.prog g (JoinS op)) {u v : U} (hu : Rt n u) (hv : Rt n v) : FnOk Tryd.prog g (fnS (fun _ : Unit => (JoinS op).args (⟨n, u⟩, ⟨n, v⟩)) (fun _ => True) (fun _ => resT (⟨n, op u v⟩, 0))) :=
  fnS_at hg (⟨n, u⟩, ⟨n, v⟩) trivial (by
    have hu : chkT ⟨n, u⟩ = 0 := hu
    have hv : chkT ⟨n, v⟩ = 0 := hv
    show resT (joinT op _ _) = _
    simp [joinT, hu, hv])
def doS (g n : Nat) (op : U → U → U) : Spec := { A := U × U, args := fun x => [.fn g [], tA ⟨n, x.1⟩, tA ⟨n, x.2⟩, .own 0 0], objs := fun _ => [boxB false], pre := fun x => Rt n x.1 ∧ Rt n x.2, res := fun x => tP ⟨n, op x.1 x.2⟩, objs' := fun _ => [boxB false], fresh := true, ro := 0 }
def ntS (n : Nat) : Spec := { A := U, args := fun x => [tA ⟨n, x⟩, .own 0 0], objs := fun _ => [boxB false], pre := fun x => Rt n x, res := fun x => tP ⟨n, x ^^^ wholeU n⟩, objs' := fun _ => [boxB false], fresh := true, ro := 0 }
theorem eqTb {n : Int} {x y : U} (h : x = y) : ((n == n) && (((x.toNat : Int) == (y.toNat : Int)) && true)) = true := by subst h; simp
theorem neTb {n : Int} {x y : U} (h : x ≠ y) : ((n == n) && (((x.toNat : Int) == (y.toNat : Int)) && true)) = false := by
  have : ¬ (x.toNat : Int) = (y.toNat : Int) := fun e => h (BitVec.eq_of_toNat_eq (by omega))
  simp [this]
section
variable {n : Nat} (hn : n ≤ 6) {u v w : U} (hu : Rt n u) (hv : Rt n v)
theorem alg1 : u &&& (v ||| w) = (u &&& v) ||| (u &&& w) := by
  apply BitVec.eq_of_getLsbD_eq; intro i _
  simp only [BitVec.getLsbD_and, BitVec.getLsbD_or]
  cases u.getLsbD i <;> simp
theorem alg2 : u ||| (v &&& w) = (u ||| v) &&& (u ||| w) := by
  apply BitVec.eq_of_getLsbD_eq; intro i _
  simp only [BitVec.getLsbD_and, BitVec.getLsbD_or]
  cases u.getLsbD i <;> simp
include hn hu
theorem bit_w {i : Nat} (hi : i < 64) : u.getLsbD i = true → (wholeU n).getLsbD i = true := fun h => by
  rw [wholeU_bit hn hi, decide_eq_true_iff]
  exact Classical.byContradiction fun hge => by rw [(rt_iff hn u).1 hu i (by omega) hi] at h; cases h
theorem alg3 : u &&& (u ^^^ wholeU n) = 0#64 := by
  apply BitVec.eq_of_getLsbD_eq; intro i hi
  have := bit_w hn hu hi
  simp only [BitVec.getLsbD_and, BitVec.getLsbD_xor, BitVec.getLsbD_zero]
  revert this
  cases u.getLsbD i <;> cases (wholeU n).getLsbD i <;> simp
theorem alg4 : u ||| (u ^^^ wholeU n) = wholeU n := by
  apply BitVec.eq_of_getLsbD_eq; intro i hi
  have := bit_w hn hu hi
  simp only [BitVec.getLsbD_or, BitVec.getLsbD_xor]
  revert this
  cases u.getLsbD i <;> cases (wholeU n).getLsbD i <;> simp
omit hn hu in
theorem alg6 : u ^^^ wholeU n ^^^ wholeU n = u := by
  rw [BitVec.xor_assoc, BitVec.xor_self, BitVec.xor_zero]
include hv
theorem alg5 : (u &&& v) ^^^ wholeU n = (u ^^^ wholeU n) ||| (v ^^^ wholeU n) := by
  apply BitVec.eq_of_getLsbD_eq; intro i hi
  have h1 := bit_w hn hu hi
  have h2 := bit_w hn hv hi
  simp only [BitVec.getLsbD_and, BitVec.getLsbD_or, BitVec.getLsbD_xor]
  revert h1 h2
  cases u.getLsbD i <;> cases v.getLsbD i <;> cases (wholeU n).getLsbD i <;> simp
theorem alg7 : u ^^^ v = (u &&& (v ^^^ wholeU n)) ||| ((u ^^^ wholeU n) &&& v) := by
  apply BitVec.eq_of_getLsbD_eq; intro i hi
  have h1 := bit_w hn hu hi
  have h2 := bit_w hn hv hi
  simp only [BitVec.getLsbD_and, BitVec.getLsbD_or, BitVec.getLsbD_xor]
  revert h1 h2
  cases u.getLsbD i <;> cases v.getLsbD i <;> cases (wholeU n).getLsbD i <;> simp
omit hn hu hv in
theorem alg8 : u ||| (u &&& v) = u := by
  apply BitVec.eq_of_getLsbD_eq; intro i _
  simp only [BitVec.getLsbD_and, BitVec.getLsbD_or]
  cases u.getLsbD i <;> simp
end

end Go.Sx.Pn
