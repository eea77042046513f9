/- Contracts of the reference: a table made of points. -/
import Derived.Test.YtdkhdkldjpaadaaPB
import Derived.Lib.BitFns
set_option maxHeartbeats 1000000
set_option maxRecDepth 4000
set_option linter.unusedSimpArgs false
set_option linter.unusedVariables false
namespace Go.Sx.Pn
open Go Go.Proofs

end Go.Sx.Pn

namespace Go.Sx.Pn
open Go Go.Proofs

/-- how many bits are 1 -/
@[irreducible] def popU (x : U) : Nat := Lib.onesCount x.toNat
def ones64S : Spec := fnS (fun x : U => [uA x]) (fun x => x.toNat < 64) (fun x => iP (popU x))
set_option maxRecDepth 100000 in
theorem ones64_ok : FnOk Try.prog 136 ones64S := by
  refine fnOk (Tb := tab) mixed tab_ok Try.func136 rfl rfl ?_
  rintro (x : U) hpre
  refine ai (ai rfl (ai rfl rfl)) ?_
  have hx : x.toNat < 64 := hpre
  repeat (refine ai (by first | exact Int.natCast_nonneg _ | omega | exact ai (Int.natCast_nonneg _) (by omega)) ?_)
  refine ai (ai (fun _ => (by (repeat' (first | exact rfl | exact trivial | exact (fun _ => rfl) | exact (fun _ _ => rfl) | exact nof | refine ai ?_ ?_)))) ?_) trivial
  show (_ : Int) = (popU x : Int)
  unfold popU
  generalize x.toNat = m at hx
  revert m
  decide +kernel

theorem ones_ok : FnOk Try.prog 90 ones64S := by
  refine fnOk (Tb := tab) mixed tab_ok Try.func90 rfl rfl ?_
  rintro (x : U) hpre
  refine ai (ai rfl (ai rfl rfl)) ?_
  have hx : x.toNat < 64 := hpre
  refine ei _ (ai ones64_ok (ei (x) (ei [] (ai (ai rfl (ai rfl (ai rfl (ai rfl (ai (fun _ => Or.inl rfl) (ai (by first | exact nof | exact (fun _ => ai rfl rfl)) (by first | exact Or.inl rfl | exact Or.inr rfl))))))) (ai (by (repeat' (first | with_reducible rfl | exact trivial | refine ai ?_ ?_ | (show (_ : Int) = _; first | with_reducible rfl | exact wr1 (by omega) | (simp only [zz, reduceCtorEq] <;> first | done | rfl | omega) | omega | rfl) | exact rfl | exact (fun _ => rfl) | exact (fun _ _ => rfl) | exact nof))) (ai trivial (ai (hx) ?_)))))))
  refine ai (ai (fun _ => (by (repeat' (first | exact rfl | exact trivial | exact (fun _ => rfl) | exact (fun _ _ => rfl) | exact nof | refine ai ?_ ?_)))) ?_) trivial
  any_goals (repeat' (first | with_reducible rfl | exact trivial | refine ai ?_ ?_ | (show (_ : Int) = _; first | with_reducible rfl | exact wr1 (by omega) | (simp only [zz, reduceCtorEq] <;> first | done | rfl | omega) | omega | rfl) | exact rfl | exact (fun _ => rfl) | exact (fun _ _ => rfl) | exact nof))

end Go.Sx.Pn

namespace Go.Sx.Pn
open Go Go.Proofs

def strA (l : List UInt8) : SV := .p false (.val (.string (strOf l)))
end Go.Sx.Pn

namespace Go.Sx.Pn
open Go Go.Proofs

end Go.Sx.Pn

namespace Go.Sx.Pn
open Go Go.Proofs

/-- by points: a cube is an implicant -/
def gAt (x : Tk) (c : Cu) (k : Nat) : Bool := !hasC c k || atT x.on k || atT x.free k
def goodC (n : Nat) (x : Tk) (c : Cu) : Bool := (List.range (2 ^ n)).all (gAt x c)
theorem upto_succ {p : Nat → Prop} {k : Nat} (h : ∀ j, j < k → p j) (hk : p k) : ∀ j, j < k + 1 → p j := fun j hj => by
  by_cases e : j = k
  · subst e; exact hk
  · exact h j (by omega)

def tAt (x : Tk) (c : Cu) (k : Nat) : Bool := hasC c k && atT x.on k
def touchC (n : Nat) (x : Tk) (c : Cu) : Bool := (List.range (2 ^ n)).any (tAt x c)
theorem any_hit {p : Nat → Bool} {m k : Nat} (hk : k < m) (h : p k = true) : (List.range m).any p = true :=
  List.any_eq_true.2 ⟨k, List.mem_range.2 hk, h⟩
end Go.Sx.Pn
