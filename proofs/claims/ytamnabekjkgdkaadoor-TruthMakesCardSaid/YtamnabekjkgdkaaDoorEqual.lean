/- slices.Equal at two lists that hold the same numbers. -/
import Derived.Test.YtamnabekjkgdkaaDoorSlices
import Derived.Test.YtamnabekjkgdkaaDoorShelf
namespace Go.Proofs.YtamnabekjkgdkaaDoor
set_option linter.unusedSimpArgs false
set_option linter.unusedVariables false
open Go.RowKit Go.Shelf

theorem equal_same (l : List Nat) (v1 v2 : Value) (lim1 lim2 : Nat) (w : World) (h1 : Sl w lim1 v1 1 l.length (nats l)) (h2 : Sl w lim2 v2 1 l.length (nats l)) :
    Calls Tryd.prog 34 #[v1, v2] w fun e w' => e = .returned (.bool true) ∧ Below w.heap.size w w' := by
  obtain ⟨_, a1, c1, rfl, hc1, hm1, hz1⟩ := h1
  obtain ⟨_, a2, c2, rfl, hc2, hm2, hz2⟩ := h2
  unfold maxLen at hm1 hm2
  by_cases h0 : l.length = 0
  · rw [h0]
    refine (Tryd.slices_Equal_int_empty a1 a2 c1 0 c2 w (by omega)).mono ?_
    rintro e w' ⟨rfl, rfl⟩
    exact ⟨rfl, Below.refl _ _⟩
  · obtain ⟨b1, o1, rfl, _, hx1⟩ := hz1 (by omega)
    obtain ⟨b2, o2, rfl, _, hx2⟩ := hz2 (by omega)
    have hl : (nats l).length = l.length := by simp [nats]
    have hg : ∀ j, j < l.length → (nats l)[j]? = some (Value.int .i64 ((l.map fun n : Nat => (n : Int)).getD j 0)) := fun j hj => by simp [nats, hj]
    refine (Tryd.slices_Equal_int b1 o1 l.length c1 b2 o2 l.length c2 (l.map fun n : Nat => (n : Int)) (l.map fun n : Nat => (n : Int)) w (by simp) (by simp) (by omega) (by omega)
      (fun j hj => (hx1 j (by rw [hl]; simpa using hj)).trans (hg j (by simpa using hj))) (fun j hj => (hx2 j (by rw [hl]; simpa using hj)).trans (hg j (by simpa using hj)))).mono ?_
    rintro e w' ⟨rfl, q, rfl⟩
    exact ⟨by simp, below_drewN (Below.refl _ _) q⟩

end Go.Proofs.YtamnabekjkgdkaaDoor
