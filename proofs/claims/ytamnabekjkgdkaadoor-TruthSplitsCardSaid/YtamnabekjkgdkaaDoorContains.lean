/- slices.Contains at a list of numbers. -/
import Derived.Test.YtamnabekjkgdkaaDoorSlices
import Derived.Test.YtamnabekjkgdkaaDoorShelf
namespace Go.Proofs.YtamnabekjkgdkaaDoor
set_option linter.unusedSimpArgs false
set_option linter.unusedVariables false
open Go.RowKit Go.Shelf

theorem contains_any (l : List Nat) (v : Value) (k : Nat) (lim : Nat) (w : World) (h1 : Sl w lim v 1 l.length (nats l)) :
    Calls Tryd.prog 36 #[v, .int .i64 k] w fun e w' => e = .returned (.bool (decide (k ∈ l))) ∧ Below w.heap.size w w' := by
  obtain ⟨_, a1, c1, rfl, hc1, hm1, hz1⟩ := h1
  unfold maxLen at hm1
  by_cases h0 : l.length = 0
  · obtain rfl : l = [] := List.eq_nil_of_length_eq_zero h0
    refine (Tryd.slices_Contains_int_empty a1 c1 k w).mono ?_
    rintro e w' ⟨rfl, rfl⟩
    exact ⟨by simp, Below.refl _ _⟩
  · obtain ⟨b1, o1, rfl, _, hx1⟩ := hz1 (by omega)
    have hl : (nats l).length = l.length := by simp [nats]
    have hg : ∀ j, j < l.length → (nats l)[j]? = some (Value.int .i64 ((l.map fun n : Nat => (n : Int)).getD j 0)) := fun j hj => by simp [nats, hj]
    refine (Tryd.slices_Contains_int b1 o1 l.length c1 (l.map fun n : Nat => (n : Int)) k w (by simp) (by omega)
      (fun j hj => (hx1 j (by rw [hl]; simpa using hj)).trans (hg j (by simpa using hj)))).mono ?_
    rintro e w' ⟨rfl, rfl⟩
    refine ⟨?_, Below.refl _ _⟩
    have : ((List.take l.length (l.map fun n : Nat => (n : Int))).contains (k : Int)) = decide (k ∈ l) := by
      rw [List.take_of_length_le (by simp), Bool.eq_iff_iff, List.contains_iff_mem, decide_eq_true_iff, List.mem_map]
      constructor
      · rintro ⟨a, ha, e⟩; obtain rfl : a = k := by omega
        exact ha
      · exact fun h => ⟨k, h, rfl⟩
    rw [this]

end Go.Proofs.YtamnabekjkgdkaaDoor
