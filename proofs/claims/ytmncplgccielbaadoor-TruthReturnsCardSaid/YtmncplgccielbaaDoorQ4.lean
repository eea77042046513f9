/- Laws of chapter 4 by the executor: TruthRenames, TruthAlgebra. -/
import Derived.Test.YtmncplgccielbaaDoorQ2
import Derived.Test.YtmncplgccielbaaDoorQ3
import Derived.Test.YtmncplgccielbaaDoorAwake
set_option maxHeartbeats 1000000
set_option maxRecDepth 4000
set_option linter.unusedSimpArgs false
set_option linter.unusedVariables false
set_option linter.unusedSectionVars false
namespace Go.Sx.Pn
open Go Go.Proofs

/-- the table of math/bits, as data -/
def TabCs (cs : Array Value) : Prop := ∀ j, j < 64 → cs[j]? = some (.int .u8 (Go.Lib.deBruijn64tab.getD j 0 : Nat))
def glT (cs : Array Value) : List (Nat × Array Value) := [(1, cs)]
theorem cell_of {w : World} {b j : Nat} {cs : Array Value} {T : TypeId} {fr : Nat × Nat} (h : w.heap[b]? = some (.cells cs T fr)) : w.cell? ⟨b, j, none⟩ = cs[j]? := by
  simp [World.cell?, h]
theorem tab_mem {w : World} (h : Go.Proofs.YtmncplgccielbaaDoor.Tab w) : ∃ cs, memOf w 1 = some cs ∧ TabCs cs := by
  have h0 := h 0 (by decide)
  cases hb : w.heap[1]? with
  | none => simp [World.cell?, hb] at h0
  | some o =>
    cases o with
    | cells cs T fr =>
      refine ⟨cs, by simp [memOf, hb], fun j hj => ?_⟩
      rw [← cell_of hb]; exact h j hj
    | _ => simp [World.cell?, hb] at h0
def lawS {α : Type} (args : α → List SV) (cs : Array Value) : Spec := { A := α, args := args, objs := fun _ => [], pre := fun _ => True, res := fun _ => .val (.bool true), objs' := fun _ => [], fresh := true, ro := 0, gl := glT cs }
theorem awake4_ok {cs : Array Value} (hcs : TabCs cs) : FnOk Tryd.prog 5 (lawS (fun _ : Unit => []) cs) :=
  fnOk_gl (gl := glT cs) Tryd.func5 rfl rfl (vals := fun _ : Unit => []) (pre := fun _ => True) (ret := fun _ => .bool true) (fun _ _ => rfl) fun _ _ w h => by
    obtain ⟨T, fr, hw⟩ := h _ (List.mem_singleton.2 rfl)
    exact Go.Proofs.YtmncplgccielbaaDoor.awake_any w fun j hj => by rw [cell_of hw]; exact hcs j hj

end Go.Sx.Pn
