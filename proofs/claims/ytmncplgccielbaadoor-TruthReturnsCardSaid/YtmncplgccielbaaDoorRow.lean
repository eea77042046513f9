/- What the rows of layer 4 have in common: the laid tables, the arguments, the witness. -/
import Derived.Test.YtmncplgccielbaaDoorAwake
import Derived.Test.YtmncplgccielbaaDoorCards
import Derived.Test.YtmncplgccielbaaDoorTie
import Derived.ProofKit
import Derived.OpenShut
import Derived.Deep.DeepHandedRow
import Derived.Lib.LaidTab
import Derived.Lib.SmallJoins
import Derived.Stop.LaidErr
import Derived.ChangeMaps5
set_option maxHeartbeats 1000000
set_option maxRecDepth 4000
set_option linter.unusedSimpArgs false
set_option linter.unusedVariables false
set_option linter.unusedSectionVars false
namespace Go.Proofs.YtmncplgccielbaaDoor
open Go.ChangeShapes Go.WideShapes Go.ChangeAt Go.RowKit Go.Lib Go.Joins Go.Deep
open Go.ChangeMaps (open_string shut_string)

/-- a call that keeps what was there and hands back a result that reads no memory -/
theorem post_of_below {H : Type} {enc : TypeId × Value → H} {P : Program} {f : Func} {s : ChangeSpec} {apart fresh handsOn again : Bool} {W W' : World} {args : Array Value} {v : Value} {ds gs : List (DataW H)} {before pa pv : List MemPlace}
    (hW : DataW.Whole enc P f.params.toList s.vars apart W args.toList ds gs before)
    (hres : ∀ (b : Nat) (sp : Nat → Bool) (hd : Bool), DataW.TrodAll enc P W' b sp hd f.resultTypes.toList (v.resultList f.resultTypes.size) (s.fn H (ds ++ gs)).results [])
    (hargs : ∀ sp : Nat → Bool, (∀ p ∈ before, sp p.block = true) → DataW.TrodAll enc P W' 0 sp true f.params.toList args.toList (s.fn H (ds ++ gs)).args pa)
    (hvars : ∀ sp : Nat → Bool, (∀ p ∈ before, sp p.block = true) → DataW.TrodVars enc P W' sp s.vars (s.fn H (ds ++ gs)).vars pv)
    (hps : before = pa ++ pv) (hg : Below W.heap.size W W')
    (hok : ∀ (j : Nat) (t : TypeId) (r : Value), f.resultTypes[j]? = some t → (v.resultList f.resultTypes.size)[j]? = some r → Value.okWide P W' .any 0 t r) :
    s.post enc P f apart fresh handsOn again W args v W' := by
  have hold : ∀ p ∈ before, (fun b => decide (b < W.heap.size)) p.block = true := fun p hp => by simpa using hW.lt p hp
  have hlt := hW.lt
  refine ⟨ds, gs, before, [], pa, pv, hW, hres _ _ _, hargs _ hold, hvars _ hold, World.keptBut_mono (fun p hp => ⟨hp, ?_⟩) (hg.frame (· ∈ before)), fun _ => ?_⟩
  · rw [hps, List.mem_append] at hp
    exact Or.inr hp
  · obtain ⟨_, _, _, _, _, hz, hn⟩ := hW
    refine ⟨hok, _, _, ([] ++ pa) ++ pv, ⟨[] ++ pa, pv, trodAll_append (hargs _ (fun _ _ => rfl)) (hres _ _ _), hvars _ (fun _ _ => rfl), rfl, ?_, ?_⟩, ?_⟩
    · intro b off hp
      have hb : MemPlace.cell b off ∈ before := by rw [hps]; simpa using hp
      rw [hg.frozen (p := ⟨b, off, none⟩) (hlt _ hb)]
      exact hz b off hb
    · intro ha
      have := hn ha
      rw [hps] at this
      simpa using this
    · intro p hp _
      rw [hps]
      simpa using hp

theorem row_own : ownKnob Tryd.prog.godebug = none := by kernel_rfl
theorem row_gTab : Tryd.prog.globalNamed "math/bits.deBruijn64tab" = some 1 := by kernel_rfl
theorem row_gType : (Tryd.prog.globals[1]?).map (·.type) = some 76 := by kernel_rfl
theorem row_cells64 : Tryd.prog.cellsOf 76 = 64 := by kernel_rfl
theorem row_cells8 : Tryd.prog.cellsOf 5 = 1 := by kernel_rfl

/-- what the list of a row gives -/
theorem row_tab {W : World} (h : laidMet Tryd.prog [("math/bits.deBruijn32tab", Rows.laid_math_bits_deBruijn32tab), ("math/bits.deBruijn64tab", Rows.laid_math_bits_deBruijn64tab)] W) : Tab W := by
  have h2 := laidMet.tail h
  have h3 : TabIs Tryd.prog W "math/bits.deBruijn64tab" .u8 (Lib.deBruijn64tab.map fun n : Nat => (n : Int)) :=
    tabIs_of_head (rest := []) row_gTab row_gType Tryd.underlying76 Tryd.underlying5 row_cells8 row_cells64 h2
  intro j hj
  have hl : Lib.deBruijn64tab.length = 64 := by decide
  have h4 := h3.cell row_gTab j (by rw [List.length_map, hl]; exact hj)
  rw [h4]
  simp [List.getD, hl, hj]

theorem cells_int : Tryd.prog.cellsOf 3 = 1 := by kernel_rfl
theorem cells_table : Tryd.prog.cellsOf 24 = 2 := by kernel_rfl

theorem wf_u64 {n : Int} (h : (Lit.int .u64 n).wf = true) : ∃ b : Nat, n = b ∧ b < 2 ^ 64 := by
  simp [Lit.wf, IntKind.min, IntKind.max, IntKind.signed, IntKind.bits] at h
  exact ⟨n.toNat, by omega, by omega⟩

section
variable {H : Type} {enc : TypeId × Value → H} {W : World} {base : Nat} {spare : Nat → Bool} {held : Bool}
set_option maxRecDepth 100000 in
theorem open_table {r : Reach} {b0 : Nat} {v : Value} {d : DataW H} {p : List MemPlace} (hv : Value.okWide Tryd.prog W r b0 24 v) (h : DataW.Trod enc Tryd.prog W base spare held 24 v d p) :
    ∃ (N : Int) (b : Nat), v = .agg #[.int .i64 N, .int .u64 b] ∧ d = .agg [.lit (.int .i64 N), .lit (.int .u64 b)] ∧ p = [] ∧ b < 2 ^ 64 ∧ (Lit.int .i64 N).wf = true ∧ (Lit.int .u64 b).wf = true := by
  obtain ⟨c0, c1, y0, y1, m, rfl, rfl, rfl, hy0, hy1⟩ := open_agg2 Tryd.underlying24 (by kernel_rfl) cells_table hv h
  obtain ⟨a, e0, rfl, wa⟩ := DataW.trod_int Tryd.underlying3 hy0
  obtain ⟨b, e1, rfl, wb⟩ := DataW.trod_int Tryd.underlying22 hy1
  simp at e0 e1
  subst e0 e1
  obtain ⟨b, rfl, hb⟩ := wf_u64 wb
  exact ⟨a, b, rfl, rfl, rfl, hb, wa, wb⟩
theorem shut_table {N : Int} {b : Nat} (wa : (Lit.int .i64 N).wf = true) (wb : (Lit.int .u64 b).wf = true) : DataW.Trod enc Tryd.prog W base spare held 24 (.agg #[.int .i64 N, .int .u64 b]) (.agg [.lit (.int .i64 N), .lit (.int .u64 b)]) [] :=
  shut_agg2 (y0 := (.lit (.int .i64 N), [])) (y1 := (.lit (.int .u64 b), [])) Tryd.underlying24 (by kernel_rfl) cells_table
    ⟨1, by simp [DataW.trod, Tryd.underlying3, wa]⟩ ⟨1, by simp [DataW.trod, Tryd.underlying22, wb]⟩
end

def layTab (l : List Nat) : Obj → Obj
  | .cells _ t frozen => .cells (l.map fun n : Nat => Value.int .u8 (n : Int)).toArray t frozen
  | o => o
/-- a world for the witness: the tables of math/bits hold what their text lays -/
noncomputable def laidWorld (os : Os) : World :=
  { World.holding Tryd.prog os ⟨#[], #[], []⟩ with heap := ((World.holding Tryd.prog os ⟨#[], #[], []⟩).heap.modify 0 (layTab Lib.deBruijn32tab)).modify 1 (layTab Lib.deBruijn64tab) }

end Go.Proofs.YtmncplgccielbaaDoor
