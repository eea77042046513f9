/- What the rows of chapters 6 to 8 have in common: arguments as data, and the end of a call. -/
import Derived.Test.YtmjfhoidokajpaaGreatSxF
import Derived.Test.YtmjfhoidokajpaaGreatPE
import Derived.Test.YtmjfhoidokajpaaGreatRows
import Derived.ProofKit
import Derived.OpenShut
set_option maxHeartbeats 1000000
set_option maxRecDepth 4000
set_option linter.unusedSimpArgs false
set_option linter.unusedVariables false
set_option linter.unusedSectionVars false
namespace Go.Sx.Pn
open Go Go.Proofs Go.ChangeShapes Go.WideShapes Go.ChangeAt Go.RowKit

/-- a call that keeps what was there and answers true -/
theorem post_true {H : Type} {enc : TypeId × Value → H} {P : Program} {f : Func} {s : ChangeSpec} {S : List TypeId} (hS : Closed P S) {tb : TypeId} (hb : P.underlying tb = some .bool) (hres : f.resultTypes = #[tb])
    {W W' : World} {args : Array Value} {ds : List (DataW H)} {before : List MemPlace} (hW : DataW.Whole enc P f.params.toList s.vars false W args.toList ds [] before) (hv : s.vars = [])
    (hA : DataW.TrodAll enc P W 0 (fun _ => true) true f.params.toList args.toList ds before) (hts : ∀ t ∈ f.params.toList, t ∈ S) (hfn : s.fn H (ds ++ []) = { results := [.lit (.bool true)], args := ds, vars := [] }) (hg : Below W.heap.size W W') :
    s.post enc P f false true false false W args (.bool true) W' := by
  have hlt := hW.lt
  have hold : ∀ p ∈ before, (fun b => decide (b < W.heap.size)) p.block = true := fun p hp => by simpa using hlt p hp
  have hargs : ∀ sp : Nat → Bool, (∀ p ∈ before, sp p.block = true) → DataW.TrodAll enc P W' 0 sp true f.params.toList args.toList ds before := fun sp hsp => trodAll_keep hS hg.block hts hA hsp
  have hrt : (Value.bool true).resultList f.resultTypes.size = [.bool true] := by rw [hres]; rfl
  have hr : ∀ (b : Nat) (sp : Nat → Bool) (hd : Bool), DataW.TrodAll enc P W' b sp hd f.resultTypes.toList ((Value.bool true).resultList f.resultTypes.size) [.lit (.bool true)] [] := fun b sp hd => by
    rw [hrt, hres]; exact trodAll_cons_mk (shut_bool hb true) trodAll_mk0
  refine ⟨ds, [], before, [], before, [], hW, by rw [hfn]; exact hr _ _ _, by rw [hfn]; exact hargs _ hold, by rw [hfn, hv]; rfl, World.keptBut_mono (fun p hp => ⟨hp, .inr (.inl hp)⟩) (hg.frame (· ∈ before)), fun h => by cases h⟩

theorem row_own : ownKnob Tryz.prog.godebug = none := by kernel_rfl

theorem shape_cube {n : Nat} {l : List PV} (h : Shape Tryz.prog n 67 l) : ∃ c : Cu, l = c.cells := by
  obtain ⟨ls, n', rfl, h2⟩ := shape_struct (ts := [65, 65]) Tryz.underlying67 (by decide) h
  match ls, h2 with
  | [a, b], ⟨ha, hb, _⟩ =>
    obtain ⟨x, hx, rfl⟩ := shape_int Tryz.underlying65 ha
    obtain ⟨y, hy, rfl⟩ := shape_int Tryz.underlying65 hb
    obtain ⟨x, rfl⟩ := wf_U hx
    obtain ⟨y, rfl⟩ := wf_U hy
    exact ⟨⟨x, y⟩, rfl⟩
theorem shape_table {n : Nat} {l : List PV} (h : Shape Tryz.prog n 25 l) : ∃ t : Tb, l = [.val (.int .i64 t.n), .val (.int .u64 t.bits.toNat)] := by
  obtain ⟨ls, n', rfl, h2⟩ := shape_struct (ts := [3, 23]) Tryz.underlying25 (by decide) h
  match ls, h2 with
  | [a, b], ⟨ha, hb, _⟩ =>
    obtain ⟨x, hx, rfl⟩ := shape_int Tryz.underlying3 ha
    obtain ⟨y, hy, rfl⟩ := shape_int Tryz.underlying23 hb
    obtain ⟨y, rfl⟩ := wf_U hy
    exact ⟨⟨x, y⟩, rfl⟩
theorem shape_task {n : Nat} {l : List PV} (h : Shape Tryz.prog n 27 l) : ∃ x : Tk, l = [.val (.int .i64 x.on.n), .val (.int .u64 x.on.bits.toNat), .val (.int .i64 x.free.n), .val (.int .u64 x.free.bits.toNat)] := by
  obtain ⟨ls, n', rfl, h2⟩ := shape_struct (ts := [25, 25]) Tryz.underlying27 (by decide) h
  match ls, h2 with
  | [a, b], ⟨ha, hb, _⟩ =>
    obtain ⟨x, rfl⟩ := shape_table ha
    obtain ⟨y, rfl⟩ := shape_table hb
    exact ⟨⟨x, y⟩, rfl⟩

section
variable {w : World} {r : Reach} {b : Nat} {v : Value} {n : Nat} {l : List PV}
theorem arg_task (hv : Value.okWide Tryz.prog w r b 27 v) (hs : Shape Tryz.prog n 27 l) (hr : Rel (memOf w) v.cells.toList l) : ∃ x : Tk, SRep (E0 w) v (kA x) := by
  obtain ⟨c, rfl⟩ := shape_task hs
  obtain ⟨cs, hc⟩ := ok_struct Tryz.underlying27 hv
  exact ⟨c, sr_agg hc hr⟩
end

end Go.Sx.Pn
