/- What the rows of chapters 6 to 8 have in common: arguments as data, and the end of a call. -/
import Derived.Test.YtdkhdkldjpaadaaGreatSxF
import Derived.Test.YtdkhdkldjpaadaaGreatPE
import Derived.Test.YtdkhdkldjpaadaaGreatRows
import Derived.ProofKit
import Derived.OpenShut
set_option maxHeartbeats 1000000
set_option maxRecDepth 4000
set_option linter.unusedSimpArgs false
set_option linter.unusedVariables false
namespace Go.Sx.Pn
open Go Go.Proofs Go.ChangeShapes Go.WideShapes Go.ChangeAt Go.RowKit

/-- a call that keeps what was there and answers true -/
theorem post_true {H : Type} {enc : TypeId × Value → H} {P : Program} {f : Func} {s : ChangeSpec} {S : List TypeId} (hS : Closed P S) {tb : TypeId} (hb : P.underlying tb = some .bool) (hres : f.resultTypes = #[tb])
    {W W' : World} {args : Array Value} {ds : List (DataW H)} {before : List MemPlace} (hW : DataW.Whole enc P f.params.toList s.vars false W args.toList ds [] before) (hv : s.vars = [])
    (hA : DataW.TrodAll enc P W 0 (fun _ => true) true f.params.toList args.toList ds before) (hts : ∀ t ∈ f.params.toList, t ∈ S) (hfn : s.fn H (ds ++ []) = { results := [.lit (.bool true)], args := ds, vars := [] }) (hg : Below W.heap.size W W') :
    s.post enc P f false true false false W args (.bool true) W' := by
  have hlt := hW.lt
  have hold : ∀ p ∈ before, (fun b => decide (b < W.heap.size)) p.block = true := fun p hp => by simpa using hlt p hp
  have hargs : ∀ sp : Nat → Bool, (∀ p ∈ before, sp p.block = true) → DataW.TrodAll enc P W' 0 sp true f.params.toList args.toList ds before := fun sp hsp => trodAll_keep hS hg.block hts hA hsp
  have hrt : (Value.bool true).resultList f.resultTypes.size = [.bool true] := by rw [hres]; rfl
  have hr : ∀ (b : Nat) (sp : Nat → Bool) (hd : Bool), DataW.TrodAll enc P W' b sp hd f.resultTypes.toList ((Value.bool true).resultList f.resultTypes.size) [.lit (.bool true)] [] := fun b sp hd => by
    rw [hrt, hres]; exact trodAll_cons_mk (shut_bool hb true) trodAll_mk0
  refine ⟨ds, [], before, [], before, [], hW, by rw [hfn]; exact hr _ _ _, by rw [hfn]; exact hargs _ hold, by rw [hfn, hv]; rfl, World.keptBut_mono (fun p hp => ⟨hp, .inr (.inl hp)⟩) (hg.frame (· ∈ before)), fun h => by cases h⟩

theorem row_own : ownKnob Tryz.prog.godebug = none := by kernel_rfl

/-- the types of the arguments, and what they are made of -/
def argTypes : List TypeId := [3, 68, 22, 9, 70, 24, 35]
theorem argTypes_ok : Closed Tryz.prog argTypes := by
  intro t ht
  simp only [argTypes, List.mem_cons, List.mem_nil_iff, or_false] at ht
  rcases ht with rfl | rfl | rfl | rfl | rfl | rfl | rfl <;> kernel_rfl

theorem shape_cube {n : Nat} {l : List PV} (h : Shape Tryz.prog n 70 l) : ∃ c : Cu, l = c.cells := by
  obtain ⟨ls, n', rfl, h2⟩ := shape_struct (ts := [68, 68]) Tryz.underlying70 (by decide) h
  match ls, h2 with
  | [a, b], ⟨ha, hb, _⟩ =>
    obtain ⟨x, hx, rfl⟩ := shape_int Tryz.underlying68 ha
    obtain ⟨y, hy, rfl⟩ := shape_int Tryz.underlying68 hb
    obtain ⟨x, rfl⟩ := wf_U hx
    obtain ⟨y, rfl⟩ := wf_U hy
    exact ⟨⟨x, y⟩, rfl⟩
theorem shape_table {n : Nat} {l : List PV} (h : Shape Tryz.prog n 24 l) : ∃ t : Tb, l = [.val (.int .i64 t.n), .val (.int .u64 t.bits.toNat)] := by
  obtain ⟨ls, n', rfl, h2⟩ := shape_struct (ts := [3, 22]) Tryz.underlying24 (by decide) h
  match ls, h2 with
  | [a, b], ⟨ha, hb, _⟩ =>
    obtain ⟨x, hx, rfl⟩ := shape_int Tryz.underlying3 ha
    obtain ⟨y, hy, rfl⟩ := shape_int Tryz.underlying22 hb
    obtain ⟨y, rfl⟩ := wf_U hy
    exact ⟨⟨x, y⟩, rfl⟩
theorem shape_task {n : Nat} {l : List PV} (h : Shape Tryz.prog n 35 l) : ∃ x : Tk, l = [.val (.int .i64 x.on.n), .val (.int .u64 x.on.bits.toNat), .val (.int .i64 x.free.n), .val (.int .u64 x.free.bits.toNat)] := by
  obtain ⟨ls, n', rfl, h2⟩ := shape_struct (ts := [24, 24]) Tryz.underlying35 (by decide) h
  match ls, h2 with
  | [a, b], ⟨ha, hb, _⟩ =>
    obtain ⟨x, rfl⟩ := shape_table ha
    obtain ⟨y, rfl⟩ := shape_table hb
    exact ⟨⟨x, y⟩, rfl⟩

section
variable {w : World} {r : Reach} {b : Nat} {v : Value} {n : Nat} {l : List PV}
theorem arg_int (hv : Value.okWide Tryz.prog w r b 3 v) (hs : Shape Tryz.prog n 3 l) (hr : Rel (memOf w) v.cells.toList l) : ∃ m : Int, SRep (E0 w) v (iA m) := by
  obtain ⟨m, _, rfl⟩ := shape_int Tryz.underlying3 hs
  exact ⟨m, sr_one (ok_int Tryz.underlying3 hv) hr⟩
theorem arg_cube (hv : Value.okWide Tryz.prog w r b 70 v) (hs : Shape Tryz.prog n 70 l) (hr : Rel (memOf w) v.cells.toList l) : ∃ c : Cu, SRep (E0 w) v (cA c) := by
  obtain ⟨c, rfl⟩ := shape_cube hs
  obtain ⟨cs, hc⟩ := ok_struct Tryz.underlying70 hv
  exact ⟨c, sr_agg hc hr⟩
theorem arg_table (hv : Value.okWide Tryz.prog w r b 24 v) (hs : Shape Tryz.prog n 24 l) (hr : Rel (memOf w) v.cells.toList l) : ∃ t : Tb, SRep (E0 w) v (tA t) := by
  obtain ⟨c, rfl⟩ := shape_table hs
  obtain ⟨cs, hc⟩ := ok_struct Tryz.underlying24 hv
  exact ⟨c, sr_agg hc hr⟩
theorem arg_task (hv : Value.okWide Tryz.prog w r b 35 v) (hs : Shape Tryz.prog n 35 l) (hr : Rel (memOf w) v.cells.toList l) : ∃ x : Tk, SRep (E0 w) v (kA x) := by
  obtain ⟨c, rfl⟩ := shape_task hs
  obtain ⟨cs, hc⟩ := ok_struct Tryz.underlying35 hv
  exact ⟨c, sr_agg hc hr⟩
theorem arg_string (hv : Value.okWide Tryz.prog w r b 9 v) (hs : Shape Tryz.prog n 9 l) (hr : Rel (memOf w) v.cells.toList l) : ∃ s : List UInt8, SRep (E0 w) v (strA s) := by
  obtain ⟨s, _, rfl⟩ := shape_string Tryz.underlying9 hs
  refine ⟨s.data.toList, ?_⟩
  have := sr_one (ok_string Tryz.underlying9 hv) hr
  rwa [← strOf_toList s] at this
end

end Go.Sx.Pn
