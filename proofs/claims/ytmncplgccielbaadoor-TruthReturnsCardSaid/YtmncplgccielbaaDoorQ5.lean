/- What the rows of chapter 4 by the executor have in common: arguments as data, and the end of a call. -/
import Derived.Test.YtmncplgccielbaaDoorQ4
import Derived.Test.YtmncplgccielbaaDoorRow
set_option maxHeartbeats 1000000
set_option maxRecDepth 4000
set_option linter.unusedSimpArgs false
set_option linter.unusedVariables false
set_option linter.unusedSectionVars false
namespace Go.Sx.Pn
open Go Go.Proofs Go.ChangeShapes Go.WideShapes Go.ChangeAt Go.RowKit

/-- a call that keeps what was there and answers true -/
theorem post_true {H : Type} {enc : TypeId × Value → H} {P : Program} {f : Func} {s : ChangeSpec} {S : List TypeId} (hS : Closed P S) {tb : TypeId} (hb : P.underlying tb = some .bool) (hres : f.resultTypes = #[tb])
    {W W' : World} {args : Array Value} {ds : List (DataW H)} {before : List MemPlace} (hW : DataW.Whole enc P f.params.toList s.vars false W args.toList ds [] before) (hv : s.vars = [])
    (hA : DataW.TrodAll enc P W 0 (fun _ => true) true f.params.toList args.toList ds before) (hts : ∀ t ∈ f.params.toList, t ∈ S) (hfn : s.fn H (ds ++ []) = { results := [.lit (.bool true)], args := ds, vars := [] }) (hg : Below W.heap.size W W') :
    s.post enc P f false true false false W args (.bool true) W' := by
  have hlt := hW.lt
  have hold : ∀ p ∈ before, (fun b => decide (b < W.heap.size)) p.block = true := fun p hp => by simpa using hlt p hp
  have hargs : ∀ sp : Nat → Bool, (∀ p ∈ before, sp p.block = true) → DataW.TrodAll enc P W' 0 sp true f.params.toList args.toList ds before := fun sp hsp => trodAll_keep hS hg.block hts hA hsp
  have hrt : (Value.bool true).resultList f.resultTypes.size = [.bool true] := by rw [hres]; rfl
  have hr : ∀ (b : Nat) (sp : Nat → Bool) (hd : Bool), DataW.TrodAll enc P W' b sp hd f.resultTypes.toList ((Value.bool true).resultList f.resultTypes.size) [.lit (.bool true)] [] := fun b sp hd => by
    rw [hrt, hres]; exact trodAll_cons_mk (shut_bool hb true) trodAll_mk0
  refine ⟨ds, [], before, [], before, [], hW, by rw [hfn]; exact hr _ _ _, by rw [hfn]; exact hargs _ hold, by rw [hfn, hv]; rfl, World.keptBut_mono (fun p hp => ⟨hp, .inr (.inl hp)⟩) (hg.frame (· ∈ before)), fun h => by cases h⟩
def argTypes : List TypeId := [3, 22, 24, 28]
theorem argTypes_ok : Closed Tryd.prog argTypes := by
  intro t ht
  simp only [argTypes, List.mem_cons, List.mem_nil_iff, or_false] at ht
  rcases ht with rfl | rfl | rfl | rfl <;> kernel_rfl
theorem shape_table {n : Nat} {l : List PV} (h : Shape Tryd.prog n 24 l) : ∃ t : Tb, l = [.val (.int .i64 t.n), .val (.int .u64 t.bits.toNat)] := by
  obtain ⟨ls, n', rfl, h2⟩ := shape_struct (ts := [3, 22]) Tryd.underlying24 (by decide) h
  match ls, h2 with
  | [a, b], ⟨ha, hb, _⟩ =>
    obtain ⟨x, hx, rfl⟩ := shape_int Tryd.underlying3 ha
    obtain ⟨y, hy, rfl⟩ := shape_int Tryd.underlying22 hb
    obtain ⟨y, rfl⟩ := wf_U hy
    exact ⟨⟨x, y⟩, rfl⟩
theorem srep_ple {E : Env} {v : Value} {d d' : PV} (h : SRep E v (.p false d)) (e : ple d d') : SRep E v (.p false d') := by
  cases h with | p _ _ _ hp => exact .p _ _ _ (ple_rep e hp)
section
variable {w : World} {r : Reach} {b : Nat} {v : Value} {n : Nat} {l : List PV}
theorem arg_table (hv : Value.okWide Tryd.prog w r b 24 v) (hs : Shape Tryd.prog n 24 l) (hr : Rel (memOf w) v.cells.toList l) : ∃ t : Tb, SRep (E0 w) v (tA t) := by
  obtain ⟨c, rfl⟩ := shape_table hs
  obtain ⟨cs, hc⟩ := ok_struct Tryd.underlying24 hv
  exact ⟨c, sr_agg hc hr⟩
theorem arg_ints (hv : Value.okWide Tryd.prog w r b 28 v) (hs : Shape Tryd.prog n 28 l) (hr : Rel (memOf w) v.cells.toList l) : ∃ cs : List Int, SRep (E0 w) v (isA cs) := by
  obtain ⟨m, f, n', hm, rfl, hf⟩ := shape_slice Tryd.underlying28 hs
  have h1 : ∀ j, ∃ c : Int, j < m → f j = [iP c] := fun j => by
    by_cases hj : j < m
    · obtain ⟨c, _, hc⟩ := shape_int Tryd.underlying3 (hf j hj); exact ⟨c, fun _ => hc⟩
    · exact ⟨0, fun h => absurd h hj⟩
  obtain ⟨g, hg⟩ := Classical.axiomOfChoice h1
  refine ⟨(List.range m).map g, srep_ple (sr_one (ok_slice Tryd.underlying28 hv) hr) ?_⟩
  show m = _ ∧ ∀ k, k < m → f k = _
  refine ⟨by simp, fun k hk => ?_⟩
  rw [hg k hk]
  simp [List.getD_eq_getElem?_getD, hk]
end

end Go.Sx.Pn
