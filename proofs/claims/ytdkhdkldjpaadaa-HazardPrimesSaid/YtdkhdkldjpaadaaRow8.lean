/- Arguments of the rows of chapter 8: lists of cubes, changes, arrays of bytes. -/
import Derived.Test.YtdkhdkldjpaadaaRow6
import Derived.Test.YtdkhdkldjpaadaaP51
set_option maxHeartbeats 1000000
set_option maxRecDepth 4000
set_option linter.unusedSimpArgs false
set_option linter.unusedVariables false
namespace Go.Sx.Pn
open Go Go.Proofs Go.ChangeShapes Go.WideShapes Go.ChangeAt Go.RowKit

def argTypes8 : List TypeId := [3, 22, 36, 5, 9, 24, 38, 40, 43, 98, 111, 115]
theorem argTypes8_ok : Closed Try.prog argTypes8 := by
  intro t ht
  simp only [argTypes8, List.mem_cons, List.mem_nil_iff, or_false] at ht
  rcases ht with rfl | rfl | rfl | rfl | rfl | rfl | rfl | rfl | rfl | rfl | rfl | rfl <;> kernel_rfl

theorem srep_ple {E : Env} {v : Value} {d d' : PV} (h : SRep E v (.p false d)) (e : ple d d') : SRep E v (.p false d') := by
  cases h with | p _ _ _ hp => exact .p _ _ _ (ple_rep e hp)
def u3A (x : UInt8 × UInt8 × UInt8) : SV := .p false (.agg [.val (.int .u8 x.1.toNat), .val (.int .u8 x.2.1.toNat), .val (.int .u8 x.2.2.toNat)])
def u2A (x : UInt8 × UInt8) : SV := .p false (.agg [.val (.int .u8 x.1.toNat), .val (.int .u8 x.2.toNat)])
theorem wf_u8 {m : Int} (h : (Lit.int .u8 m).wf = true) : ∃ x : UInt8, m = (x.toNat : Int) := by
  simp [Lit.wf, IntKind.min, IntKind.max, IntKind.signed, IntKind.bits] at h
  refine ⟨UInt8.ofNat m.toNat, ?_⟩
  rw [UInt8.toNat_ofNat']
  omega
section
variable {w : World} {r : Reach} {b : Nat} {v : Value} {n : Nat} {l : List PV}
theorem arg_cubes (hv : Value.okWide Try.prog w r b 43 v) (hs : Shape Try.prog n 43 l) (hr : Rel (memOf w) v.cells.toList l) : ∃ cs : List Cu, SRep (E0 w) v (csA cs) := by
  obtain ⟨m, f, n', hm, rfl, hf⟩ := shape_slice Try.underlying43 hs
  have h1 : ∀ j, ∃ c : Cu, j < m → f j = c.cells := fun j => by
    by_cases hj : j < m
    · obtain ⟨c, hc⟩ := shape_cube (hf j hj); exact ⟨c, fun _ => hc⟩
    · exact ⟨⟨0, 0⟩, fun h => absurd h hj⟩
  obtain ⟨g, hg⟩ := Classical.axiomOfChoice h1
  refine ⟨(List.range m).map g, srep_ple (sr_one (ok_slice Try.underlying43 hv) hr) ?_⟩
  show m = _ ∧ ∀ k, k < m → f k = _
  refine ⟨by simp, fun k hk => ?_⟩
  rw [hg k hk]
  simp [List.getD_eq_getElem?_getD, hk]
theorem arg_change (hv : Value.okWide Try.prog w r b 98 v) (hs : Shape Try.prog n 98 l) (hr : Rel (memOf w) v.cells.toList l) : ∃ x : Int × Int, SRep (E0 w) v (xA x.1 x.2) := by
  obtain ⟨ls, n', rfl, h2⟩ := shape_struct (ts := [3, 3]) Try.underlying98 (by decide) hs
  match ls, h2 with
  | [a, c], ⟨ha, hc, _⟩ =>
    obtain ⟨x, _, rfl⟩ := shape_int Try.underlying3 ha
    obtain ⟨y, _, rfl⟩ := shape_int Try.underlying3 hc
    obtain ⟨cs, hc⟩ := ok_struct Try.underlying98 hv
    exact ⟨(x, y), sr_agg hc hr⟩
theorem arg_u3 (hv : Value.okWide Try.prog w r b 111 v) (hs : Shape Try.prog n 111 l) (hr : Rel (memOf w) v.cells.toList l) : ∃ x : UInt8 × UInt8 × UInt8, SRep (E0 w) v (u3A x) := by
  obtain ⟨ls, n', rfl, h1, h2⟩ := shape_array Try.underlying111 hs
  match ls, h1, h2 with
  | [a, c, d], _, h2 =>
    obtain ⟨x, hx, rfl⟩ := shape_int Try.underlying5 (h2 0 _ rfl)
    obtain ⟨y, hy, rfl⟩ := shape_int Try.underlying5 (h2 1 _ rfl)
    obtain ⟨z, hz, rfl⟩ := shape_int Try.underlying5 (h2 2 _ rfl)
    obtain ⟨x, rfl⟩ := wf_u8 hx
    obtain ⟨y, rfl⟩ := wf_u8 hy
    obtain ⟨z, rfl⟩ := wf_u8 hz
    obtain ⟨cs, hc⟩ := ok_array Try.underlying111 hv
    exact ⟨(x, y, z), sr_agg hc hr⟩
theorem arg_u2 (hv : Value.okWide Try.prog w r b 115 v) (hs : Shape Try.prog n 115 l) (hr : Rel (memOf w) v.cells.toList l) : ∃ x : UInt8 × UInt8, SRep (E0 w) v (u2A x) := by
  obtain ⟨ls, n', rfl, h1, h2⟩ := shape_array Try.underlying115 hs
  match ls, h1, h2 with
  | [a, c], _, h2 =>
    obtain ⟨x, hx, rfl⟩ := shape_int Try.underlying5 (h2 0 _ rfl)
    obtain ⟨y, hy, rfl⟩ := shape_int Try.underlying5 (h2 1 _ rfl)
    obtain ⟨x, rfl⟩ := wf_u8 hx
    obtain ⟨y, rfl⟩ := wf_u8 hy
    obtain ⟨cs, hc⟩ := ok_array Try.underlying115 hv
    exact ⟨(x, y), sr_agg hc hr⟩
end

end Go.Sx.Pn
