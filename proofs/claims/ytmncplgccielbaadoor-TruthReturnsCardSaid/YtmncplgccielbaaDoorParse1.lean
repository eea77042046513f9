/- Contracts of math/bits at this program: OnesCount and TrailingZeros of small numbers. -/
import Derived.Test.YtmncplgccielbaaDoorText2
import Derived.Lib.BitFns
import Derived.Lib.TrailingZeros
import Derived.Laws.IdiomStrings
import Derived.Laws.Bits64b
set_option maxHeartbeats 1000000
set_option maxRecDepth 4000
set_option linter.unusedSimpArgs false
set_option linter.unusedVariables false
set_option linter.unusedSectionVars false
namespace Go.Proofs.YtmncplgccielbaaDoor
open Go.RowKit Go.Shelf

set_option maxRecDepth 100000 in
set_option maxHeartbeats 1000000 in
theorem ones64_any (m : Nat) (hm : m < 65) (w : World) :
    Calls Tryd.prog 38 #[.int .u64 m] w fun e w' => e = .returned (.int .i64 (Lib.onesCount m)) ∧ w' = w := by
  go_enter Tryd.func38, Tryd.ntmps38
  go_wp2
  go_ret
  refine ⟨ret_u ?_, rfl⟩
  revert m
  decide +kernel

theorem ones_any (m : Nat) (hm : m < 65) (w : World) :
    Calls Tryd.prog 24 #[.int .u64 m] w fun e w' => e = .returned (.int .i64 (Lib.onesCount m)) ∧ w' = w := by
  go_enter Tryd.func24, Tryd.ntmps24
  go_wp2_with (go_at_call 38; refine (ones64_any m hm _).mono ?_; rintro e w' ⟨rfl, hw'⟩; obtain rfl := hw'.symm)
  go_ret
  exact ⟨rfl, rfl⟩

/-- the table of math/bits lies in memory as its text lays it -/
def Tab (w : World) : Prop := ∀ j, j < 64 → w.cell? ⟨1, j, none⟩ = some (.int .u8 (Lib.deBruijn64tab.getD j 0 : Nat))
theorem Tab.lt {w : World} (h : Tab w) : 1 < w.heap.size := World.block_lt_of_cell? _ _ (h 0 (by omega))
theorem Tab.below {w w' : World} (h : Tab w) {B : Nat} (hb : Below B w w') (hB : 1 < B) : Tab w' := fun j hj => (hb.cell (p := ⟨1, j, none⟩) hB).trans (h j hj)
theorem Tab.ext {w w' : World} (h : Tab w) (hb : Below w.heap.size w w') : Tab w' := h.below hb h.lt

theorem tz64_core (x k idx : Nat) (w : World) (hx0 : ((x : Int) == 0) = false)
    (key : IntKind.u64.wrap (bits BinOp.and IntKind.u64 (x : Int) (IntKind.u64.wrap (-(x : Int))) * 285870213051353865) / 288230376151711744 = (idx : Int))
    (hi : idx < 64) (hk : k < 64) (hcell : w.cell? ⟨1, idx, none⟩ = some (.int .u8 k)) :
    Calls Tryd.prog 40 #[.int .u64 x] w fun e w' => e = .returned (.int .i64 k) ∧ w' = w := by
  go_enter Tryd.func40, Tryd.ntmps40
  go_wp2_with (simp only [key])
  go_ret
  exact ⟨rfl, rfl⟩

theorem tz_key : ∀ n : Fin 7, IntKind.u64.wrap (bits BinOp.and IntKind.u64 ((M.sz n.val : Nat) : Int) (IntKind.u64.wrap (-((M.sz n.val : Nat) : Int))) * 285870213051353865) / 288230376151711744 = ((M.sz n.val * 285870213051353865 / 288230376151711744 % 64 : Nat) : Int) ∧ Lib.deBruijn64tab.getD (M.sz n.val * 285870213051353865 / 288230376151711744 % 64) 0 = n.val ∧ (((M.sz n.val : Nat) : Int) == 0) = false := by decide +kernel

theorem tz64_any (n : Nat) (hn : n ≤ 6) (w : World) (hT : Tab w) :
    Calls Tryd.prog 40 #[.int .u64 (M.sz n : Nat)] w fun e w' => e = .returned (.int .i64 n) ∧ w' = w := by
  obtain ⟨h1, h2, h3⟩ := tz_key ⟨n, by omega⟩
  refine tz64_core (M.sz n) n _ w h3 h1 (Nat.mod_lt _ (by omega)) (by omega) ?_
  have := hT (M.sz n * 285870213051353865 / 288230376151711744 % 64) (Nat.mod_lt _ (by omega))
  rwa [h2] at this

theorem tz_any (n : Nat) (hn : n ≤ 6) (w : World) (hT : Tab w) :
    Calls Tryd.prog 25 #[.int .u64 (M.sz n : Nat)] w fun e w' => e = .returned (.int .i64 n) ∧ w' = w := by
  have hC := tz64_any n hn w hT
  generalize M.sz n = m at hC
  go_enter Tryd.func25, Tryd.ntmps25
  go_wp2_with (go_at_call 40; refine hC.mono ?_; rintro e w' ⟨rfl, hw'⟩; obtain rfl := hw'.symm)
  go_ret
  exact ⟨rfl, rfl⟩

theorem onesCount_expo : ∀ m : Fin 65, (Lib.onesCount m.val = 1 ↔ T.expo m.val ≠ none) := by decide +kernel

end Go.Proofs.YtmncplgccielbaaDoor
